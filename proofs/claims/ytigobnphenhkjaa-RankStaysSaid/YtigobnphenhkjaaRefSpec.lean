/- The reference's Start, Check, ranges and Feasible come to the same plain words as rank's. -/
import Derived.Test.YtigobnphenhkjaaSpec
import Derived.Test.YtigobnphenhkjaaFx11
namespace Go.Proofs.Ytigobnphenhkjaa.Fns
open Go.RowKit Go.Proofs.YtigobnphenhkjaaW.PrintWords Go.Proofs.YtigobnphenhkjaaW.PrintLast Go.Proofs.YtigobnphenhkjaaW.PrintMore
theorem rnode_eq (a : Int) : hopmeshref22_node.f a = some (decide (okNode a)) := by
  unfold hopmeshref22_node.f okNode
  by_cases h : a ≥ 0
  · rw [if_pos h]; congr 1; exact decide_eq_decide.2 ⟨fun h2 => ⟨h, by omega⟩, fun h2 => by omega⟩
  · rw [if_neg h]; congr 1; exact (decide_eq_false (fun h2 => h h2.1)).symm
theorem rStart_eq (n : Int) : hopmeshref22_Start.f n = some (tup (start n)) := by
  simp only [hopmeshref22_Start.f, rnode_eq, Option.bind_some]
  unfold start
  by_cases h0 : okNode n
  · rw [decide_eq_true h0, if_pos rfl, if_neg (not_not_intro h0)]
    by_cases h1 : n = 0
    · rw [if_pos h1, if_pos h1]; rfl
    · rw [if_neg h1, if_neg h1]; rfl
  · rw [decide_eq_false h0, if_neg (by decide), if_pos h0]; rfl
theorem rCheck_right (k : Nat) (s : S23) : hopmeshref22_Check.j1 (k + 1) false s.f0 s.f1 s.f2 s.f3 s.f4 s.f5 = some (if Right s then 0 else 1) := by
  obtain ⟨a, b, c, d, e, f⟩ := s
  simp only [hopmeshref22_Check.j1, rnode_eq, Option.bind_some, Right, Bool.false_eq_true, ↓reduceIte, decide_eq_true_eq]
  by_cases h0 : a = 0
  · subst h0
    simp only [↓reduceIte, ne_eq, not_true_eq_false, false_and, or_false, true_and]
    repeat' split
    all_goals first | rfl | (exfalso; omega)
  · by_cases h1 : c = -1
    · subst h1
      simp only [h0, ↓reduceIte, ne_eq, not_true_eq_false, not_false_eq_true, false_and, and_false, false_or, or_false, true_and]
      repeat' split
      all_goals first | rfl | (exfalso; omega)
    · simp only [h0, h1, ↓reduceIte, ne_eq, not_false_eq_true, false_and, false_or, true_and]
      repeat' split
      all_goals first | rfl | (exfalso; simp only [okNode] at *; omega)
theorem rCheck_bad (k : Nat) (a b c d e f : Int) : hopmeshref22_Check.j1 (k + 1) true a b c d e f = some 2 := by
  simp only [hopmeshref22_Check.j1, ↓reduceIte]
theorem rCheck_mid (k : Nat) (s : S23) : hopmeshref22_Check.j0 (k + 2) (if s.f0 = 0 then 0 else 1) s.f0 s.f1 s.f2 s.f3 s.f4 s.f5 = some (chk s) := by
  simp only [hopmeshref22_Check.j0, rnode_eq, Option.bind_some, decide_eq_true_eq, rCheck_bad]
  unfold chk
  by_cases h : InRange s
  · rw [if_pos h]
    obtain ⟨h1, ⟨h2, h3⟩, h4⟩ := h
    rw [if_pos h1, if_neg (by omega), if_neg (by omega), if_neg (by split <;> omega), decide_eq_false (by omega), rCheck_right]
  · rw [if_neg h]
    by_cases h1 : okNode s.f0
    · rw [if_pos h1]
      by_cases h2 : s.f1 < 0
      · rw [if_pos h2]
      · rw [if_neg h2]
        by_cases h3 : s.f1 > 65535
        · rw [if_pos h3]
        · rw [if_neg h3]
          have h5 : ¬ ((1 ≤ s.f5 ∧ s.f5 ≤ 65535) ∨ (s.f0 = 0 ∧ s.f5 = 0)) := fun h6 => h ⟨h1, ⟨by omega, by omega⟩, h6⟩
          by_cases h4 : s.f5 < (if s.f0 = 0 then 0 else 1)
          · rw [if_pos h4]
          · rw [if_neg h4, decide_eq_true (by split at h4 <;> omega), rCheck_bad]
    · rw [if_neg h1]
theorem rCheck_eq (k : Nat) (s : S23) : hopmeshref22_Check.f (k + 2) s.f0 s.f1 s.f2 s.f3 s.f4 s.f5 = some (chk s) := by
  rw [← rCheck_mid k s]; unfold hopmeshref22_Check.f; split <;> rfl
theorem ranges_eq (a b c : Int) : hopmeshref22_ranges.f a b c = some (decide (okAdv a b ∧ okCost c)) := by
  unfold hopmeshref22_ranges.f okAdv okCost
  repeat' split
  · congr 1; exact decide_eq_decide.2 ⟨fun h => by omega, fun h => by omega⟩
  all_goals (congr 1; refine (decide_eq_false ?_).symm; omega)
theorem rFeasible_eq (k : Nat) (s : S23) (e r : Int) : hopmeshref22_Feasible.f (k + 2) s.f0 s.f1 s.f2 s.f3 s.f4 s.f5 e r = some (decide (Feas s e r)) := by
  simp only [hopmeshref22_Feasible.f, rCheck_eq, Option.bind_some, ranges_eq]
  by_cases h0 : Good s
  · rw [if_pos ((chk_zero s).2 h0)]
    by_cases h1 : s.f0 = 0
    · rw [if_pos h1, decide_eq_false (fun h : Feas s e r => h.2.1 h1)]
    · rw [if_neg h1]
      by_cases h2 : okAdv e r
      · rw [decide_eq_true (show okAdv e r ∧ okCost 1 from ⟨h2, by decide⟩), if_pos rfl]
        by_cases h3 : e > s.f1
        · rw [if_pos h3, decide_eq_true (show Feas s e r from ⟨h0, h1, h2, .inl h3⟩)]
        · rw [if_neg h3]
          by_cases h4 : e = s.f1
          · rw [if_pos h4]; congr 1; exact decide_eq_decide.2 ⟨fun h => ⟨h0, h1, h2, .inr ⟨h4, h⟩⟩, fun h => h.2.2.2.elim (fun h => absurd h h3) (fun h => h.2)⟩
          · rw [if_neg h4, decide_eq_false (fun h : Feas s e r => h.2.2.2.elim h3 (fun h => h4 h.1))]
      · rw [decide_eq_false (fun h : okAdv e r ∧ okCost 1 => h2 h.1), if_neg (by decide), decide_eq_false (fun h : Feas s e r => h2 h.2.2.1)]
  · rw [if_neg (chk_ne s h0), decide_eq_false (fun h : Feas s e r => h0 h.1)]
/-! The contracts, in these words. -/
theorem check_calls (s : S23) (w : World) : Calls Try.prog 13 #[vS s] w fun en w' => en = .returned (.int .i64 (chk s)) ∧ Below w.heap.size w w' :=
  rank_Check.calls 2 _ _ _ _ _ _ _ w (Check_eq 0 s)
theorem feasible_calls (s : S23) (e r : Int) (w : World) : Calls Try.prog 15 #[vS s, .int .i64 e, .int .i64 r] w fun en w' => en = .returned (.bool (decide (Feas s e r))) ∧ Below w.heap.size w w' :=
  rank_Feasible.calls 2 _ _ _ _ _ _ e r _ w (Feasible_eq 0 s e r)
theorem rstart_calls (n : Int) (w : World) : Calls Try.prog 12 #[.int .i64 n] w fun e w' => e = .returned (.tuple #[vS (start n).1, .int .i64 (start n).2]) ∧ Below w.heap.size w w' :=
  hopmeshref22_Start.calls n _ _ _ _ _ _ _ w (rStart_eq n)
theorem rcheck_calls (s : S23) (w : World) : Calls Try.prog 14 #[vS s] w fun en w' => en = .returned (.int .i64 (chk s)) ∧ Below w.heap.size w w' :=
  hopmeshref22_Check.calls 2 _ _ _ _ _ _ _ w (rCheck_eq 0 s)
theorem rfeasible_calls (s : S23) (e r : Int) (w : World) : Calls Try.prog 16 #[vS s, .int .i64 e, .int .i64 r] w fun en w' => en = .returned (.bool (decide (Feas s e r))) ∧ Below w.heap.size w w' :=
  hopmeshref22_Feasible.calls 2 _ _ _ _ _ _ e r _ w (rFeasible_eq 0 s e r)
end Go.Proofs.Ytigobnphenhkjaa.Fns
