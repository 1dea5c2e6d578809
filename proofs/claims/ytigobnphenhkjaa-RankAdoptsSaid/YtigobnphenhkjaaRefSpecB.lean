/- The reference's Adopt, Lose, Update, Advertise and Renew come to the same plain words as rank's. -/
import Derived.Test.YtigobnphenhkjaaRefSpec
import Derived.Test.YtigobnphenhkjaaFx13
import Derived.Test.YtigobnphenhkjaaFx14
namespace Go.Proofs.Ytigobnphenhkjaa.Fns
open Go.RowKit Go.Proofs.YtigobnphenhkjaaW.PrintWords Go.Proofs.YtigobnphenhkjaaW.PrintLast Go.Proofs.YtigobnphenhkjaaW.PrintMore
theorem rAdopt_bad (k : Nat) (a b c d e f g h i j : Int) : hopmeshref22_Adopt.j0 (k + 1) a b c d true e f g h i j = some (tup (z23, 2)) := by
  simp only [hopmeshref22_Adopt.j0, ↓reduceIte]; rfl
theorem rAdopt_eq (k : Nat) (s : S23) (fr e r c : Int) : hopmeshref22_Adopt.f (k + 3) s.f0 s.f1 s.f2 s.f3 s.f4 s.f5 fr e r c = some (tup (adopt s fr e r c)) := by
  simp only [hopmeshref22_Adopt.f, rCheck_eq, Option.bind_some, ranges_eq, rnode_eq]
  unfold adopt
  by_cases h0 : Good s
  · rw [if_pos ((chk_zero s).2 h0), if_neg (not_not_intro h0)]
    by_cases h1 : okNode fr
    · rw [decide_eq_true h1, if_pos rfl]
      by_cases h2 : fr = s.f0
      · rw [if_pos h2, rAdopt_bad, if_pos (fun h => h.2.1 h2)]
      · rw [if_neg h2]
        by_cases h3 : okAdv e r ∧ okCost c
        · rw [decide_eq_true h3, Bool.not_true, if_neg (not_not_intro ⟨h1, h2, h3.1, h3.2⟩)]
          simp only [hopmeshref22_Adopt.j0, Bool.false_eq_true, ↓reduceIte, rFeasible_eq, Option.bind_some, wrap_sum h3.1.2 h3.2, decide_eq_true_eq]
          by_cases h5 : Feas s e r
          · rw [if_pos h5, if_neg (not_not_intro h5)]
            by_cases h6 : r + c ≥ 65535
            · rw [if_pos h6, if_pos h6]; rfl
            · rw [if_neg h6, if_neg h6]
              unfold begin_
              by_cases h7 : e > s.f1
              · rw [if_pos h7, if_pos h7]; rfl
              · rw [if_neg h7, if_neg h7]; rfl
          · rw [if_neg h5, if_pos h5]; rfl
        · rw [decide_eq_false h3, Bool.not_false, rAdopt_bad, if_pos (fun h => h3 ⟨h.2.2.1, h.2.2.2⟩)]
    · rw [decide_eq_false h1, if_neg (by decide), rAdopt_bad, if_pos (fun h => h1 h.1)]
  · rw [if_neg (chk_ne s h0), if_pos h0]; rfl
theorem rLose_eq (k : Nat) (s : S23) : hopmeshref22_Lose.f (k + 2) s.f0 s.f1 s.f2 s.f3 s.f4 s.f5 = some (tup6 (lose s)) := by
  simp only [hopmeshref22_Lose.f, rCheck_eq, Option.bind_some]
  unfold lose
  by_cases h0 : Good s
  · rw [if_pos ((chk_zero s).2 h0)]
    by_cases h1 : s.f0 = 0
    · rw [if_pos h1, if_neg (fun h => h.2 h1)]; rfl
    · rw [if_neg h1, if_pos ⟨h0, h1⟩]; rfl
  · rw [if_neg (chk_ne s h0), if_neg (fun h => h0 h.1)]; rfl
/-- Losing and beginning, in either order: where a state has a parent. -/
theorem lose_begin (s : S23) (e : Int) (h0 : Good s) (h5 : s.f2 ≠ -1) (he : e ≤ 65535) : lose (begin_ s e) = if e > (lose s).f1 then ⟨(lose s).f0, e, (lose s).f2, (lose s).f3, (lose s).f4, 65535⟩ else lose s := by
  have hr : s.f0 ≠ 0 := by
    rcases h0.2 with h | h | h
    · exact absurd h.2.2.1 h5
    · exact h.1
    · exact h.1
  have h1 : lose s = ⟨s.f0, s.f1, -1, 65535, 65535, s.f5⟩ := if_pos ⟨h0, hr⟩
  rw [h1]
  unfold begin_
  by_cases h7 : e > s.f1
  · have hg : Good ⟨s.f0, e, s.f2, s.f3, s.f4, 65535⟩ := by
      obtain ⟨⟨a1, a2, a3⟩, a4⟩ := h0
      refine ⟨⟨a1, ⟨by have := a2.1; show 0 ≤ e; omega, he⟩, .inl ⟨by show (1 : Int) ≤ 65535; decide, Int.le_refl _⟩⟩, ?_⟩
      rcases a4 with h | h | h
      · exact absurd h.2.2.1 h5
      · exact absurd h.2.1 h5
      · obtain ⟨b1, b2, b3, b4, b5, b6, b7, b8, b9⟩ := h
        exact .inr (.inr ⟨b1, b2, b3, b4, by show 1 ≤ e; omega, b6, b7, by show s.f3 < 65535; omega, b9⟩)
    rw [if_pos h7, if_pos h7]
    exact if_pos ⟨hg, hr⟩
  · rw [if_neg h7, if_neg h7, h1]
theorem rUpdate_eq (k : Nat) (s : S23) (e r c : Int) : hopmeshref22_Update.f (k + 4) s.f0 s.f1 s.f2 s.f3 s.f4 s.f5 e r c = some (tup (update s e r c)) := by
  simp only [hopmeshref22_Update.f, rCheck_eq, Option.bind_some, ranges_eq]
  unfold update
  by_cases h0 : Good s
  · rw [if_pos ((chk_zero s).2 h0), if_neg (not_not_intro h0)]
    by_cases h3 : okAdv e r ∧ okCost c
    · rw [decide_eq_true h3, if_pos rfl, if_neg (not_not_intro h3)]
      by_cases h5 : s.f2 = -1
      · rw [if_pos h5, if_pos h5]; rfl
      · rw [if_neg h5, if_neg h5]
        by_cases h6 : e < s.f1
        · rw [if_pos h6, if_pos h6]; rfl
        · rw [if_neg h6, if_neg h6, rAdopt_eq, rLose_eq]
          simp only [Option.bind_some]
          by_cases h7 : (adopt s s.f2 e r c).2 = 0
          · rw [if_pos h7, if_pos (show (tup (adopt s s.f2 e r c)).2.2.2.2.2.2 = 0 from h7)]; rfl
          · rw [if_neg h7, if_neg (show ¬ (tup (adopt s s.f2 e r c)).2.2.2.2.2.2 = 0 from h7), lose_begin s e h0 h5 h3.1.1.2]
            by_cases h8 : e > (lose s).f1
            · rw [if_pos h8, if_pos (show e > (tup6 (lose s)).2.1 from h8)]; rfl
            · rw [if_neg h8, if_neg (show ¬ e > (tup6 (lose s)).2.1 from h8)]; rfl
    · rw [decide_eq_false h3, if_neg (by decide), if_pos h3]; rfl
  · rw [if_neg (chk_ne s h0), if_pos h0]; rfl
theorem rAdvertise_eq (k : Nat) (s : S23) : hopmeshref22_Advertise.f (k + 2) s.f0 s.f1 s.f2 s.f3 s.f4 s.f5 = some (tup9 (advertise s)) := by
  simp only [hopmeshref22_Advertise.f, rCheck_eq, Option.bind_some]
  unfold advertise
  by_cases h0 : Good s
  · rw [if_pos ((chk_zero s).2 h0), if_neg (not_not_intro h0)]
    by_cases h1 : s.f4 = 65535
    · rw [if_pos h1, if_pos h1]; rfl
    · rw [if_neg h1, if_neg h1]; rfl
  · rw [if_neg (chk_ne s h0), if_pos h0]; rfl
theorem rRenew_eq (k : Nat) (s : S23) : hopmeshref22_Renew.f (k + 2) s.f0 s.f1 s.f2 s.f3 s.f4 s.f5 = some (tup (renew s)) := by
  simp only [hopmeshref22_Renew.f, rCheck_eq, Option.bind_some]
  unfold renew
  by_cases h0 : Good s
  · rw [if_pos ((chk_zero s).2 h0), if_neg (not_not_intro h0)]
    by_cases h1 : s.f0 = 0
    · rw [if_pos h1, if_neg (not_not_intro h1)]
      by_cases h2 : s.f1 = 65535
      · rw [if_pos h2, if_pos h2]; rfl
      · rw [if_neg h2, if_neg h2]
        have hr := h0.1.2.1
        have hw : wrap64 (s.f1 + 1) = s.f1 + 1 := by unfold wrap64; omega
        rw [hw]; rfl
    · rw [if_neg h1, if_pos h1]; rfl
  · rw [if_neg (chk_ne s h0), if_pos h0]; rfl
theorem radopt_calls (s : S23) (fr e r c : Int) (w : World) : Calls Try.prog 18 #[vS s, .int .i64 fr, .int .i64 e, .int .i64 r, .int .i64 c] w fun en w' => en = .returned (.tuple #[vS (adopt s fr e r c).1, .int .i64 (adopt s fr e r c).2]) ∧ Below w.heap.size w w' :=
  hopmeshref22_Adopt.calls 3 _ _ _ _ _ _ fr e r c _ _ _ _ _ _ _ w (rAdopt_eq 0 s fr e r c)
theorem rupdate_calls (s : S23) (e r c : Int) (w : World) : Calls Try.prog 20 #[vS s, .int .i64 e, .int .i64 r, .int .i64 c] w fun en w' => en = .returned (.tuple #[vS (update s e r c).1, .int .i64 (update s e r c).2]) ∧ Below w.heap.size w w' :=
  hopmeshref22_Update.calls 4 _ _ _ _ _ _ e r c _ _ _ _ _ _ _ w (rUpdate_eq 0 s e r c)
theorem radvertise_calls (s : S23) (w : World) : Calls Try.prog 22 #[vS s] w fun en w' => en = .returned (.tuple #[vS (advertise s).1, .int .i64 (advertise s).2.1, .int .i64 (advertise s).2.2.1, .int .i64 (advertise s).2.2.2]) ∧ Below w.heap.size w w' :=
  hopmeshref22_Advertise.calls 2 _ _ _ _ _ _ _ _ _ _ _ _ _ _ _ w (rAdvertise_eq 0 s)
theorem rrenew_calls (s : S23) (w : World) : Calls Try.prog 24 #[vS s] w fun en w' => en = .returned (.tuple #[vS (renew s).1, .int .i64 (renew s).2]) ∧ Below w.heap.size w w' :=
  hopmeshref22_Renew.calls 2 _ _ _ _ _ _ _ _ _ _ _ _ _ w (rRenew_eq 0 s)
theorem rlose_calls (s : S23) (w : World) : Calls Try.prog 26 #[vS s] w fun en w' => en = .returned (vS (lose s)) ∧ Below w.heap.size w w' :=
  hopmeshref22_Lose.calls 2 _ _ _ _ _ _ _ _ _ _ _ _ w (rLose_eq 0 s)
end Go.Proofs.Ytigobnphenhkjaa.Fns
