/- What the functions of package rank compute, in plain numbers, and that the printed functions come to it. -/
import Derived.Test.YtigobnphenhkjaaFx7
import Derived.Test.YtigobnphenhkjaaFx8
import Derived.Test.YtigobnphenhkjaaFx9
import Derived.Test.YtigobnphenhkjaaBase
namespace Go.Proofs.Ytigobnphenhkjaa.Fns
open Go.RowKit Go.Proofs.YtigobnphenhkjaaW.PrintWords Go.Proofs.YtigobnphenhkjaaW.PrintLast Go.Proofs.YtigobnphenhkjaaW.PrintMore

def okNode (n : Int) : Prop := 0 ≤ n ∧ n ≤ 31
instance (n : Int) : Decidable (okNode n) := inferInstanceAs (Decidable (_ ∧ _))
def InRange (s : S23) : Prop := okNode s.f0 ∧ (0 ≤ s.f1 ∧ s.f1 ≤ 65535) ∧ ((1 ≤ s.f5 ∧ s.f5 ≤ 65535) ∨ (s.f0 = 0 ∧ s.f5 = 0))
instance (s : S23) : Decidable (InRange s) := inferInstanceAs (Decidable (_ ∧ _))
def Right (s : S23) : Prop :=
  (s.f0 = 0 ∧ 1 ≤ s.f1 ∧ s.f2 = -1 ∧ s.f3 = 0 ∧ s.f4 = 0 ∧ (s.f5 = 0 ∨ s.f5 = 65535)) ∨
  (s.f0 ≠ 0 ∧ s.f2 = -1 ∧ s.f3 = 65535 ∧ s.f4 = 65535 ∧ (0 < s.f1 ∨ s.f5 = 65535)) ∨
  (s.f0 ≠ 0 ∧ s.f2 ≠ -1 ∧ okNode s.f2 ∧ s.f2 ≠ s.f0 ∧ 1 ≤ s.f1 ∧ 0 ≤ s.f3 ∧ s.f3 < s.f4 ∧ s.f3 < s.f5 ∧ s.f4 < 65535)
instance (s : S23) : Decidable (Right s) := inferInstanceAs (Decidable (_ ∨ _))
def Good (s : S23) : Prop := InRange s ∧ Right s
instance (s : S23) : Decidable (Good s) := inferInstanceAs (Decidable (_ ∧ _))
def chk (s : S23) : Int := if InRange s then (if Right s then 0 else 1) else 2
def okAdv (e r : Int) : Prop := (1 ≤ e ∧ e ≤ 65535) ∧ (0 ≤ r ∧ r ≤ 65534)
instance (e r : Int) : Decidable (okAdv e r) := inferInstanceAs (Decidable (_ ∧ _))
def okCost (c : Int) : Prop := 1 ≤ c ∧ c ≤ 1023
instance (c : Int) : Decidable (okCost c) := inferInstanceAs (Decidable (_ ∧ _))
def Feas (s : S23) (e r : Int) : Prop := Good s ∧ s.f0 ≠ 0 ∧ okAdv e r ∧ (e > s.f1 ∨ (e = s.f1 ∧ r < s.f5))
instance (s : S23) (e r : Int) : Decidable (Feas s e r) := inferInstanceAs (Decidable (_ ∧ _))
def begin_ (s : S23) (e : Int) : S23 := if e > s.f1 then ⟨s.f0, e, s.f2, s.f3, s.f4, 65535⟩ else s
def adopt (s : S23) (from_ e r c : Int) : S23 × Int :=
  if ¬ Good s then (z23, 1)
  else if ¬ (okNode from_ ∧ from_ ≠ s.f0 ∧ okAdv e r ∧ okCost c) then (z23, 2)
  else if ¬ Feas s e r then (z23, 12)
  else if r + c ≥ 65535 then (z23, 21)
  else (⟨s.f0, (begin_ s e).f1, from_, r, r + c, (begin_ s e).f5⟩, 0)
def lose (s : S23) : S23 := if Good s ∧ s.f0 ≠ 0 then ⟨s.f0, s.f1, -1, 65535, 65535, s.f5⟩ else s
def update (s : S23) (e r c : Int) : S23 × Int :=
  if ¬ Good s then (z23, 1)
  else if ¬ (okAdv e r ∧ okCost c) then (z23, 2)
  else if s.f2 = -1 then (z23, 12)
  else if e < s.f1 then (s, 0)
  else if (adopt s s.f2 e r c).2 = 0 then ((adopt s s.f2 e r c).1, 0)
  else (lose (begin_ s e), 0)
def advertise (s : S23) : S23 × Int × Int × Int :=
  if ¬ Good s then (z23, 0, 0, 1)
  else if s.f4 = 65535 then (z23, 0, 0, 12)
  else (⟨s.f0, s.f1, s.f2, s.f3, s.f4, mn s.f5 s.f4⟩, s.f1, s.f4, 0)
def renew (s : S23) : S23 × Int :=
  if ¬ Good s then (z23, 1)
  else if s.f0 ≠ 0 then (z23, 12)
  else if s.f1 = 65535 then (z23, 21)
  else (⟨s.f0, s.f1 + 1, s.f2, s.f3, s.f4, 65535⟩, 0)
def start (n : Int) : S23 × Int :=
  if ¬ okNode n then (z23, 2) else if n = 0 then (⟨0, 1, -1, 0, 0, 65535⟩, 0) else (⟨n, 0, -1, 65535, 65535, 65535⟩, 0)

theorem within_eq (a b c : Int) : rank_within.f a b c = some (decide (b ≤ a ∧ a ≤ c)) := by
  unfold rank_within.f; by_cases h : a ≥ b
  · rw [if_pos h]; congr 1; exact decide_eq_decide.2 ⟨fun h2 => ⟨h, h2⟩, fun h2 => h2.2⟩
  · rw [if_neg h]; congr 1; exact (decide_eq_false (fun h2 => h h2.1)).symm
theorem node_eq (a : Int) : rank_node.f a = some (decide (okNode a)) := by
  unfold rank_node.f; rw [within_eq]; rfl
theorem advertised_eq (a b : Int) : rank_advertised.f a b = some (decide (okAdv a b)) := by
  unfold rank_advertised.f; rw [within_eq, within_eq]; unfold okAdv; simp only [Option.bind_some]
  by_cases h : 1 ≤ a ∧ a ≤ 65535
  · simp [h]
  · simp [h]
theorem chk_zero (s : S23) : chk s = 0 ↔ Good s := by
  unfold chk Good
  by_cases h1 : InRange s
  · by_cases h2 : Right s <;> simp [h1, h2]
  · simp [h1]
theorem chk_ne (s : S23) (h : ¬ Good s) : ¬ chk s = 0 := fun e => h ((chk_zero s).1 e)
theorem Check_right (k : Nat) (s : S23) : rank_Check.j1 (k + 1) false s.f0 s.f1 s.f2 s.f3 s.f4 s.f5 = some (if Right s then 0 else 1) := by
  obtain ⟨a, b, c, d, e, f⟩ := s
  simp only [rank_Check.j1, node_eq, Option.bind_some, Right, Bool.false_eq_true, ↓reduceIte, decide_eq_true_eq]
  by_cases h0 : a = 0
  · subst h0
    simp only [↓reduceIte, ne_eq, not_true_eq_false, false_and, or_false, true_and]
    repeat' split
    all_goals first | rfl | (exfalso; omega)
  · by_cases h1 : c = -1
    · subst h1
      simp only [h0, ↓reduceIte, ne_eq, not_true_eq_false, not_false_eq_true, false_and, and_false, false_or, or_false, true_and]
      repeat' split
      all_goals first | rfl | (exfalso; omega)
    · simp only [h0, h1, ↓reduceIte, ne_eq, not_false_eq_true, false_and, false_or, true_and]
      repeat' split
      all_goals first | rfl | (exfalso; simp only [okNode] at *; omega)
theorem Check_bad (k : Nat) (a b c d e f : Int) : rank_Check.j1 (k + 1) true a b c d e f = some 2 := by
  simp only [rank_Check.j1, ↓reduceIte]
theorem Check_mid (k : Nat) (s : S23) (b : Bool) (hb : b = decide ((1 ≤ s.f5 ∧ s.f5 ≤ 65535) ∨ (s.f0 = 0 ∧ s.f5 = 0))) :
    rank_Check.j0 (k + 2) b s.f0 s.f1 s.f2 s.f3 s.f4 s.f5 = some (chk s) := by
  simp only [rank_Check.j0, node_eq, within_eq, Option.bind_some, decide_eq_true_eq]
  by_cases h1 : okNode s.f0
  · by_cases h2 : 0 ≤ s.f1 ∧ s.f1 ≤ 65535
    · rw [if_pos h1, if_pos h2]
      by_cases h3 : (1 ≤ s.f5 ∧ s.f5 ≤ 65535) ∨ (s.f0 = 0 ∧ s.f5 = 0)
      · rw [hb, decide_eq_true h3, Bool.not_true, Check_right, chk, if_pos (show InRange s from ⟨h1, h2, h3⟩)]
      · rw [hb, decide_eq_false h3, Bool.not_false, Check_bad, chk, if_neg (show ¬ InRange s from fun h => h3 h.2.2)]
    · rw [if_pos h1, if_neg h2, Check_bad, chk, if_neg (show ¬ InRange s from fun h => h2 h.2.1)]
  · rw [if_neg h1, Check_bad, chk, if_neg (show ¬ InRange s from fun h => h1 h.1)]
theorem Check_eq (k : Nat) (s : S23) : rank_Check.f (k + 2) s.f0 s.f1 s.f2 s.f3 s.f4 s.f5 = some (chk s) := by
  simp only [rank_Check.f, within_eq, Option.bind_some, decide_eq_true_eq]
  by_cases h1 : 1 ≤ s.f5 ∧ s.f5 ≤ 65535
  · rw [if_pos h1]; exact Check_mid k s _ (decide_eq_true (.inl h1)).symm
  · rw [if_neg h1]
    by_cases h2 : s.f0 = 0
    · rw [if_pos h2]; refine Check_mid k s _ ?_
      by_cases h3 : s.f5 = 0
      · rw [h3, decide_eq_true (.inr ⟨h2, rfl⟩)]; rfl
      · rw [decide_eq_false (fun h => h.elim h1 (fun h => h3 h.2))]; simpa using h3
    · rw [if_neg h2]; exact Check_mid k s _ (decide_eq_false (fun h => h.elim h1 (fun h => h2 h.1))).symm
theorem Feasible_eq (k : Nat) (s : S23) (e r : Int) : rank_Feasible.f (k + 2) s.f0 s.f1 s.f2 s.f3 s.f4 s.f5 e r = some (decide (Feas s e r)) := by
  simp only [rank_Feasible.f, Check_eq, Option.bind_some, advertised_eq]
  by_cases h0 : Good s
  · rw [if_pos ((chk_zero s).2 h0)]
    by_cases h1 : s.f0 = 0
    · rw [if_pos h1, decide_eq_false (fun h : Feas s e r => h.2.1 h1)]
    · rw [if_neg h1]
      by_cases h2 : okAdv e r
      · rw [decide_eq_true h2, if_pos rfl]
        by_cases h3 : e > s.f1
        · rw [if_pos h3, decide_eq_true (show Feas s e r from ⟨h0, h1, h2, .inl h3⟩)]
        · rw [if_neg h3]
          by_cases h4 : e = s.f1
          · rw [if_pos h4]; congr 1; exact decide_eq_decide.2 ⟨fun h => ⟨h0, h1, h2, .inr ⟨h4, h⟩⟩, fun h => h.2.2.2.elim (fun h => absurd h h3) (fun h => h.2)⟩
          · rw [if_neg h4, decide_eq_false (fun h : Feas s e r => h.2.2.2.elim h3 (fun h => h4 h.1))]
      · rw [decide_eq_false h2, if_neg (by decide), decide_eq_false (fun h : Feas s e r => h2 h.2.2.1)]
  · rw [if_neg (chk_ne s h0), decide_eq_false (fun h : Feas s e r => h0 h.1)]
theorem begin_eq (s : S23) (e : Int) : rank_begin.f s.f0 s.f1 s.f2 s.f3 s.f4 s.f5 e = some ((begin_ s e).f0, (begin_ s e).f1, (begin_ s e).f2, (begin_ s e).f3, (begin_ s e).f4, (begin_ s e).f5) := by
  unfold rank_begin.f begin_; split <;> rfl
theorem begin_keeps (s : S23) (e : Int) : (begin_ s e).f0 = s.f0 ∧ (begin_ s e).f2 = s.f2 ∧ (begin_ s e).f3 = s.f3 ∧ (begin_ s e).f4 = s.f4 := by
  unfold begin_; split <;> exact ⟨rfl, rfl, rfl, rfl⟩
def tup (p : S23 × Int) : Int × Int × Int × Int × Int × Int × Int := (p.1.f0, p.1.f1, p.1.f2, p.1.f3, p.1.f4, p.1.f5, p.2)
theorem wrap_sum {r c : Int} (h1 : 0 ≤ r ∧ r ≤ 65534) (h2 : 1 ≤ c ∧ c ≤ 1023) : wrap64 (r + c) = r + c := by unfold wrap64; omega
theorem Adopt_bad (k : Nat) (a b c d e f g h i j : Int) : rank_Adopt.j0 (k + 1) a b c d true e f g h i j = some (tup (z23, 2)) := by
  simp only [rank_Adopt.j0, ↓reduceIte]; rfl
theorem Adopt_eq (k : Nat) (s : S23) (fr e r c : Int) : rank_Adopt.f (k + 3) s.f0 s.f1 s.f2 s.f3 s.f4 s.f5 fr e r c = some (tup (adopt s fr e r c)) := by
  simp only [rank_Adopt.f, Check_eq, Option.bind_some, advertised_eq, node_eq, within_eq]
  unfold adopt
  by_cases h0 : Good s
  · rw [if_pos ((chk_zero s).2 h0), if_neg (not_not_intro h0)]
    by_cases h1 : okNode fr
    · rw [decide_eq_true h1, if_pos rfl]
      by_cases h2 : fr = s.f0
      · rw [if_pos h2, Adopt_bad, if_pos (fun h => h.2.1 h2)]
      · rw [if_neg h2]
        by_cases h3 : okAdv e r
        · rw [decide_eq_true h3, if_pos rfl]
          by_cases h4 : okCost c
          · rw [decide_eq_true (show 1 ≤ c ∧ c ≤ 1023 from h4), Bool.not_true, if_neg (not_not_intro ⟨h1, h2, h3, h4⟩)]
            simp only [rank_Adopt.j0, Bool.false_eq_true, ↓reduceIte, Feasible_eq, begin_eq, Option.bind_some, wrap_sum h3.2 h4, decide_eq_true_eq]
            by_cases h5 : Feas s e r
            · rw [if_pos h5, if_neg (not_not_intro h5)]
              by_cases h6 : r + c ≥ 65535
              · rw [if_pos h6, if_pos h6]; rfl
              · rw [if_neg h6, if_neg h6, (begin_keeps s e).1]; rfl
            · rw [if_neg h5, if_pos h5]; rfl
          · rw [decide_eq_false (show ¬ (1 ≤ c ∧ c ≤ 1023) from h4), Bool.not_false, Adopt_bad, if_pos (fun h => h4 h.2.2.2)]
        · rw [decide_eq_false h3, if_neg (by decide), Adopt_bad, if_pos (fun h => h3 h.2.2.1)]
    · rw [decide_eq_false h1, if_neg (by decide), Adopt_bad, if_pos (fun h => h1 h.1)]
  · rw [if_neg (chk_ne s h0), if_pos h0]; rfl
def tup6 (p : S23) : Int × Int × Int × Int × Int × Int := (p.f0, p.f1, p.f2, p.f3, p.f4, p.f5)
theorem Lose_eq (k : Nat) (s : S23) : rank_Lose.f (k + 2) s.f0 s.f1 s.f2 s.f3 s.f4 s.f5 = some (tup6 (lose s)) := by
  simp only [rank_Lose.f, Check_eq, Option.bind_some]
  unfold lose
  by_cases h0 : Good s
  · rw [if_pos ((chk_zero s).2 h0)]
    by_cases h1 : s.f0 = 0
    · rw [if_pos h1, if_neg (fun h => h.2 h1)]; rfl
    · rw [if_neg h1, if_pos ⟨h0, h1⟩]; rfl
  · rw [if_neg (chk_ne s h0), if_neg (fun h => h0 h.1)]; rfl
theorem Restart_eq (k : Nat) (s : S23) : rank_Restart.f (k + 2) s.f0 s.f1 s.f2 s.f3 s.f4 s.f5 = some (tup6 (lose s)) := by
  simp only [rank_Restart.f, Lose_eq, Option.bind_some, tup6]
theorem Update_bad (k : Nat) (a b c e f g h i j : Int) : rank_Update.j0 (k + 1) a b c true e f g h i j = some (tup (z23, 2)) := by
  simp only [rank_Update.j0, ↓reduceIte]; rfl
theorem Update_eq (k : Nat) (s : S23) (e r c : Int) : rank_Update.f (k + 4) s.f0 s.f1 s.f2 s.f3 s.f4 s.f5 e r c = some (tup (update s e r c)) := by
  simp only [rank_Update.f, Check_eq, Option.bind_some, advertised_eq, within_eq]
  unfold update
  by_cases h0 : Good s
  · rw [if_pos ((chk_zero s).2 h0), if_neg (not_not_intro h0)]
    by_cases h3 : okAdv e r
    · rw [decide_eq_true h3, if_pos rfl]
      by_cases h4 : okCost c
      · rw [decide_eq_true (show 1 ≤ c ∧ c ≤ 1023 from h4), Bool.not_true, if_neg (not_not_intro ⟨h3, h4⟩)]
        simp only [rank_Update.j0, Bool.false_eq_true, ↓reduceIte, Adopt_eq, begin_eq, Option.bind_some, Lose_eq]
        by_cases h5 : s.f2 = -1
        · rw [if_pos h5, if_pos h5]; rfl
        · rw [if_neg h5, if_neg h5]
          by_cases h6 : e < s.f1
          · rw [if_pos h6, if_pos h6]; rfl
          · rw [if_neg h6, if_neg h6]
            by_cases h7 : (adopt s s.f2 e r c).2 = 0
            · rw [if_pos h7, if_pos (show (tup (adopt s s.f2 e r c)).2.2.2.2.2.2 = 0 from h7)]; rfl
            · rw [if_neg h7, if_neg (show ¬ (tup (adopt s s.f2 e r c)).2.2.2.2.2.2 = 0 from h7)]; rfl
      · rw [decide_eq_false (show ¬ (1 ≤ c ∧ c ≤ 1023) from h4), Bool.not_false, Update_bad, if_pos (fun h => h4 h.2)]
    · rw [decide_eq_false h3, if_neg (by decide), Update_bad, if_pos (fun h => h3 h.1)]
  · rw [if_neg (chk_ne s h0), if_pos h0]; rfl
def tup9 (p : S23 × Int × Int × Int) : Int × Int × Int × Int × Int × Int × Int × Int × Int := (p.1.f0, p.1.f1, p.1.f2, p.1.f3, p.1.f4, p.1.f5, p.2.1, p.2.2.1, p.2.2.2)
theorem Advertise_eq (k : Nat) (s : S23) : rank_Advertise.f (k + 2) s.f0 s.f1 s.f2 s.f3 s.f4 s.f5 = some (tup9 (advertise s)) := by
  simp only [rank_Advertise.f, Check_eq, Option.bind_some]
  unfold advertise
  by_cases h0 : Good s
  · rw [if_pos ((chk_zero s).2 h0), if_neg (not_not_intro h0)]
    by_cases h1 : s.f4 = 65535
    · rw [if_pos h1, if_pos h1]; rfl
    · rw [if_neg h1, if_neg h1]; rfl
  · rw [if_neg (chk_ne s h0), if_pos h0]; rfl
theorem Renew_eq (k : Nat) (s : S23) : rank_Renew.f (k + 2) s.f0 s.f1 s.f2 s.f3 s.f4 s.f5 = some (tup (renew s)) := by
  simp only [rank_Renew.f, Check_eq, Option.bind_some]
  unfold renew
  by_cases h0 : Good s
  · rw [if_pos ((chk_zero s).2 h0), if_neg (not_not_intro h0)]
    by_cases h1 : s.f0 = 0
    · rw [if_pos h1, if_neg (not_not_intro h1)]
      by_cases h2 : s.f1 = 65535
      · rw [if_pos h2, if_pos h2]; rfl
      · rw [if_neg h2, if_neg h2]
        have hr := h0.1.2.1
        have hw : wrap64 (s.f1 + 1) = s.f1 + 1 := by unfold wrap64; omega
        rw [hw, begin_eq, Option.bind_some, begin_, if_pos (show s.f1 + 1 > s.f1 by omega)]; rfl
    · rw [if_neg h1, if_pos h1]; rfl
  · rw [if_neg (chk_ne s h0), if_pos h0]; rfl
theorem Start_eq (n : Int) : rank_Start.f n = some (tup (start n)) := by
  simp only [rank_Start.f, node_eq, Option.bind_some]
  unfold start
  by_cases h0 : okNode n
  · rw [decide_eq_true h0, if_pos rfl, if_neg (not_not_intro h0)]
    by_cases h1 : n = 0
    · rw [if_pos h1, if_pos h1]; rfl
    · rw [if_neg h1, if_neg h1]; rfl
  · rw [decide_eq_false h0, if_neg (by decide), if_pos h0]; rfl

/-! The contracts, in these words. -/
theorem start_calls (n : Int) (w : World) : Calls Try.prog 11 #[.int .i64 n] w fun e w' => e = .returned (.tuple #[vS (start n).1, .int .i64 (start n).2]) ∧ Below w.heap.size w w' :=
  rank_Start.calls n _ _ _ _ _ _ _ w (Start_eq n)
theorem adopt_calls (s : S23) (fr e r c : Int) (w : World) : Calls Try.prog 17 #[vS s, .int .i64 fr, .int .i64 e, .int .i64 r, .int .i64 c] w fun en w' => en = .returned (.tuple #[vS (adopt s fr e r c).1, .int .i64 (adopt s fr e r c).2]) ∧ Below w.heap.size w w' :=
  rank_Adopt.calls 3 _ _ _ _ _ _ fr e r c _ _ _ _ _ _ _ w (Adopt_eq 0 s fr e r c)
theorem update_calls (s : S23) (e r c : Int) (w : World) : Calls Try.prog 19 #[vS s, .int .i64 e, .int .i64 r, .int .i64 c] w fun en w' => en = .returned (.tuple #[vS (update s e r c).1, .int .i64 (update s e r c).2]) ∧ Below w.heap.size w w' :=
  rank_Update.calls 4 _ _ _ _ _ _ e r c _ _ _ _ _ _ _ w (Update_eq 0 s e r c)
theorem advertise_calls (s : S23) (w : World) : Calls Try.prog 21 #[vS s] w fun en w' => en = .returned (.tuple #[vS (advertise s).1, .int .i64 (advertise s).2.1, .int .i64 (advertise s).2.2.1, .int .i64 (advertise s).2.2.2]) ∧ Below w.heap.size w w' :=
  rank_Advertise.calls 2 _ _ _ _ _ _ _ _ _ _ _ _ _ _ _ w (Advertise_eq 0 s)
theorem renew_calls (s : S23) (w : World) : Calls Try.prog 23 #[vS s] w fun en w' => en = .returned (.tuple #[vS (renew s).1, .int .i64 (renew s).2]) ∧ Below w.heap.size w w' :=
  rank_Renew.calls 2 _ _ _ _ _ _ _ _ _ _ _ _ _ w (Renew_eq 0 s)
theorem lose_calls (s : S23) (w : World) : Calls Try.prog 25 #[vS s] w fun en w' => en = .returned (vS (lose s)) ∧ Below w.heap.size w w' :=
  rank_Lose.calls 2 _ _ _ _ _ _ _ _ _ _ _ _ w (Lose_eq 0 s)
theorem restart_calls (s : S23) (w : World) : Calls Try.prog 27 #[vS s] w fun en w' => en = .returned (vS (lose s)) ∧ Below w.heap.size w w' :=
  rank_Restart.calls 2 _ _ _ _ _ _ _ _ _ _ _ _ w (Restart_eq 0 s)
end Go.Proofs.Ytigobnphenhkjaa.Fns
