/- One event of Play, by its kind; a world's states as a result. -/
import Derived.Test.YtigobnphenhkjaaPlaySpec
import Derived.Test.YtigobnphenhkjaaMaps
namespace Go.Proofs.Ytigobnphenhkjaa.Fns
open Go.RowKit Go.Proofs.YtigobnphenhkjaaW.PrintWords Go.Proofs.YtigobnphenhkjaaW.PrintLast Go.Proofs.YtigobnphenhkjaaW.PrintMore
set_option linter.unusedVariables false
set_option linter.unusedSimpArgs false
theorem getD_of {α : Type} {L : List α} {i : Nat} {z : α} (h : i < L.length) : L[i]? = some (L.getD i z) := by simp [List.getD_eq_getElem?_getD, h]
def StepPost (base p : Nat) (x : S50) (L : List S23) (M : List Adv) (w : World) (e : Ending) (w' : World) : Prop :=
  e = .returned (.tuple #[]) ∧ WX w' base p (stepE x (L, M)).1 (stepE x (L, M)).2 ∧ Fr base w w'
theorem step1 (w : World) (base p : Nat) (L : List S23) (M : List Adv) (i : Nat) (wh cost : Int) (hbw : base ≤ w.heap.size) (hM : M.length ≤ 100000) (hX : WX w base p L M) (hi : i < L.length) : Calls Try.prog 40 #[.pointer (some ⟨p, 0, none⟩), .agg #[.int .i64 1, .int .i64 (i : Int), .int .i64 wh, .int .i64 cost]] w (StepPost base p ⟨1, (i : Int), wh, cost⟩ L M w) := by
  refine (advertise_method w base p L M ⟨1, (i : Int), wh, cost⟩ i (L.getD i z23) hbw hM hX rfl (getD_of hi)).mono ?_
  rintro e w' ⟨h1, h2, h3⟩
  exact ⟨h1, by simpa [stepE] using h2, h3⟩
theorem step2 (w : World) (base p : Nat) (L : List S23) (M : List Adv) (i : Nat) (wh cost : Int) (hbw : base ≤ w.heap.size) (hM : M.length ≤ 100000) (hX : WX w base p L M) (hi : i < L.length) (hw : 0 ≤ wh) (hm : M ≠ []) : Calls Try.prog 41 #[.pointer (some ⟨p, 0, none⟩), .agg #[.int .i64 2, .int .i64 (i : Int), .int .i64 wh, .int .i64 cost]] w (StepPost base p ⟨2, (i : Int), wh, cost⟩ L M w) := by
  have hl : 0 < M.length := List.length_pos_iff.2 hm
  have h1 : 0 ≤ wh.tmod (M.length : Int) := Int.tmod_nonneg _ hw
  have h2 : wh.tmod (M.length : Int) < (M.length : Int) := Int.tmod_lt_of_pos _ (by omega)
  refine (hear_method w base p L M ⟨2, (i : Int), wh, cost⟩ i (wh.tmod (M.length : Int)).toNat (L.getD i z23) (M.getD (wh.tmod (M.length : Int)).toNat ⟨0, 0, 0⟩) hbw hX rfl (getD_of hi) (getD_of (by omega)) (Int.toNat_of_nonneg h1).symm hM).mono ?_
  rintro e w' ⟨h1, h2, h3⟩
  exact ⟨h1, by simpa [stepE, hm] using h2, h3⟩
theorem step2n (w : World) (base p : Nat) (L : List S23) (M : List Adv) (i : Nat) (wh cost : Int) (hX : WX w base p L M) (hm : M = []) : Calls Try.prog 41 #[.pointer (some ⟨p, 0, none⟩), .agg #[.int .i64 2, .int .i64 (i : Int), .int .i64 wh, .int .i64 cost]] w (StepPost base p ⟨2, (i : Int), wh, cost⟩ L M w) := by
  subst hm
  refine (hear_none w base p L ⟨2, (i : Int), wh, cost⟩ hX).mono ?_
  rintro e w' ⟨h1, h2, h3⟩
  exact ⟨h1, by simpa [stepE] using h2, h3⟩
theorem step3 (w : World) (base p : Nat) (L : List S23) (M : List Adv) (i : Nat) (wh cost : Int) (hX : WX w base p L M) (hi : i < L.length) : Calls Try.prog 42 #[.pointer (some ⟨p, 0, none⟩), .agg #[.int .i64 3, .int .i64 (i : Int), .int .i64 wh, .int .i64 cost]] w (StepPost base p ⟨3, (i : Int), wh, cost⟩ L M w) := by
  obtain ⟨g, cap, cur, av, hW⟩ := hX
  refine (lose_method w base p g cap i cur av L M ⟨3, (i : Int), wh, cost⟩ (L.getD i z23) hW rfl (getD_of hi)).mono ?_
  rintro e w' ⟨h1, h2, h3⟩
  exact ⟨h1, ⟨g, cap, _, av, by simpa [stepE] using h2⟩, h3⟩
theorem step4 (w : World) (base p : Nat) (L : List S23) (M : List Adv) (i : Nat) (wh cost : Int) (hX : WX w base p L M) (hi : i < L.length) : Calls Try.prog 43 #[.pointer (some ⟨p, 0, none⟩), .agg #[.int .i64 4, .int .i64 (i : Int), .int .i64 wh, .int .i64 cost]] w (StepPost base p ⟨4, (i : Int), wh, cost⟩ L M w) := by
  obtain ⟨g, cap, cur, av, hW⟩ := hX
  refine (restart_method w base p g cap i cur av L M ⟨4, (i : Int), wh, cost⟩ (L.getD i z23) hW rfl (getD_of hi)).mono ?_
  rintro e w' ⟨h1, h2, h3⟩
  exact ⟨h1, ⟨g, cap, _, av, by simpa [stepE] using h2⟩, h3⟩
theorem step5 (w : World) (base p : Nat) (L : List S23) (M : List Adv) (i : Nat) (wh cost : Int) (hbw : base ≤ w.heap.size) (hX : WX w base p L M) (hi : i < L.length) : Calls Try.prog 44 #[.pointer (some ⟨p, 0, none⟩), .agg #[.int .i64 5, .int .i64 (i : Int), .int .i64 wh, .int .i64 cost]] w (StepPost base p ⟨5, (i : Int), wh, cost⟩ L M w) := by
  refine (renew_method w base p L M ⟨5, (i : Int), wh, cost⟩ i (L.getD i z23) hbw hX rfl (getD_of hi)).mono ?_
  rintro e w' ⟨h1, h2, h3⟩
  exact ⟨h1, by simpa [stepE] using h2, h3⟩
theorem advM_length (i : Nat) (s : S23) (M : List Adv) : (advM i s M).length ≤ M.length + 1 := by unfold advM; split <;> simp
theorem stepE_length (x : S50) (st : List S23 × List Adv) : (stepE x st).1.length = st.1.length ∧ (stepE x st).2.length ≤ st.2.length + 1 := by
  unfold stepE
  split
  · exact ⟨by simp, advM_length _ _ _⟩
  · split
    · split
      · exact ⟨rfl, Nat.le_succ _⟩
      · exact ⟨by simp, Nat.le_succ _⟩
    · split <;> exact ⟨by simp, Nat.le_succ _⟩
/-- The states as a row of structs. -/
theorem flat_reps (ok : Nat → Prop) (w : World) (base : Nat) (L : List S23) : Reps (k23.M w base ok) 6 L (flat cS L) := by
  refine ⟨flat_length cS_length L, fun j p hp => ?_⟩
  have : ((flat cS L).drop (j * 6)).take 6 = cS p := by
    apply List.ext_getElem?
    intro m
    rw [List.getElem?_take]
    split
    · rename_i hm
      rw [List.getElem?_drop]
      have hg : (cS p)[m]? = some ((cS p)[m]'(by rw [cS_length]; exact hm)) := List.getElem?_eq_getElem _
      rw [hg]
      exact flat_get cS_length L j m p _ hp hg
    · rename_i hm
      rw [List.getElem?_eq_none (by rw [cS_length]; omega)]
  rw [this]
  exact k23_mkM w base ok p
theorem WI.result {w : World} {base p g cap : Nat} {cur : Array Value} {av : Value} {L : List S23} {M : List Adv} (h : WI w base p g cap cur av L M) : Kd.R k23 23 w base (fun _ => True) (.slice (some ⟨g, 0, none⟩) L.length cap) L :=
  ⟨fun _ _ => trivial, flat cS L, h.row.own h.hg, flat_reps _ w base L⟩
/-- The map of what is done at each kind. -/
def ent (p : Nat) : Array MapEntry := #[⟨.int .i64 1, .func (.func 40) #[.pointer (some ⟨p, 0, none⟩)] #[], 0⟩, ⟨.int .i64 2, .func (.func 41) #[.pointer (some ⟨p, 0, none⟩)] #[], 1⟩, ⟨.int .i64 3, .func (.func 42) #[.pointer (some ⟨p, 0, none⟩)] #[], 2⟩, ⟨.int .i64 4, .func (.func 43) #[.pointer (some ⟨p, 0, none⟩)] #[], 3⟩, ⟨.int .i64 5, .func (.func 44) #[.pointer (some ⟨p, 0, none⟩)] #[], 4⟩]
theorem ent_none (p : Nat) (k : Int) (h : ¬ (1 ≤ k ∧ k ≤ 5)) : Instr.findNow (.int .i64) (.int .i64 k) (ent p).toList 0 = some none := by
  have h1 : (k == 1) = false := beq_eq_false_iff_ne.2 (by omega)
  have h2 : (k == 2) = false := beq_eq_false_iff_ne.2 (by omega)
  have h3 : (k == 3) = false := beq_eq_false_iff_ne.2 (by omega)
  have h4 : (k == 4) = false := beq_eq_false_iff_ne.2 (by omega)
  have h5 : (k == 5) = false := beq_eq_false_iff_ne.2 (by omega)
  simp [ent, Instr.findNow, Instr.sameNow, h1, h2, h3, h4, h5]
theorem look_none {w : World} {mb p : Nat} {k : Int} (hb : w.heap[mb]? = some (.map (ent p) 5)) (h : ¬ (1 ≤ k ∧ k ≤ 5)) : (Instr.lookup 62 (.map (some mb)) (.int .i64 k) false).run Try.prog w = .ok .nilFunc w :=
  run_look_none Try.underlying62 Try.underlying3 hb (by kernel_rfl) (ent_none p k h) false
theorem look_1 {w : World} {mb p : Nat} (hb : w.heap[mb]? = some (.map (ent p) 5)) : (Instr.lookup 62 (.map (some mb)) (.int .i64 1) false).run Try.prog w = .ok (.func (.func 40) #[.pointer (some ⟨p, 0, none⟩)] #[]) w := run_look_some Try.underlying62 Try.underlying3 hb (i := 0) rfl false
theorem look_2 {w : World} {mb p : Nat} (hb : w.heap[mb]? = some (.map (ent p) 5)) : (Instr.lookup 62 (.map (some mb)) (.int .i64 2) false).run Try.prog w = .ok (.func (.func 41) #[.pointer (some ⟨p, 0, none⟩)] #[]) w := run_look_some Try.underlying62 Try.underlying3 hb (i := 1) rfl false
theorem look_3 {w : World} {mb p : Nat} (hb : w.heap[mb]? = some (.map (ent p) 5)) : (Instr.lookup 62 (.map (some mb)) (.int .i64 3) false).run Try.prog w = .ok (.func (.func 42) #[.pointer (some ⟨p, 0, none⟩)] #[]) w := run_look_some Try.underlying62 Try.underlying3 hb (i := 2) rfl false
theorem look_4 {w : World} {mb p : Nat} (hb : w.heap[mb]? = some (.map (ent p) 5)) : (Instr.lookup 62 (.map (some mb)) (.int .i64 4) false).run Try.prog w = .ok (.func (.func 43) #[.pointer (some ⟨p, 0, none⟩)] #[]) w := run_look_some Try.underlying62 Try.underlying3 hb (i := 3) rfl false
theorem look_5 {w : World} {mb p : Nat} (hb : w.heap[mb]? = some (.map (ent p) 5)) : (Instr.lookup 62 (.map (some mb)) (.int .i64 5) false).run Try.prog w = .ok (.func (.func 44) #[.pointer (some ⟨p, 0, none⟩)] #[]) w := run_look_some Try.underlying62 Try.underlying3 hb (i := 4) rfl false
theorem eql_func (f p : Nat) (W : World) : (binOp BinOp.eql 61 (.func (.func f) #[.pointer (some ⟨p, 0, none⟩)] #[]) .nilFunc).run Try.prog W = .ok (.bool false) W := by kernel_rfl
theorem eql_nilFunc (W : World) : (binOp BinOp.eql 61 .nilFunc .nilFunc).run Try.prog W = .ok (.bool true) W := by kernel_rfl
section
variable {n kd nd wh cost : Int}
theorem evErr_kind (h : ¬ (1 ≤ kd ∧ kd ≤ 5)) : evErr n ⟨kd, nd, wh, cost⟩ = 1 := by unfold evErr; rw [if_pos h]
theorem evErr_node (h : 1 ≤ kd ∧ kd ≤ 5) (h2 : ¬ (0 ≤ nd ∧ nd ≤ n - 1)) : evErr n ⟨kd, nd, wh, cost⟩ = 2 := by unfold evErr; rw [if_neg (not_not_intro h), if_pos (.inl h2)]
theorem evErr_which (h2 : wh < 0) : evErr n ⟨2, nd, wh, cost⟩ = 2 := by unfold evErr; rw [if_neg (not_not_intro (show (1 : Int) ≤ 2 ∧ (2 : Int) ≤ 5 by decide)), if_pos (.inr ⟨rfl, .inl h2⟩)]
theorem evErr_cost (h2 : ¬ okCost cost) : evErr n ⟨2, nd, wh, cost⟩ = 2 := by unfold evErr; rw [if_neg (not_not_intro (show (1 : Int) ≤ 2 ∧ (2 : Int) ≤ 5 by decide)), if_pos (.inr ⟨rfl, .inr h2⟩)]
theorem evErr_ok (h : 1 ≤ kd ∧ kd ≤ 5) (h3 : kd ≠ 2) (h2 : 0 ≤ nd ∧ nd ≤ n - 1) : evErr n ⟨kd, nd, wh, cost⟩ = 0 := by
  unfold evErr; rw [if_neg (not_not_intro h), if_neg (fun q => q.elim (fun q => q h2) (fun q => h3 q.1))]
theorem evErr_hear (h2 : 0 ≤ nd ∧ nd ≤ n - 1) (h3 : 0 ≤ wh) (h4 : okCost cost) : evErr n ⟨2, nd, wh, cost⟩ = 0 := by
  unfold evErr
  rw [if_neg (not_not_intro (show (1 : Int) ≤ 2 ∧ (2 : Int) ≤ 5 by decide)), if_neg]
  rintro (q | ⟨_, q | q⟩)
  · exact q h2
  · exact absurd q (Int.not_lt.2 h3)
  · exact q h4
end
theorem wpList_world {P : Program} {ops : Array Oper} {Q : Exit → Act → World → Prop} {l : List Oper} {a : Act} {W : World} (F : World → Prop) (hF : F W) (h : ∀ wz, F wz → wpList P ops Q l a wz) : wpList P ops Q l a W := h W hF
theorem wpList_norm {P : Program} {ops : Array Oper} {Q : Exit → Act → World → Prop} {l : List Oper} {a a' : Act} {W : World} (ha : a = a') (h : wpList P ops Q l a' W) : wpList P ops Q l a W := by subst ha; exact h
end Go.Proofs.Ytigobnphenhkjaa.Fns
