/- RankChecks: its walk. -/
import Derived.Test.YtigobnphenhkjaaRefSpec
import Derived.Test.YtigobnphenhkjaaMeth
import Derived.Test.YtigobnphenhkjaaPureawake
namespace Go.Proofs.Ytigobnphenhkjaa.Fns
open Go.RowKit Go.Proofs.YtigobnphenhkjaaW.PrintWords Go.Proofs.YtigobnphenhkjaaW.PrintLast Go.Proofs.YtigobnphenhkjaaW.PrintMore
set_option linter.unusedVariables false
set_option linter.unusedSimpArgs false
attribute [local go_sem high] eqA23
def Has6 (w : World) (b : Nat) (x0 x1 x2 x3 x4 x5 : Int) : Prop :=
  w.cell? ⟨b, 0, none⟩ = some (.int .i64 x0) ∧ w.cell? ⟨b, 1, none⟩ = some (.int .i64 x1) ∧ w.cell? ⟨b, 2, none⟩ = some (.int .i64 x2) ∧ w.cell? ⟨b, 3, none⟩ = some (.int .i64 x3) ∧ w.cell? ⟨b, 4, none⟩ = some (.int .i64 x4) ∧ w.cell? ⟨b, 5, none⟩ = some (.int .i64 x5)
theorem Has6.new (w : World) (x0 x1 x2 x3 x4 x5 : Int) : Has6 (w.alloc (.cells #[.int .i64 x0, .int .i64 x1, .int .i64 x2, .int .i64 x3, .int .i64 x4, .int .i64 x5] 23)) w.heap.size x0 x1 x2 x3 x4 x5 := by
  refine ⟨?_, ?_, ?_, ?_, ?_, ?_⟩ <;> simp
theorem Has6.later {w wx : World} {b : Nat} {x0 x1 x2 x3 x4 x5 : Int} (h : Has6 w b x0 x1 x2 x3 x4 x5) (hb : Below w.heap.size w wx) : Has6 wx b x0 x1 x2 x3 x4 x5 :=
  ⟨cell_later hb h.1, cell_later hb h.2.1, cell_later hb h.2.2.1, cell_later hb h.2.2.2.1, cell_later hb h.2.2.2.2.1, cell_later hb h.2.2.2.2.2⟩
theorem below_new (w : World) (o : Obj) : Below w.heap.size w (w.alloc o) := (Below.refl _ _).alloc (Nat.le_refl _) o
theorem below_tr {a b c : World} (h1 : Below a.heap.size a b) (h2 : Below b.heap.size b c) : Below a.heap.size a c := h1.trans (h2.mono h1.size)
def bS (s : S23) : Obj := .cells #[.int .i64 s.f0, .int .i64 s.f1, .int .i64 s.f2, .int .i64 s.f3, .int .i64 s.f4, .int .i64 s.f5] 23
set_option maxRecDepth 100000 in
set_option maxHeartbeats 2000000 in
theorem checks_walk (n e r : Int) (s : S23) (w : World) :
    Calls Try.prog 3 #[.int .i64 n, vS s, .int .i64 e, .int .i64 r] w fun en w' => en = .returned (.bool true) ∧ Below w.heap.size w w' := by
  have hu23 := Try.underlying23
  obtain ⟨s0, s1, s2, s3, s4, s5⟩ := s
  obtain ⟨⟨⟨x0, x1, x2, x3, x4, x5⟩, x6⟩, hst⟩ : ∃ st, st = start n := ⟨_, rfl⟩
  have c11 : ∀ w, Calls Try.prog 11 #[.int .i64 n] w fun e w' => e = .returned (.tuple #[.agg #[.int .i64 x0, .int .i64 x1, .int .i64 x2, .int .i64 x3, .int .i64 x4, .int .i64 x5], .int .i64 x6]) ∧ Below w.heap.size w w' := fun w => by
    have h := start_calls n w
    rw [← hst] at h
    exact h
  have c12 : ∀ w, Calls Try.prog 12 #[.int .i64 n] w fun e w' => e = .returned (.tuple #[.agg #[.int .i64 x0, .int .i64 x1, .int .i64 x2, .int .i64 x3, .int .i64 x4, .int .i64 x5], .int .i64 x6]) ∧ Below w.heap.size w w' := fun w => by
    have h := rstart_calls n w
    rw [← hst] at h
    exact h
  have C11 := Aside0.mk c11
  have C12 := Aside0.mk c12
  have c10 : ∀ w, Calls Try.prog 10 #[] w fun e w' => e = .returned (.bool true) ∧ Below w.heap.size w w' := fun w => hopmeshlaw22_awake.walk Pure.awake w
  have C10 := Aside0.mk c10
  clear c10 c11 c12 hst
  have C13 := Aside0.mk (show ∀ w, Calls Try.prog 13 #[.agg #[.int .i64 s0, .int .i64 s1, .int .i64 s2, .int .i64 s3, .int .i64 s4, .int .i64 s5]] w fun e w' => e = .returned (.int .i64 (chk ⟨s0, s1, s2, s3, s4, s5⟩)) ∧ Below w.heap.size w w' from fun w => check_calls ⟨s0, s1, s2, s3, s4, s5⟩ w)
  have C14 := Aside0.mk (show ∀ w, Calls Try.prog 14 #[.agg #[.int .i64 s0, .int .i64 s1, .int .i64 s2, .int .i64 s3, .int .i64 s4, .int .i64 s5]] w fun e w' => e = .returned (.int .i64 (chk ⟨s0, s1, s2, s3, s4, s5⟩)) ∧ Below w.heap.size w w' from fun w => rcheck_calls ⟨s0, s1, s2, s3, s4, s5⟩ w)
  have C15 := Aside0.mk (show ∀ w, Calls Try.prog 15 #[.agg #[.int .i64 s0, .int .i64 s1, .int .i64 s2, .int .i64 s3, .int .i64 s4, .int .i64 s5], .int .i64 e, .int .i64 r] w fun en w' => en = .returned (.bool (decide (Feas ⟨s0, s1, s2, s3, s4, s5⟩ e r))) ∧ Below w.heap.size w w' from fun w => feasible_calls ⟨s0, s1, s2, s3, s4, s5⟩ e r w)
  have C16 := Aside0.mk (show ∀ w, Calls Try.prog 16 #[.agg #[.int .i64 s0, .int .i64 s1, .int .i64 s2, .int .i64 s3, .int .i64 s4, .int .i64 s5], .int .i64 e, .int .i64 r] w fun en w' => en = .returned (.bool (decide (Feas ⟨s0, s1, s2, s3, s4, s5⟩ e r))) ∧ Below w.heap.size w w' from fun w => rfeasible_calls ⟨s0, s1, s2, s3, s4, s5⟩ e r w)
  show Calls Try.prog 3 #[.int .i64 n, .agg #[.int .i64 s0, .int .i64 s1, .int .i64 s2, .int .i64 s3, .int .i64 s4, .int .i64 s5], .int .i64 e, .int .i64 r] w _
  go_enter Try.func3, Try.ntmps3
  go_upto_region 5 with (first
    | (go_at_call 10; (with_reducible refine (C10.out _).mono ?_); rintro e w1 ⟨rfl, hb1⟩)
    | (go_at_call 11; (with_reducible refine (C11.out _).mono ?_); rintro e w2 ⟨rfl, hb2⟩)
    | (go_at_call 12; (with_reducible refine (C12.out _).mono ?_); rintro e w3 ⟨rfl, hb3⟩))
  have e1 := below_tr (below_new _ _) hb1
  have e2 := below_tr hb2 (below_new w2 (.cells #[.int .i64 x0, .int .i64 x1, .int .i64 x2, .int .i64 x3, .int .i64 x4, .int .i64 x5] 23))
  have e3 := below_tr hb3 (below_new w3 (.cells #[.int .i64 x0, .int .i64 x1, .int .i64 x2, .int .i64 x3, .int .i64 x4, .int .i64 x5] 23))
  have h5 := (((Has6.new w s0 s1 s2 s3 s4 s5).later hb1).later e2).later e3
  have h9 := (Has6.new w2 x0 x1 x2 x3 x4 x5).later e3
  have h11 := Has6.new w3 x0 x1 x2 x3 x4 x5
  have hb := below_tr (below_tr e1 e2) e3
  refine wp_world (F := fun W => Below w.heap.size w W ∧ Has6 W w.heap.size s0 s1 s2 s3 s4 s5 ∧ Has6 W w2.heap.size x0 x1 x2 x3 x4 x5 ∧ Has6 W w3.heap.size x0 x1 x2 x3 x4 x5) ⟨hb, h5, h9, h11⟩ (fun W hF => ?_)
  clear e1 e2 e3 h5 h9 h11 hb hb1 hb2 hb3 C10 C11 C12
  obtain ⟨hb, ⟨a0, a1, a2, a3, a4, a5⟩, ⟨b0, b1, b2, b3, b4, b5⟩, ⟨d0, d1, d2, d3, d4, d5⟩⟩ := hF
  generalize w2.heap.size = B at b0 b1 b2 b3 b4 b5 ⊢
  generalize w3.heap.size = D at d0 d1 d2 d3 d4 d5 ⊢
  have HB := Aside0.mk hb
  generalize w.heap.size = E at a0 a1 a2 a3 a4 a5 ⊢
  clear hb
  go_wp2

  refine start_ (n := 27) (S := fun w' => (w'.cell? ⟨E, 0, none⟩ = some (.int .i64 s0)) ∧ (w'.cell? ⟨E, 1, none⟩ = some (.int .i64 s1)) ∧ (w'.cell? ⟨E, 2, none⟩ = some (.int .i64 s2)) ∧ (w'.cell? ⟨E, 3, none⟩ = some (.int .i64 s3)) ∧ (w'.cell? ⟨E, 4, none⟩ = some (.int .i64 s4)) ∧ (w'.cell? ⟨E, 5, none⟩ = some (.int .i64 s5)) ∧ (w'.cell? ⟨B, 0, none⟩ = some (.int .i64 x0)) ∧ (w'.cell? ⟨B, 1, none⟩ = some (.int .i64 x1)) ∧ (w'.cell? ⟨B, 2, none⟩ = some (.int .i64 x2)) ∧ (w'.cell? ⟨B, 3, none⟩ = some (.int .i64 x3)) ∧ (w'.cell? ⟨B, 4, none⟩ = some (.int .i64 x4)) ∧ (w'.cell? ⟨B, 5, none⟩ = some (.int .i64 x5)) ∧ (w'.cell? ⟨D, 0, none⟩ = some (.int .i64 x0)) ∧ (w'.cell? ⟨D, 1, none⟩ = some (.int .i64 x1)) ∧ (w'.cell? ⟨D, 2, none⟩ = some (.int .i64 x2)) ∧ (w'.cell? ⟨D, 3, none⟩ = some (.int .i64 x3)) ∧ (w'.cell? ⟨D, 4, none⟩ = some (.int .i64 x4)) ∧ (w'.cell? ⟨D, 5, none⟩ = some (.int .i64 x5))) (ds := [26]) #[false, false, false, false, false, false, false, false, false, false, false, false, false, false, false, false, false, false, false, false, false, false, false, false, false, false, false] (by kernel_rfl) rfl rfl ⟨a0, a1, a2, a3, a4, a5, b0, b1, b2, b3, b4, b5, d0, d1, d2, d3, d4, d5⟩ (fun hHeld => ?_)
  refine take_ (i := 0) (N := some 25) (v := ?_) (a' := ?_) #[true, false, false, false, false, false, false, false, false, false, false, false, false, false, false, false, false, false, false, false, false, false, false, false, false, false, false] rfl rfl (by kernel_rfl) (fun _ _ _ h => h) (Or.inl ⟨by rfl, ?_⟩) hHeld ?_ ?_
  rotate_left
  · rintro w' ⟨s0, s1, s2, s3, s4, s5, s6, s7, s8, s9, s10, s11, s12, s13, s14, s15, s16, s17⟩
    go_simp
    with_reducible rfl
  rotate_left
  · simp only [Act.put, List.setIfInBounds_toArray, List.set_cons_zero, List.set_cons_succ, i64_w, i32_w]
    rfl
  refine take_ (i := 1) (N := some 26) (v := ?_) (a' := ?_) #[true, true, false, false, false, false, false, false, false, false, false, false, false, false, false, false, false, false, false, false, false, false, false, false, false, false, false] rfl rfl (by kernel_rfl) (fun _ _ _ h => h) (Or.inl ⟨by rfl, ?_⟩) hHeld ?_ ?_
  rotate_left
  · rintro w' ⟨s0, s1, s2, s3, s4, s5, s6, s7, s8, s9, s10, s11, s12, s13, s14, s15, s16, s17⟩
    go_simp
    with_reducible rfl
  rotate_left
  · simp only [Act.put, List.setIfInBounds_toArray, List.set_cons_zero, List.set_cons_succ, i64_w, i32_w]
    rfl
  refine pure_ (i := 2) (N := some 27) (v := ?_) (a' := ?_) #[true, true, true, false, false, false, false, false, false, false, false, false, false, false, false, false, false, false, false, false, false, false, false, false, false, false, false] rfl rfl (by kernel_rfl) (fun _ _ _ h => h) (Or.inl ⟨by rfl, ?_⟩) ?_ ?_
  rotate_left
  · intro w'
    go_simp
    with_reducible rfl
  rotate_left
  · simp only [Act.put, List.setIfInBounds_toArray, List.set_cons_zero, List.set_cons_succ, i64_w, i32_w]
    rfl
  refine pure_ (i := 3) (N := some 28) (v := ?_) (a' := ?_) #[true, true, true, true, false, false, false, false, false, false, false, false, false, false, false, false, false, false, false, false, false, false, false, false, false, false, false] rfl rfl (by kernel_rfl) (fun _ _ _ h => h) (Or.inl ⟨by rfl, ?_⟩) ?_ ?_
  rotate_left
  · intro w'
    go_simp
    with_reducible rfl
  rotate_left
  · simp only [Act.put, List.setIfInBounds_toArray, List.set_cons_zero, List.set_cons_succ, i64_w, i32_w]
    rfl
  refine pure_ (i := 4) (N := some 29) (v := ?_) (a' := ?_) #[true, true, true, true, true, false, false, false, false, false, false, false, false, false, false, false, false, false, false, false, false, false, false, false, false, false, false] rfl rfl (by kernel_rfl) (fun _ _ _ h => h) (Or.inl ⟨by rfl, ?_⟩) ?_ ?_
  rotate_left
  · intro w'
    go_simp
    with_reducible rfl
  rotate_left
  · simp only [Act.put, List.setIfInBounds_toArray, List.set_cons_zero, List.set_cons_succ, i64_w, i32_w]
    rfl
  refine pure_ (i := 5) (N := some 30) (v := ?_) (a' := ?_) #[true, true, true, true, true, true, false, false, false, false, false, false, false, false, false, false, false, false, false, false, false, false, false, false, false, false, false] rfl rfl (by kernel_rfl) (fun _ _ _ h => h) (Or.inl ⟨by rfl, ?_⟩) ?_ ?_
  rotate_left
  · intro w'
    go_simp
    with_reducible rfl
  rotate_left
  · simp only [Act.put, List.setIfInBounds_toArray, List.set_cons_zero, List.set_cons_succ, i64_w, i32_w]
    rfl
  refine pure_ (i := 6) (N := some 31) (v := ?_) (a' := ?_) #[true, true, true, true, true, true, true, false, false, false, false, false, false, false, false, false, false, false, false, false, false, false, false, false, false, false, false] rfl rfl (by kernel_rfl) (fun _ _ _ h => h) (Or.inl ⟨by rfl, ?_⟩) ?_ ?_
  rotate_left
  · intro w'
    go_simp
    with_reducible rfl
  rotate_left
  · simp only [Act.put, List.setIfInBounds_toArray, List.set_cons_zero, List.set_cons_succ, i64_w, i32_w]
    rfl
  refine pure_ (i := 7) (N := some 32) (v := ?_) (a' := ?_) #[true, true, true, true, true, true, true, true, false, false, false, false, false, false, false, false, false, false, false, false, false, false, false, false, false, false, false] rfl rfl (by kernel_rfl) (fun _ _ _ h => h) (Or.inl ⟨by rfl, ?_⟩) ?_ ?_
  rotate_left
  · intro w'
    go_simp
    with_reducible rfl
  rotate_left
  · simp only [Act.put, List.setIfInBounds_toArray, List.set_cons_zero, List.set_cons_succ, i64_w, i32_w]
    rfl
  refine pure_ (i := 8) (N := some 33) (v := ?_) (a' := ?_) #[true, true, true, true, true, true, true, true, true, false, false, false, false, false, false, false, false, false, false, false, false, false, false, false, false, false, false] rfl rfl (by kernel_rfl) (fun _ _ _ h => h) (Or.inl ⟨by rfl, ?_⟩) ?_ ?_
  rotate_left
  · intro w'
    go_simp
    with_reducible rfl
  rotate_left
  · simp only [Act.put, List.setIfInBounds_toArray, List.set_cons_zero, List.set_cons_succ, i64_w, i32_w]
    rfl
  refine take_ (i := 9) (N := some 34) (v := ?_) (a' := ?_) #[true, true, true, true, true, true, true, true, true, true, false, false, false, false, false, false, false, false, false, false, false, false, false, false, false, false, false] rfl rfl (by kernel_rfl) (fun _ _ _ h => h) (Or.inl ⟨by rfl, ?_⟩) hHeld ?_ ?_
  rotate_left
  · rintro w' ⟨s0, s1, s2, s3, s4, s5, s6, s7, s8, s9, s10, s11, s12, s13, s14, s15, s16, s17⟩
    go_simp
    with_reducible rfl
  rotate_left
  · simp only [Act.put, List.setIfInBounds_toArray, List.set_cons_zero, List.set_cons_succ, i64_w, i32_w]
    rfl
  refine take_ (i := 11) (N := some 36) (v := ?_) (a' := ?_) #[true, true, true, true, true, true, true, true, true, true, false, true, false, false, false, false, false, false, false, false, false, false, false, false, false, false, false] rfl rfl (by kernel_rfl) (fun _ _ _ h => h) (Or.inl ⟨by rfl, ?_⟩) hHeld ?_ ?_
  rotate_left
  · rintro w' ⟨s0, s1, s2, s3, s4, s5, s6, s7, s8, s9, s10, s11, s12, s13, s14, s15, s16, s17⟩
    go_simp
    with_reducible rfl
  rotate_left
  · simp only [Act.put, List.setIfInBounds_toArray, List.set_cons_zero, List.set_cons_succ, i64_w, i32_w]
    rfl
  refine one_ (i := 10) (N := some 35) #[true, true, true, true, true, true, true, true, true, true, true, true, false, false, false, false, false, false, false, false, false, false, false, false, false, false, false] rfl rfl (by kernel_rfl) (by decide) (fun K hK => ?_)
  refine goes_ Try.func13 (by kernel_rfl) rfl #[.agg #[.int .i64 s0, .int .i64 s1, .int .i64 s2, .int .i64 s3, .int .i64 s4, .int .i64 s5]] (by rfl) rfl rfl (by (try simp only [List.map_toArray, List.map_cons, List.map_nil]); first | done | rfl) ?_
  with_reducible refine (C13.out _).mono ?_
  rintro e v1 ⟨rfl, hv1⟩
  refine ⟨_, rfl, ?_⟩
  refine hK.out _ _ ⟨cell_later hv1 hHeld.1, cell_later hv1 hHeld.2.1, cell_later hv1 hHeld.2.2.1, cell_later hv1 hHeld.2.2.2.1, cell_later hv1 hHeld.2.2.2.2.1, cell_later hv1 hHeld.2.2.2.2.2.1, cell_later hv1 hHeld.2.2.2.2.2.2.1, cell_later hv1 hHeld.2.2.2.2.2.2.2.1, cell_later hv1 hHeld.2.2.2.2.2.2.2.2.1, cell_later hv1 hHeld.2.2.2.2.2.2.2.2.2.1, cell_later hv1 hHeld.2.2.2.2.2.2.2.2.2.2.1, cell_later hv1 hHeld.2.2.2.2.2.2.2.2.2.2.2.1, cell_later hv1 hHeld.2.2.2.2.2.2.2.2.2.2.2.2.1, cell_later hv1 hHeld.2.2.2.2.2.2.2.2.2.2.2.2.2.1, cell_later hv1 hHeld.2.2.2.2.2.2.2.2.2.2.2.2.2.2.1, cell_later hv1 hHeld.2.2.2.2.2.2.2.2.2.2.2.2.2.2.2.1, cell_later hv1 hHeld.2.2.2.2.2.2.2.2.2.2.2.2.2.2.2.2.1, cell_later hv1 hHeld.2.2.2.2.2.2.2.2.2.2.2.2.2.2.2.2.2⟩ (fun hHeld => ?_)
  clear hK K
  refine norm_ (a' := ?_) ?_ ?_
  rotate_left
  · show Act.put _ (some 35) _ = _
    simp only [Act.put, List.setIfInBounds_toArray, List.set_cons_zero, List.set_cons_succ, i64_w, i32_w]
    rfl
  refine one_ (i := 12) (N := some 37) #[true, true, true, true, true, true, true, true, true, true, true, true, true, false, false, false, false, false, false, false, false, false, false, false, false, false, false] rfl rfl (by kernel_rfl) (by decide) (fun K hK => ?_)
  refine goes_ Try.func14 (by kernel_rfl) rfl #[.agg #[.int .i64 s0, .int .i64 s1, .int .i64 s2, .int .i64 s3, .int .i64 s4, .int .i64 s5]] (by rfl) rfl rfl (by (try simp only [List.map_toArray, List.map_cons, List.map_nil]); first | done | rfl) ?_
  with_reducible refine (C14.out _).mono ?_
  rintro e v2 ⟨rfl, hv2⟩
  refine ⟨_, rfl, ?_⟩
  refine hK.out _ _ ⟨cell_later hv2 hHeld.1, cell_later hv2 hHeld.2.1, cell_later hv2 hHeld.2.2.1, cell_later hv2 hHeld.2.2.2.1, cell_later hv2 hHeld.2.2.2.2.1, cell_later hv2 hHeld.2.2.2.2.2.1, cell_later hv2 hHeld.2.2.2.2.2.2.1, cell_later hv2 hHeld.2.2.2.2.2.2.2.1, cell_later hv2 hHeld.2.2.2.2.2.2.2.2.1, cell_later hv2 hHeld.2.2.2.2.2.2.2.2.2.1, cell_later hv2 hHeld.2.2.2.2.2.2.2.2.2.2.1, cell_later hv2 hHeld.2.2.2.2.2.2.2.2.2.2.2.1, cell_later hv2 hHeld.2.2.2.2.2.2.2.2.2.2.2.2.1, cell_later hv2 hHeld.2.2.2.2.2.2.2.2.2.2.2.2.2.1, cell_later hv2 hHeld.2.2.2.2.2.2.2.2.2.2.2.2.2.2.1, cell_later hv2 hHeld.2.2.2.2.2.2.2.2.2.2.2.2.2.2.2.1, cell_later hv2 hHeld.2.2.2.2.2.2.2.2.2.2.2.2.2.2.2.2.1, cell_later hv2 hHeld.2.2.2.2.2.2.2.2.2.2.2.2.2.2.2.2.2⟩ (fun hHeld => ?_)
  clear hK K
  refine norm_ (a' := ?_) ?_ ?_
  rotate_left
  · show Act.put _ (some 37) _ = _
    simp only [Act.put, List.setIfInBounds_toArray, List.set_cons_zero, List.set_cons_succ, i64_w, i32_w]
    rfl
  refine pure_ (i := 13) (N := some 38) (v := ?_) (a' := ?_) #[true, true, true, true, true, true, true, true, true, true, true, true, true, true, false, false, false, false, false, false, false, false, false, false, false, false, false] rfl rfl (by kernel_rfl) (fun _ _ _ h => h) (Or.inl ⟨by rfl, ?_⟩) ?_ ?_
  rotate_left
  · intro w'
    go_simp
    with_reducible rfl
  rotate_left
  · simp only [Act.put, List.setIfInBounds_toArray, List.set_cons_zero, List.set_cons_succ, i64_w, i32_w]
    rfl
  refine pure_ (i := 14) (N := some 39) (v := ?_) (a' := ?_) #[true, true, true, true, true, true, true, true, true, true, true, true, true, true, true, false, false, false, false, false, false, false, false, false, false, false, false] rfl rfl (by kernel_rfl) (fun _ _ _ h => h) (Or.inl ⟨by rfl, ?_⟩) ?_ ?_
  rotate_left
  · intro w'
    go_simp
    with_reducible rfl
  rotate_left
  · simp only [Act.put, List.setIfInBounds_toArray, List.set_cons_zero, List.set_cons_succ, i64_w, i32_w]
    rfl
  refine pure_ (i := 15) (N := some 40) (v := ?_) (a' := ?_) #[true, true, true, true, true, true, true, true, true, true, true, true, true, true, true, true, false, false, false, false, false, false, false, false, false, false, false] rfl rfl (by kernel_rfl) (fun _ _ _ h => h) (Or.inl ⟨by rfl, ?_⟩) ?_ ?_
  rotate_left
  · intro w'
    go_simp
    with_reducible rfl
  rotate_left
  · simp only [Act.put, List.setIfInBounds_toArray, List.set_cons_zero, List.set_cons_succ, i64_w, i32_w]
    rfl
  refine take_ (i := 16) (N := some 41) (v := ?_) (a' := ?_) #[true, true, true, true, true, true, true, true, true, true, true, true, true, true, true, true, true, false, false, false, false, false, false, false, false, false, false] rfl rfl (by kernel_rfl) (fun _ _ _ h => h) (Or.inl ⟨by rfl, ?_⟩) hHeld ?_ ?_
  rotate_left
  · rintro w' ⟨s0, s1, s2, s3, s4, s5, s6, s7, s8, s9, s10, s11, s12, s13, s14, s15, s16, s17⟩
    go_simp
    with_reducible rfl
  rotate_left
  · simp only [Act.put, List.setIfInBounds_toArray, List.set_cons_zero, List.set_cons_succ, i64_w, i32_w]
    rfl
  refine pure_ (i := 17) (N := some 42) (v := ?_) (a' := ?_) #[true, true, true, true, true, true, true, true, true, true, true, true, true, true, true, true, true, true, false, false, false, false, false, false, false, false, false] rfl rfl (by kernel_rfl) (fun _ _ _ h => h) (Or.inl ⟨by rfl, ?_⟩) ?_ ?_
  rotate_left
  · intro w'
    go_simp
    with_reducible rfl
  rotate_left
  · simp only [Act.put, List.setIfInBounds_toArray, List.set_cons_zero, List.set_cons_succ, i64_w, i32_w]
    rfl
  refine pure_ (i := 18) (N := some 43) (v := ?_) (a' := ?_) #[true, true, true, true, true, true, true, true, true, true, true, true, true, true, true, true, true, true, true, false, false, false, false, false, false, false, false] rfl rfl (by kernel_rfl) (fun _ _ _ h => h) (Or.inl ⟨by rfl, ?_⟩) ?_ ?_
  rotate_left
  · intro w'
    go_simp
    with_reducible rfl
  rotate_left
  · simp only [Act.put, List.setIfInBounds_toArray, List.set_cons_zero, List.set_cons_succ, i64_w, i32_w]
    rfl
  refine take_ (i := 20) (N := some 45) (v := ?_) (a' := ?_) #[true, true, true, true, true, true, true, true, true, true, true, true, true, true, true, true, true, true, true, false, true, false, false, false, false, false, false] rfl rfl (by kernel_rfl) (fun _ _ _ h => h) (Or.inl ⟨by rfl, ?_⟩) hHeld ?_ ?_
  rotate_left
  · rintro w' ⟨s0, s1, s2, s3, s4, s5, s6, s7, s8, s9, s10, s11, s12, s13, s14, s15, s16, s17⟩
    go_simp
    with_reducible rfl
  rotate_left
  · simp only [Act.put, List.setIfInBounds_toArray, List.set_cons_zero, List.set_cons_succ, i64_w, i32_w]
    rfl
  refine pure_ (i := 21) (N := some 46) (v := ?_) (a' := ?_) #[true, true, true, true, true, true, true, true, true, true, true, true, true, true, true, true, true, true, true, false, true, true, false, false, false, false, false] rfl rfl (by kernel_rfl) (fun _ _ _ h => h) (Or.inl ⟨by rfl, ?_⟩) ?_ ?_
  rotate_left
  · intro w'
    go_simp
    with_reducible rfl
  rotate_left
  · simp only [Act.put, List.setIfInBounds_toArray, List.set_cons_zero, List.set_cons_succ, i64_w, i32_w]
    rfl
  refine pure_ (i := 22) (N := some 47) (v := ?_) (a' := ?_) #[true, true, true, true, true, true, true, true, true, true, true, true, true, true, true, true, true, true, true, false, true, true, true, false, false, false, false] rfl rfl (by kernel_rfl) (fun _ _ _ h => h) (Or.inl ⟨by rfl, ?_⟩) ?_ ?_
  rotate_left
  · intro w'
    go_simp
    with_reducible rfl
  rotate_left
  · simp only [Act.put, List.setIfInBounds_toArray, List.set_cons_zero, List.set_cons_succ, i64_w, i32_w]
    rfl
  refine one_ (i := 19) (N := some 44) #[true, true, true, true, true, true, true, true, true, true, true, true, true, true, true, true, true, true, true, true, true, true, true, false, false, false, false] rfl rfl (by kernel_rfl) (by decide) (fun K hK => ?_)
  refine goes_ Try.func15 (by kernel_rfl) rfl #[.agg #[.int .i64 s0, .int .i64 s1, .int .i64 s2, .int .i64 s3, .int .i64 s4, .int .i64 s5], .int .i64 e, .int .i64 r] (by rfl) rfl rfl (by (try simp only [List.map_toArray, List.map_cons, List.map_nil]); first | done | rfl) ?_
  with_reducible refine (C15.out _).mono ?_
  rintro e v3 ⟨rfl, hv3⟩
  refine ⟨_, rfl, ?_⟩
  refine hK.out _ _ ⟨cell_later hv3 hHeld.1, cell_later hv3 hHeld.2.1, cell_later hv3 hHeld.2.2.1, cell_later hv3 hHeld.2.2.2.1, cell_later hv3 hHeld.2.2.2.2.1, cell_later hv3 hHeld.2.2.2.2.2.1, cell_later hv3 hHeld.2.2.2.2.2.2.1, cell_later hv3 hHeld.2.2.2.2.2.2.2.1, cell_later hv3 hHeld.2.2.2.2.2.2.2.2.1, cell_later hv3 hHeld.2.2.2.2.2.2.2.2.2.1, cell_later hv3 hHeld.2.2.2.2.2.2.2.2.2.2.1, cell_later hv3 hHeld.2.2.2.2.2.2.2.2.2.2.2.1, cell_later hv3 hHeld.2.2.2.2.2.2.2.2.2.2.2.2.1, cell_later hv3 hHeld.2.2.2.2.2.2.2.2.2.2.2.2.2.1, cell_later hv3 hHeld.2.2.2.2.2.2.2.2.2.2.2.2.2.2.1, cell_later hv3 hHeld.2.2.2.2.2.2.2.2.2.2.2.2.2.2.2.1, cell_later hv3 hHeld.2.2.2.2.2.2.2.2.2.2.2.2.2.2.2.2.1, cell_later hv3 hHeld.2.2.2.2.2.2.2.2.2.2.2.2.2.2.2.2.2⟩ (fun hHeld => ?_)
  clear hK K
  refine norm_ (a' := ?_) ?_ ?_
  rotate_left
  · show Act.put _ (some 44) _ = _
    simp only [Act.put, List.setIfInBounds_toArray, List.set_cons_zero, List.set_cons_succ, i64_w, i32_w]
    rfl
  refine one_ (i := 23) (N := some 48) #[true, true, true, true, true, true, true, true, true, true, true, true, true, true, true, true, true, true, true, true, true, true, true, true, false, false, false] rfl rfl (by kernel_rfl) (by decide) (fun K hK => ?_)
  refine goes_ Try.func16 (by kernel_rfl) rfl #[.agg #[.int .i64 s0, .int .i64 s1, .int .i64 s2, .int .i64 s3, .int .i64 s4, .int .i64 s5], .int .i64 e, .int .i64 r] (by rfl) rfl rfl (by (try simp only [List.map_toArray, List.map_cons, List.map_nil]); first | done | rfl) ?_
  with_reducible refine (C16.out _).mono ?_
  rintro e v4 ⟨rfl, hv4⟩
  refine ⟨_, rfl, ?_⟩
  refine hK.out _ _ ⟨cell_later hv4 hHeld.1, cell_later hv4 hHeld.2.1, cell_later hv4 hHeld.2.2.1, cell_later hv4 hHeld.2.2.2.1, cell_later hv4 hHeld.2.2.2.2.1, cell_later hv4 hHeld.2.2.2.2.2.1, cell_later hv4 hHeld.2.2.2.2.2.2.1, cell_later hv4 hHeld.2.2.2.2.2.2.2.1, cell_later hv4 hHeld.2.2.2.2.2.2.2.2.1, cell_later hv4 hHeld.2.2.2.2.2.2.2.2.2.1, cell_later hv4 hHeld.2.2.2.2.2.2.2.2.2.2.1, cell_later hv4 hHeld.2.2.2.2.2.2.2.2.2.2.2.1, cell_later hv4 hHeld.2.2.2.2.2.2.2.2.2.2.2.2.1, cell_later hv4 hHeld.2.2.2.2.2.2.2.2.2.2.2.2.2.1, cell_later hv4 hHeld.2.2.2.2.2.2.2.2.2.2.2.2.2.2.1, cell_later hv4 hHeld.2.2.2.2.2.2.2.2.2.2.2.2.2.2.2.1, cell_later hv4 hHeld.2.2.2.2.2.2.2.2.2.2.2.2.2.2.2.2.1, cell_later hv4 hHeld.2.2.2.2.2.2.2.2.2.2.2.2.2.2.2.2.2⟩ (fun hHeld => ?_)
  clear hK K
  refine norm_ (a' := ?_) ?_ ?_
  rotate_left
  · show Act.put _ (some 48) _ = _
    simp only [Act.put, List.setIfInBounds_toArray, List.set_cons_zero, List.set_cons_succ, i64_w, i32_w]
    rfl
  refine pure_ (i := 24) (N := some 49) (v := ?_) (a' := ?_) #[true, true, true, true, true, true, true, true, true, true, true, true, true, true, true, true, true, true, true, true, true, true, true, true, true, false, false] rfl rfl (by kernel_rfl) (fun _ _ _ h => h) (Or.inl ⟨by rfl, ?_⟩) ?_ ?_
  rotate_left
  · intro w'
    go_simp
    with_reducible rfl
  rotate_left
  · simp only [Act.put, List.setIfInBounds_toArray, List.set_cons_zero, List.set_cons_succ, i64_w, i32_w]
    rfl
  refine pure_ (i := 25) (N := some 50) (v := ?_) (a' := ?_) #[true, true, true, true, true, true, true, true, true, true, true, true, true, true, true, true, true, true, true, true, true, true, true, true, true, true, false] rfl rfl (by kernel_rfl) (fun _ _ _ h => h) (Or.inl ⟨by rfl, ?_⟩) ?_ ?_
  rotate_left
  · intro w'
    go_simp
    with_reducible rfl
  rotate_left
  · simp only [Act.put, List.setIfInBounds_toArray, List.set_cons_zero, List.set_cons_succ, i64_w, i32_w]
    rfl
  refine pure_ (i := 26) (N := some 8) (v := ?_) (a' := ?_) #[true, true, true, true, true, true, true, true, true, true, true, true, true, true, true, true, true, true, true, true, true, true, true, true, true, true, true] rfl rfl (by kernel_rfl) (fun _ _ _ h => h) (Or.inl ⟨by rfl, ?_⟩) ?_ ?_
  rotate_left
  · intro w'
    go_simp
    with_reducible rfl
  rotate_left
  · simp only [Act.put, List.setIfInBounds_toArray, List.set_cons_zero, List.set_cons_succ, i64_w, i32_w]
    rfl
  refine done_ (by kernel_rfl) ?_
  go_wp2
  go_ret
  exact ⟨rfl, below_tr (show Below w.heap.size w W.drew from HB.out.drew) (below_tr hv1 (below_tr hv2 (below_tr hv3 hv4)))⟩
end Go.Proofs.Ytigobnphenhkjaa.Fns
