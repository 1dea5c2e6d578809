/- The methods lose and restart of *rank.world: one state is written. -/
import Derived.Test.YtigobnphenhkjaaWorld
namespace Go.Proofs.Ytigobnphenhkjaa.Fns
open Go.RowKit Go.Proofs.YtigobnphenhkjaaW.PrintWords Go.Proofs.YtigobnphenhkjaaW.PrintLast Go.Proofs.YtigobnphenhkjaaW.PrintMore
set_option linter.unusedVariables false
set_option linter.unusedSimpArgs false
theorem exec_store {P : Program} {w w1 : World} {a : Act} {o : Oper} {t : TypeId} {x y : Operand} {vx vy : Value} (ho : o.op = .store t x y) (hx : a.eval x = vx) (hy : a.eval y = vy)
    (h : (Instr.storeAt t vx vy).run P w = .ok () w1) : (execOp a.eval o).run P w = .ok .skip w1 := by
  unfold execOp
  simp [ho, hx, hy, h]
def evB (x : S50) : Obj := .cells #[.int .i64 x.f0, .int .i64 x.f1, .int .i64 x.f2, .int .i64 x.f3] 50
set_option maxRecDepth 100000 in
set_option maxHeartbeats 2000000 in
theorem lose_method (w : World) (base p g cap i : Nat) (cur : Array Value) (av : Value) (L : List S23) (M : List Adv) (x : S50) (s : S23)
    (hW : WI w base p g cap cur av L M) (hx : x.f1 = (i : Int)) (hs : L[i]? = some s) :
    Calls Try.prog 42 #[.pointer (some ⟨p, 0, none⟩), vE x] w fun e w' => e = .returned (.tuple #[]) ∧ WI w' base p g cap (nrow cur i (lose s)) av (L.set i (lose s)) M ∧ Fr base w w' := by
  have hi : i < L.length := (List.getElem?_eq_some_iff.1 hs).1
  have hu23 := Try.underlying23
  have hu50 := Try.underlying50
  have hu60 := Try.underlying60
  obtain ⟨k, nd, a3, a4⟩ := x
  obtain rfl : nd = (i : Int) := hx
  obtain ⟨s0, s1, s2, s3, s4, s5⟩ := hW.at hs
  have c0 := hW.cell0
  have HS := Aside0.mk hs
  have HW := Aside0.mk hW
  clear hs hW
  show Calls Try.prog 42 #[.pointer (some ⟨p, 0, none⟩), .agg #[.int .i64 k, .int .i64 (i : Int), .int .i64 a3, .int .i64 a4]] w _
  go_enter Try.func42, Try.ntmps42
  go_wp2
  have hw : Below w.heap.size w (w.alloc (.cells #[.int .i64 k, .int .i64 (i : Int), .int .i64 a3, .int .i64 a4] 50)) := (Below.refl _ _).alloc (Nat.le_refl _) _
  have c0' := cell_later hw c0
  have e1' : (w.alloc (.cells #[.int .i64 k, .int .i64 (i : Int), .int .i64 a3, .int .i64 a4] 50)).cell? ⟨w.heap.size, 1, none⟩ = some (.int .i64 (i : Int)) := by simp
  have s0' := cell_later hw s0
  have s1' := cell_later hw s1
  have s2' := cell_later hw s2
  have s3' := cell_later hw s3
  have s4' := cell_later hw s4
  have s5' := cell_later hw s5
  have HW2 := Aside0.mk ((HW.out.later hw).drew)
  have HF := Aside0.mk ((Fr.of_below (base := base) hw).drew)
  clear hw c0 s0 s1 s2 s3 s4 s5
  refine start_ (n := 17) (S := fun w' => (w'.cell? ⟨p, 0, none⟩ = some (.slice (some ⟨g, 0, none⟩) L.length cap)) ∧ (w'.cell? ⟨w.heap.size, 1, none⟩ = some (.int .i64 (i : Int))) ∧ (w'.cell? ⟨g, i * 6, none⟩ = some (.int .i64 s.f0)) ∧ (w'.cell? ⟨g, i * 6 + 1, none⟩ = some (.int .i64 s.f1)) ∧ (w'.cell? ⟨g, i * 6 + 2, none⟩ = some (.int .i64 s.f2)) ∧ (w'.cell? ⟨g, i * 6 + 3, none⟩ = some (.int .i64 s.f3)) ∧ (w'.cell? ⟨g, i * 6 + 4, none⟩ = some (.int .i64 s.f4)) ∧ (w'.cell? ⟨g, i * 6 + 5, none⟩ = some (.int .i64 s.f5))) (ds := [16]) #[false, false, false, false, false, false, false, false, false, false, false, false, false, false, false, false, false] (by kernel_rfl) rfl rfl ⟨c0', e1', s0', s1', s2', s3', s4', s5'⟩ (fun hHeld => ?_)
  refine pure_ (i := 0) (N := some 4) (v := ?_) (a' := ?_) #[true, false, false, false, false, false, false, false, false, false, false, false, false, false, false, false, false] rfl rfl (by kernel_rfl) (fun _ _ _ h => h) (Or.inl ⟨by rfl, ?_⟩) ?_ ?_
  rotate_left
  · intro w'
    go_simp
    with_reducible rfl
  rotate_left
  · simp only [Act.put, List.setIfInBounds_toArray, List.set_cons_zero, List.set_cons_succ, i64_w, i32_w]
    rfl
  refine pure_ (i := 1) (N := some 5) (v := ?_) (a' := ?_) #[true, true, false, false, false, false, false, false, false, false, false, false, false, false, false, false, false] rfl rfl (by kernel_rfl) (fun _ _ _ h => h) (Or.inl ⟨by rfl, ?_⟩) ?_ ?_
  rotate_left
  · intro w'
    go_simp
    with_reducible rfl
  rotate_left
  · simp only [Act.put, List.setIfInBounds_toArray, List.set_cons_zero, List.set_cons_succ, i64_w, i32_w]
    rfl
  refine pure_ (i := 2) (N := some 6) (v := ?_) (a' := ?_) #[true, true, true, false, false, false, false, false, false, false, false, false, false, false, false, false, false] rfl rfl (by kernel_rfl) (fun _ _ _ h => h) (Or.inl ⟨by rfl, ?_⟩) ?_ ?_
  rotate_left
  · intro w'
    go_simp
    with_reducible rfl
  rotate_left
  · simp only [Act.put, List.setIfInBounds_toArray, List.set_cons_zero, List.set_cons_succ, i64_w, i32_w]
    rfl
  refine take_ (i := 3) (N := some 7) (v := ?_) (a' := ?_) #[true, true, true, true, false, false, false, false, false, false, false, false, false, false, false, false, false] rfl rfl (by kernel_rfl) (fun _ _ _ h => h) (Or.inl ⟨by rfl, ?_⟩) hHeld ?_ ?_
  rotate_left
  · rintro w' ⟨s0, s1, s2, s3, s4, s5, s6, s7⟩
    go_simp
    with_reducible rfl
  rotate_left
  · simp only [Act.put, List.setIfInBounds_toArray, List.set_cons_zero, List.set_cons_succ, i64_w, i32_w]
    rfl
  refine pure_ (i := 4) (N := some 8) (v := ?_) (a' := ?_) #[true, true, true, true, true, false, false, false, false, false, false, false, false, false, false, false, false] rfl rfl (by kernel_rfl) (fun _ _ _ h => h) (Or.inl ⟨by rfl, ?_⟩) ?_ ?_
  rotate_left
  · intro w'
    go_simp
    with_reducible rfl
  rotate_left
  · simp only [Act.put, List.setIfInBounds_toArray, List.set_cons_zero, List.set_cons_succ, i64_w, i32_w]
    rfl
  refine take_ (i := 5) (N := some 9) (v := ?_) (a' := ?_) #[true, true, true, true, true, true, false, false, false, false, false, false, false, false, false, false, false] rfl rfl (by kernel_rfl) (fun _ _ _ h => h) (Or.inl ⟨by rfl, ?_⟩) hHeld ?_ ?_
  rotate_left
  · rintro w' ⟨s0, s1, s2, s3, s4, s5, s6, s7⟩
    go_simp
    with_reducible rfl
  rotate_left
  · simp only [Act.put, List.setIfInBounds_toArray, List.set_cons_zero, List.set_cons_succ, i64_w, i32_w]
    rfl
  refine pure_ (i := 6) (N := some 10) (v := ?_) (a' := ?_) #[true, true, true, true, true, true, true, false, false, false, false, false, false, false, false, false, false] rfl rfl (by kernel_rfl) (fun _ _ _ h => h) (Or.inl ⟨by rfl, ?_⟩) ?_ ?_
  rotate_left
  · intro w'
    go_simp
    with_reducible rfl
  rotate_left
  · simp only [Act.put, List.setIfInBounds_toArray, List.set_cons_zero, List.set_cons_succ, i64_w, i32_w]
    rfl
  refine pure_ (i := 7) (N := some 11) (v := ?_) (a' := ?_) #[true, true, true, true, true, true, true, true, false, false, false, false, false, false, false, false, false] rfl rfl (by kernel_rfl) (fun _ _ _ h => h) (Or.inl ⟨by rfl, ?_⟩) ?_ ?_
  rotate_left
  · intro w'
    go_simp
    with_reducible rfl
  rotate_left
  · simp only [Act.put, List.setIfInBounds_toArray, List.set_cons_zero, List.set_cons_succ, i64_w, i32_w]
    rfl
  refine pure_ (i := 8) (N := some 12) (v := ?_) (a' := ?_) #[true, true, true, true, true, true, true, true, true, false, false, false, false, false, false, false, false] rfl rfl (by kernel_rfl) (fun _ _ _ h => h) (Or.inl ⟨by rfl, ?_⟩) ?_ ?_
  rotate_left
  · intro w'
    go_simp
    with_reducible rfl
  rotate_left
  · simp only [Act.put, List.setIfInBounds_toArray, List.set_cons_zero, List.set_cons_succ, i64_w, i32_w]
    rfl
  refine take_ (i := 9) (N := some 13) (v := ?_) (a' := ?_) #[true, true, true, true, true, true, true, true, true, true, false, false, false, false, false, false, false] rfl rfl (by kernel_rfl) (fun _ _ _ h => h) (Or.inl ⟨by rfl, ?_⟩) hHeld ?_ ?_
  rotate_left
  · rintro w' ⟨s0, s1, s2, s3, s4, s5, s6, s7⟩
    go_simp
    with_reducible rfl
  rotate_left
  · simp only [Act.put, List.setIfInBounds_toArray, List.set_cons_zero, List.set_cons_succ, i64_w, i32_w]
    rfl
  refine pure_ (i := 10) (N := some 14) (v := ?_) (a' := ?_) #[true, true, true, true, true, true, true, true, true, true, true, false, false, false, false, false, false] rfl rfl (by kernel_rfl) (fun _ _ _ h => h) (Or.inl ⟨by rfl, ?_⟩) ?_ ?_
  rotate_left
  · intro w'
    go_simp
    with_reducible rfl
  rotate_left
  · simp only [Act.put, List.setIfInBounds_toArray, List.set_cons_zero, List.set_cons_succ, i64_w, i32_w]
    rfl
  refine take_ (i := 11) (N := some 15) (v := ?_) (a' := ?_) #[true, true, true, true, true, true, true, true, true, true, true, true, false, false, false, false, false] rfl rfl (by kernel_rfl) (fun _ _ _ h => h) (Or.inl ⟨by rfl, ?_⟩) hHeld ?_ ?_
  rotate_left
  · rintro w' ⟨s0, s1, s2, s3, s4, s5, s6, s7⟩
    go_simp
    with_reducible rfl
  rotate_left
  · simp only [Act.put, List.setIfInBounds_toArray, List.set_cons_zero, List.set_cons_succ, i64_w, i32_w]
    rfl
  refine pure_ (i := 12) (N := some 16) (v := ?_) (a' := ?_) #[true, true, true, true, true, true, true, true, true, true, true, true, true, false, false, false, false] rfl rfl (by kernel_rfl) (fun _ _ _ h => h) (Or.inl ⟨by rfl, ?_⟩) ?_ ?_
  rotate_left
  · intro w'
    go_simp
    with_reducible rfl
  rotate_left
  · simp only [Act.put, List.setIfInBounds_toArray, List.set_cons_zero, List.set_cons_succ, i64_w, i32_w]
    rfl
  refine take_ (i := 13) (N := some 17) (v := ?_) (a' := ?_) #[true, true, true, true, true, true, true, true, true, true, true, true, true, true, false, false, false] rfl rfl (by kernel_rfl) (fun _ _ _ h => h) (Or.inl ⟨by rfl, ?_⟩) hHeld ?_ ?_
  rotate_left
  · rintro w' ⟨s0, s1, s2, s3, s4, s5, s6, s7⟩
    go_simp
    with_reducible rfl
  rotate_left
  · simp only [Act.put, List.setIfInBounds_toArray, List.set_cons_zero, List.set_cons_succ, i64_w, i32_w]
    rfl
  refine one_ (i := 14) (N := some 18) #[true, true, true, true, true, true, true, true, true, true, true, true, true, true, true, false, false] rfl rfl (by kernel_rfl) (by decide) (fun K hK => ?_)
  refine goes_ Try.func25 (by kernel_rfl) rfl #[vS s] (by rfl) rfl rfl (by (try simp only [List.map_toArray, List.map_cons, List.map_nil]); first | done | rfl) ?_
  with_reducible refine (lose_calls s _).mono ?_
  rintro e w1 ⟨rfl, hb1⟩
  refine ⟨_, rfl, ?_⟩
  refine hK.out _ _ ⟨cell_later hb1 hHeld.1, cell_later hb1 hHeld.2.1, cell_later hb1 hHeld.2.2.1, cell_later hb1 hHeld.2.2.2.1, cell_later hb1 hHeld.2.2.2.2.1, cell_later hb1 hHeld.2.2.2.2.2.1, cell_later hb1 hHeld.2.2.2.2.2.2.1, cell_later hb1 hHeld.2.2.2.2.2.2.2⟩ (fun hHeld => ?_)
  clear hK K
  refine norm_ (a' := ?_) ?_ ?_
  rotate_left
  · show Act.put _ (some 18) _ = _
    simp only [Act.put, List.setIfInBounds_toArray, List.set_cons_zero, List.set_cons_succ, i64_w, i32_w]
    rfl
  refine pure_ (i := 15) (N := some 19) (v := ?_) (a' := ?_) #[true, true, true, true, true, true, true, true, true, true, true, true, true, true, true, true, false] rfl rfl (by kernel_rfl) (fun _ _ _ h => h) (Or.inl ⟨by rfl, ?_⟩) ?_ ?_
  rotate_left
  · intro w'
    go_simp
    with_reducible rfl
  rotate_left
  · simp only [Act.put, List.setIfInBounds_toArray, List.set_cons_zero, List.set_cons_succ, i64_w, i32_w]
    rfl
  refine last_ (i := 16) (N := none) #[true, true, true, true, true, true, true, true, true, true, true, true, true, true, true, true, true] rfl rfl (by kernel_rfl) (by decide) (fun K hK => ?_)
  refine skip_ (by rfl) rfl (exec_store (vx := .pointer (some ⟨g, i * 6, none⟩)) (vy := vS (lose s)) rfl (by rfl) (by rfl) ((HW2.out.later hb1).run_store hi (lose s))) ?_
  refine hK.out _ _ ?_
  clear hK K
  refine done_ (by kernel_rfl) ?_
  go_end0
  exact ⟨rfl, (HW2.out.later hb1).store hi (lose s), (HF.out.trans (Fr.of_below hb1)).trans ((HW2.out.later hb1).frame i (lose s))⟩
set_option maxRecDepth 100000 in
set_option maxHeartbeats 2000000 in
theorem restart_method (w : World) (base p g cap i : Nat) (cur : Array Value) (av : Value) (L : List S23) (M : List Adv) (x : S50) (s : S23)
    (hW : WI w base p g cap cur av L M) (hx : x.f1 = (i : Int)) (hs : L[i]? = some s) :
    Calls Try.prog 43 #[.pointer (some ⟨p, 0, none⟩), vE x] w fun e w' => e = .returned (.tuple #[]) ∧ WI w' base p g cap (nrow cur i (lose s)) av (L.set i (lose s)) M ∧ Fr base w w' := by
  have hi : i < L.length := (List.getElem?_eq_some_iff.1 hs).1
  have hu23 := Try.underlying23
  have hu50 := Try.underlying50
  have hu60 := Try.underlying60
  obtain ⟨k, nd, a3, a4⟩ := x
  obtain rfl : nd = (i : Int) := hx
  obtain ⟨s0, s1, s2, s3, s4, s5⟩ := hW.at hs
  have c0 := hW.cell0
  have HS := Aside0.mk hs
  have HW := Aside0.mk hW
  clear hs hW
  show Calls Try.prog 43 #[.pointer (some ⟨p, 0, none⟩), .agg #[.int .i64 k, .int .i64 (i : Int), .int .i64 a3, .int .i64 a4]] w _
  go_enter Try.func43, Try.ntmps43
  go_wp2
  have hw : Below w.heap.size w (w.alloc (.cells #[.int .i64 k, .int .i64 (i : Int), .int .i64 a3, .int .i64 a4] 50)) := (Below.refl _ _).alloc (Nat.le_refl _) _
  have c0' := cell_later hw c0
  have e1' : (w.alloc (.cells #[.int .i64 k, .int .i64 (i : Int), .int .i64 a3, .int .i64 a4] 50)).cell? ⟨w.heap.size, 1, none⟩ = some (.int .i64 (i : Int)) := by simp
  have s0' := cell_later hw s0
  have s1' := cell_later hw s1
  have s2' := cell_later hw s2
  have s3' := cell_later hw s3
  have s4' := cell_later hw s4
  have s5' := cell_later hw s5
  have HW2 := Aside0.mk ((HW.out.later hw).drew)
  have HF := Aside0.mk ((Fr.of_below (base := base) hw).drew)
  clear hw c0 s0 s1 s2 s3 s4 s5
  refine start_ (n := 17) (S := fun w' => (w'.cell? ⟨p, 0, none⟩ = some (.slice (some ⟨g, 0, none⟩) L.length cap)) ∧ (w'.cell? ⟨w.heap.size, 1, none⟩ = some (.int .i64 (i : Int))) ∧ (w'.cell? ⟨g, i * 6, none⟩ = some (.int .i64 s.f0)) ∧ (w'.cell? ⟨g, i * 6 + 1, none⟩ = some (.int .i64 s.f1)) ∧ (w'.cell? ⟨g, i * 6 + 2, none⟩ = some (.int .i64 s.f2)) ∧ (w'.cell? ⟨g, i * 6 + 3, none⟩ = some (.int .i64 s.f3)) ∧ (w'.cell? ⟨g, i * 6 + 4, none⟩ = some (.int .i64 s.f4)) ∧ (w'.cell? ⟨g, i * 6 + 5, none⟩ = some (.int .i64 s.f5))) (ds := [16]) #[false, false, false, false, false, false, false, false, false, false, false, false, false, false, false, false, false] (by kernel_rfl) rfl rfl ⟨c0', e1', s0', s1', s2', s3', s4', s5'⟩ (fun hHeld => ?_)
  refine pure_ (i := 0) (N := some 4) (v := ?_) (a' := ?_) #[true, false, false, false, false, false, false, false, false, false, false, false, false, false, false, false, false] rfl rfl (by kernel_rfl) (fun _ _ _ h => h) (Or.inl ⟨by rfl, ?_⟩) ?_ ?_
  rotate_left
  · intro w'
    go_simp
    with_reducible rfl
  rotate_left
  · simp only [Act.put, List.setIfInBounds_toArray, List.set_cons_zero, List.set_cons_succ, i64_w, i32_w]
    rfl
  refine pure_ (i := 1) (N := some 5) (v := ?_) (a' := ?_) #[true, true, false, false, false, false, false, false, false, false, false, false, false, false, false, false, false] rfl rfl (by kernel_rfl) (fun _ _ _ h => h) (Or.inl ⟨by rfl, ?_⟩) ?_ ?_
  rotate_left
  · intro w'
    go_simp
    with_reducible rfl
  rotate_left
  · simp only [Act.put, List.setIfInBounds_toArray, List.set_cons_zero, List.set_cons_succ, i64_w, i32_w]
    rfl
  refine pure_ (i := 2) (N := some 6) (v := ?_) (a' := ?_) #[true, true, true, false, false, false, false, false, false, false, false, false, false, false, false, false, false] rfl rfl (by kernel_rfl) (fun _ _ _ h => h) (Or.inl ⟨by rfl, ?_⟩) ?_ ?_
  rotate_left
  · intro w'
    go_simp
    with_reducible rfl
  rotate_left
  · simp only [Act.put, List.setIfInBounds_toArray, List.set_cons_zero, List.set_cons_succ, i64_w, i32_w]
    rfl
  refine take_ (i := 3) (N := some 7) (v := ?_) (a' := ?_) #[true, true, true, true, false, false, false, false, false, false, false, false, false, false, false, false, false] rfl rfl (by kernel_rfl) (fun _ _ _ h => h) (Or.inl ⟨by rfl, ?_⟩) hHeld ?_ ?_
  rotate_left
  · rintro w' ⟨s0, s1, s2, s3, s4, s5, s6, s7⟩
    go_simp
    with_reducible rfl
  rotate_left
  · simp only [Act.put, List.setIfInBounds_toArray, List.set_cons_zero, List.set_cons_succ, i64_w, i32_w]
    rfl
  refine pure_ (i := 4) (N := some 8) (v := ?_) (a' := ?_) #[true, true, true, true, true, false, false, false, false, false, false, false, false, false, false, false, false] rfl rfl (by kernel_rfl) (fun _ _ _ h => h) (Or.inl ⟨by rfl, ?_⟩) ?_ ?_
  rotate_left
  · intro w'
    go_simp
    with_reducible rfl
  rotate_left
  · simp only [Act.put, List.setIfInBounds_toArray, List.set_cons_zero, List.set_cons_succ, i64_w, i32_w]
    rfl
  refine take_ (i := 5) (N := some 9) (v := ?_) (a' := ?_) #[true, true, true, true, true, true, false, false, false, false, false, false, false, false, false, false, false] rfl rfl (by kernel_rfl) (fun _ _ _ h => h) (Or.inl ⟨by rfl, ?_⟩) hHeld ?_ ?_
  rotate_left
  · rintro w' ⟨s0, s1, s2, s3, s4, s5, s6, s7⟩
    go_simp
    with_reducible rfl
  rotate_left
  · simp only [Act.put, List.setIfInBounds_toArray, List.set_cons_zero, List.set_cons_succ, i64_w, i32_w]
    rfl
  refine pure_ (i := 6) (N := some 10) (v := ?_) (a' := ?_) #[true, true, true, true, true, true, true, false, false, false, false, false, false, false, false, false, false] rfl rfl (by kernel_rfl) (fun _ _ _ h => h) (Or.inl ⟨by rfl, ?_⟩) ?_ ?_
  rotate_left
  · intro w'
    go_simp
    with_reducible rfl
  rotate_left
  · simp only [Act.put, List.setIfInBounds_toArray, List.set_cons_zero, List.set_cons_succ, i64_w, i32_w]
    rfl
  refine pure_ (i := 7) (N := some 11) (v := ?_) (a' := ?_) #[true, true, true, true, true, true, true, true, false, false, false, false, false, false, false, false, false] rfl rfl (by kernel_rfl) (fun _ _ _ h => h) (Or.inl ⟨by rfl, ?_⟩) ?_ ?_
  rotate_left
  · intro w'
    go_simp
    with_reducible rfl
  rotate_left
  · simp only [Act.put, List.setIfInBounds_toArray, List.set_cons_zero, List.set_cons_succ, i64_w, i32_w]
    rfl
  refine pure_ (i := 8) (N := some 12) (v := ?_) (a' := ?_) #[true, true, true, true, true, true, true, true, true, false, false, false, false, false, false, false, false] rfl rfl (by kernel_rfl) (fun _ _ _ h => h) (Or.inl ⟨by rfl, ?_⟩) ?_ ?_
  rotate_left
  · intro w'
    go_simp
    with_reducible rfl
  rotate_left
  · simp only [Act.put, List.setIfInBounds_toArray, List.set_cons_zero, List.set_cons_succ, i64_w, i32_w]
    rfl
  refine take_ (i := 9) (N := some 13) (v := ?_) (a' := ?_) #[true, true, true, true, true, true, true, true, true, true, false, false, false, false, false, false, false] rfl rfl (by kernel_rfl) (fun _ _ _ h => h) (Or.inl ⟨by rfl, ?_⟩) hHeld ?_ ?_
  rotate_left
  · rintro w' ⟨s0, s1, s2, s3, s4, s5, s6, s7⟩
    go_simp
    with_reducible rfl
  rotate_left
  · simp only [Act.put, List.setIfInBounds_toArray, List.set_cons_zero, List.set_cons_succ, i64_w, i32_w]
    rfl
  refine pure_ (i := 10) (N := some 14) (v := ?_) (a' := ?_) #[true, true, true, true, true, true, true, true, true, true, true, false, false, false, false, false, false] rfl rfl (by kernel_rfl) (fun _ _ _ h => h) (Or.inl ⟨by rfl, ?_⟩) ?_ ?_
  rotate_left
  · intro w'
    go_simp
    with_reducible rfl
  rotate_left
  · simp only [Act.put, List.setIfInBounds_toArray, List.set_cons_zero, List.set_cons_succ, i64_w, i32_w]
    rfl
  refine take_ (i := 11) (N := some 15) (v := ?_) (a' := ?_) #[true, true, true, true, true, true, true, true, true, true, true, true, false, false, false, false, false] rfl rfl (by kernel_rfl) (fun _ _ _ h => h) (Or.inl ⟨by rfl, ?_⟩) hHeld ?_ ?_
  rotate_left
  · rintro w' ⟨s0, s1, s2, s3, s4, s5, s6, s7⟩
    go_simp
    with_reducible rfl
  rotate_left
  · simp only [Act.put, List.setIfInBounds_toArray, List.set_cons_zero, List.set_cons_succ, i64_w, i32_w]
    rfl
  refine pure_ (i := 12) (N := some 16) (v := ?_) (a' := ?_) #[true, true, true, true, true, true, true, true, true, true, true, true, true, false, false, false, false] rfl rfl (by kernel_rfl) (fun _ _ _ h => h) (Or.inl ⟨by rfl, ?_⟩) ?_ ?_
  rotate_left
  · intro w'
    go_simp
    with_reducible rfl
  rotate_left
  · simp only [Act.put, List.setIfInBounds_toArray, List.set_cons_zero, List.set_cons_succ, i64_w, i32_w]
    rfl
  refine take_ (i := 13) (N := some 17) (v := ?_) (a' := ?_) #[true, true, true, true, true, true, true, true, true, true, true, true, true, true, false, false, false] rfl rfl (by kernel_rfl) (fun _ _ _ h => h) (Or.inl ⟨by rfl, ?_⟩) hHeld ?_ ?_
  rotate_left
  · rintro w' ⟨s0, s1, s2, s3, s4, s5, s6, s7⟩
    go_simp
    with_reducible rfl
  rotate_left
  · simp only [Act.put, List.setIfInBounds_toArray, List.set_cons_zero, List.set_cons_succ, i64_w, i32_w]
    rfl
  refine one_ (i := 14) (N := some 18) #[true, true, true, true, true, true, true, true, true, true, true, true, true, true, true, false, false] rfl rfl (by kernel_rfl) (by decide) (fun K hK => ?_)
  refine goes_ Try.func27 (by kernel_rfl) rfl #[vS s] (by rfl) rfl rfl (by (try simp only [List.map_toArray, List.map_cons, List.map_nil]); first | done | rfl) ?_
  with_reducible refine (restart_calls s _).mono ?_
  rintro e w1 ⟨rfl, hb1⟩
  refine ⟨_, rfl, ?_⟩
  refine hK.out _ _ ⟨cell_later hb1 hHeld.1, cell_later hb1 hHeld.2.1, cell_later hb1 hHeld.2.2.1, cell_later hb1 hHeld.2.2.2.1, cell_later hb1 hHeld.2.2.2.2.1, cell_later hb1 hHeld.2.2.2.2.2.1, cell_later hb1 hHeld.2.2.2.2.2.2.1, cell_later hb1 hHeld.2.2.2.2.2.2.2⟩ (fun hHeld => ?_)
  clear hK K
  refine norm_ (a' := ?_) ?_ ?_
  rotate_left
  · show Act.put _ (some 18) _ = _
    simp only [Act.put, List.setIfInBounds_toArray, List.set_cons_zero, List.set_cons_succ, i64_w, i32_w]
    rfl
  refine pure_ (i := 15) (N := some 19) (v := ?_) (a' := ?_) #[true, true, true, true, true, true, true, true, true, true, true, true, true, true, true, true, false] rfl rfl (by kernel_rfl) (fun _ _ _ h => h) (Or.inl ⟨by rfl, ?_⟩) ?_ ?_
  rotate_left
  · intro w'
    go_simp
    with_reducible rfl
  rotate_left
  · simp only [Act.put, List.setIfInBounds_toArray, List.set_cons_zero, List.set_cons_succ, i64_w, i32_w]
    rfl
  refine last_ (i := 16) (N := none) #[true, true, true, true, true, true, true, true, true, true, true, true, true, true, true, true, true] rfl rfl (by kernel_rfl) (by decide) (fun K hK => ?_)
  refine skip_ (by rfl) rfl (exec_store (vx := .pointer (some ⟨g, i * 6, none⟩)) (vy := vS (lose s)) rfl (by rfl) (by rfl) ((HW2.out.later hb1).run_store hi (lose s))) ?_
  refine hK.out _ _ ?_
  clear hK K
  refine done_ (by kernel_rfl) ?_
  go_end0
  exact ⟨rfl, (HW2.out.later hb1).store hi (lose s), (HF.out.trans (Fr.of_below hb1)).trans ((HW2.out.later hb1).frame i (lose s))⟩
end Go.Proofs.Ytigobnphenhkjaa.Fns
