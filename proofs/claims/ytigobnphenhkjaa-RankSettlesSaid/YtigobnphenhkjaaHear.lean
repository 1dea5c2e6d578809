/- The method hear of *rank.world. -/
import Derived.Test.YtigobnphenhkjaaAdvert
namespace Go.Proofs.Ytigobnphenhkjaa.Fns
open Go.RowKit Go.Proofs.YtigobnphenhkjaaW.PrintWords Go.Proofs.YtigobnphenhkjaaW.PrintLast Go.Proofs.YtigobnphenhkjaaW.PrintMore
set_option linter.unusedVariables false
set_option linter.unusedSimpArgs false
def vA (a : Adv) : Value := .agg #[.int .i64 a.src, .int .i64 a.ep, .int .i64 a.rk]
def zA : Obj := .cells #[.int .i64 0, .int .i64 0, .int .i64 0] 69
theorem run_store69_box {w : World} {g : Nat} {cur : Array Value} (hg : w.heap[g]? = some (.cells cur 69 (0, 0))) (hi : cur.size = 3) (a : Adv) :
    (Instr.storeAt 69 (.pointer (some ⟨g, 0, none⟩)) (vA a)).run Try.prog w = .ok () (w.setRow g (cA a).toArray) := by
  have h := run_storeCells_at Try.prog g 0 69 (cA a) 0 cur w hg (by simp [cA]; omega) (by simp [cA, Value.oneCell'])
  have hu := Try.underlying69
  have hz : (sizeOf 69).run Try.prog w = .ok 3 w := by
    obtain ⟨i0, hi0, _, hs, _⟩ := info_parts info69
    simp [sizeOf, typeInfo, hi0, hs]
  simp only [Instr.storeAt, Instr.sureAddr, vA, storeVar, Sem.run_bind, Sem.run_pure, Result.andThen_ok, hz, Value.cells]
  have hd : List.drop 3 cur.toList = [] := List.drop_of_length_le (by simp [hi])
  simpa [cA, hd] using h
theorem adopt_calls' (s : S23) (fr e r c : Int) (w : World) : Calls Try.prog 17 #[.agg #[.int .i64 s.f0, .int .i64 s.f1, .int .i64 s.f2, .int .i64 s.f3, .int .i64 s.f4, .int .i64 s.f5], .int .i64 fr, .int .i64 e, .int .i64 r, .int .i64 c] w fun en w' => en = .returned (.tuple #[.agg #[.int .i64 (adopt s fr e r c).1.f0, .int .i64 (adopt s fr e r c).1.f1, .int .i64 (adopt s fr e r c).1.f2, .int .i64 (adopt s fr e r c).1.f3, .int .i64 (adopt s fr e r c).1.f4, .int .i64 (adopt s fr e r c).1.f5], .int .i64 (adopt s fr e r c).2]) ∧ Below w.heap.size w w' :=
  adopt_calls s fr e r c w
/-- What a node becomes that hears advertisement a over a link of cost c. -/
def hearS (a : Adv) (c : Int) (i : Int) (s : S23) : S23 :=
  if a.src = i then s
  else if a.src = s.f2 then (update s a.ep a.rk c).1
  else if (adopt s a.src a.ep a.rk c).2 = 0 ∧ (s.f2 = -1 ∨ a.ep > s.f1 ∨ a.rk + c < s.f4) then (adopt s a.src a.ep a.rk c).1 else s
theorem adopt_ok_ranges {s : S23} {fr e r c : Int} (h : (adopt s fr e r c).2 = 0) : (0 ≤ r ∧ r ≤ 65534) ∧ (1 ≤ c ∧ c ≤ 1023) := by
  unfold adopt at h
  split at h
  · simp at h
  · split at h
    · simp at h
    · rename_i _ h2
      have h3 := Decidable.not_not.1 h2
      exact ⟨h3.2.2.1.2, h3.2.2.2⟩
/-- The advertisement's cells. -/
theorem said_row {w : World} {base p g cap : Nat} {cur : Array Value} {av : Value} {L : List S23} {M : List Adv} (h : WI w base p g cap cur av L M) (hm : 0 < M.length) :
    ∃ ga ca cua, av = .slice (some ⟨ga, 0, none⟩) M.length ca ∧ IsRow w 69 3 ga M.length ca (flat cA M) cua := by
  obtain ⟨ga, ca, cua, h1, _, h2⟩ := own_row h.said hm
  exact ⟨ga, ca, cua, h1, h2⟩
set_option maxRecDepth 100000 in
set_option maxHeartbeats 4000000 in
theorem hear_method (w : World) (base p : Nat) (L : List S23) (M : List Adv) (x : S50) (i j : Nat) (s : S23) (a : Adv) (hbw : base ≤ w.heap.size)
    (hX : WX w base p L M) (hx : x.f1 = (i : Int)) (hs : L[i]? = some s) (ha : M[j]? = some a) (hj : x.f2.tmod (M.length : Int) = (j : Int)) (hml : M.length ≤ 100000) :
    Calls Try.prog 41 #[.pointer (some ⟨p, 0, none⟩), vE x] w fun e w' => e = .returned (.tuple #[]) ∧ WX w' base p (L.set i (hearS a x.f3 i s)) M ∧ Fr base w w' := by
  obtain ⟨g, cap, cur, av, hW⟩ := hX
  have hi : i < L.length := (List.getElem?_eq_some_iff.1 hs).1
  have hjl : j < M.length := (List.getElem?_eq_some_iff.1 ha).1
  have hu23 := Try.underlying23
  have hu50 := Try.underlying50
  have hu60 := Try.underlying60
  have hu69 := Try.underlying69
  obtain ⟨k, nd, wh, cost⟩ := x
  obtain rfl : nd = (i : Int) := hx
  obtain ⟨ga, ca, cua, rfl, hrow⟩ := said_row hW (by omega)
  obtain ⟨s0, s1, s2, s3, s4, s5⟩ := hW.at hs
  have a0 : w.cell? ⟨ga, j * 3, none⟩ = some (.int .i64 a.src) := hrow.cell (flat_get cA_length M j 0 a _ ha rfl)
  have a1 : w.cell? ⟨ga, j * 3 + 1, none⟩ = some (.int .i64 a.ep) := hrow.cell (flat_get cA_length M j 1 a _ ha rfl)
  have a2 : w.cell? ⟨ga, j * 3 + 2, none⟩ = some (.int .i64 a.rk) := hrow.cell (flat_get cA_length M j 2 a _ ha rfl)
  have c0 := hW.cell0
  have c1 := hW.cell1
  have HS := Aside0.mk hs
  have HW := Aside0.mk hW
  have hm0 : ((M.length : Int) == 0) = false := beq_eq_false_iff_ne.2 (by omega)
  have hm1 : ¬ (M.length : Int) = 0 := by omega
  have hmn : ¬ M = [] := by rintro rfl; simp at hjl
  have hj' : wh.tmod (M.length : Int) = (j : Int) := hj
  have HJ := Aside0.mk hj
  clear hs hW hj hrow ha
  show Calls Try.prog 41 #[.pointer (some ⟨p, 0, none⟩), .agg #[.int .i64 k, .int .i64 (i : Int), .int .i64 wh, .int .i64 cost]] w _
  go_enter Try.func41, Try.ntmps41
  have hw : Below w.heap.size w (w.alloc (.cells #[.int .i64 k, .int .i64 (i : Int), .int .i64 wh, .int .i64 cost] 50)) := (Below.refl _ _).alloc (Nat.le_refl _) _
  have c0' := cell_later hw c0
  have c1' := cell_later hw c1
  have s0' := cell_later hw s0
  have s1' := cell_later hw s1
  have s2' := cell_later hw s2
  have s3' := cell_later hw s3
  have s4' := cell_later hw s4
  have s5' := cell_later hw s5
  have a0' := cell_later hw a0
  have a1' := cell_later hw a1
  have a2' := cell_later hw a2
  have HW2 := Aside0.mk ((HW.out.later hw).drew)
  have HF := Aside0.mk ((Fr.of_below (base := base) hw).drew)
  have HEB := Aside0.mk (show (w.alloc (.cells #[.int .i64 k, .int .i64 (i : Int), .int .i64 wh, .int .i64 cost] 50)).drew.heap[w.heap.size]? = some (.cells #[.int .i64 k, .int .i64 (i : Int), .int .i64 wh, .int .i64 cost] 50 (0, 0)) from heap_alloc_new w _)
  clear hw c0 c1 s0 s1 s2 s3 s4 s5 a0 a1 a2
  go_wp2
  have e1' : (w.alloc (.cells #[.int .i64 k, .int .i64 (i : Int), .int .i64 wh, .int .i64 cost] 50)).cell? ⟨w.heap.size, 1, none⟩ = some (.int .i64 (i : Int)) := by simp
  have e2' : (w.alloc (.cells #[.int .i64 k, .int .i64 (i : Int), .int .i64 wh, .int .i64 cost] 50)).cell? ⟨w.heap.size, 2, none⟩ = some (.int .i64 wh) := by simp
  refine start_ (n := 26) (S := fun w' => (w'.cell? ⟨p, 0, none⟩ = some (.slice (some ⟨g, 0, none⟩) L.length cap)) ∧ (w'.cell? ⟨p, 1, none⟩ = some (.slice (some ⟨ga, 0, none⟩) M.length ca)) ∧ (w'.cell? ⟨w.heap.size, 1, none⟩ = some (.int .i64 (i : Int))) ∧ (w'.cell? ⟨w.heap.size, 2, none⟩ = some (.int .i64 wh)) ∧ (w'.cell? ⟨g, i * 6, none⟩ = some (.int .i64 s.f0)) ∧ (w'.cell? ⟨g, i * 6 + 1, none⟩ = some (.int .i64 s.f1)) ∧ (w'.cell? ⟨g, i * 6 + 2, none⟩ = some (.int .i64 s.f2)) ∧ (w'.cell? ⟨g, i * 6 + 3, none⟩ = some (.int .i64 s.f3)) ∧ (w'.cell? ⟨g, i * 6 + 4, none⟩ = some (.int .i64 s.f4)) ∧ (w'.cell? ⟨g, i * 6 + 5, none⟩ = some (.int .i64 s.f5)) ∧ (w'.cell? ⟨ga, j * 3, none⟩ = some (.int .i64 a.src)) ∧ (w'.cell? ⟨ga, j * 3 + 1, none⟩ = some (.int .i64 a.ep)) ∧ (w'.cell? ⟨ga, j * 3 + 2, none⟩ = some (.int .i64 a.rk))) (ds := [25]) #[false, false, false, false, false, false, false, false, false, false, false, false, false, false, false, false, false, false, false, false, false, false, false, false, false, false] (by kernel_rfl) rfl rfl ⟨c0', c1', e1', e2', s0', s1', s2', s3', s4', s5', a0', a1', a2'⟩ (fun hHeld => ?_)
  generalize (w.alloc (.cells #[.int .i64 k, .int .i64 (i : Int), .int .i64 wh, .int .i64 cost] 50)).drew = W at HW2 HF HEB hHeld ⊢
  refine pure_ (i := 0) (N := some 14) (v := ?_) (a' := ?_) #[true, false, false, false, false, false, false, false, false, false, false, false, false, false, false, false, false, false, false, false, false, false, false, false, false, false] rfl rfl (by kernel_rfl) (fun _ _ _ h => h) (Or.inl ⟨by rfl, ?_⟩) ?_ ?_
  rotate_left
  · intro w'
    go_simp
    with_reducible rfl
  rotate_left
  · simp only [Act.put, List.setIfInBounds_toArray, List.set_cons_zero, List.set_cons_succ, i64_w, i32_w]
    rfl
  refine pure_ (i := 1) (N := some 15) (v := ?_) (a' := ?_) #[true, true, false, false, false, false, false, false, false, false, false, false, false, false, false, false, false, false, false, false, false, false, false, false, false, false] rfl rfl (by kernel_rfl) (fun _ _ _ h => h) (Or.inl ⟨by rfl, ?_⟩) ?_ ?_
  rotate_left
  · intro w'
    go_simp
    with_reducible rfl
  rotate_left
  · simp only [Act.put, List.setIfInBounds_toArray, List.set_cons_zero, List.set_cons_succ, i64_w, i32_w]
    rfl
  refine pure_ (i := 2) (N := some 16) (v := ?_) (a' := ?_) #[true, true, true, false, false, false, false, false, false, false, false, false, false, false, false, false, false, false, false, false, false, false, false, false, false, false] rfl rfl (by kernel_rfl) (fun _ _ _ h => h) (Or.inl ⟨by rfl, ?_⟩) ?_ ?_
  rotate_left
  · intro w'
    go_simp
    with_reducible rfl
  rotate_left
  · simp only [Act.put, List.setIfInBounds_toArray, List.set_cons_zero, List.set_cons_succ, i64_w, i32_w]
    rfl
  refine take_ (i := 3) (N := some 17) (v := ?_) (a' := ?_) #[true, true, true, true, false, false, false, false, false, false, false, false, false, false, false, false, false, false, false, false, false, false, false, false, false, false] rfl rfl (by kernel_rfl) (fun _ _ _ h => h) (Or.inl ⟨by rfl, ?_⟩) hHeld ?_ ?_
  rotate_left
  · rintro w' ⟨s0, s1, s2, s3, s4, s5, s6, s7, s8, s9, s10, s11, s12⟩
    go_simp
    with_reducible rfl
  rotate_left
  · simp only [Act.put, List.setIfInBounds_toArray, List.set_cons_zero, List.set_cons_succ, i64_w, i32_w]
    rfl
  refine pure_ (i := 4) (N := some 18) (v := ?_) (a' := ?_) #[true, true, true, true, true, false, false, false, false, false, false, false, false, false, false, false, false, false, false, false, false, false, false, false, false, false] rfl rfl (by kernel_rfl) (fun _ _ _ h => h) (Or.inl ⟨by rfl, ?_⟩) ?_ ?_
  rotate_left
  · intro w'
    go_simp
    with_reducible rfl
  rotate_left
  · simp only [Act.put, List.setIfInBounds_toArray, List.set_cons_zero, List.set_cons_succ, i64_w, i32_w]
    rfl
  refine take_ (i := 5) (N := some 19) (v := ?_) (a' := ?_) #[true, true, true, true, true, true, false, false, false, false, false, false, false, false, false, false, false, false, false, false, false, false, false, false, false, false] rfl rfl (by kernel_rfl) (fun _ _ _ h => h) (Or.inl ⟨by rfl, ?_⟩) hHeld ?_ ?_
  rotate_left
  · rintro w' ⟨s0, s1, s2, s3, s4, s5, s6, s7, s8, s9, s10, s11, s12⟩
    go_simp
    with_reducible rfl
  rotate_left
  · simp only [Act.put, List.setIfInBounds_toArray, List.set_cons_zero, List.set_cons_succ, i64_w, i32_w]
    rfl
  refine pure_ (i := 6) (N := some 20) (v := ?_) (a' := ?_) #[true, true, true, true, true, true, true, false, false, false, false, false, false, false, false, false, false, false, false, false, false, false, false, false, false, false] rfl rfl (by kernel_rfl) (fun _ _ _ h => h) (Or.inl ⟨by rfl, ?_⟩) ?_ ?_
  rotate_left
  · intro w'
    go_simp
    with_reducible rfl
  rotate_left
  · simp only [Act.put, List.setIfInBounds_toArray, List.set_cons_zero, List.set_cons_succ, i64_w, i32_w]
    rfl
  refine pure_ (i := 7) (N := some 21) (v := ?_) (a' := ?_) #[true, true, true, true, true, true, true, true, false, false, false, false, false, false, false, false, false, false, false, false, false, false, false, false, false, false] rfl rfl (by kernel_rfl) (fun _ _ _ h => h) (Or.inl ⟨by rfl, ?_⟩) ?_ ?_
  rotate_left
  · intro w'
    go_simp
    with_reducible rfl
  rotate_left
  · simp only [Act.put, List.setIfInBounds_toArray, List.set_cons_zero, List.set_cons_succ, i64_w, i32_w]
    rfl
  refine pure_ (i := 8) (N := some 22) (v := ?_) (a' := ?_) #[true, true, true, true, true, true, true, true, true, false, false, false, false, false, false, false, false, false, false, false, false, false, false, false, false, false] rfl rfl (by kernel_rfl) (fun _ _ _ h => h) (Or.inl ⟨by rfl, ?_⟩) ?_ ?_
  rotate_left
  · intro w'
    go_simp
    with_reducible rfl
  rotate_left
  · simp only [Act.put, List.setIfInBounds_toArray, List.set_cons_zero, List.set_cons_succ, i64_w, i32_w]
    rfl
  refine take_ (i := 9) (N := some 23) (v := ?_) (a' := ?_) #[true, true, true, true, true, true, true, true, true, true, false, false, false, false, false, false, false, false, false, false, false, false, false, false, false, false] rfl rfl (by kernel_rfl) (fun _ _ _ h => h) (Or.inl ⟨by rfl, ?_⟩) hHeld ?_ ?_
  rotate_left
  · rintro w' ⟨s0, s1, s2, s3, s4, s5, s6, s7, s8, s9, s10, s11, s12⟩
    go_simp
    with_reducible rfl
  rotate_left
  · simp only [Act.put, List.setIfInBounds_toArray, List.set_cons_zero, List.set_cons_succ, i64_w, i32_w]
    rfl
  refine pure_ (i := 10) (N := some 24) (v := ?_) (a' := ?_) #[true, true, true, true, true, true, true, true, true, true, true, false, false, false, false, false, false, false, false, false, false, false, false, false, false, false] rfl rfl (by kernel_rfl) (fun _ _ _ h => h) (Or.inl ⟨by rfl, ?_⟩) ?_ ?_
  rotate_left
  · intro w'
    go_simp
    with_reducible rfl
  rotate_left
  · simp only [Act.put, List.setIfInBounds_toArray, List.set_cons_zero, List.set_cons_succ, i64_w, i32_w]
    rfl
  refine pure_ (i := 11) (N := some 25) (v := ?_) (a' := ?_) #[true, true, true, true, true, true, true, true, true, true, true, true, false, false, false, false, false, false, false, false, false, false, false, false, false, false] rfl rfl (by kernel_rfl) (fun _ _ _ h => h) (Or.inl ⟨by rfl, ?_⟩) ?_ ?_
  rotate_left
  · intro w'
    go_simp
    with_reducible rfl
  rotate_left
  · simp only [Act.put, List.setIfInBounds_toArray, List.set_cons_zero, List.set_cons_succ, i64_w, i32_w]
    rfl
  refine pure_ (i := 12) (N := some 26) (v := ?_) (a' := ?_) #[true, true, true, true, true, true, true, true, true, true, true, true, true, false, false, false, false, false, false, false, false, false, false, false, false, false] rfl rfl (by kernel_rfl) (fun _ _ _ h => h) (Or.inl ⟨by rfl, ?_⟩) ?_ ?_
  rotate_left
  · intro w'
    go_simp
    with_reducible rfl
  rotate_left
  · simp only [Act.put, List.setIfInBounds_toArray, List.set_cons_zero, List.set_cons_succ, i64_w, i32_w]
    rfl
  refine take_ (i := 13) (N := some 27) (v := ?_) (a' := ?_) #[true, true, true, true, true, true, true, true, true, true, true, true, true, true, false, false, false, false, false, false, false, false, false, false, false, false] rfl rfl (by kernel_rfl) (fun _ _ _ h => h) (Or.inl ⟨by rfl, ?_⟩) hHeld ?_ ?_
  rotate_left
  · rintro w' ⟨s0, s1, s2, s3, s4, s5, s6, s7, s8, s9, s10, s11, s12⟩
    go_simp
    with_reducible rfl
  rotate_left
  · simp only [Act.put, List.setIfInBounds_toArray, List.set_cons_zero, List.set_cons_succ, i64_w, i32_w]
    rfl
  refine pure_ (i := 14) (N := some 28) (v := ?_) (a' := ?_) #[true, true, true, true, true, true, true, true, true, true, true, true, true, true, true, false, false, false, false, false, false, false, false, false, false, false] rfl rfl (by kernel_rfl) (fun _ _ _ h => h) (Or.inl ⟨by rfl, ?_⟩) ?_ ?_
  rotate_left
  · intro w'
    go_simp
    with_reducible rfl
  rotate_left
  · simp only [Act.put, List.setIfInBounds_toArray, List.set_cons_zero, List.set_cons_succ, i64_w, i32_w]
    rfl
  refine pure_ (i := 15) (N := some 29) (v := ?_) (a' := ?_) #[true, true, true, true, true, true, true, true, true, true, true, true, true, true, true, true, false, false, false, false, false, false, false, false, false, false] rfl rfl (by kernel_rfl) (fun _ _ _ h => h) (Or.inl ⟨by rfl, ?_⟩) ?_ ?_
  rotate_left
  · intro w'
    go_simp
    with_reducible rfl
  rotate_left
  · simp only [Act.put, List.setIfInBounds_toArray, List.set_cons_zero, List.set_cons_succ, i64_w, i32_w]
    rfl
  refine pure_ (i := 16) (N := some 30) (v := ?_) (a' := ?_) #[true, true, true, true, true, true, true, true, true, true, true, true, true, true, true, true, true, false, false, false, false, false, false, false, false, false] rfl rfl (by kernel_rfl) (fun _ _ _ h => h) (Or.inl ⟨by rfl, ?_⟩) ?_ ?_
  rotate_left
  · intro w'
    go_simp
    with_reducible rfl
  rotate_left
  · simp only [Act.put, List.setIfInBounds_toArray, List.set_cons_zero, List.set_cons_succ, i64_w, i32_w]
    rfl
  refine take_ (i := 17) (N := some 31) (v := ?_) (a' := ?_) #[true, true, true, true, true, true, true, true, true, true, true, true, true, true, true, true, true, true, false, false, false, false, false, false, false, false] rfl rfl (by kernel_rfl) (fun _ _ _ h => h) (Or.inl ⟨by rfl, ?_⟩) hHeld ?_ ?_
  rotate_left
  · rintro w' ⟨s0, s1, s2, s3, s4, s5, s6, s7, s8, s9, s10, s11, s12⟩
    go_simp
    with_reducible rfl
  rotate_left
  · simp only [Act.put, List.setIfInBounds_toArray, List.set_cons_zero, List.set_cons_succ, i64_w, i32_w]
    rfl
  refine pure_ (i := 18) (N := some 32) (v := ?_) (a' := ?_) #[true, true, true, true, true, true, true, true, true, true, true, true, true, true, true, true, true, true, true, false, false, false, false, false, false, false] rfl rfl (by kernel_rfl) (fun _ _ _ h => h) (Or.inl ⟨by rfl, ?_⟩) ?_ ?_
  rotate_left
  · intro w'
    go_simp
    with_reducible rfl
  rotate_left
  · simp only [Act.put, List.setIfInBounds_toArray, List.set_cons_zero, List.set_cons_succ, i64_w, i32_w]
    rfl
  refine take_ (i := 19) (N := some 33) (v := ?_) (a' := ?_) #[true, true, true, true, true, true, true, true, true, true, true, true, true, true, true, true, true, true, true, true, false, false, false, false, false, false] rfl rfl (by kernel_rfl) (fun _ _ _ h => h) (Or.inl ⟨by rfl, ?_⟩) hHeld ?_ ?_
  rotate_left
  · rintro w' ⟨s0, s1, s2, s3, s4, s5, s6, s7, s8, s9, s10, s11, s12⟩
    go_simp
    with_reducible rfl
  rotate_left
  · simp only [Act.put, List.setIfInBounds_toArray, List.set_cons_zero, List.set_cons_succ, i64_w, i32_w]
    rfl
  refine pure_ (i := 20) (N := some 34) (v := ?_) (a' := ?_) #[true, true, true, true, true, true, true, true, true, true, true, true, true, true, true, true, true, true, true, true, true, false, false, false, false, false] rfl rfl (by kernel_rfl) (fun _ _ _ h => h) (Or.inl ⟨by rfl, ?_⟩) ?_ ?_
  rotate_left
  · intro w'
    go_simp
    with_reducible rfl
  rotate_left
  · simp only [Act.put, List.setIfInBounds_toArray, List.set_cons_zero, List.set_cons_succ, i64_w, i32_w]
    rfl
  refine take_ (i := 21) (N := some 35) (v := ?_) (a' := ?_) #[true, true, true, true, true, true, true, true, true, true, true, true, true, true, true, true, true, true, true, true, true, true, false, false, false, false] rfl rfl (by kernel_rfl) (fun _ _ _ h => h) (Or.inl ⟨by rfl, ?_⟩) hHeld ?_ ?_
  rotate_left
  · rintro w' ⟨s0, s1, s2, s3, s4, s5, s6, s7, s8, s9, s10, s11, s12⟩
    go_simp
    with_reducible rfl
  rotate_left
  · simp only [Act.put, List.setIfInBounds_toArray, List.set_cons_zero, List.set_cons_succ, i64_w, i32_w]
    rfl
  clear c0' c1' e1' e2' s0' s1' s2' s3' s4' s5' a0' a1' a2'
  have HH := Aside0.mk hHeld
  refine join_ (σ := Nat × Nat) 2 #[true, true, true, true, true, true, true, true, true, true, true, true, true, true, true, true, true, true, true, true, true, true, true, true, false, false] (fun q => [(4, .pointer (some ⟨q.1, 0, none⟩)), (5, .pointer (some ⟨q.2, 0, none⟩))]) (fun q wz => Below W.heap.size W wz ∧ W.heap.size ≤ q.1 ∧ W.heap.size ≤ q.2 ∧ wz.heap[q.1]? = some zA ∧ wz.heap[q.2]? = some zB) (fun q wz hF => ?_) (fun hJ => ?_)
  rotate_left
  · refine two_ (i := 22) (j := 23) (Ni := some 4) (Nj := some 5) #[true, true, true, true, true, true, true, true, true, true, true, true, true, true, true, true, true, true, true, true, true, true, true, false, false, false] #[true, true, true, true, true, true, true, true, true, true, true, true, true, true, true, true, true, true, true, true, true, true, false, true, false, false] rfl rfl rfl rfl (by kernel_rfl) (by decide) (by decide) (fun K hK => ?_) (fun K hK => ?_)
    · refine value_ (w1 := W.alloc zA) (v := .pointer (some ⟨W.heap.size, 0, none⟩)) (by rfl) rfl (by go_simp; rfl) ?_
      have hb1 : Below W.heap.size W (W.alloc zA) := (Below.refl _ _).alloc (Nat.le_refl _) _
      refine hK.out _ _ ⟨cell_later hb1 hHeld.1, cell_later hb1 hHeld.2.1, cell_later hb1 hHeld.2.2.1, cell_later hb1 hHeld.2.2.2.1, cell_later hb1 hHeld.2.2.2.2.1, cell_later hb1 hHeld.2.2.2.2.2.1, cell_later hb1 hHeld.2.2.2.2.2.2.1, cell_later hb1 hHeld.2.2.2.2.2.2.2.1, cell_later hb1 hHeld.2.2.2.2.2.2.2.2.1, cell_later hb1 hHeld.2.2.2.2.2.2.2.2.2.1, cell_later hb1 hHeld.2.2.2.2.2.2.2.2.2.2.1, cell_later hb1 hHeld.2.2.2.2.2.2.2.2.2.2.2.1, cell_later hb1 hHeld.2.2.2.2.2.2.2.2.2.2.2.2⟩ (fun hHeld => ?_)
      clear hK K
      refine norm_ (a' := ?_) ?_ ?_
      rotate_left
      · simp only [Act.put, List.setIfInBounds_toArray, List.set_cons_zero, List.set_cons_succ, i64_w, i32_w]
        rfl
      refine one_ (i := 23) (N := some 5) #[true, true, true, true, true, true, true, true, true, true, true, true, true, true, true, true, true, true, true, true, true, true, true, true, false, false] rfl rfl (by kernel_rfl) (by decide) (fun K hK => ?_)
      refine value_ (w1 := (W.alloc zA).alloc zB) (v := .pointer (some ⟨(W.alloc zA).heap.size, 0, none⟩)) (by rfl) rfl (by go_simp; rfl) ?_
      have hb2 : Below (W.alloc zA).heap.size (W.alloc zA) ((W.alloc zA).alloc zB) := (Below.refl _ _).alloc (Nat.le_refl _) _
      refine hK.out _ _ ⟨cell_later hb2 hHeld.1, cell_later hb2 hHeld.2.1, cell_later hb2 hHeld.2.2.1, cell_later hb2 hHeld.2.2.2.1, cell_later hb2 hHeld.2.2.2.2.1, cell_later hb2 hHeld.2.2.2.2.2.1, cell_later hb2 hHeld.2.2.2.2.2.2.1, cell_later hb2 hHeld.2.2.2.2.2.2.2.1, cell_later hb2 hHeld.2.2.2.2.2.2.2.2.1, cell_later hb2 hHeld.2.2.2.2.2.2.2.2.2.1, cell_later hb2 hHeld.2.2.2.2.2.2.2.2.2.2.1, cell_later hb2 hHeld.2.2.2.2.2.2.2.2.2.2.2.1, cell_later hb2 hHeld.2.2.2.2.2.2.2.2.2.2.2.2⟩ (fun hHeld => ?_)
      refine norm_ ?_ (hJ (W.heap.size, (W.alloc zA).heap.size) _ ⟨hb1.trans (hb2.mono (by simp)), Nat.le_refl _, by simp, blk_later hb2 (heap_alloc_new W _), heap_alloc_new (W.alloc zA) _⟩)
      simp only [putAll, Act.put, List.setIfInBounds_toArray, List.set_cons_zero, List.set_cons_succ]
    · refine value_ (w1 := W.alloc zB) (v := .pointer (some ⟨W.heap.size, 0, none⟩)) (by rfl) rfl (by go_simp; rfl) ?_
      have hb1 : Below W.heap.size W (W.alloc zB) := (Below.refl _ _).alloc (Nat.le_refl _) _
      refine hK.out _ _ ⟨cell_later hb1 hHeld.1, cell_later hb1 hHeld.2.1, cell_later hb1 hHeld.2.2.1, cell_later hb1 hHeld.2.2.2.1, cell_later hb1 hHeld.2.2.2.2.1, cell_later hb1 hHeld.2.2.2.2.2.1, cell_later hb1 hHeld.2.2.2.2.2.2.1, cell_later hb1 hHeld.2.2.2.2.2.2.2.1, cell_later hb1 hHeld.2.2.2.2.2.2.2.2.1, cell_later hb1 hHeld.2.2.2.2.2.2.2.2.2.1, cell_later hb1 hHeld.2.2.2.2.2.2.2.2.2.2.1, cell_later hb1 hHeld.2.2.2.2.2.2.2.2.2.2.2.1, cell_later hb1 hHeld.2.2.2.2.2.2.2.2.2.2.2.2⟩ (fun hHeld => ?_)
      clear hK K
      refine norm_ (a' := ?_) ?_ ?_
      rotate_left
      · simp only [Act.put, List.setIfInBounds_toArray, List.set_cons_zero, List.set_cons_succ, i64_w, i32_w]
        rfl
      refine one_ (i := 22) (N := some 4) #[true, true, true, true, true, true, true, true, true, true, true, true, true, true, true, true, true, true, true, true, true, true, true, true, false, false] rfl rfl (by kernel_rfl) (by decide) (fun K hK => ?_)
      refine value_ (w1 := (W.alloc zB).alloc zA) (v := .pointer (some ⟨(W.alloc zB).heap.size, 0, none⟩)) (by rfl) rfl (by go_simp; rfl) ?_
      have hb2 : Below (W.alloc zB).heap.size (W.alloc zB) ((W.alloc zB).alloc zA) := (Below.refl _ _).alloc (Nat.le_refl _) _
      refine hK.out _ _ ⟨cell_later hb2 hHeld.1, cell_later hb2 hHeld.2.1, cell_later hb2 hHeld.2.2.1, cell_later hb2 hHeld.2.2.2.1, cell_later hb2 hHeld.2.2.2.2.1, cell_later hb2 hHeld.2.2.2.2.2.1, cell_later hb2 hHeld.2.2.2.2.2.2.1, cell_later hb2 hHeld.2.2.2.2.2.2.2.1, cell_later hb2 hHeld.2.2.2.2.2.2.2.2.1, cell_later hb2 hHeld.2.2.2.2.2.2.2.2.2.1, cell_later hb2 hHeld.2.2.2.2.2.2.2.2.2.2.1, cell_later hb2 hHeld.2.2.2.2.2.2.2.2.2.2.2.1, cell_later hb2 hHeld.2.2.2.2.2.2.2.2.2.2.2.2⟩ (fun hHeld => ?_)
      refine norm_ ?_ (hJ ((W.alloc zB).heap.size, W.heap.size) _ ⟨hb1.trans (hb2.mono (by simp)), by simp, Nat.le_refl _, heap_alloc_new (W.alloc zB) _, blk_later hb2 (heap_alloc_new W _)⟩)
      simp only [putAll, Act.put, List.setIfInBounds_toArray, List.set_cons_zero, List.set_cons_succ]
  obtain ⟨g1, g2⟩ := q
  obtain ⟨hb, hg1, hg2, hz1, hz2⟩ := hF
  dsimp only at hg1 hg2 hz1 hz2
  have h12 : g1 ≠ g2 := by
    rintro rfl
    rw [hz1] at hz2
    injection hz2 with hz2; injection hz2 with _ h; exact absurd h (by decide)
  refine norm_ (a' := ?_) ?_ ?_
  rotate_left
  · simp only [putAll, Act.put, List.setIfInBounds_toArray, List.set_cons_zero, List.set_cons_succ]
    rfl
  have hb4 : Below W.heap.size W (wz.setRow g1 (cA a).toArray) := below_setRow hb hg1 _
  have hz14 : (wz.setRow g1 (cA a).toArray).heap[g1]? = some (.cells (cA a).toArray 69 (0, 0)) := setRow_heap wz g1 _ _ 69 _ hz1
  have hz24 : (wz.setRow g1 (cA a).toArray).heap[g2]? = some zB := (setRow_other wz g1 g2 _ (Ne.symm h12)).trans hz2
  refine one_ (i := 24) (N := none) #[true, true, true, true, true, true, true, true, true, true, true, true, true, true, true, true, true, true, true, true, true, true, true, true, true, false] rfl rfl (by kernel_rfl) (by decide) (fun K hK => ?_)
  refine skip_ (w1 := wz.setRow g1 (cA a).toArray) (by rfl) rfl (exec_store (vx := .pointer (some ⟨g1, 0, none⟩)) (vy := vA a) rfl (by rfl) (by rfl) (run_store69_box hz1 rfl _)) ?_
  refine hK.out _ _ ⟨cell_later hb4 HH.out.1, cell_later hb4 HH.out.2.1, cell_later hb4 HH.out.2.2.1, cell_later hb4 HH.out.2.2.2.1, cell_later hb4 HH.out.2.2.2.2.1, cell_later hb4 HH.out.2.2.2.2.2.1, cell_later hb4 HH.out.2.2.2.2.2.2.1, cell_later hb4 HH.out.2.2.2.2.2.2.2.1, cell_later hb4 HH.out.2.2.2.2.2.2.2.2.1, cell_later hb4 HH.out.2.2.2.2.2.2.2.2.2.1, cell_later hb4 HH.out.2.2.2.2.2.2.2.2.2.2.1, cell_later hb4 HH.out.2.2.2.2.2.2.2.2.2.2.2.1, cell_later hb4 HH.out.2.2.2.2.2.2.2.2.2.2.2.2⟩ (fun hHeld => ?_)
  clear hK K
  generalize wz.setRow g1 (cA a).toArray = w4 at hb4 hz14 hz24 hHeld ⊢
  clear hb hz1 hz2
  have hb5 : Below W.heap.size W (w4.setRow g2 (cS s).toArray) := below_setRow hb4 hg2 _
  have hz15 : (w4.setRow g2 (cS s).toArray).heap[g1]? = some (.cells (cA a).toArray 69 (0, 0)) := (setRow_other w4 g2 g1 _ h12).trans hz14
  have hz25 : (w4.setRow g2 (cS s).toArray).heap[g2]? = some (.cells (cS s).toArray 23 (0, 0)) := setRow_heap w4 g2 _ _ 23 _ hz24
  refine last_ (i := 25) (N := none) #[true, true, true, true, true, true, true, true, true, true, true, true, true, true, true, true, true, true, true, true, true, true, true, true, true, true] rfl rfl (by kernel_rfl) (by decide) (fun K hK => ?_)
  refine skip_ (w1 := w4.setRow g2 (cS s).toArray) (by rfl) rfl (exec_store (vx := .pointer (some ⟨g2, 0, none⟩)) (vy := vS s) rfl (by rfl) (by rfl) (run_store23_box hz24 rfl _)) ?_
  refine hK.out _ _ ?_
  clear hK K
  refine done_ (by kernel_rfl) ?_
  generalize w4.setRow g2 (cS s).toArray = W5 at hb5 hz15 hz25 ⊢
  have HW5 := Aside0.mk (HW2.out.later hb5)
  have HF5 := Aside0.mk (HF.out.trans (Fr.of_below hb5))
  have HEB5 := Aside0.mk (blk_later hb5 HEB.out)
  clear hHeld HH hb4 hz14 hz24 HW2 HF HEB hg1 hg2 h12
  have HZ1 := Aside0.mk hz15
  have HZ2 := Aside0.mk hz25
  have HB5 := Aside0.mk hb5
  clear hz15 hz25 hb5
  have a0 : W5.cell? ⟨g1, 0, none⟩ = some (.int .i64 a.src) := (blk_cell HZ1.out 0).trans rfl
  have a1 : W5.cell? ⟨g1, 1, none⟩ = some (.int .i64 a.ep) := (blk_cell HZ1.out 1).trans rfl
  have a2 : W5.cell? ⟨g1, 2, none⟩ = some (.int .i64 a.rk) := (blk_cell HZ1.out 2).trans rfl
  have b0 : W5.cell? ⟨g2, 0, none⟩ = some (.int .i64 s.f0) := (blk_cell HZ2.out 0).trans rfl
  have b1 : W5.cell? ⟨g2, 1, none⟩ = some (.int .i64 s.f1) := (blk_cell HZ2.out 1).trans rfl
  have b2 : W5.cell? ⟨g2, 2, none⟩ = some (.int .i64 s.f2) := (blk_cell HZ2.out 2).trans rfl
  have b3 : W5.cell? ⟨g2, 3, none⟩ = some (.int .i64 s.f3) := (blk_cell HZ2.out 3).trans rfl
  have b4 : W5.cell? ⟨g2, 4, none⟩ = some (.int .i64 s.f4) := (blk_cell HZ2.out 4).trans rfl
  have b5 : W5.cell? ⟨g2, 5, none⟩ = some (.int .i64 s.f5) := (blk_cell HZ2.out 5).trans rfl
  have e1 : W5.cell? ⟨w.heap.size, 1, none⟩ = some (.int .i64 (i : Int)) := (blk_cell HEB5.out 1).trans rfl
  have e3 : W5.cell? ⟨w.heap.size, 3, none⟩ = some (.int .i64 cost) := (blk_cell HEB5.out 3).trans rfl
  have c0 := HW5.out.cell0
  clear hm0 hm1 hmn hj'
  by_cases h1 : a.src = (i : Int)
  · have h1' : (a.src == (i : Int)) = true := beq_iff_eq.2 h1
    have HE := Aside0.mk h1
    clear h1
    go_wp2
    (first | go_end0 | ((try simp only [Exit.inBlock, Exit.then]); refine bodyPost_ret (results_none rfl _ _ _) rfl ?_))
    exact ⟨rfl, ⟨g, cap, cur, _, by unfold hearS; rw [if_pos HE.out, set_same HS.out]; exact HW5.out⟩, HF5.out⟩
  · have h1' : (a.src == (i : Int)) = false := beq_eq_false_iff_ne.2 h1
    have HE := Aside0.mk h1
    clear h1
    by_cases h2 : a.src = s.f2
    · have h2' : (a.src == s.f2) = true := beq_iff_eq.2 h2
      have HE2 := Aside0.mk h2
      clear h2
      go_wp2
      refine start_ (n := 19) (S := fun w' => (w'.cell? ⟨p, 0, none⟩ = some (.slice (some ⟨g, 0, none⟩) L.length cap)) ∧ (w'.cell? ⟨w.heap.size, 1, none⟩ = some (.int .i64 (i : Int))) ∧ (w'.cell? ⟨w.heap.size, 3, none⟩ = some (.int .i64 cost)) ∧ (w'.cell? ⟨g2, 0, none⟩ = some (.int .i64 s.f0)) ∧ (w'.cell? ⟨g2, 1, none⟩ = some (.int .i64 s.f1)) ∧ (w'.cell? ⟨g2, 2, none⟩ = some (.int .i64 s.f2)) ∧ (w'.cell? ⟨g2, 3, none⟩ = some (.int .i64 s.f3)) ∧ (w'.cell? ⟨g2, 4, none⟩ = some (.int .i64 s.f4)) ∧ (w'.cell? ⟨g2, 5, none⟩ = some (.int .i64 s.f5)) ∧ (w'.cell? ⟨g1, 1, none⟩ = some (.int .i64 a.ep)) ∧ (w'.cell? ⟨g1, 2, none⟩ = some (.int .i64 a.rk))) (ds := [18]) #[false, false, false, false, false, false, false, false, false, false, false, false, false, false, false, false, false, false, false] (by kernel_rfl) rfl rfl ⟨c0, e1, e3, b0, b1, b2, b3, b4, b5, a1, a2⟩ (fun hHeld => ?_)
      refine pure_ (i := 0) (N := some 47) (v := ?_) (a' := ?_) #[true, false, false, false, false, false, false, false, false, false, false, false, false, false, false, false, false, false, false] rfl rfl (by kernel_rfl) (fun _ _ _ h => h) (Or.inl ⟨by rfl, ?_⟩) ?_ ?_
      rotate_left
      · intro w'
        go_simp
        with_reducible rfl
      rotate_left
      · simp only [Act.put, List.setIfInBounds_toArray, List.set_cons_zero, List.set_cons_succ, i64_w, i32_w]
        rfl
      refine pure_ (i := 1) (N := some 48) (v := ?_) (a' := ?_) #[true, true, false, false, false, false, false, false, false, false, false, false, false, false, false, false, false, false, false] rfl rfl (by kernel_rfl) (fun _ _ _ h => h) (Or.inl ⟨by rfl, ?_⟩) ?_ ?_
      rotate_left
      · intro w'
        go_simp
        with_reducible rfl
      rotate_left
      · simp only [Act.put, List.setIfInBounds_toArray, List.set_cons_zero, List.set_cons_succ, i64_w, i32_w]
        rfl
      refine pure_ (i := 2) (N := some 49) (v := ?_) (a' := ?_) #[true, true, true, false, false, false, false, false, false, false, false, false, false, false, false, false, false, false, false] rfl rfl (by kernel_rfl) (fun _ _ _ h => h) (Or.inl ⟨by rfl, ?_⟩) ?_ ?_
      rotate_left
      · intro w'
        go_simp
        with_reducible rfl
      rotate_left
      · simp only [Act.put, List.setIfInBounds_toArray, List.set_cons_zero, List.set_cons_succ, i64_w, i32_w]
        rfl
      refine take_ (i := 3) (N := some 50) (v := ?_) (a' := ?_) #[true, true, true, true, false, false, false, false, false, false, false, false, false, false, false, false, false, false, false] rfl rfl (by kernel_rfl) (fun _ _ _ h => h) (Or.inl ⟨by rfl, ?_⟩) hHeld ?_ ?_
      rotate_left
      · rintro w' ⟨s0, s1, s2, s3, s4, s5, s6, s7, s8, s9, s10⟩
        go_simp
        with_reducible rfl
      rotate_left
      · simp only [Act.put, List.setIfInBounds_toArray, List.set_cons_zero, List.set_cons_succ, i64_w, i32_w]
        rfl
      refine pure_ (i := 4) (N := some 51) (v := ?_) (a' := ?_) #[true, true, true, true, true, false, false, false, false, false, false, false, false, false, false, false, false, false, false] rfl rfl (by kernel_rfl) (fun _ _ _ h => h) (Or.inl ⟨by rfl, ?_⟩) ?_ ?_
      rotate_left
      · intro w'
        go_simp
        with_reducible rfl
      rotate_left
      · simp only [Act.put, List.setIfInBounds_toArray, List.set_cons_zero, List.set_cons_succ, i64_w, i32_w]
        rfl
      refine take_ (i := 5) (N := some 52) (v := ?_) (a' := ?_) #[true, true, true, true, true, true, false, false, false, false, false, false, false, false, false, false, false, false, false] rfl rfl (by kernel_rfl) (fun _ _ _ h => h) (Or.inl ⟨by rfl, ?_⟩) hHeld ?_ ?_
      rotate_left
      · rintro w' ⟨s0, s1, s2, s3, s4, s5, s6, s7, s8, s9, s10⟩
        go_simp
        with_reducible rfl
      rotate_left
      · simp only [Act.put, List.setIfInBounds_toArray, List.set_cons_zero, List.set_cons_succ, i64_w, i32_w]
        rfl
      refine take_ (i := 6) (N := some 53) (v := ?_) (a' := ?_) #[true, true, true, true, true, true, true, false, false, false, false, false, false, false, false, false, false, false, false] rfl rfl (by kernel_rfl) (fun _ _ _ h => h) (Or.inl ⟨by rfl, ?_⟩) hHeld ?_ ?_
      rotate_left
      · rintro w' ⟨s0, s1, s2, s3, s4, s5, s6, s7, s8, s9, s10⟩
        go_simp
        with_reducible rfl
      rotate_left
      · simp only [Act.put, List.setIfInBounds_toArray, List.set_cons_zero, List.set_cons_succ, i64_w, i32_w]
        rfl
      refine pure_ (i := 7) (N := some 54) (v := ?_) (a' := ?_) #[true, true, true, true, true, true, true, true, false, false, false, false, false, false, false, false, false, false, false] rfl rfl (by kernel_rfl) (fun _ _ _ h => h) (Or.inl ⟨by rfl, ?_⟩) ?_ ?_
      rotate_left
      · intro w'
        go_simp
        with_reducible rfl
      rotate_left
      · simp only [Act.put, List.setIfInBounds_toArray, List.set_cons_zero, List.set_cons_succ, i64_w, i32_w]
        rfl
      refine take_ (i := 8) (N := some 55) (v := ?_) (a' := ?_) #[true, true, true, true, true, true, true, true, true, false, false, false, false, false, false, false, false, false, false] rfl rfl (by kernel_rfl) (fun _ _ _ h => h) (Or.inl ⟨by rfl, ?_⟩) hHeld ?_ ?_
      rotate_left
      · rintro w' ⟨s0, s1, s2, s3, s4, s5, s6, s7, s8, s9, s10⟩
        go_simp
        with_reducible rfl
      rotate_left
      · simp only [Act.put, List.setIfInBounds_toArray, List.set_cons_zero, List.set_cons_succ, i64_w, i32_w]
        rfl
      refine pure_ (i := 9) (N := some 56) (v := ?_) (a' := ?_) #[true, true, true, true, true, true, true, true, true, true, false, false, false, false, false, false, false, false, false] rfl rfl (by kernel_rfl) (fun _ _ _ h => h) (Or.inl ⟨by rfl, ?_⟩) ?_ ?_
      rotate_left
      · intro w'
        go_simp
        with_reducible rfl
      rotate_left
      · simp only [Act.put, List.setIfInBounds_toArray, List.set_cons_zero, List.set_cons_succ, i64_w, i32_w]
        rfl
      refine take_ (i := 10) (N := some 57) (v := ?_) (a' := ?_) #[true, true, true, true, true, true, true, true, true, true, true, false, false, false, false, false, false, false, false] rfl rfl (by kernel_rfl) (fun _ _ _ h => h) (Or.inl ⟨by rfl, ?_⟩) hHeld ?_ ?_
      rotate_left
      · rintro w' ⟨s0, s1, s2, s3, s4, s5, s6, s7, s8, s9, s10⟩
        go_simp
        with_reducible rfl
      rotate_left
      · simp only [Act.put, List.setIfInBounds_toArray, List.set_cons_zero, List.set_cons_succ, i64_w, i32_w]
        rfl
      refine pure_ (i := 11) (N := some 58) (v := ?_) (a' := ?_) #[true, true, true, true, true, true, true, true, true, true, true, true, false, false, false, false, false, false, false] rfl rfl (by kernel_rfl) (fun _ _ _ h => h) (Or.inl ⟨by rfl, ?_⟩) ?_ ?_
      rotate_left
      · intro w'
        go_simp
        with_reducible rfl
      rotate_left
      · simp only [Act.put, List.setIfInBounds_toArray, List.set_cons_zero, List.set_cons_succ, i64_w, i32_w]
        rfl
      refine take_ (i := 12) (N := some 59) (v := ?_) (a' := ?_) #[true, true, true, true, true, true, true, true, true, true, true, true, true, false, false, false, false, false, false] rfl rfl (by kernel_rfl) (fun _ _ _ h => h) (Or.inl ⟨by rfl, ?_⟩) hHeld ?_ ?_
      rotate_left
      · rintro w' ⟨s0, s1, s2, s3, s4, s5, s6, s7, s8, s9, s10⟩
        go_simp
        with_reducible rfl
      rotate_left
      · simp only [Act.put, List.setIfInBounds_toArray, List.set_cons_zero, List.set_cons_succ, i64_w, i32_w]
        rfl
      refine one_ (i := 13) (N := some 60) #[true, true, true, true, true, true, true, true, true, true, true, true, true, true, false, false, false, false, false] rfl rfl (by kernel_rfl) (by decide) (fun K hK => ?_)
      refine goes_ Try.func19 (by kernel_rfl) rfl #[vS s, .int .i64 a.ep, .int .i64 a.rk, .int .i64 cost] (by rfl) rfl rfl (by (try simp only [List.map_toArray, List.map_cons, List.map_nil]); first | done | rfl) ?_
      with_reducible refine (update_calls s a.ep a.rk cost _).mono ?_
      rintro e w6 ⟨rfl, hb6⟩
      refine ⟨_, rfl, ?_⟩
      refine hK.out _ _ ⟨cell_later hb6 hHeld.1, cell_later hb6 hHeld.2.1, cell_later hb6 hHeld.2.2.1, cell_later hb6 hHeld.2.2.2.1, cell_later hb6 hHeld.2.2.2.2.1, cell_later hb6 hHeld.2.2.2.2.2.1, cell_later hb6 hHeld.2.2.2.2.2.2.1, cell_later hb6 hHeld.2.2.2.2.2.2.2.1, cell_later hb6 hHeld.2.2.2.2.2.2.2.2.1, cell_later hb6 hHeld.2.2.2.2.2.2.2.2.2.1, cell_later hb6 hHeld.2.2.2.2.2.2.2.2.2.2⟩ (fun hHeld => ?_)
      clear hK K
      refine norm_ (a' := ?_) ?_ ?_
      rotate_left
      · show Act.put _ (some 60) _ = _
        simp only [Act.put, List.setIfInBounds_toArray, List.set_cons_zero, List.set_cons_succ, i64_w, i32_w]
        rfl
      refine pure_ (i := 14) (N := some 46) (v := ?_) (a' := ?_) #[true, true, true, true, true, true, true, true, true, true, true, true, true, true, true, false, false, false, false] rfl rfl (by kernel_rfl) (fun _ _ _ h => h) (Or.inl ⟨by rfl, ?_⟩) ?_ ?_
      rotate_left
      · intro w'
        go_simp
        with_reducible rfl
      rotate_left
      · simp only [Act.put, List.setIfInBounds_toArray, List.set_cons_zero, List.set_cons_succ, i64_w, i32_w]
        rfl
      refine pure_ (i := 15) (N := some 61) (v := ?_) (a' := ?_) #[true, true, true, true, true, true, true, true, true, true, true, true, true, true, true, true, false, false, false] rfl rfl (by kernel_rfl) (fun _ _ _ h => h) (Or.inl ⟨by rfl, ?_⟩) ?_ ?_
      rotate_left
      · intro w'
        go_simp
        with_reducible rfl
      rotate_left
      · simp only [Act.put, List.setIfInBounds_toArray, List.set_cons_zero, List.set_cons_succ, i64_w, i32_w]
        rfl
      refine pure_ (i := 16) (N := some 62) (v := ?_) (a' := ?_) #[true, true, true, true, true, true, true, true, true, true, true, true, true, true, true, true, true, false, false] rfl rfl (by kernel_rfl) (fun _ _ _ h => h) (Or.inl ⟨by rfl, ?_⟩) ?_ ?_
      rotate_left
      · intro w'
        go_simp
        with_reducible rfl
      rotate_left
      · simp only [Act.put, List.setIfInBounds_toArray, List.set_cons_zero, List.set_cons_succ, i64_w, i32_w]
        rfl
      refine pure_ (i := 17) (N := some 63) (v := ?_) (a' := ?_) #[true, true, true, true, true, true, true, true, true, true, true, true, true, true, true, true, true, true, false] rfl rfl (by kernel_rfl) (fun _ _ _ h => h) (Or.inl ⟨by rfl, ?_⟩) ?_ ?_
      rotate_left
      · intro w'
        go_simp
        with_reducible rfl
      rotate_left
      · simp only [Act.put, List.setIfInBounds_toArray, List.set_cons_zero, List.set_cons_succ, i64_w, i32_w]
        rfl
      refine last_ (i := 18) (N := none) #[true, true, true, true, true, true, true, true, true, true, true, true, true, true, true, true, true, true, true] rfl rfl (by kernel_rfl) (by decide) (fun K hK => ?_)
      refine skip_ (by rfl) rfl (exec_store (vx := .pointer (some ⟨g, i * 6, none⟩)) (vy := vS (update s a.ep a.rk cost).1) rfl (by rfl) (by rfl) ((HW5.out.drew.later hb6).run_store hi (update s a.ep a.rk cost).1)) ?_
      refine hK.out _ _ ?_
      clear hK K
      refine done_ (by kernel_rfl) ?_
      go_wp2
      (first | go_end0 | ((try simp only [Exit.inBlock, Exit.then]); refine bodyPost_ret (results_none rfl _ _ _) rfl ?_))
      exact ⟨rfl, ⟨g, cap, _, _, by unfold hearS; rw [if_neg HE.out, if_pos HE2.out]; exact (HW5.out.drew.later hb6).store hi _⟩, (HF5.out.drew.trans (Fr.of_below hb6)).trans ((HW5.out.drew.later hb6).frame i _)⟩
    · have h2' : (a.src == s.f2) = false := beq_eq_false_iff_ne.2 h2
      have HE2 := Aside0.mk h2
      clear h2
      go_upto_region 7 with (first | ((with_reducible refine gate_callee (f := 17) rfl ?_); refine goesL_ (some 74) rfl rfl Try.func17 (by kernel_rfl) rfl #[.agg #[.int .i64 s.f0, .int .i64 s.f1, .int .i64 s.f2, .int .i64 s.f3, .int .i64 s.f4, .int .i64 s.f5], .int .i64 a.src, .int .i64 a.ep, .int .i64 a.rk, .int .i64 cost] rfl (by (try simp only [List.map_toArray, List.map_cons, List.map_nil]); first | done | rfl) ?_; (with_reducible refine (adopt_calls' s a.src a.ep a.rk cost _).mono ?_); rintro e w6 ⟨rfl, hb6⟩; refine ⟨_, rfl, ?_⟩))
      refine wp_world (F := fun wz => Below W5.heap.size W5 wz ∧ wz.heap[w6.heap.size]? = some (.cells #[.int .i64 (adopt s a.src a.ep a.rk cost).1.f0, .int .i64 (adopt s a.src a.ep a.rk cost).1.f1, .int .i64 (adopt s a.src a.ep a.rk cost).1.f2, .int .i64 (adopt s a.src a.ep a.rk cost).1.f3, .int .i64 (adopt s a.src a.ep a.rk cost).1.f4, .int .i64 (adopt s a.src a.ep a.rk cost).1.f5] 23 (0, 0))) ⟨hb6.alloc hb6.size _, heap_alloc_new w6 _⟩ (fun W7 hF7 => ?_)
      obtain ⟨hb7, hz7⟩ := hF7
      have HW7 := Aside0.mk (HW5.out.later hb7)
      have HF7 := Aside0.mk (HF5.out.trans (Fr.of_below hb7))
      have a1 := cell_later hb7 a1
      have a2 := cell_later hb7 a2
      have b1 := cell_later hb7 b1
      have b2 := cell_later hb7 b2
      have b4 := cell_later hb7 b4
      have e1 := cell_later hb7 e1
      have e3 := cell_later hb7 e3
      have c0 := HW7.out.cell0
      have d0 : W7.cell? ⟨w6.heap.size, 0, none⟩ = some (.int .i64 (adopt s a.src a.ep a.rk cost).1.f0) := (blk_cell hz7 0).trans rfl
      have d1 : W7.cell? ⟨w6.heap.size, 1, none⟩ = some (.int .i64 (adopt s a.src a.ep a.rk cost).1.f1) := (blk_cell hz7 1).trans rfl
      have d2 : W7.cell? ⟨w6.heap.size, 2, none⟩ = some (.int .i64 (adopt s a.src a.ep a.rk cost).1.f2) := (blk_cell hz7 2).trans rfl
      have d3 : W7.cell? ⟨w6.heap.size, 3, none⟩ = some (.int .i64 (adopt s a.src a.ep a.rk cost).1.f3) := (blk_cell hz7 3).trans rfl
      have d4 : W7.cell? ⟨w6.heap.size, 4, none⟩ = some (.int .i64 (adopt s a.src a.ep a.rk cost).1.f4) := (blk_cell hz7 4).trans rfl
      have d5 : W7.cell? ⟨w6.heap.size, 5, none⟩ = some (.int .i64 (adopt s a.src a.ep a.rk cost).1.f5) := (blk_cell hz7 5).trans rfl
      generalize w6.heap.size = g3 at hz7 d0 d1 d2 d3 d4 d5 ⊢
      clear hb6 hb7 hz7 HW5 HF5
      by_cases q0 : (adopt s a.src a.ep a.rk cost).2 = 0
      · have q0' : ((adopt s a.src a.ep a.rk cost).2 == 0) = true := beq_iff_eq.2 q0
        obtain ⟨hr1, hr2⟩ := adopt_ok_ranges q0
        obtain ⟨r1, r2⟩ := hr1
        obtain ⟨r3, r4⟩ := hr2
        have HQ := Aside0.mk q0
        clear q0
        by_cases q1 : s.f2 = -1
        · have q1' : (s.f2 == -1) = true := beq_iff_eq.2 q1
          have HQ2 := Aside0.mk (show s.f2 = -1 ∨ a.ep > s.f1 ∨ a.rk + cost < s.f4 from .inl q1)
          clear q1
          go_wp2
          refine start_ (n := 9) (S := fun w' => (w'.cell? ⟨p, 0, none⟩ = some (.slice (some ⟨g, 0, none⟩) L.length cap)) ∧ (w'.cell? ⟨w.heap.size, 1, none⟩ = some (.int .i64 (i : Int))) ∧ (w'.cell? ⟨g3, 0, none⟩ = some (.int .i64 (adopt s a.src a.ep a.rk cost).1.f0)) ∧ (w'.cell? ⟨g3, 1, none⟩ = some (.int .i64 (adopt s a.src a.ep a.rk cost).1.f1)) ∧ (w'.cell? ⟨g3, 2, none⟩ = some (.int .i64 (adopt s a.src a.ep a.rk cost).1.f2)) ∧ (w'.cell? ⟨g3, 3, none⟩ = some (.int .i64 (adopt s a.src a.ep a.rk cost).1.f3)) ∧ (w'.cell? ⟨g3, 4, none⟩ = some (.int .i64 (adopt s a.src a.ep a.rk cost).1.f4)) ∧ (w'.cell? ⟨g3, 5, none⟩ = some (.int .i64 (adopt s a.src a.ep a.rk cost).1.f5))) (ds := [8]) #[false, false, false, false, false, false, false, false, false] (by kernel_rfl) rfl rfl ⟨c0, e1, d0, d1, d2, d3, d4, d5⟩ (fun hHeld => ?_)
          refine pure_ (i := 0) (N := some 101) (v := ?_) (a' := ?_) #[true, false, false, false, false, false, false, false, false] rfl rfl (by kernel_rfl) (fun _ _ _ h => h) (Or.inl ⟨by rfl, ?_⟩) ?_ ?_
          rotate_left
          · intro w'
            go_simp
            with_reducible rfl
          rotate_left
          · simp only [Act.put, List.setIfInBounds_toArray, List.set_cons_zero, List.set_cons_succ, i64_w, i32_w]
            rfl
          refine pure_ (i := 1) (N := some 102) (v := ?_) (a' := ?_) #[true, true, false, false, false, false, false, false, false] rfl rfl (by kernel_rfl) (fun _ _ _ h => h) (Or.inl ⟨by rfl, ?_⟩) ?_ ?_
          rotate_left
          · intro w'
            go_simp
            with_reducible rfl
          rotate_left
          · simp only [Act.put, List.setIfInBounds_toArray, List.set_cons_zero, List.set_cons_succ, i64_w, i32_w]
            rfl
          refine pure_ (i := 2) (N := some 103) (v := ?_) (a' := ?_) #[true, true, true, false, false, false, false, false, false] rfl rfl (by kernel_rfl) (fun _ _ _ h => h) (Or.inl ⟨by rfl, ?_⟩) ?_ ?_
          rotate_left
          · intro w'
            go_simp
            with_reducible rfl
          rotate_left
          · simp only [Act.put, List.setIfInBounds_toArray, List.set_cons_zero, List.set_cons_succ, i64_w, i32_w]
            rfl
          refine take_ (i := 3) (N := some 104) (v := ?_) (a' := ?_) #[true, true, true, true, false, false, false, false, false] rfl rfl (by kernel_rfl) (fun _ _ _ h => h) (Or.inl ⟨by rfl, ?_⟩) hHeld ?_ ?_
          rotate_left
          · rintro w' ⟨s0, s1, s2, s3, s4, s5, s6, s7⟩
            go_simp
            with_reducible rfl
          rotate_left
          · simp only [Act.put, List.setIfInBounds_toArray, List.set_cons_zero, List.set_cons_succ, i64_w, i32_w]
            rfl
          refine pure_ (i := 4) (N := some 105) (v := ?_) (a' := ?_) #[true, true, true, true, true, false, false, false, false] rfl rfl (by kernel_rfl) (fun _ _ _ h => h) (Or.inl ⟨by rfl, ?_⟩) ?_ ?_
          rotate_left
          · intro w'
            go_simp
            with_reducible rfl
          rotate_left
          · simp only [Act.put, List.setIfInBounds_toArray, List.set_cons_zero, List.set_cons_succ, i64_w, i32_w]
            rfl
          refine take_ (i := 5) (N := some 106) (v := ?_) (a' := ?_) #[true, true, true, true, true, true, false, false, false] rfl rfl (by kernel_rfl) (fun _ _ _ h => h) (Or.inl ⟨by rfl, ?_⟩) hHeld ?_ ?_
          rotate_left
          · rintro w' ⟨s0, s1, s2, s3, s4, s5, s6, s7⟩
            go_simp
            with_reducible rfl
          rotate_left
          · simp only [Act.put, List.setIfInBounds_toArray, List.set_cons_zero, List.set_cons_succ, i64_w, i32_w]
            rfl
          refine take_ (i := 6) (N := some 107) (v := ?_) (a' := ?_) #[true, true, true, true, true, true, true, false, false] rfl rfl (by kernel_rfl) (fun _ _ _ h => h) (Or.inl ⟨by rfl, ?_⟩) hHeld ?_ ?_
          rotate_left
          · rintro w' ⟨s0, s1, s2, s3, s4, s5, s6, s7⟩
            go_simp
            with_reducible rfl
          rotate_left
          · simp only [Act.put, List.setIfInBounds_toArray, List.set_cons_zero, List.set_cons_succ, i64_w, i32_w]
            rfl
          refine pure_ (i := 7) (N := some 108) (v := ?_) (a' := ?_) #[true, true, true, true, true, true, true, true, false] rfl rfl (by kernel_rfl) (fun _ _ _ h => h) (Or.inl ⟨by rfl, ?_⟩) ?_ ?_
          rotate_left
          · intro w'
            go_simp
            with_reducible rfl
          rotate_left
          · simp only [Act.put, List.setIfInBounds_toArray, List.set_cons_zero, List.set_cons_succ, i64_w, i32_w]
            rfl
          refine last_ (i := 8) (N := none) #[true, true, true, true, true, true, true, true, true] rfl rfl (by kernel_rfl) (by decide) (fun K hK => ?_)
          refine skip_ (by rfl) rfl (exec_store (vx := .pointer (some ⟨g, i * 6, none⟩)) (vy := vS (adopt s a.src a.ep a.rk cost).1) rfl (by rfl) (by rfl) (HW7.out.drew.run_store hi (adopt s a.src a.ep a.rk cost).1)) ?_
          refine hK.out _ _ ?_
          clear hK K
          refine done_ (by kernel_rfl) ?_
          try go_wp2
          (first | go_end0 | ((try simp only [Exit.inBlock, Exit.then]); refine bodyPost_ret (results_none rfl _ _ _) rfl ?_))
          exact ⟨rfl, ⟨g, cap, _, _, by unfold hearS; rw [if_neg HE.out, if_neg HE2.out, if_pos ⟨HQ.out, HQ2.out⟩]; exact HW7.out.drew.store hi _⟩, HF7.out.drew.trans (HW7.out.drew.frame i _)⟩
        · have q1' : (s.f2 == -1) = false := beq_eq_false_iff_ne.2 q1
          have HQ1 := Aside0.mk q1
          clear q1
          by_cases q2 : a.ep > s.f1
          · have q2' : decide (s.f1 < a.ep) = true := decide_eq_true q2
            have HQ2 := Aside0.mk (show s.f2 = -1 ∨ a.ep > s.f1 ∨ a.rk + cost < s.f4 from .inr (.inl q2))
            clear q2
            go_wp2
            refine start_ (n := 9) (S := fun w' => (w'.cell? ⟨p, 0, none⟩ = some (.slice (some ⟨g, 0, none⟩) L.length cap)) ∧ (w'.cell? ⟨w.heap.size, 1, none⟩ = some (.int .i64 (i : Int))) ∧ (w'.cell? ⟨g3, 0, none⟩ = some (.int .i64 (adopt s a.src a.ep a.rk cost).1.f0)) ∧ (w'.cell? ⟨g3, 1, none⟩ = some (.int .i64 (adopt s a.src a.ep a.rk cost).1.f1)) ∧ (w'.cell? ⟨g3, 2, none⟩ = some (.int .i64 (adopt s a.src a.ep a.rk cost).1.f2)) ∧ (w'.cell? ⟨g3, 3, none⟩ = some (.int .i64 (adopt s a.src a.ep a.rk cost).1.f3)) ∧ (w'.cell? ⟨g3, 4, none⟩ = some (.int .i64 (adopt s a.src a.ep a.rk cost).1.f4)) ∧ (w'.cell? ⟨g3, 5, none⟩ = some (.int .i64 (adopt s a.src a.ep a.rk cost).1.f5))) (ds := [8]) #[false, false, false, false, false, false, false, false, false] (by kernel_rfl) rfl rfl ⟨c0, e1, d0, d1, d2, d3, d4, d5⟩ (fun hHeld => ?_)
            refine pure_ (i := 0) (N := some 101) (v := ?_) (a' := ?_) #[true, false, false, false, false, false, false, false, false] rfl rfl (by kernel_rfl) (fun _ _ _ h => h) (Or.inl ⟨by rfl, ?_⟩) ?_ ?_
            rotate_left
            · intro w'
              go_simp
              with_reducible rfl
            rotate_left
            · simp only [Act.put, List.setIfInBounds_toArray, List.set_cons_zero, List.set_cons_succ, i64_w, i32_w]
              rfl
            refine pure_ (i := 1) (N := some 102) (v := ?_) (a' := ?_) #[true, true, false, false, false, false, false, false, false] rfl rfl (by kernel_rfl) (fun _ _ _ h => h) (Or.inl ⟨by rfl, ?_⟩) ?_ ?_
            rotate_left
            · intro w'
              go_simp
              with_reducible rfl
            rotate_left
            · simp only [Act.put, List.setIfInBounds_toArray, List.set_cons_zero, List.set_cons_succ, i64_w, i32_w]
              rfl
            refine pure_ (i := 2) (N := some 103) (v := ?_) (a' := ?_) #[true, true, true, false, false, false, false, false, false] rfl rfl (by kernel_rfl) (fun _ _ _ h => h) (Or.inl ⟨by rfl, ?_⟩) ?_ ?_
            rotate_left
            · intro w'
              go_simp
              with_reducible rfl
            rotate_left
            · simp only [Act.put, List.setIfInBounds_toArray, List.set_cons_zero, List.set_cons_succ, i64_w, i32_w]
              rfl
            refine take_ (i := 3) (N := some 104) (v := ?_) (a' := ?_) #[true, true, true, true, false, false, false, false, false] rfl rfl (by kernel_rfl) (fun _ _ _ h => h) (Or.inl ⟨by rfl, ?_⟩) hHeld ?_ ?_
            rotate_left
            · rintro w' ⟨s0, s1, s2, s3, s4, s5, s6, s7⟩
              go_simp
              with_reducible rfl
            rotate_left
            · simp only [Act.put, List.setIfInBounds_toArray, List.set_cons_zero, List.set_cons_succ, i64_w, i32_w]
              rfl
            refine pure_ (i := 4) (N := some 105) (v := ?_) (a' := ?_) #[true, true, true, true, true, false, false, false, false] rfl rfl (by kernel_rfl) (fun _ _ _ h => h) (Or.inl ⟨by rfl, ?_⟩) ?_ ?_
            rotate_left
            · intro w'
              go_simp
              with_reducible rfl
            rotate_left
            · simp only [Act.put, List.setIfInBounds_toArray, List.set_cons_zero, List.set_cons_succ, i64_w, i32_w]
              rfl
            refine take_ (i := 5) (N := some 106) (v := ?_) (a' := ?_) #[true, true, true, true, true, true, false, false, false] rfl rfl (by kernel_rfl) (fun _ _ _ h => h) (Or.inl ⟨by rfl, ?_⟩) hHeld ?_ ?_
            rotate_left
            · rintro w' ⟨s0, s1, s2, s3, s4, s5, s6, s7⟩
              go_simp
              with_reducible rfl
            rotate_left
            · simp only [Act.put, List.setIfInBounds_toArray, List.set_cons_zero, List.set_cons_succ, i64_w, i32_w]
              rfl
            refine take_ (i := 6) (N := some 107) (v := ?_) (a' := ?_) #[true, true, true, true, true, true, true, false, false] rfl rfl (by kernel_rfl) (fun _ _ _ h => h) (Or.inl ⟨by rfl, ?_⟩) hHeld ?_ ?_
            rotate_left
            · rintro w' ⟨s0, s1, s2, s3, s4, s5, s6, s7⟩
              go_simp
              with_reducible rfl
            rotate_left
            · simp only [Act.put, List.setIfInBounds_toArray, List.set_cons_zero, List.set_cons_succ, i64_w, i32_w]
              rfl
            refine pure_ (i := 7) (N := some 108) (v := ?_) (a' := ?_) #[true, true, true, true, true, true, true, true, false] rfl rfl (by kernel_rfl) (fun _ _ _ h => h) (Or.inl ⟨by rfl, ?_⟩) ?_ ?_
            rotate_left
            · intro w'
              go_simp
              with_reducible rfl
            rotate_left
            · simp only [Act.put, List.setIfInBounds_toArray, List.set_cons_zero, List.set_cons_succ, i64_w, i32_w]
              rfl
            refine last_ (i := 8) (N := none) #[true, true, true, true, true, true, true, true, true] rfl rfl (by kernel_rfl) (by decide) (fun K hK => ?_)
            refine skip_ (by rfl) rfl (exec_store (vx := .pointer (some ⟨g, i * 6, none⟩)) (vy := vS (adopt s a.src a.ep a.rk cost).1) rfl (by rfl) (by rfl) (HW7.out.drew.run_store hi (adopt s a.src a.ep a.rk cost).1)) ?_
            refine hK.out _ _ ?_
            clear hK K
            refine done_ (by kernel_rfl) ?_
            try go_wp2
            (first | go_end0 | ((try simp only [Exit.inBlock, Exit.then]); refine bodyPost_ret (results_none rfl _ _ _) rfl ?_))
            exact ⟨rfl, ⟨g, cap, _, _, by unfold hearS; rw [if_neg HE.out, if_neg HE2.out, if_pos ⟨HQ.out, HQ2.out⟩]; exact HW7.out.drew.store hi _⟩, HF7.out.drew.trans (HW7.out.drew.frame i _)⟩
          · have q2' : decide (s.f1 < a.ep) = false := decide_eq_false q2
            have HQ3 := Aside0.mk q2
            clear q2
            by_cases q3 : a.rk + cost < s.f4
            · have q3' : decide (a.rk + cost < s.f4) = true := decide_eq_true q3
              have HQ2 := Aside0.mk (show s.f2 = -1 ∨ a.ep > s.f1 ∨ a.rk + cost < s.f4 from .inr (.inr q3))
              clear q3
              go_wp2
              refine start_ (n := 9) (S := fun w' => (w'.cell? ⟨p, 0, none⟩ = some (.slice (some ⟨g, 0, none⟩) L.length cap)) ∧ (w'.cell? ⟨w.heap.size, 1, none⟩ = some (.int .i64 (i : Int))) ∧ (w'.cell? ⟨g3, 0, none⟩ = some (.int .i64 (adopt s a.src a.ep a.rk cost).1.f0)) ∧ (w'.cell? ⟨g3, 1, none⟩ = some (.int .i64 (adopt s a.src a.ep a.rk cost).1.f1)) ∧ (w'.cell? ⟨g3, 2, none⟩ = some (.int .i64 (adopt s a.src a.ep a.rk cost).1.f2)) ∧ (w'.cell? ⟨g3, 3, none⟩ = some (.int .i64 (adopt s a.src a.ep a.rk cost).1.f3)) ∧ (w'.cell? ⟨g3, 4, none⟩ = some (.int .i64 (adopt s a.src a.ep a.rk cost).1.f4)) ∧ (w'.cell? ⟨g3, 5, none⟩ = some (.int .i64 (adopt s a.src a.ep a.rk cost).1.f5))) (ds := [8]) #[false, false, false, false, false, false, false, false, false] (by kernel_rfl) rfl rfl ⟨c0, e1, d0, d1, d2, d3, d4, d5⟩ (fun hHeld => ?_)
              refine pure_ (i := 0) (N := some 101) (v := ?_) (a' := ?_) #[true, false, false, false, false, false, false, false, false] rfl rfl (by kernel_rfl) (fun _ _ _ h => h) (Or.inl ⟨by rfl, ?_⟩) ?_ ?_
              rotate_left
              · intro w'
                go_simp
                with_reducible rfl
              rotate_left
              · simp only [Act.put, List.setIfInBounds_toArray, List.set_cons_zero, List.set_cons_succ, i64_w, i32_w]
                rfl
              refine pure_ (i := 1) (N := some 102) (v := ?_) (a' := ?_) #[true, true, false, false, false, false, false, false, false] rfl rfl (by kernel_rfl) (fun _ _ _ h => h) (Or.inl ⟨by rfl, ?_⟩) ?_ ?_
              rotate_left
              · intro w'
                go_simp
                with_reducible rfl
              rotate_left
              · simp only [Act.put, List.setIfInBounds_toArray, List.set_cons_zero, List.set_cons_succ, i64_w, i32_w]
                rfl
              refine pure_ (i := 2) (N := some 103) (v := ?_) (a' := ?_) #[true, true, true, false, false, false, false, false, false] rfl rfl (by kernel_rfl) (fun _ _ _ h => h) (Or.inl ⟨by rfl, ?_⟩) ?_ ?_
              rotate_left
              · intro w'
                go_simp
                with_reducible rfl
              rotate_left
              · simp only [Act.put, List.setIfInBounds_toArray, List.set_cons_zero, List.set_cons_succ, i64_w, i32_w]
                rfl
              refine take_ (i := 3) (N := some 104) (v := ?_) (a' := ?_) #[true, true, true, true, false, false, false, false, false] rfl rfl (by kernel_rfl) (fun _ _ _ h => h) (Or.inl ⟨by rfl, ?_⟩) hHeld ?_ ?_
              rotate_left
              · rintro w' ⟨s0, s1, s2, s3, s4, s5, s6, s7⟩
                go_simp
                with_reducible rfl
              rotate_left
              · simp only [Act.put, List.setIfInBounds_toArray, List.set_cons_zero, List.set_cons_succ, i64_w, i32_w]
                rfl
              refine pure_ (i := 4) (N := some 105) (v := ?_) (a' := ?_) #[true, true, true, true, true, false, false, false, false] rfl rfl (by kernel_rfl) (fun _ _ _ h => h) (Or.inl ⟨by rfl, ?_⟩) ?_ ?_
              rotate_left
              · intro w'
                go_simp
                with_reducible rfl
              rotate_left
              · simp only [Act.put, List.setIfInBounds_toArray, List.set_cons_zero, List.set_cons_succ, i64_w, i32_w]
                rfl
              refine take_ (i := 5) (N := some 106) (v := ?_) (a' := ?_) #[true, true, true, true, true, true, false, false, false] rfl rfl (by kernel_rfl) (fun _ _ _ h => h) (Or.inl ⟨by rfl, ?_⟩) hHeld ?_ ?_
              rotate_left
              · rintro w' ⟨s0, s1, s2, s3, s4, s5, s6, s7⟩
                go_simp
                with_reducible rfl
              rotate_left
              · simp only [Act.put, List.setIfInBounds_toArray, List.set_cons_zero, List.set_cons_succ, i64_w, i32_w]
                rfl
              refine take_ (i := 6) (N := some 107) (v := ?_) (a' := ?_) #[true, true, true, true, true, true, true, false, false] rfl rfl (by kernel_rfl) (fun _ _ _ h => h) (Or.inl ⟨by rfl, ?_⟩) hHeld ?_ ?_
              rotate_left
              · rintro w' ⟨s0, s1, s2, s3, s4, s5, s6, s7⟩
                go_simp
                with_reducible rfl
              rotate_left
              · simp only [Act.put, List.setIfInBounds_toArray, List.set_cons_zero, List.set_cons_succ, i64_w, i32_w]
                rfl
              refine pure_ (i := 7) (N := some 108) (v := ?_) (a' := ?_) #[true, true, true, true, true, true, true, true, false] rfl rfl (by kernel_rfl) (fun _ _ _ h => h) (Or.inl ⟨by rfl, ?_⟩) ?_ ?_
              rotate_left
              · intro w'
                go_simp
                with_reducible rfl
              rotate_left
              · simp only [Act.put, List.setIfInBounds_toArray, List.set_cons_zero, List.set_cons_succ, i64_w, i32_w]
                rfl
              refine last_ (i := 8) (N := none) #[true, true, true, true, true, true, true, true, true] rfl rfl (by kernel_rfl) (by decide) (fun K hK => ?_)
              refine skip_ (by rfl) rfl (exec_store (vx := .pointer (some ⟨g, i * 6, none⟩)) (vy := vS (adopt s a.src a.ep a.rk cost).1) rfl (by rfl) (by rfl) (HW7.out.drew.run_store hi (adopt s a.src a.ep a.rk cost).1)) ?_
              refine hK.out _ _ ?_
              clear hK K
              refine done_ (by kernel_rfl) ?_
              try go_wp2
              (first | go_end0 | ((try simp only [Exit.inBlock, Exit.then]); refine bodyPost_ret (results_none rfl _ _ _) rfl ?_))
              exact ⟨rfl, ⟨g, cap, _, _, by unfold hearS; rw [if_neg HE.out, if_neg HE2.out, if_pos ⟨HQ.out, HQ2.out⟩]; exact HW7.out.drew.store hi _⟩, HF7.out.drew.trans (HW7.out.drew.frame i _)⟩
            · have q3' : decide (a.rk + cost < s.f4) = false := decide_eq_false q3
              have HQ4 := Aside0.mk q3
              clear q3
              go_wp2
              (first | go_end0 | ((try simp only [Exit.inBlock, Exit.then]); refine bodyPost_ret (results_none rfl _ _ _) rfl ?_))
              exact ⟨rfl, ⟨g, cap, cur, _, by unfold hearS; rw [if_neg HE.out, if_neg HE2.out, if_neg (by have h1 := HQ1.out; have h3 := HQ3.out; have h4 := HQ4.out; rintro ⟨_, h | h | h⟩ <;> omega), set_same HS.out]; exact HW7.out⟩, HF7.out⟩
      · have q0' : ((adopt s a.src a.ep a.rk cost).2 == 0) = false := beq_eq_false_iff_ne.2 q0
        have HQ := Aside0.mk q0
        clear q0
        go_wp2
        (first | go_end0 | ((try simp only [Exit.inBlock, Exit.then]); refine bodyPost_ret (results_none rfl _ _ _) rfl ?_))
        exact ⟨rfl, ⟨g, cap, cur, _, by unfold hearS; rw [if_neg HE.out, if_neg HE2.out, if_neg (fun h => HQ.out h.1), set_same HS.out]; exact HW7.out⟩, HF7.out⟩
end Go.Proofs.Ytigobnphenhkjaa.Fns
