/- Play: its walk. -/
import Derived.Test.YtigobnphenhkjaaPlayStep
namespace Go.Proofs.Ytigobnphenhkjaa.Fns
open Go.RowKit Go.Proofs.YtigobnphenhkjaaW.PrintWords Go.Proofs.YtigobnphenhkjaaW.PrintLast Go.Proofs.YtigobnphenhkjaaW.PrintMore
set_option linter.unusedVariables false
set_option linter.unusedSimpArgs false
def PlayPost (w : World) (r1 : List S23) (r2 : Int) (e : Ending) (w' : World) : Prop :=
  ∃ v0_ : Value, e = .returned (.tuple #[v0_, .int .i64 r2]) ∧ Kd.R k23 23 w' w.heap.size (fun _ => True) v0_ r1 ∧ Below w.heap.size w w'
set_option maxRecDepth 100000 in
set_option maxHeartbeats 2000000 in
theorem play_range (a0 : Int) (A1 : Option Addr) (c1 : Nat) (l1 : List S50) (w : World) (h : ¬ (1 ≤ a0 ∧ a0 ≤ 32)) :
    Calls Try.prog 28 #[.int .i64 a0, .slice A1 l1.length c1] w (PlayPost w [] 2) := by
  have hd : decide (1 ≤ a0 ∧ a0 ≤ 32) = false := decide_eq_false h
  have HP := within_calls a0 1 32
  rw [hd] at HP
  clear hd h
  go_enter Try.func28, Try.ntmps28
  go_wp2_with (go_at_call 36; refine (HP _).mono ?_; rintro e w' ⟨rfl, ⟨nd, rfl⟩⟩)
  go_ret2
  exact ⟨.slice none 0 0, rfl, Kd.R_nil _ _ _ _ _, Drawn0.below ⟨_, rfl⟩⟩
set_option maxRecDepth 100000 in
set_option maxHeartbeats 2000000 in
theorem play_long (a0 : Int) (A1 : Option Addr) (c1 : Nat) (l1 : List S50) (w : World) (h : 1 ≤ a0 ∧ a0 ≤ 32) (hl : 4096 < l1.length) :
    Calls Try.prog 28 #[.int .i64 a0, .slice A1 l1.length c1] w (PlayPost w [] 8) := by
  have hd : decide (1 ≤ a0 ∧ a0 ≤ 32) = true := decide_eq_true h
  have HP := within_calls a0 1 32
  rw [hd] at HP
  have hl' : decide (4096 < (l1.length : Int)) = true := decide_eq_true (by omega)
  clear hd h hl
  go_enter Try.func28, Try.ntmps28
  go_wp2_with (go_at_call 36; refine (HP _).mono ?_; rintro e w' ⟨rfl, ⟨nd, rfl⟩⟩)
  go_ret2
  exact ⟨.slice none 0 0, rfl, Kd.R_nil _ _ _ _ _, Drawn0.below ⟨_, rfl⟩⟩
set_option maxRecDepth 100000 in
set_option maxHeartbeats 4000000 in
theorem play_runs (n : Nat) (A1 : Option Addr) (c1 : Nat) (l1 : List S50) (r1 : List S23) (r2 : Int) (w : World) (hr1 : Kd.C k50 w A1 l1.length l1) (h : 1 ≤ n ∧ n ≤ 32) (hl : l1.length ≤ 4096)
    (hrun : runE n l1 (startL n, []) = (r1, r2)) :
    Calls Try.prog 28 #[.int .i64 (n : Int), .slice A1 l1.length c1] w (PlayPost w r1 r2) := by
  have hd : decide (1 ≤ (n : Int) ∧ (n : Int) ≤ 32) = true := decide_eq_true (by omega)
  have HP := within_calls (n : Int) 1 32
  rw [hd] at HP
  have hl' : decide (4096 < (l1.length : Int)) = false := decide_eq_false (by omega)
  have HRUN := Aside0.mk hrun
  have HR1 := Aside0.mk hr1
  have HN := Aside0.mk h
  have HL := Aside0.mk hl
  have hn1 : n ≤ 32 := h.2
  clear hd h hl hrun hr1
  have hu23 := Try.underlying23
  have hu60 := Try.underlying60
  go_enter Try.func28, Try.ntmps28
  go_wp2_with (go_at_call 36; refine (HP _).mono ?_; rintro e w' ⟨rfl, ⟨nd, rfl⟩⟩)
  go_loopw [22] (fun v wr => ∃ k : Nat, Aside0 (k ≤ n) ∧ v = .int .i64 (k : Int) ∧ ∃ sv, Aside0 (W0 wr w.heap.size w.heap.size sv (startL k)) ∧ Aside0 (Below w.heap.size w wr)) (fun v _ => n - (intOf v).toNat)
  case atStart =>
    refine ⟨0, ⟨Nat.zero_le _⟩, rfl, .slice none 0 0, ⟨heap_alloc_new _ _, Nat.le_refl _, ?_⟩, ⟨?_⟩⟩
    · exact World.ownsRow_nil _ _ _ _
    · exact (Drawn0.below ⟨_, rfl⟩).alloc (Nat.le_refl _) _
  case round =>
    obtain ⟨k, hk, rfl, sv, HW, HB⟩ := hrel
    by_cases hlt : k < n
    · have hlt' : decide ((k : Int) < (n : Int)) = true := decide_eq_true (by omega)
      have HK := Aside0.mk hlt
      have hk1 : k < n := hlt
      clear hlt
      go_upto_region 10 with (first | ((with_reducible refine gate_callee (f := 11) rfl ?_); refine goesL_ (some 27) rfl rfl Try.func11 (by kernel_rfl) rfl #[.int .i64 (k : Int)] rfl (by (try simp only [List.map_toArray, List.map_cons, List.map_nil]); first | done | rfl) ?_; (with_reducible refine (start_calls' (k : Int) _).mono ?_); rintro e w6 ⟨rfl, hb6⟩; refine ⟨_, rfl, ?_⟩))
      refine wp_world (F := fun wz => Below wr.heap.size wr wz ∧ wz.heap[w6.heap.size]? = some (.cells #[.int .i64 (start (k : Int)).1.f0, .int .i64 (start (k : Int)).1.f1, .int .i64 (start (k : Int)).1.f2, .int .i64 (start (k : Int)).1.f3, .int .i64 (start (k : Int)).1.f4, .int .i64 (start (k : Int)).1.f5] 23 (0, 0))) ⟨hb6.alloc hb6.size _, heap_alloc_new w6 _⟩ (fun W7 hF7 => ?_)
      obtain ⟨hb7, hz7⟩ := hF7
      have HW7 := Aside0.mk (HW.out.later hb7)
      have HB7 := Aside0.mk (HB.out.trans (hb7.mono HB.out.size))
      have c0 := HW7.out.cell
      have d0 : W7.cell? ⟨w6.heap.size, 0, none⟩ = some (.int .i64 (start (k : Int)).1.f0) := (blk_cell hz7 0).trans rfl
      have d1 : W7.cell? ⟨w6.heap.size, 1, none⟩ = some (.int .i64 (start (k : Int)).1.f1) := (blk_cell hz7 1).trans rfl
      have d2 : W7.cell? ⟨w6.heap.size, 2, none⟩ = some (.int .i64 (start (k : Int)).1.f2) := (blk_cell hz7 2).trans rfl
      have d3 : W7.cell? ⟨w6.heap.size, 3, none⟩ = some (.int .i64 (start (k : Int)).1.f3) := (blk_cell hz7 3).trans rfl
      have d4 : W7.cell? ⟨w6.heap.size, 4, none⟩ = some (.int .i64 (start (k : Int)).1.f4) := (blk_cell hz7 4).trans rfl
      have d5 : W7.cell? ⟨w6.heap.size, 5, none⟩ = some (.int .i64 (start (k : Int)).1.f5) := (blk_cell hz7 5).trans rfl
      generalize w6.heap.size = g3 at hz7 d0 d1 d2 d3 d4 d5 ⊢
      clear hb6 hb7 hz7 HW HB
      refine start_ (n := 11) (S := fun w' => (w'.cell? ⟨w.heap.size, 0, none⟩ = some sv) ∧ (w'.cell? ⟨g3, 0, none⟩ = some (.int .i64 (start (k : Int)).1.f0)) ∧ (w'.cell? ⟨g3, 1, none⟩ = some (.int .i64 (start (k : Int)).1.f1)) ∧ (w'.cell? ⟨g3, 2, none⟩ = some (.int .i64 (start (k : Int)).1.f2)) ∧ (w'.cell? ⟨g3, 3, none⟩ = some (.int .i64 (start (k : Int)).1.f3)) ∧ (w'.cell? ⟨g3, 4, none⟩ = some (.int .i64 (start (k : Int)).1.f4)) ∧ (w'.cell? ⟨g3, 5, none⟩ = some (.int .i64 (start (k : Int)).1.f5))) (ds := [7, 10]) #[false, false, false, false, false, false, false, false, false, false, false] (by kernel_rfl) rfl rfl ⟨c0, d0, d1, d2, d3, d4, d5⟩ (fun hHeld => ?_)
      refine pure_ (i := 0) (N := some 30) (v := ?_) (a' := ?_) #[true, false, false, false, false, false, false, false, false, false, false] rfl rfl (by kernel_rfl) (fun _ _ _ h => h) (Or.inl ⟨by rfl, ?_⟩) ?_ ?_
      rotate_left
      · intro w'
        go_simp
        with_reducible rfl
      rotate_left
      · simp only [Act.put, List.setIfInBounds_toArray, List.set_cons_zero, List.set_cons_succ, i64_w, i32_w]
        rfl
      refine pure_ (i := 1) (N := some 31) (v := ?_) (a' := ?_) #[true, true, false, false, false, false, false, false, false, false, false] rfl rfl (by kernel_rfl) (fun _ _ _ h => h) (Or.inl ⟨by rfl, ?_⟩) ?_ ?_
      rotate_left
      · intro w'
        go_simp
        with_reducible rfl
      rotate_left
      · simp only [Act.put, List.setIfInBounds_toArray, List.set_cons_zero, List.set_cons_succ, i64_w, i32_w]
        rfl
      refine pure_ (i := 2) (N := some 32) (v := ?_) (a' := ?_) #[true, true, true, false, false, false, false, false, false, false, false] rfl rfl (by kernel_rfl) (fun _ _ _ h => h) (Or.inl ⟨by rfl, ?_⟩) ?_ ?_
      rotate_left
      · intro w'
        go_simp
        with_reducible rfl
      rotate_left
      · simp only [Act.put, List.setIfInBounds_toArray, List.set_cons_zero, List.set_cons_succ, i64_w, i32_w]
        rfl
      refine pure_ (i := 3) (N := some 33) (v := ?_) (a' := ?_) #[true, true, true, true, false, false, false, false, false, false, false] rfl rfl (by kernel_rfl) (fun _ _ _ h => h) (Or.inl ⟨by rfl, ?_⟩) ?_ ?_
      rotate_left
      · intro w'
        go_simp
        with_reducible rfl
      rotate_left
      · simp only [Act.put, List.setIfInBounds_toArray, List.set_cons_zero, List.set_cons_succ, i64_w, i32_w]
        rfl
      refine take_ (i := 4) (N := some 34) (v := ?_) (a' := ?_) #[true, true, true, true, true, false, false, false, false, false, false] rfl rfl (by kernel_rfl) (fun _ _ _ h => h) (Or.inl ⟨by rfl, ?_⟩) hHeld ?_ ?_
      rotate_left
      · rintro w' ⟨s0, s1, s2, s3, s4, s5, s6⟩
        go_simp
        with_reducible rfl
      rotate_left
      · simp only [Act.put, List.setIfInBounds_toArray, List.set_cons_zero, List.set_cons_succ, i64_w, i32_w]
        rfl
      refine take_ (i := 5) (N := some 35) (v := ?_) (a' := ?_) #[true, true, true, true, true, true, false, false, false, false, false] rfl rfl (by kernel_rfl) (fun _ _ _ h => h) (Or.inl ⟨by rfl, ?_⟩) hHeld ?_ ?_
      rotate_left
      · rintro w' ⟨s0, s1, s2, s3, s4, s5, s6⟩
        go_simp
        with_reducible rfl
      rotate_left
      · simp only [Act.put, List.setIfInBounds_toArray, List.set_cons_zero, List.set_cons_succ, i64_w, i32_w]
        rfl
      refine one_ (i := 6) (N := some 36) #[true, true, true, true, true, true, true, false, false, false, false] rfl rfl (by kernel_rfl) (by decide) (fun K hK => ?_)
      refine value_ (w1 := W7.drew.alloc (.cells (cS (start (k : Int)).1).toArray 23)) (v := .slice (some ⟨W7.drew.heap.size, 0, none⟩) 1 1) (by rfl) rfl (by go_simp; rfl) ?_
      have hb5 : Below W7.drew.heap.size W7.drew (W7.drew.alloc (.cells (cS (start (k : Int)).1).toArray 23)) := (Below.refl _ _).alloc (Nat.le_refl _) _
      refine hK.out _ _ ⟨cell_later hb5 hHeld.1, cell_later hb5 hHeld.2.1, cell_later hb5 hHeld.2.2.1, cell_later hb5 hHeld.2.2.2.1, cell_later hb5 hHeld.2.2.2.2.1, cell_later hb5 hHeld.2.2.2.2.2.1, cell_later hb5 hHeld.2.2.2.2.2.2⟩ (fun hHeld => ?_)
      clear hK K hb5
      refine norm_ (a' := ?_) ?_ ?_
      rotate_left
      · simp only [Act.put, List.setIfInBounds_toArray, List.set_cons_zero, List.set_cons_succ, i64_w, i32_w]
        rfl
      refine last_ (i := 7) (N := some 37) #[true, true, true, true, true, true, true, true, false, false, false] rfl rfl (by kernel_rfl) (by decide) (fun K hK => ?_)
      refine step_append_cells w.heap.size (by rfl) (.tmp 34) (.tmp 36) 40 23 _ 6 48 rfl Try.underlying40 info23 rfl (by decide) (by decide) sv (startL k).length (flat cS (startL k)) (cS (start (k : Int)).1) (by rfl) (by rfl) rfl (by simp [cS, Value.oneCell']) HW7.out.drew.own (Below.refl _ _) HB7.out.size (by rw [startL_length]; omega) ?_
      intro v1 w5 ho5 hb5 hg5 _
      have HO5 := Aside0.mk ho5
      have HH5 := Aside0.mk (HW7.out.drew.append ho5 hg5)
      obtain ⟨q1, q2⟩ := HW7.out.drew.cell_after hg5
      clear ho5 hb5 hg5
      refine hK.out _ _ ?_
      clear hK K
      refine norm_ (a' := ?_) ?_ ?_
      rotate_left
      · show Act.put _ (some 37) _ = _
        simp only [Act.put, List.setIfInBounds_toArray, List.set_cons_zero, List.set_cons_succ, i64_w, i32_w]
        rfl
      refine pure_ (i := 8) (N := some 38) (v := ?_) (a' := ?_) #[true, true, true, true, true, true, true, true, true, false, false] rfl rfl (by kernel_rfl) (fun _ _ _ h => h) (Or.inl ⟨by rfl, ?_⟩) ?_ ?_
      rotate_left
      · intro w'
        go_simp
        with_reducible rfl
      rotate_left
      · simp only [Act.put, List.setIfInBounds_toArray, List.set_cons_zero, List.set_cons_succ, i64_w, i32_w]
        rfl
      refine pure_ (i := 9) (N := some 39) (v := ?_) (a' := ?_) #[true, true, true, true, true, true, true, true, true, true, false] rfl rfl (by kernel_rfl) (fun _ _ _ h => h) (Or.inl ⟨by rfl, ?_⟩) ?_ ?_
      rotate_left
      · intro w'
        go_simp
        with_reducible rfl
      rotate_left
      · simp only [Act.put, List.setIfInBounds_toArray, List.set_cons_zero, List.set_cons_succ, i64_w, i32_w]
        rfl
      refine last_ (i := 10) (N := none) #[true, true, true, true, true, true, true, true, true, true, true] rfl rfl (by kernel_rfl) (by decide) (fun K hK => ?_)
      refine skip_ (w1 := w5.setCell ⟨w.heap.size, 0, none⟩ v1) (by rfl) rfl ?_ ?_
      · obtain ⟨As, cs, ev1⟩ := own_slice HO5.out
        subst ev1
        go_simp
      refine hK.out _ _ ?_
      clear hK K
      refine done_ (by kernel_rfl) ?_
      go_wp2
      go_roundw
      case rel => exact ⟨k + 1, ⟨HK.out⟩, by go_num, v1, ⟨by rw [startL_succ]; exact HH5.out.1⟩, ⟨HB7.out.drew.trans (HH5.out.2.below HB7.out.size)⟩⟩
      case measure => simp [intOf]; omega
    · have hlt' : decide ((k : Int) < (n : Int)) = false := decide_eq_false (by omega)
      obtain rfl : n = k := by have := hk.out; omega
      have HX := Aside0.mk (HW.out.world (by rw [startL_length]; exact HN.out.1))
      clear HW hlt
      go_upto_region 12 with (fail)
      refine wp_region_lit ?_
      refine stepL_value (N := some 41) (v := .map (some wr.heap.size)) (w1 := wr.alloc (.map #[] 0)) rfl rfl (by rfl) ?_
      refine wpList_norm (a' := ?_) ?_ ?_
      rotate_left
      · simp only [Act.put, List.setIfInBounds_toArray, List.set_cons_zero, List.set_cons_succ]
        rfl
      refine wpList_world (F := fun wz => Below wr.heap.size wr wz ∧ wz.heap[wr.heap.size]? = some (.map #[] 0)) ⟨(Below.refl _ _).alloc (Nat.le_refl _) _, heap_alloc_new wr _⟩ (fun wz0 hz0 => ?_)
      refine stepL_value (N := some 42) (v := .pointer (some ⟨w.heap.size, 0, none⟩)) (w1 := wz0) rfl rfl (by rfl) ?_
      refine wpList_norm (a' := ?_) ?_ ?_
      rotate_left
      · simp only [Act.put, List.setIfInBounds_toArray, List.set_cons_zero, List.set_cons_succ]
        rfl
      refine stepL_value (N := some 43) (v := .func (.func 40) #[.pointer (some ⟨w.heap.size, 0, none⟩)] #[]) (w1 := wz0) rfl rfl (by first | (go_simp; done) | (go_simp; rfl)) ?_
      refine wpList_norm (a' := ?_) ?_ ?_
      rotate_left
      · simp only [Act.put, List.setIfInBounds_toArray, List.set_cons_zero, List.set_cons_succ]
        rfl
      refine stepL_skip (w1 := setB wz0 wr.heap.size (.map #[⟨.int .i64 1, .func (.func 40) #[.pointer (some ⟨w.heap.size, 0, none⟩)] #[], 0⟩] 1)) rfl rfl (exec_insert (vm := .map (some wr.heap.size)) (vk := .int .i64 1) (vx := .func (.func 40) #[.pointer (some ⟨w.heap.size, 0, none⟩)] #[]) rfl (by rfl) (by rfl) (by rfl) (run_put_new Try.underlying62 Try.underlying3 hz0.2 (by rfl) _)) ?_
      refine wpList_world (F := fun wz => Below wr.heap.size wr wz ∧ wz.heap[wr.heap.size]? = some (.map #[⟨.int .i64 1, .func (.func 40) #[.pointer (some ⟨w.heap.size, 0, none⟩)] #[], 0⟩] 1)) ⟨below_setB hz0.1 (Nat.le_refl _) _, setB_same hz0.2 _⟩ (fun wz1 hz1 => ?_)
      clear hz0
      refine stepL_value (N := some 44) (v := .pointer (some ⟨w.heap.size, 0, none⟩)) (w1 := wz1) rfl rfl (by rfl) ?_
      refine wpList_norm (a' := ?_) ?_ ?_
      rotate_left
      · simp only [Act.put, List.setIfInBounds_toArray, List.set_cons_zero, List.set_cons_succ]
        rfl
      refine stepL_value (N := some 45) (v := .func (.func 41) #[.pointer (some ⟨w.heap.size, 0, none⟩)] #[]) (w1 := wz1) rfl rfl (by first | (go_simp; done) | (go_simp; rfl)) ?_
      refine wpList_norm (a' := ?_) ?_ ?_
      rotate_left
      · simp only [Act.put, List.setIfInBounds_toArray, List.set_cons_zero, List.set_cons_succ]
        rfl
      refine stepL_skip (w1 := setB wz1 wr.heap.size (.map #[⟨.int .i64 1, .func (.func 40) #[.pointer (some ⟨w.heap.size, 0, none⟩)] #[], 0⟩, ⟨.int .i64 2, .func (.func 41) #[.pointer (some ⟨w.heap.size, 0, none⟩)] #[], 1⟩] 2)) rfl rfl (exec_insert (vm := .map (some wr.heap.size)) (vk := .int .i64 2) (vx := .func (.func 41) #[.pointer (some ⟨w.heap.size, 0, none⟩)] #[]) rfl (by rfl) (by rfl) (by rfl) (run_put_new Try.underlying62 Try.underlying3 hz1.2 (by rfl) _)) ?_
      refine wpList_world (F := fun wz => Below wr.heap.size wr wz ∧ wz.heap[wr.heap.size]? = some (.map #[⟨.int .i64 1, .func (.func 40) #[.pointer (some ⟨w.heap.size, 0, none⟩)] #[], 0⟩, ⟨.int .i64 2, .func (.func 41) #[.pointer (some ⟨w.heap.size, 0, none⟩)] #[], 1⟩] 2)) ⟨below_setB hz1.1 (Nat.le_refl _) _, setB_same hz1.2 _⟩ (fun wz2 hz2 => ?_)
      clear hz1
      refine stepL_value (N := some 46) (v := .pointer (some ⟨w.heap.size, 0, none⟩)) (w1 := wz2) rfl rfl (by rfl) ?_
      refine wpList_norm (a' := ?_) ?_ ?_
      rotate_left
      · simp only [Act.put, List.setIfInBounds_toArray, List.set_cons_zero, List.set_cons_succ]
        rfl
      refine stepL_value (N := some 47) (v := .func (.func 42) #[.pointer (some ⟨w.heap.size, 0, none⟩)] #[]) (w1 := wz2) rfl rfl (by first | (go_simp; done) | (go_simp; rfl)) ?_
      refine wpList_norm (a' := ?_) ?_ ?_
      rotate_left
      · simp only [Act.put, List.setIfInBounds_toArray, List.set_cons_zero, List.set_cons_succ]
        rfl
      refine stepL_skip (w1 := setB wz2 wr.heap.size (.map #[⟨.int .i64 1, .func (.func 40) #[.pointer (some ⟨w.heap.size, 0, none⟩)] #[], 0⟩, ⟨.int .i64 2, .func (.func 41) #[.pointer (some ⟨w.heap.size, 0, none⟩)] #[], 1⟩, ⟨.int .i64 3, .func (.func 42) #[.pointer (some ⟨w.heap.size, 0, none⟩)] #[], 2⟩] 3)) rfl rfl (exec_insert (vm := .map (some wr.heap.size)) (vk := .int .i64 3) (vx := .func (.func 42) #[.pointer (some ⟨w.heap.size, 0, none⟩)] #[]) rfl (by rfl) (by rfl) (by rfl) (run_put_new Try.underlying62 Try.underlying3 hz2.2 (by rfl) _)) ?_
      refine wpList_world (F := fun wz => Below wr.heap.size wr wz ∧ wz.heap[wr.heap.size]? = some (.map #[⟨.int .i64 1, .func (.func 40) #[.pointer (some ⟨w.heap.size, 0, none⟩)] #[], 0⟩, ⟨.int .i64 2, .func (.func 41) #[.pointer (some ⟨w.heap.size, 0, none⟩)] #[], 1⟩, ⟨.int .i64 3, .func (.func 42) #[.pointer (some ⟨w.heap.size, 0, none⟩)] #[], 2⟩] 3)) ⟨below_setB hz2.1 (Nat.le_refl _) _, setB_same hz2.2 _⟩ (fun wz3 hz3 => ?_)
      clear hz2
      refine stepL_value (N := some 48) (v := .pointer (some ⟨w.heap.size, 0, none⟩)) (w1 := wz3) rfl rfl (by rfl) ?_
      refine wpList_norm (a' := ?_) ?_ ?_
      rotate_left
      · simp only [Act.put, List.setIfInBounds_toArray, List.set_cons_zero, List.set_cons_succ]
        rfl
      refine stepL_value (N := some 49) (v := .func (.func 43) #[.pointer (some ⟨w.heap.size, 0, none⟩)] #[]) (w1 := wz3) rfl rfl (by first | (go_simp; done) | (go_simp; rfl)) ?_
      refine wpList_norm (a' := ?_) ?_ ?_
      rotate_left
      · simp only [Act.put, List.setIfInBounds_toArray, List.set_cons_zero, List.set_cons_succ]
        rfl
      refine stepL_skip (w1 := setB wz3 wr.heap.size (.map #[⟨.int .i64 1, .func (.func 40) #[.pointer (some ⟨w.heap.size, 0, none⟩)] #[], 0⟩, ⟨.int .i64 2, .func (.func 41) #[.pointer (some ⟨w.heap.size, 0, none⟩)] #[], 1⟩, ⟨.int .i64 3, .func (.func 42) #[.pointer (some ⟨w.heap.size, 0, none⟩)] #[], 2⟩, ⟨.int .i64 4, .func (.func 43) #[.pointer (some ⟨w.heap.size, 0, none⟩)] #[], 3⟩] 4)) rfl rfl (exec_insert (vm := .map (some wr.heap.size)) (vk := .int .i64 4) (vx := .func (.func 43) #[.pointer (some ⟨w.heap.size, 0, none⟩)] #[]) rfl (by rfl) (by rfl) (by rfl) (run_put_new Try.underlying62 Try.underlying3 hz3.2 (by rfl) _)) ?_
      refine wpList_world (F := fun wz => Below wr.heap.size wr wz ∧ wz.heap[wr.heap.size]? = some (.map #[⟨.int .i64 1, .func (.func 40) #[.pointer (some ⟨w.heap.size, 0, none⟩)] #[], 0⟩, ⟨.int .i64 2, .func (.func 41) #[.pointer (some ⟨w.heap.size, 0, none⟩)] #[], 1⟩, ⟨.int .i64 3, .func (.func 42) #[.pointer (some ⟨w.heap.size, 0, none⟩)] #[], 2⟩, ⟨.int .i64 4, .func (.func 43) #[.pointer (some ⟨w.heap.size, 0, none⟩)] #[], 3⟩] 4)) ⟨below_setB hz3.1 (Nat.le_refl _) _, setB_same hz3.2 _⟩ (fun wz4 hz4 => ?_)
      clear hz3
      refine stepL_value (N := some 50) (v := .pointer (some ⟨w.heap.size, 0, none⟩)) (w1 := wz4) rfl rfl (by rfl) ?_
      refine wpList_norm (a' := ?_) ?_ ?_
      rotate_left
      · simp only [Act.put, List.setIfInBounds_toArray, List.set_cons_zero, List.set_cons_succ]
        rfl
      refine stepL_value (N := some 51) (v := .func (.func 44) #[.pointer (some ⟨w.heap.size, 0, none⟩)] #[]) (w1 := wz4) rfl rfl (by first | (go_simp; done) | (go_simp; rfl)) ?_
      refine wpList_norm (a' := ?_) ?_ ?_
      rotate_left
      · simp only [Act.put, List.setIfInBounds_toArray, List.set_cons_zero, List.set_cons_succ]
        rfl
      refine stepL_skip (w1 := setB wz4 wr.heap.size (.map #[⟨.int .i64 1, .func (.func 40) #[.pointer (some ⟨w.heap.size, 0, none⟩)] #[], 0⟩, ⟨.int .i64 2, .func (.func 41) #[.pointer (some ⟨w.heap.size, 0, none⟩)] #[], 1⟩, ⟨.int .i64 3, .func (.func 42) #[.pointer (some ⟨w.heap.size, 0, none⟩)] #[], 2⟩, ⟨.int .i64 4, .func (.func 43) #[.pointer (some ⟨w.heap.size, 0, none⟩)] #[], 3⟩, ⟨.int .i64 5, .func (.func 44) #[.pointer (some ⟨w.heap.size, 0, none⟩)] #[], 4⟩] 5)) rfl rfl (exec_insert (vm := .map (some wr.heap.size)) (vk := .int .i64 5) (vx := .func (.func 44) #[.pointer (some ⟨w.heap.size, 0, none⟩)] #[]) rfl (by rfl) (by rfl) (by rfl) (run_put_new Try.underlying62 Try.underlying3 hz4.2 (by rfl) _)) ?_
      refine wpList_world (F := fun wz => Below wr.heap.size wr wz ∧ wz.heap[wr.heap.size]? = some (.map #[⟨.int .i64 1, .func (.func 40) #[.pointer (some ⟨w.heap.size, 0, none⟩)] #[], 0⟩, ⟨.int .i64 2, .func (.func 41) #[.pointer (some ⟨w.heap.size, 0, none⟩)] #[], 1⟩, ⟨.int .i64 3, .func (.func 42) #[.pointer (some ⟨w.heap.size, 0, none⟩)] #[], 2⟩, ⟨.int .i64 4, .func (.func 43) #[.pointer (some ⟨w.heap.size, 0, none⟩)] #[], 3⟩, ⟨.int .i64 5, .func (.func 44) #[.pointer (some ⟨w.heap.size, 0, none⟩)] #[], 4⟩] 5)) ⟨below_setB hz4.1 (Nat.le_refl _) _, setB_same hz4.2 _⟩ (fun wz5 hz5 => ?_)
      clear hz4
      refine stepL_value (N := some 52) (v := .map (some wr.heap.size)) (w1 := wz5) rfl rfl (by rfl) ?_
      refine wpList_norm (a' := ?_) ?_ ?_
      rotate_left
      · simp only [Act.put, List.setIfInBounds_toArray, List.set_cons_zero, List.set_cons_succ]
        rfl
      refine stepL_value (N := some 10) (v := .map (some wr.heap.size)) (w1 := wz5) rfl rfl (by rfl) ?_
      refine wpList_norm (a' := ?_) ?_ ?_
      rotate_left
      · simp only [Act.put, List.setIfInBounds_toArray, List.set_cons_zero, List.set_cons_succ]
        rfl
      refine wpList_nil ?_
      have HX5 := Aside0.mk (show WX wz5 w.heap.size w.heap.size (startL n) [] by obtain ⟨g, cap, cur, av, h⟩ := HX.out; exact ⟨g, cap, cur, av, h.later hz5.1⟩)
      have HM5 := Aside0.mk (show wz5.heap[wr.heap.size]? = some (.map (ent w.heap.size) 5) from hz5.2)
      have HB5 := Aside0.mk (HB.out.trans (hz5.1.mono HB.out.size))
      have HS5 := Aside0.mk HB.out.size
      clear hz5 HX HB
      generalize wr.heap.size = mb at HM5 HS5 ⊢
      go_wp2
      go_loopw [55] (fun v wr2 => ∃ k : Nat, Aside0 (k ≤ l1.length) ∧ v = .int .i64 (k : Int) ∧ ∃ L M, Aside0 (runE (n : Int) (l1.drop k) (L, M) = (r1, r2)) ∧ Aside0 (L.length = n) ∧ Aside0 (M.length ≤ k) ∧ Aside0 (WX wr2 w.heap.size w.heap.size L M) ∧ Aside0 (wr2.heap[mb]? = some (.map (ent w.heap.size) 5)) ∧ Aside0 (Below w.heap.size w wr2)) (fun v _ => l1.length - (intOf v).toNat)
      case atStart => exact ⟨0, ⟨Nat.zero_le _⟩, rfl, startL n, [], HRUN, ⟨startL_length n⟩, ⟨Nat.le_refl _⟩, HX5, HM5, HB5⟩
      case round =>
        clear HX5 HM5 HB5 HRUN
        obtain ⟨k, hk, rfl, L, M, HRUN, HLN, HML, HX, HM, HB⟩ := hrel
        by_cases hlt : k < l1.length
        · have hlt' : decide ((k : Int) < (l1.length : Int)) = true := decide_eq_true (by omega)
          have HK := Aside0.mk hlt
          have hlm : l1.length ≤ 4096 := HL.out
          have hn0 : 1 ≤ n := HN.out.1
          obtain ⟨ad, hA, x0, x1, x2, x3⟩ := at_T50 (Kd.C_below HR1.out (HB.out.mono (Nat.le_refl _))) (k : Int) (by omega) (by omega)
          subst hA
          rw [Int.toNat_natCast] at x0 x1 x2 x3
          have hdrop : l1.drop k = rd_T50 l1 (k : Int) :: l1.drop (k + 1) := by
            rw [List.drop_eq_getElem_cons hlt]
            congr 1
            simp [rd_T50, hlt]
          have HRUN2 := Aside0.mk (show runE (n : Int) (rd_T50 l1 (k : Int) :: l1.drop (k + 1)) (L, M) = (r1, r2) by rw [← hdrop]; exact HRUN.out)
          clear hdrop HRUN
          generalize rd_T50 l1 (k : Int) = x at x0 x1 x2 x3 HRUN2
          obtain ⟨kd, nd', wh, cost⟩ := x
          dsimp only at x0 x1 x2 x3
          have hk1 : k < l1.length := hlt
          clear hlt
          go_upto_region 16 with (fail)
          refine wp_world (F := fun wz => Below wr.heap.size wr wz ∧ wz.heap[wr.heap.size]? = some (.cells #[.int .i64 kd, .int .i64 nd', .int .i64 wh, .int .i64 cost] 50 (0, 0))) ⟨(Below.refl _ _).alloc (Nat.le_refl _) _, heap_alloc_new _ _⟩ (fun W6 hF6 => ?_)
          obtain ⟨hb6, hz6⟩ := hF6
          have HX6 := Aside0.mk (show WX W6 w.heap.size w.heap.size L M by obtain ⟨g, cap, cur, av, h⟩ := HX.out; exact ⟨g, cap, cur, av, h.later hb6⟩)
          have hm6 : W6.heap[mb]? = some (.map (ent w.heap.size) 5) := blk_later hb6 HM.out
          have HM6 := Aside0.mk hm6
          have HB6 := Aside0.mk (HB.out.trans (hb6.mono HB.out.size))
          have y0 : W6.cell? ⟨wr.heap.size, 0, none⟩ = some (.int .i64 kd) := (blk_cell hz6 0).trans rfl
          have y1 : W6.cell? ⟨wr.heap.size, 1, none⟩ = some (.int .i64 nd') := (blk_cell hz6 1).trans rfl
          have y2 : W6.cell? ⟨wr.heap.size, 2, none⟩ = some (.int .i64 wh) := (blk_cell hz6 2).trans rfl
          have y3 : W6.cell? ⟨wr.heap.size, 3, none⟩ = some (.int .i64 cost) := (blk_cell hz6 3).trans rfl
          have HZ6 := Aside0.mk hz6
          clear hb6 hz6 HX HM HB x0 x1 x2 x3
          generalize wr.heap.size = eb at y0 y1 y2 y3 HZ6 ⊢
          by_cases hkd : 1 ≤ kd ∧ kd ≤ 5
          · have hcase : kd = 1 ∨ kd = 2 ∨ kd = 3 ∨ kd = 4 ∨ kd = 5 := by omega
            clear hkd
            rcases hcase with rfl | rfl | rfl | rfl | rfl
            · have hlk := look_1 hm6
              have hq0 := eql_func 40 w.heap.size
              clear hm6
              by_cases hnd : 0 ≤ nd' ∧ nd' ≤ (n : Int) - 1
              · have HW1 := within_calls nd' 0 ((n : Int) - 1)
                rw [decide_eq_true hnd] at HW1
                obtain ⟨i, rfl⟩ : ∃ i : Nat, nd' = (i : Int) := ⟨nd'.toNat, by omega⟩
                have HI := Aside0.mk (show i < L.length by have h5 := HLN.out; omega)
                have hi1 : i < n := by omega
                clear hnd
                have HE := Aside0.mk (evErr_ok (n := (n : Int)) (kd := 1) (nd := (i : Int)) (wh := wh) (cost := cost) (by decide) (by decide) ⟨by omega, by omega⟩)
                go_upto_region 20 with ((go_at_call 36; refine (HW1 _).mono ?_; rintro e w' ⟨rfl, ⟨nq, rfl⟩⟩))
                refine wp_world (F := fun wz => Below W6.heap.size W6 wz) ?hbelow (fun W7 hb7 => ?_)
                case hbelow => exact Drawn0.below ⟨_, rfl⟩
                have HX7 := Aside0.mk (show WX W7 w.heap.size w.heap.size L M by obtain ⟨g, cap, cur, av, h⟩ := HX6.out; exact ⟨g, cap, cur, av, h.later hb7⟩)
                have hlk7 := look_1 (blk_later hb7 HM6.out)
                have HM7 := Aside0.mk (blk_later hb7 HM6.out)
                have HB7 := Aside0.mk (HB6.out.trans (hb7.mono HB6.out.size))
                have y0 := cell_later hb7 y0
                have y1 := cell_later hb7 y1
                have y2 := cell_later hb7 y2
                have y3 := cell_later hb7 y3
                clear hb7 hlk
                go_wp2_with (go_at_call 40; refine (step1 W7 w.heap.size w.heap.size L M i wh cost HB7.out.size (by have := HML.out; omega) HX7.out HI.out).mono ?_; rintro e w9 ⟨rfl, hx9, hf9⟩)
                have HX9 := Aside0.mk hx9
                have HF9 := Aside0.mk hf9
                clear hx9 hf9 hlk7
                go_wp2
                go_roundw
                case rel => exact ⟨k + 1, ⟨HK.out⟩, by go_num, (stepE ⟨1, (i : Int), wh, cost⟩ (L, M)).1, (stepE ⟨1, (i : Int), wh, cost⟩ (L, M)).2, ⟨by have h1 := HRUN2.out; simp only [runE] at h1; rw [if_pos HE.out] at h1; exact h1⟩, ⟨(stepE_length _ _).1.trans HLN.out⟩, ⟨Nat.le_trans (stepE_length _ _).2 (by have := HML.out; show M.length + 1 ≤ k + 1; omega)⟩, HX9, ⟨(HF9.out.block mb (blk_lt HM7.out) (.inr (by intro c e f h; rw [HM7.out] at h; cases h))).trans HM7.out⟩, ⟨HB7.out.trans (HF9.out.below HB7.out.size)⟩⟩
                case measure => simp [intOf]; omega
              · have HW1 := within_calls nd' 0 ((n : Int) - 1)
                rw [decide_eq_false hnd] at HW1
                have HE2 := Aside0.mk (evErr_node (n := (n : Int)) (kd := 1) (wh := wh) (cost := cost) (by decide) hnd)
                have HE := Aside0.mk (show ¬ evErr (n : Int) ⟨1, nd', wh, cost⟩ = 0 by rw [HE2.out]; decide)
                clear hnd
                go_wp2_with (go_at_call 36; refine (HW1 _).mono ?_; rintro e w' ⟨rfl, ⟨nq, rfl⟩⟩)
                go_ret2
                have h1 := HRUN2.out
                simp only [runE] at h1
                rw [if_neg HE.out] at h1
                simp only [Prod.mk.injEq] at h1
                obtain ⟨rfl, h2⟩ := h1
                rw [HE2.out] at h2
                subst h2
                exact ⟨.slice none 0 0, rfl, Kd.R_nil _ _ _ _ _, HB6.out.trans ((Drawn0.below ⟨_, rfl⟩).mono HB6.out.size)⟩
            · have hlk := look_2 hm6
              have hq0 := eql_func 41 w.heap.size
              clear hm6
              by_cases hnd : 0 ≤ nd' ∧ nd' ≤ (n : Int) - 1
              · have HW1 := within_calls nd' 0 ((n : Int) - 1)
                rw [decide_eq_true hnd] at HW1
                obtain ⟨i, rfl⟩ : ∃ i : Nat, nd' = (i : Int) := ⟨nd'.toNat, by omega⟩
                have HI := Aside0.mk (show i < L.length by have h5 := HLN.out; omega)
                have hi1 : i < n := by omega
                clear hnd
                by_cases hw0 : wh < 0
                · have hw0' : decide (wh < 0) = true := decide_eq_true hw0
                  have HE2 := Aside0.mk (evErr_which (n := (n : Int)) (nd := (i : Int)) (cost := cost) hw0)
                  have HE := Aside0.mk (show ¬ evErr (n : Int) ⟨2, (i : Int), wh, cost⟩ = 0 by rw [HE2.out]; decide)
                  clear hw0
                  go_wp2_with (go_at_call 36; refine (HW1 _).mono ?_; rintro e w' ⟨rfl, ⟨nq, rfl⟩⟩)
                  go_ret2
                  have h1 := HRUN2.out
                  simp only [runE] at h1
                  rw [if_neg HE.out] at h1
                  simp only [Prod.mk.injEq] at h1
                  obtain ⟨rfl, h2⟩ := h1
                  rw [HE2.out] at h2
                  subst h2
                  exact ⟨.slice none 0 0, rfl, Kd.R_nil _ _ _ _ _, HB6.out.trans ((Drawn0.below ⟨_, rfl⟩).mono HB6.out.size)⟩
                · have hw0' : decide (wh < 0) = false := decide_eq_false hw0
                  have hw1 : 0 ≤ wh := by omega
                  by_cases hc : okCost cost
                  · have HW2 := within_calls cost 1 1023
                    rw [decide_eq_true (show 1 ≤ cost ∧ cost ≤ 1023 from hc)] at HW2
                    have HC := Aside0.mk hc
                    clear hw0 hc
                    by_cases hM0 : M = []
                    · have HM0 := Aside0.mk hM0
                      clear hM0
                      have HE := Aside0.mk (evErr_hear (n := (n : Int)) (nd := (i : Int)) (wh := wh) (cost := cost) ⟨by omega, by omega⟩ hw1 HC.out)
                      go_upto_region 20 with ((first | ((with_reducible refine gate_dst (N := 68) rfl ?_); refine goesL_ (some 68) rfl rfl Try.func36 (by kernel_rfl) rfl #[.int .i64 (i : Int), .int .i64 0, .int .i64 ((n : Int) - 1)] rfl (by (try simp only [List.map_toArray, List.map_cons, List.map_nil]); first | done | rfl) ?_; (with_reducible refine (HW1 _).mono ?_); rintro e w' ⟨rfl, ⟨nq, rfl⟩⟩; refine ⟨_, rfl, ?_⟩) | (go_at_call 36; (with_reducible refine (HW2 _).mono ?_); rintro e w' ⟨rfl, ⟨nq2, rfl⟩⟩)))
                      refine wp_world (F := fun wz => Below W6.heap.size W6 wz) ?hbelow (fun W7 hb7 => ?_)
                      case hbelow => exact Drawn0.below ⟨_, rfl⟩
                      have HX7 := Aside0.mk (show WX W7 w.heap.size w.heap.size L M by obtain ⟨g, cap, cur, av, h⟩ := HX6.out; exact ⟨g, cap, cur, av, h.later hb7⟩)
                      have hlk7 := look_2 (blk_later hb7 HM6.out)
                      have HM7 := Aside0.mk (blk_later hb7 HM6.out)
                      have HB7 := Aside0.mk (HB6.out.trans (hb7.mono HB6.out.size))
                      have y0 := cell_later hb7 y0
                      have y1 := cell_later hb7 y1
                      have y2 := cell_later hb7 y2
                      have y3 := cell_later hb7 y3
                      clear hb7 hlk
                      go_wp2_with (go_at_call 41; refine (step2n W7 w.heap.size w.heap.size L M i wh cost HX7.out HM0.out).mono ?_; rintro e w9 ⟨rfl, hx9, hf9⟩)
                      have HX9 := Aside0.mk hx9
                      have HF9 := Aside0.mk hf9
                      clear hx9 hf9 hlk7
                      go_wp2
                      go_roundw
                      case rel => exact ⟨k + 1, ⟨HK.out⟩, by go_num, (stepE ⟨2, (i : Int), wh, cost⟩ (L, M)).1, (stepE ⟨2, (i : Int), wh, cost⟩ (L, M)).2, ⟨by have h1 := HRUN2.out; simp only [runE] at h1; rw [if_pos HE.out] at h1; exact h1⟩, ⟨(stepE_length _ _).1.trans HLN.out⟩, ⟨Nat.le_trans (stepE_length _ _).2 (by have := HML.out; show M.length + 1 ≤ k + 1; omega)⟩, HX9, ⟨(HF9.out.block mb (blk_lt HM7.out) (.inr (by intro c e f h; rw [HM7.out] at h; cases h))).trans HM7.out⟩, ⟨HB7.out.trans (HF9.out.below HB7.out.size)⟩⟩
                      case measure => simp [intOf]; omega
                    · have HM0 := Aside0.mk hM0
                      clear hM0
                      have HE := Aside0.mk (evErr_hear (n := (n : Int)) (nd := (i : Int)) (wh := wh) (cost := cost) ⟨by omega, by omega⟩ hw1 HC.out)
                      go_upto_region 20 with ((first | ((with_reducible refine gate_dst (N := 68) rfl ?_); refine goesL_ (some 68) rfl rfl Try.func36 (by kernel_rfl) rfl #[.int .i64 (i : Int), .int .i64 0, .int .i64 ((n : Int) - 1)] rfl (by (try simp only [List.map_toArray, List.map_cons, List.map_nil]); first | done | rfl) ?_; (with_reducible refine (HW1 _).mono ?_); rintro e w' ⟨rfl, ⟨nq, rfl⟩⟩; refine ⟨_, rfl, ?_⟩) | (go_at_call 36; (with_reducible refine (HW2 _).mono ?_); rintro e w' ⟨rfl, ⟨nq2, rfl⟩⟩)))
                      refine wp_world (F := fun wz => Below W6.heap.size W6 wz) ?hbelow (fun W7 hb7 => ?_)
                      case hbelow => exact Drawn0.below ⟨_, rfl⟩
                      have HX7 := Aside0.mk (show WX W7 w.heap.size w.heap.size L M by obtain ⟨g, cap, cur, av, h⟩ := HX6.out; exact ⟨g, cap, cur, av, h.later hb7⟩)
                      have hlk7 := look_2 (blk_later hb7 HM6.out)
                      have HM7 := Aside0.mk (blk_later hb7 HM6.out)
                      have HB7 := Aside0.mk (HB6.out.trans (hb7.mono HB6.out.size))
                      have y0 := cell_later hb7 y0
                      have y1 := cell_later hb7 y1
                      have y2 := cell_later hb7 y2
                      have y3 := cell_later hb7 y3
                      clear hb7 hlk
                      go_wp2_with (go_at_call 41; refine (step2 W7 w.heap.size w.heap.size L M i wh cost HB7.out.size (by have := HML.out; omega) HX7.out HI.out hw1 HM0.out).mono ?_; rintro e w9 ⟨rfl, hx9, hf9⟩)
                      have HX9 := Aside0.mk hx9
                      have HF9 := Aside0.mk hf9
                      clear hx9 hf9 hlk7
                      go_wp2
                      go_roundw
                      case rel => exact ⟨k + 1, ⟨HK.out⟩, by go_num, (stepE ⟨2, (i : Int), wh, cost⟩ (L, M)).1, (stepE ⟨2, (i : Int), wh, cost⟩ (L, M)).2, ⟨by have h1 := HRUN2.out; simp only [runE] at h1; rw [if_pos HE.out] at h1; exact h1⟩, ⟨(stepE_length _ _).1.trans HLN.out⟩, ⟨Nat.le_trans (stepE_length _ _).2 (by have := HML.out; show M.length + 1 ≤ k + 1; omega)⟩, HX9, ⟨(HF9.out.block mb (blk_lt HM7.out) (.inr (by intro c e f h; rw [HM7.out] at h; cases h))).trans HM7.out⟩, ⟨HB7.out.trans (HF9.out.below HB7.out.size)⟩⟩
                      case measure => simp [intOf]; omega
                  · have HW2 := within_calls cost 1 1023
                    rw [decide_eq_false (show ¬ (1 ≤ cost ∧ cost ≤ 1023) from hc)] at HW2
                    have HE2 := Aside0.mk (evErr_cost (n := (n : Int)) (nd := (i : Int)) (wh := wh) hc)
                    have HE := Aside0.mk (show ¬ evErr (n : Int) ⟨2, (i : Int), wh, cost⟩ = 0 by rw [HE2.out]; decide)
                    clear hw0 hc
                    go_wp2_with (first | ((with_reducible refine gate_dst (N := 68) rfl ?_); refine goesL_ (some 68) rfl rfl Try.func36 (by kernel_rfl) rfl #[.int .i64 (i : Int), .int .i64 0, .int .i64 ((n : Int) - 1)] rfl (by (try simp only [List.map_toArray, List.map_cons, List.map_nil]); first | done | rfl) ?_; (with_reducible refine (HW1 _).mono ?_); rintro e w' ⟨rfl, ⟨nq, rfl⟩⟩; refine ⟨_, rfl, ?_⟩) | (go_at_call 36; (with_reducible refine (HW2 _).mono ?_); rintro e w' ⟨rfl, ⟨nq2, rfl⟩⟩))
                    go_ret2
                    have h1 := HRUN2.out
                    simp only [runE] at h1
                    rw [if_neg HE.out] at h1
                    simp only [Prod.mk.injEq] at h1
                    obtain ⟨rfl, h2⟩ := h1
                    rw [HE2.out] at h2
                    subst h2
                    exact ⟨.slice none 0 0, rfl, Kd.R_nil _ _ _ _ _, HB6.out.trans ((Drawn0.below ⟨_, rfl⟩).mono HB6.out.size)⟩
              · have HW1 := within_calls nd' 0 ((n : Int) - 1)
                rw [decide_eq_false hnd] at HW1
                have HE2 := Aside0.mk (evErr_node (n := (n : Int)) (kd := 2) (wh := wh) (cost := cost) (by decide) hnd)
                have HE := Aside0.mk (show ¬ evErr (n : Int) ⟨2, nd', wh, cost⟩ = 0 by rw [HE2.out]; decide)
                clear hnd
                go_wp2_with (go_at_call 36; refine (HW1 _).mono ?_; rintro e w' ⟨rfl, ⟨nq, rfl⟩⟩)
                go_ret2
                have h1 := HRUN2.out
                simp only [runE] at h1
                rw [if_neg HE.out] at h1
                simp only [Prod.mk.injEq] at h1
                obtain ⟨rfl, h2⟩ := h1
                rw [HE2.out] at h2
                subst h2
                exact ⟨.slice none 0 0, rfl, Kd.R_nil _ _ _ _ _, HB6.out.trans ((Drawn0.below ⟨_, rfl⟩).mono HB6.out.size)⟩
            · have hlk := look_3 hm6
              have hq0 := eql_func 42 w.heap.size
              clear hm6
              by_cases hnd : 0 ≤ nd' ∧ nd' ≤ (n : Int) - 1
              · have HW1 := within_calls nd' 0 ((n : Int) - 1)
                rw [decide_eq_true hnd] at HW1
                obtain ⟨i, rfl⟩ : ∃ i : Nat, nd' = (i : Int) := ⟨nd'.toNat, by omega⟩
                have HI := Aside0.mk (show i < L.length by have h5 := HLN.out; omega)
                have hi1 : i < n := by omega
                clear hnd
                have HE := Aside0.mk (evErr_ok (n := (n : Int)) (kd := 3) (nd := (i : Int)) (wh := wh) (cost := cost) (by decide) (by decide) ⟨by omega, by omega⟩)
                go_upto_region 20 with ((go_at_call 36; refine (HW1 _).mono ?_; rintro e w' ⟨rfl, ⟨nq, rfl⟩⟩))
                refine wp_world (F := fun wz => Below W6.heap.size W6 wz) ?hbelow (fun W7 hb7 => ?_)
                case hbelow => exact Drawn0.below ⟨_, rfl⟩
                have HX7 := Aside0.mk (show WX W7 w.heap.size w.heap.size L M by obtain ⟨g, cap, cur, av, h⟩ := HX6.out; exact ⟨g, cap, cur, av, h.later hb7⟩)
                have hlk7 := look_3 (blk_later hb7 HM6.out)
                have HM7 := Aside0.mk (blk_later hb7 HM6.out)
                have HB7 := Aside0.mk (HB6.out.trans (hb7.mono HB6.out.size))
                have y0 := cell_later hb7 y0
                have y1 := cell_later hb7 y1
                have y2 := cell_later hb7 y2
                have y3 := cell_later hb7 y3
                clear hb7 hlk
                go_wp2_with (go_at_call 42; refine (step3 W7 w.heap.size w.heap.size L M i wh cost HX7.out HI.out).mono ?_; rintro e w9 ⟨rfl, hx9, hf9⟩)
                have HX9 := Aside0.mk hx9
                have HF9 := Aside0.mk hf9
                clear hx9 hf9 hlk7
                go_wp2
                go_roundw
                case rel => exact ⟨k + 1, ⟨HK.out⟩, by go_num, (stepE ⟨3, (i : Int), wh, cost⟩ (L, M)).1, (stepE ⟨3, (i : Int), wh, cost⟩ (L, M)).2, ⟨by have h1 := HRUN2.out; simp only [runE] at h1; rw [if_pos HE.out] at h1; exact h1⟩, ⟨(stepE_length _ _).1.trans HLN.out⟩, ⟨Nat.le_trans (stepE_length _ _).2 (by have := HML.out; show M.length + 1 ≤ k + 1; omega)⟩, HX9, ⟨(HF9.out.block mb (blk_lt HM7.out) (.inr (by intro c e f h; rw [HM7.out] at h; cases h))).trans HM7.out⟩, ⟨HB7.out.trans (HF9.out.below HB7.out.size)⟩⟩
                case measure => simp [intOf]; omega
              · have HW1 := within_calls nd' 0 ((n : Int) - 1)
                rw [decide_eq_false hnd] at HW1
                have HE2 := Aside0.mk (evErr_node (n := (n : Int)) (kd := 3) (wh := wh) (cost := cost) (by decide) hnd)
                have HE := Aside0.mk (show ¬ evErr (n : Int) ⟨3, nd', wh, cost⟩ = 0 by rw [HE2.out]; decide)
                clear hnd
                go_wp2_with (go_at_call 36; refine (HW1 _).mono ?_; rintro e w' ⟨rfl, ⟨nq, rfl⟩⟩)
                go_ret2
                have h1 := HRUN2.out
                simp only [runE] at h1
                rw [if_neg HE.out] at h1
                simp only [Prod.mk.injEq] at h1
                obtain ⟨rfl, h2⟩ := h1
                rw [HE2.out] at h2
                subst h2
                exact ⟨.slice none 0 0, rfl, Kd.R_nil _ _ _ _ _, HB6.out.trans ((Drawn0.below ⟨_, rfl⟩).mono HB6.out.size)⟩
            · have hlk := look_4 hm6
              have hq0 := eql_func 43 w.heap.size
              clear hm6
              by_cases hnd : 0 ≤ nd' ∧ nd' ≤ (n : Int) - 1
              · have HW1 := within_calls nd' 0 ((n : Int) - 1)
                rw [decide_eq_true hnd] at HW1
                obtain ⟨i, rfl⟩ : ∃ i : Nat, nd' = (i : Int) := ⟨nd'.toNat, by omega⟩
                have HI := Aside0.mk (show i < L.length by have h5 := HLN.out; omega)
                have hi1 : i < n := by omega
                clear hnd
                have HE := Aside0.mk (evErr_ok (n := (n : Int)) (kd := 4) (nd := (i : Int)) (wh := wh) (cost := cost) (by decide) (by decide) ⟨by omega, by omega⟩)
                go_upto_region 20 with ((go_at_call 36; refine (HW1 _).mono ?_; rintro e w' ⟨rfl, ⟨nq, rfl⟩⟩))
                refine wp_world (F := fun wz => Below W6.heap.size W6 wz) ?hbelow (fun W7 hb7 => ?_)
                case hbelow => exact Drawn0.below ⟨_, rfl⟩
                have HX7 := Aside0.mk (show WX W7 w.heap.size w.heap.size L M by obtain ⟨g, cap, cur, av, h⟩ := HX6.out; exact ⟨g, cap, cur, av, h.later hb7⟩)
                have hlk7 := look_4 (blk_later hb7 HM6.out)
                have HM7 := Aside0.mk (blk_later hb7 HM6.out)
                have HB7 := Aside0.mk (HB6.out.trans (hb7.mono HB6.out.size))
                have y0 := cell_later hb7 y0
                have y1 := cell_later hb7 y1
                have y2 := cell_later hb7 y2
                have y3 := cell_later hb7 y3
                clear hb7 hlk
                go_wp2_with (go_at_call 43; refine (step4 W7 w.heap.size w.heap.size L M i wh cost HX7.out HI.out).mono ?_; rintro e w9 ⟨rfl, hx9, hf9⟩)
                have HX9 := Aside0.mk hx9
                have HF9 := Aside0.mk hf9
                clear hx9 hf9 hlk7
                go_wp2
                go_roundw
                case rel => exact ⟨k + 1, ⟨HK.out⟩, by go_num, (stepE ⟨4, (i : Int), wh, cost⟩ (L, M)).1, (stepE ⟨4, (i : Int), wh, cost⟩ (L, M)).2, ⟨by have h1 := HRUN2.out; simp only [runE] at h1; rw [if_pos HE.out] at h1; exact h1⟩, ⟨(stepE_length _ _).1.trans HLN.out⟩, ⟨Nat.le_trans (stepE_length _ _).2 (by have := HML.out; show M.length + 1 ≤ k + 1; omega)⟩, HX9, ⟨(HF9.out.block mb (blk_lt HM7.out) (.inr (by intro c e f h; rw [HM7.out] at h; cases h))).trans HM7.out⟩, ⟨HB7.out.trans (HF9.out.below HB7.out.size)⟩⟩
                case measure => simp [intOf]; omega
              · have HW1 := within_calls nd' 0 ((n : Int) - 1)
                rw [decide_eq_false hnd] at HW1
                have HE2 := Aside0.mk (evErr_node (n := (n : Int)) (kd := 4) (wh := wh) (cost := cost) (by decide) hnd)
                have HE := Aside0.mk (show ¬ evErr (n : Int) ⟨4, nd', wh, cost⟩ = 0 by rw [HE2.out]; decide)
                clear hnd
                go_wp2_with (go_at_call 36; refine (HW1 _).mono ?_; rintro e w' ⟨rfl, ⟨nq, rfl⟩⟩)
                go_ret2
                have h1 := HRUN2.out
                simp only [runE] at h1
                rw [if_neg HE.out] at h1
                simp only [Prod.mk.injEq] at h1
                obtain ⟨rfl, h2⟩ := h1
                rw [HE2.out] at h2
                subst h2
                exact ⟨.slice none 0 0, rfl, Kd.R_nil _ _ _ _ _, HB6.out.trans ((Drawn0.below ⟨_, rfl⟩).mono HB6.out.size)⟩
            · have hlk := look_5 hm6
              have hq0 := eql_func 44 w.heap.size
              clear hm6
              by_cases hnd : 0 ≤ nd' ∧ nd' ≤ (n : Int) - 1
              · have HW1 := within_calls nd' 0 ((n : Int) - 1)
                rw [decide_eq_true hnd] at HW1
                obtain ⟨i, rfl⟩ : ∃ i : Nat, nd' = (i : Int) := ⟨nd'.toNat, by omega⟩
                have HI := Aside0.mk (show i < L.length by have h5 := HLN.out; omega)
                have hi1 : i < n := by omega
                clear hnd
                have HE := Aside0.mk (evErr_ok (n := (n : Int)) (kd := 5) (nd := (i : Int)) (wh := wh) (cost := cost) (by decide) (by decide) ⟨by omega, by omega⟩)
                go_upto_region 20 with ((go_at_call 36; refine (HW1 _).mono ?_; rintro e w' ⟨rfl, ⟨nq, rfl⟩⟩))
                refine wp_world (F := fun wz => Below W6.heap.size W6 wz) ?hbelow (fun W7 hb7 => ?_)
                case hbelow => exact Drawn0.below ⟨_, rfl⟩
                have HX7 := Aside0.mk (show WX W7 w.heap.size w.heap.size L M by obtain ⟨g, cap, cur, av, h⟩ := HX6.out; exact ⟨g, cap, cur, av, h.later hb7⟩)
                have hlk7 := look_5 (blk_later hb7 HM6.out)
                have HM7 := Aside0.mk (blk_later hb7 HM6.out)
                have HB7 := Aside0.mk (HB6.out.trans (hb7.mono HB6.out.size))
                have y0 := cell_later hb7 y0
                have y1 := cell_later hb7 y1
                have y2 := cell_later hb7 y2
                have y3 := cell_later hb7 y3
                clear hb7 hlk
                go_wp2_with (go_at_call 44; refine (step5 W7 w.heap.size w.heap.size L M i wh cost HB7.out.size HX7.out HI.out).mono ?_; rintro e w9 ⟨rfl, hx9, hf9⟩)
                have HX9 := Aside0.mk hx9
                have HF9 := Aside0.mk hf9
                clear hx9 hf9 hlk7
                go_wp2
                go_roundw
                case rel => exact ⟨k + 1, ⟨HK.out⟩, by go_num, (stepE ⟨5, (i : Int), wh, cost⟩ (L, M)).1, (stepE ⟨5, (i : Int), wh, cost⟩ (L, M)).2, ⟨by have h1 := HRUN2.out; simp only [runE] at h1; rw [if_pos HE.out] at h1; exact h1⟩, ⟨(stepE_length _ _).1.trans HLN.out⟩, ⟨Nat.le_trans (stepE_length _ _).2 (by have := HML.out; show M.length + 1 ≤ k + 1; omega)⟩, HX9, ⟨(HF9.out.block mb (blk_lt HM7.out) (.inr (by intro c e f h; rw [HM7.out] at h; cases h))).trans HM7.out⟩, ⟨HB7.out.trans (HF9.out.below HB7.out.size)⟩⟩
                case measure => simp [intOf]; omega
              · have HW1 := within_calls nd' 0 ((n : Int) - 1)
                rw [decide_eq_false hnd] at HW1
                have HE2 := Aside0.mk (evErr_node (n := (n : Int)) (kd := 5) (wh := wh) (cost := cost) (by decide) hnd)
                have HE := Aside0.mk (show ¬ evErr (n : Int) ⟨5, nd', wh, cost⟩ = 0 by rw [HE2.out]; decide)
                clear hnd
                go_wp2_with (go_at_call 36; refine (HW1 _).mono ?_; rintro e w' ⟨rfl, ⟨nq, rfl⟩⟩)
                go_ret2
                have h1 := HRUN2.out
                simp only [runE] at h1
                rw [if_neg HE.out] at h1
                simp only [Prod.mk.injEq] at h1
                obtain ⟨rfl, h2⟩ := h1
                rw [HE2.out] at h2
                subst h2
                exact ⟨.slice none 0 0, rfl, Kd.R_nil _ _ _ _ _, HB6.out.trans ((Drawn0.below ⟨_, rfl⟩).mono HB6.out.size)⟩
          · have hlk := look_none hm6 hkd
            have HE2 := Aside0.mk (evErr_kind (n := (n : Int)) (nd := nd') (wh := wh) (cost := cost) hkd)
            have HE := Aside0.mk (show ¬ evErr (n : Int) ⟨kd, nd', wh, cost⟩ = 0 by rw [HE2.out]; decide)
            have hq0 := eql_nilFunc
            clear hkd hm6
            go_wp2
            go_ret2
            have h1 := HRUN2.out
            simp only [runE] at h1
            rw [if_neg HE.out] at h1
            simp only [Prod.mk.injEq] at h1
            obtain ⟨rfl, h2⟩ := h1
            rw [HE2.out] at h2
            subst h2
            exact ⟨.slice none 0 0, rfl, Kd.R_nil _ _ _ _ _, HB6.out⟩
        · have hlt' : decide ((k : Int) < (l1.length : Int)) = false := decide_eq_false (by omega)
          have hk2 : l1.length ≤ k := by omega
          have HRUN2 := Aside0.mk (show runE (n : Int) [] (L, M) = (r1, r2) by rw [← List.drop_of_length_le hk2]; exact HRUN.out)
          obtain ⟨g, cap, cur, av, hW⟩ := HX.out
          have c0 := hW.cell0
          have HW := Aside0.mk hW
          clear hlt hW HX
          go_wp2
          go_ret2
          have h1 := HRUN2.out
          simp only [runE, Prod.mk.injEq] at h1
          obtain ⟨rfl, rfl⟩ := h1
          exact ⟨_, rfl, HW.out.result, HB.out⟩
theorem rank_Play.calls (a0 : Int) (A1 : Option Addr) (c1 : Nat) (l1 : List S50) (r1 : List S23) (r2 : Int) (w : World) (hr1 : Kd.C k50 w A1 l1.length l1) (_hc1 : l1.length ≤ c1) (h : rank_Play.f a0 l1 = some (r1, r2)) :
    Calls Try.prog 28 #[.int .i64 a0, .slice A1 l1.length c1] w fun e w' => ∃ v0_ : Value, e = .returned (.tuple #[v0_, .int .i64 r2]) ∧ Kd.R k23 23 w' w.heap.size (fun _ => True) v0_ r1 ∧ Below w.heap.size w w' := by
  have h := Option.some.inj h
  unfold play at h
  show Calls Try.prog 28 _ w (PlayPost w r1 r2)
  by_cases h1 : 1 ≤ a0 ∧ a0 ≤ 32
  · rw [if_neg (not_not_intro h1)] at h
    by_cases h2 : l1.length > 4096
    · rw [if_pos h2] at h
      obtain ⟨rfl, rfl⟩ := Prod.mk.inj h
      exact play_long a0 A1 c1 l1 w h1 h2
    · rw [if_neg h2] at h
      obtain ⟨n, rfl⟩ : ∃ n : Nat, a0 = (n : Int) := ⟨a0.toNat, by omega⟩
      rw [Int.toNat_natCast] at h
      exact play_runs n A1 c1 l1 r1 r2 w hr1 (by omega) (by omega) h
  · rw [if_pos h1] at h
    obtain ⟨rfl, rfl⟩ := Prod.mk.inj h
    exact play_range a0 A1 c1 l1 w h1
end Go.Proofs.Ytigobnphenhkjaa.Fns
