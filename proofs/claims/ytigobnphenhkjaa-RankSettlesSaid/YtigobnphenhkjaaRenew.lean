/- The method renew of *rank.world. -/
import Derived.Test.YtigobnphenhkjaaMeth
namespace Go.Proofs.Ytigobnphenhkjaa.Fns
open Go.RowKit Go.Proofs.YtigobnphenhkjaaW.PrintWords Go.Proofs.YtigobnphenhkjaaW.PrintLast Go.Proofs.YtigobnphenhkjaaW.PrintMore
set_option linter.unusedVariables false
set_option linter.unusedSimpArgs false
def WX (w : World) (base p : Nat) (L : List S23) (M : List Adv) : Prop := ∃ g cap cur av, WI w base p g cap cur av L M
theorem run_store23_box {w : World} {g : Nat} {cur : Array Value} (hg : w.heap[g]? = some (.cells cur 23 (0, 0))) (hi : cur.size = 6) (s : S23) :
    (Instr.storeAt 23 (.pointer (some ⟨g, 0, none⟩)) (vS s)).run Try.prog w = .ok () (w.setRow g (cS s).toArray) := by
  have h := run_store23 (i := 0) hg (by omega) s
  rw [h]
  congr 2
  have h6 : 6 ≤ cur.toList.length → List.drop 6 cur.toList = [] := fun _ => List.drop_of_length_le (by simp [hi])
  simp [cS, List.drop_of_length_le, hi]
def zB : Obj := .cells #[.int .i64 0, .int .i64 0, .int .i64 0, .int .i64 0, .int .i64 0, .int .i64 0] 23
theorem below_setRow {B : Nat} {a w : World} (h : Below B a w) {g : Nat} (hg : B ≤ g) (cs : Array Value) : Below B a (w.setRow g cs) :=
  h.trans ⟨rfl, rfl, rfl, by simp, fun k hk => setRow_other w g k cs (by omega)⟩
theorem set_same {α : Type} {L : List α} {i : Nat} {s : α} (h : L[i]? = some s) : L.set i s = L := by
  apply List.ext_getElem?
  intro j
  rw [List.getElem?_set]
  split
  · rename_i e; subst e; obtain ⟨h1, h2⟩ := List.getElem?_eq_some_iff.1 h; simp [h1, h2]
  · rfl
def renewS (s : S23) : S23 := if (renew s).2 = 0 then (renew s).1 else s
set_option maxRecDepth 100000 in
set_option maxHeartbeats 2000000 in
theorem renew_method (w : World) (base p : Nat) (L : List S23) (M : List Adv) (x : S50) (i : Nat) (s : S23) (hbw : base ≤ w.heap.size)
    (hX : WX w base p L M) (hx : x.f1 = (i : Int)) (hs : L[i]? = some s) :
    Calls Try.prog 44 #[.pointer (some ⟨p, 0, none⟩), vE x] w fun e w' => e = .returned (.tuple #[]) ∧ WX w' base p (L.set i (renewS s)) M ∧ Fr base w w' := by
  obtain ⟨g, cap, cur, av, hW⟩ := hX
  have hi : i < L.length := (List.getElem?_eq_some_iff.1 hs).1
  have hu23 := Try.underlying23
  have hu50 := Try.underlying50
  have hu60 := Try.underlying60
  obtain ⟨k, nd, a3, a4⟩ := x
  obtain rfl : nd = (i : Int) := hx
  obtain ⟨s0, s1, s2, s3, s4, s5⟩ := hW.at hs
  have c0 := hW.cell0
  have HS := Aside0.mk hs
  have HW := Aside0.mk hW
  clear hs hW
  show Calls Try.prog 44 #[.pointer (some ⟨p, 0, none⟩), .agg #[.int .i64 k, .int .i64 (i : Int), .int .i64 a3, .int .i64 a4]] w _
  go_enter Try.func44, Try.ntmps44
  go_wp2
  have hw : Below w.heap.size w (w.alloc (.cells #[.int .i64 k, .int .i64 (i : Int), .int .i64 a3, .int .i64 a4] 50)) := (Below.refl _ _).alloc (Nat.le_refl _) _
  have c0' := cell_later hw c0
  have e1' : (w.alloc (.cells #[.int .i64 k, .int .i64 (i : Int), .int .i64 a3, .int .i64 a4] 50)).cell? ⟨w.heap.size, 1, none⟩ = some (.int .i64 (i : Int)) := by simp
  have s0' := cell_later hw s0
  have s1' := cell_later hw s1
  have s2' := cell_later hw s2
  have s3' := cell_later hw s3
  have s4' := cell_later hw s4
  have s5' := cell_later hw s5
  have HW2 := Aside0.mk ((HW.out.later hw).drew)
  have HF := Aside0.mk ((Fr.of_below (base := base) hw).drew)
  have HZ : w.heap.size < (w.alloc (.cells #[.int .i64 k, .int .i64 (i : Int), .int .i64 a3, .int .i64 a4] 50)).drew.heap.size := by simp
  clear hw c0 s0 s1 s2 s3 s4 s5
  refine start_ (n := 15) (S := fun w' => (w'.cell? ⟨p, 0, none⟩ = some (.slice (some ⟨g, 0, none⟩) L.length cap)) ∧ (w'.cell? ⟨w.heap.size, 1, none⟩ = some (.int .i64 (i : Int))) ∧ (w'.cell? ⟨g, i * 6, none⟩ = some (.int .i64 s.f0)) ∧ (w'.cell? ⟨g, i * 6 + 1, none⟩ = some (.int .i64 s.f1)) ∧ (w'.cell? ⟨g, i * 6 + 2, none⟩ = some (.int .i64 s.f2)) ∧ (w'.cell? ⟨g, i * 6 + 3, none⟩ = some (.int .i64 s.f3)) ∧ (w'.cell? ⟨g, i * 6 + 4, none⟩ = some (.int .i64 s.f4)) ∧ (w'.cell? ⟨g, i * 6 + 5, none⟩ = some (.int .i64 s.f5))) (ds := [13, 14]) #[false, false, false, false, false, false, false, false, false, false, false, false, false, false, false] (by kernel_rfl) rfl rfl ⟨c0', e1', s0', s1', s2', s3', s4', s5'⟩ (fun hHeld => ?_)
  generalize (w.alloc (.cells #[.int .i64 k, .int .i64 (i : Int), .int .i64 a3, .int .i64 a4] 50)).drew = W at HW2 HF HZ hHeld ⊢
  refine pure_ (i := 0) (N := some 7) (v := ?_) (a' := ?_) #[true, false, false, false, false, false, false, false, false, false, false, false, false, false, false] rfl rfl (by kernel_rfl) (fun _ _ _ h => h) (Or.inl ⟨by rfl, ?_⟩) ?_ ?_
  rotate_left
  · intro w'
    go_simp
    with_reducible rfl
  rotate_left
  · simp only [Act.put, List.setIfInBounds_toArray, List.set_cons_zero, List.set_cons_succ, i64_w, i32_w]
    rfl
  refine pure_ (i := 1) (N := some 8) (v := ?_) (a' := ?_) #[true, true, false, false, false, false, false, false, false, false, false, false, false, false, false] rfl rfl (by kernel_rfl) (fun _ _ _ h => h) (Or.inl ⟨by rfl, ?_⟩) ?_ ?_
  rotate_left
  · intro w'
    go_simp
    with_reducible rfl
  rotate_left
  · simp only [Act.put, List.setIfInBounds_toArray, List.set_cons_zero, List.set_cons_succ, i64_w, i32_w]
    rfl
  refine pure_ (i := 2) (N := some 9) (v := ?_) (a' := ?_) #[true, true, true, false, false, false, false, false, false, false, false, false, false, false, false] rfl rfl (by kernel_rfl) (fun _ _ _ h => h) (Or.inl ⟨by rfl, ?_⟩) ?_ ?_
  rotate_left
  · intro w'
    go_simp
    with_reducible rfl
  rotate_left
  · simp only [Act.put, List.setIfInBounds_toArray, List.set_cons_zero, List.set_cons_succ, i64_w, i32_w]
    rfl
  refine take_ (i := 3) (N := some 10) (v := ?_) (a' := ?_) #[true, true, true, true, false, false, false, false, false, false, false, false, false, false, false] rfl rfl (by kernel_rfl) (fun _ _ _ h => h) (Or.inl ⟨by rfl, ?_⟩) hHeld ?_ ?_
  rotate_left
  · rintro w' ⟨s0, s1, s2, s3, s4, s5, s6, s7⟩
    go_simp
    with_reducible rfl
  rotate_left
  · simp only [Act.put, List.setIfInBounds_toArray, List.set_cons_zero, List.set_cons_succ, i64_w, i32_w]
    rfl
  refine pure_ (i := 4) (N := some 11) (v := ?_) (a' := ?_) #[true, true, true, true, true, false, false, false, false, false, false, false, false, false, false] rfl rfl (by kernel_rfl) (fun _ _ _ h => h) (Or.inl ⟨by rfl, ?_⟩) ?_ ?_
  rotate_left
  · intro w'
    go_simp
    with_reducible rfl
  rotate_left
  · simp only [Act.put, List.setIfInBounds_toArray, List.set_cons_zero, List.set_cons_succ, i64_w, i32_w]
    rfl
  refine take_ (i := 5) (N := some 12) (v := ?_) (a' := ?_) #[true, true, true, true, true, true, false, false, false, false, false, false, false, false, false] rfl rfl (by kernel_rfl) (fun _ _ _ h => h) (Or.inl ⟨by rfl, ?_⟩) hHeld ?_ ?_
  rotate_left
  · rintro w' ⟨s0, s1, s2, s3, s4, s5, s6, s7⟩
    go_simp
    with_reducible rfl
  rotate_left
  · simp only [Act.put, List.setIfInBounds_toArray, List.set_cons_zero, List.set_cons_succ, i64_w, i32_w]
    rfl
  refine pure_ (i := 6) (N := some 13) (v := ?_) (a' := ?_) #[true, true, true, true, true, true, true, false, false, false, false, false, false, false, false] rfl rfl (by kernel_rfl) (fun _ _ _ h => h) (Or.inl ⟨by rfl, ?_⟩) ?_ ?_
  rotate_left
  · intro w'
    go_simp
    with_reducible rfl
  rotate_left
  · simp only [Act.put, List.setIfInBounds_toArray, List.set_cons_zero, List.set_cons_succ, i64_w, i32_w]
    rfl
  refine take_ (i := 7) (N := some 14) (v := ?_) (a' := ?_) #[true, true, true, true, true, true, true, true, false, false, false, false, false, false, false] rfl rfl (by kernel_rfl) (fun _ _ _ h => h) (Or.inl ⟨by rfl, ?_⟩) hHeld ?_ ?_
  rotate_left
  · rintro w' ⟨s0, s1, s2, s3, s4, s5, s6, s7⟩
    go_simp
    with_reducible rfl
  rotate_left
  · simp only [Act.put, List.setIfInBounds_toArray, List.set_cons_zero, List.set_cons_succ, i64_w, i32_w]
    rfl
  clear c0' e1' s0' s1' s2' s3' s4' s5'
  refine join_ (σ := Nat) 2 #[true, true, true, true, true, true, true, true, true, true, true, true, true, false, false] (fun g' => [(15, .tuple #[vS (renew s).1, .int .i64 (renew s).2]), (6, .tuple #[vS (renew s).1, .int .i64 (renew s).2]), (16, vS (renew s).1), (17, .int .i64 (renew s).2), (4, .pointer (some ⟨g', 0, none⟩))]) (fun g' wz => Below W.heap.size W wz ∧ W.heap.size ≤ g' ∧ wz.heap[g']? = some zB) (fun g' wz hF => ?_) (fun hJ => ?_)
  rotate_left
  · refine two_ (i := 8) (j := 12) (Ni := some 15) (Nj := some 4) #[true, true, true, true, true, true, true, true, true, false, false, false, false, false, false] #[true, true, true, true, true, true, true, true, false, false, false, false, true, false, false] rfl rfl rfl rfl (by kernel_rfl) (by decide) (by decide) (fun K hK => ?_) (fun K hK => ?_)
    · refine goes_ Try.func23 (by kernel_rfl) rfl #[vS s] (by rfl) rfl rfl (by (try simp only [List.map_toArray, List.map_cons, List.map_nil]); first | done | rfl) ?_
      with_reducible refine (renew_calls s _).mono ?_
      rintro e w1 ⟨rfl, hb1⟩
      refine ⟨_, rfl, ?_⟩
      refine hK.out _ _ ⟨cell_later hb1 hHeld.1, cell_later hb1 hHeld.2.1, cell_later hb1 hHeld.2.2.1, cell_later hb1 hHeld.2.2.2.1, cell_later hb1 hHeld.2.2.2.2.1, cell_later hb1 hHeld.2.2.2.2.2.1, cell_later hb1 hHeld.2.2.2.2.2.2.1, cell_later hb1 hHeld.2.2.2.2.2.2.2⟩ (fun hHeld => ?_)
      clear hK K
      refine norm_ (a' := ?_) ?_ ?_
      rotate_left
      · show Act.put _ (some 15) _ = _
        simp only [Act.put, List.setIfInBounds_toArray, List.set_cons_zero, List.set_cons_succ, i64_w, i32_w]
        rfl
      refine pure_ (i := 9) (N := some 6) (v := ?_) (a' := ?_) #[true, true, true, true, true, true, true, true, true, true, false, false, false, false, false] rfl rfl (by kernel_rfl) (fun _ _ _ h => h) (Or.inl ⟨by rfl, ?_⟩) ?_ ?_
      rotate_left
      · intro w'
        go_simp
        with_reducible rfl
      rotate_left
      · simp only [Act.put, List.setIfInBounds_toArray, List.set_cons_zero, List.set_cons_succ, i64_w, i32_w]
        rfl
      refine pure_ (i := 10) (N := some 16) (v := ?_) (a' := ?_) #[true, true, true, true, true, true, true, true, true, true, true, false, false, false, false] rfl rfl (by kernel_rfl) (fun _ _ _ h => h) (Or.inl ⟨by rfl, ?_⟩) ?_ ?_
      rotate_left
      · intro w'
        go_simp
        with_reducible rfl
      rotate_left
      · simp only [Act.put, List.setIfInBounds_toArray, List.set_cons_zero, List.set_cons_succ, i64_w, i32_w]
        rfl
      refine pure_ (i := 11) (N := some 17) (v := ?_) (a' := ?_) #[true, true, true, true, true, true, true, true, true, true, true, true, false, false, false] rfl rfl (by kernel_rfl) (fun _ _ _ h => h) (Or.inl ⟨by rfl, ?_⟩) ?_ ?_
      rotate_left
      · intro w'
        go_simp
        with_reducible rfl
      rotate_left
      · simp only [Act.put, List.setIfInBounds_toArray, List.set_cons_zero, List.set_cons_succ, i64_w, i32_w]
        rfl
      refine one_ (i := 12) (N := some 4) #[true, true, true, true, true, true, true, true, true, true, true, true, true, false, false] rfl rfl (by kernel_rfl) (by decide) (fun K hK => ?_)
      refine value_ (w1 := w1.alloc zB) (v := .pointer (some ⟨w1.heap.size, 0, none⟩)) (by rfl) rfl (by go_simp; rfl) ?_
      have hb2 : Below w1.heap.size w1 (w1.alloc zB) := (Below.refl _ _).alloc (Nat.le_refl _) _
      refine hK.out _ _ ⟨cell_later hb2 hHeld.1, cell_later hb2 hHeld.2.1, cell_later hb2 hHeld.2.2.1, cell_later hb2 hHeld.2.2.2.1, cell_later hb2 hHeld.2.2.2.2.1, cell_later hb2 hHeld.2.2.2.2.2.1, cell_later hb2 hHeld.2.2.2.2.2.2.1, cell_later hb2 hHeld.2.2.2.2.2.2.2⟩ (fun hHeld => ?_)
      refine norm_ ?_ (hJ w1.heap.size _ ⟨hb1.alloc hb1.size _, hb1.size, heap_alloc_new w1 _⟩)
      simp only [putAll, Act.put, List.setIfInBounds_toArray, List.set_cons_zero, List.set_cons_succ]
    · refine value_ (w1 := W.alloc zB) (v := .pointer (some ⟨W.heap.size, 0, none⟩)) (by rfl) rfl (by go_simp; rfl) ?_
      have hb1 : Below W.heap.size W (W.alloc zB) := (Below.refl _ _).alloc (Nat.le_refl _) _
      refine hK.out _ _ ⟨cell_later hb1 hHeld.1, cell_later hb1 hHeld.2.1, cell_later hb1 hHeld.2.2.1, cell_later hb1 hHeld.2.2.2.1, cell_later hb1 hHeld.2.2.2.2.1, cell_later hb1 hHeld.2.2.2.2.2.1, cell_later hb1 hHeld.2.2.2.2.2.2.1, cell_later hb1 hHeld.2.2.2.2.2.2.2⟩ (fun hHeld => ?_)
      clear hK K
      refine norm_ (a' := ?_) ?_ ?_
      rotate_left
      · simp only [Act.put, List.setIfInBounds_toArray, List.set_cons_zero, List.set_cons_succ, i64_w, i32_w]
        rfl
      refine one_ (i := 8) (N := some 15) #[true, true, true, true, true, true, true, true, true, false, false, false, true, false, false] rfl rfl (by kernel_rfl) (by decide) (fun K hK => ?_)
      refine goes_ Try.func23 (by kernel_rfl) rfl #[vS s] (by rfl) rfl rfl (by (try simp only [List.map_toArray, List.map_cons, List.map_nil]); first | done | rfl) ?_
      with_reducible refine (renew_calls s _).mono ?_
      rintro e w1 ⟨rfl, hb2⟩
      refine ⟨_, rfl, ?_⟩
      refine hK.out _ _ ⟨cell_later hb2 hHeld.1, cell_later hb2 hHeld.2.1, cell_later hb2 hHeld.2.2.1, cell_later hb2 hHeld.2.2.2.1, cell_later hb2 hHeld.2.2.2.2.1, cell_later hb2 hHeld.2.2.2.2.2.1, cell_later hb2 hHeld.2.2.2.2.2.2.1, cell_later hb2 hHeld.2.2.2.2.2.2.2⟩ (fun hHeld => ?_)
      clear hK K
      refine norm_ (a' := ?_) ?_ ?_
      rotate_left
      · show Act.put _ (some 15) _ = _
        simp only [Act.put, List.setIfInBounds_toArray, List.set_cons_zero, List.set_cons_succ, i64_w, i32_w]
        rfl
      refine pure_ (i := 9) (N := some 6) (v := ?_) (a' := ?_) #[true, true, true, true, true, true, true, true, true, true, false, false, true, false, false] rfl rfl (by kernel_rfl) (fun _ _ _ h => h) (Or.inl ⟨by rfl, ?_⟩) ?_ ?_
      rotate_left
      · intro w'
        go_simp
        with_reducible rfl
      rotate_left
      · simp only [Act.put, List.setIfInBounds_toArray, List.set_cons_zero, List.set_cons_succ, i64_w, i32_w]
        rfl
      refine pure_ (i := 10) (N := some 16) (v := ?_) (a' := ?_) #[true, true, true, true, true, true, true, true, true, true, true, false, true, false, false] rfl rfl (by kernel_rfl) (fun _ _ _ h => h) (Or.inl ⟨by rfl, ?_⟩) ?_ ?_
      rotate_left
      · intro w'
        go_simp
        with_reducible rfl
      rotate_left
      · simp only [Act.put, List.setIfInBounds_toArray, List.set_cons_zero, List.set_cons_succ, i64_w, i32_w]
        rfl
      refine pure_ (i := 11) (N := some 17) (v := ?_) (a' := ?_) #[true, true, true, true, true, true, true, true, true, true, true, true, true, false, false] rfl rfl (by kernel_rfl) (fun _ _ _ h => h) (Or.inl ⟨by rfl, ?_⟩) ?_ ?_
      rotate_left
      · intro w'
        go_simp
        with_reducible rfl
      rotate_left
      · simp only [Act.put, List.setIfInBounds_toArray, List.set_cons_zero, List.set_cons_succ, i64_w, i32_w]
        rfl
      refine norm_ ?_ (hJ W.heap.size _ ⟨hb1.trans (hb2.mono (by simp)), Nat.le_refl _, blk_later hb2 (heap_alloc_new W _)⟩)
      simp only [putAll, Act.put, List.setIfInBounds_toArray, List.set_cons_zero, List.set_cons_succ]
  obtain ⟨hb, hg', hz⟩ := hF
  refine norm_ (a' := ?_) ?_ ?_
  rotate_left
  · simp only [putAll, Act.put, List.setIfInBounds_toArray, List.set_cons_zero, List.set_cons_succ]
    rfl
  have HWz := Aside0.mk (HW2.out.later hb)
  have HFz := Aside0.mk (HF.out.trans (Fr.of_below hb))
  refine last_ (i := 13) (N := none) #[true, true, true, true, true, true, true, true, true, true, true, true, true, true, false] rfl rfl (by kernel_rfl) (by decide) (fun K hK => ?_)
  refine skip_ (w1 := wz.setRow g' (cS (renew s).1).toArray) (by rfl) rfl (exec_store (vx := .pointer (some ⟨g', 0, none⟩)) (vy := vS (renew s).1) rfl (by rfl) (by rfl) (run_store23_box hz rfl _)) ?_
  refine hK.out _ _ ?_
  clear hK K
  refine pure_ (i := 14) (N := some 5) (v := ?_) (a' := ?_) #[true, true, true, true, true, true, true, true, true, true, true, true, true, true, true] rfl rfl (by kernel_rfl) (fun _ _ _ h => h) (Or.inl ⟨by rfl, ?_⟩) ?_ ?_
  rotate_left
  · intro w'
    go_simp
    with_reducible rfl
  rotate_left
  · simp only [Act.put, List.setIfInBounds_toArray, List.set_cons_zero, List.set_cons_succ, i64_w, i32_w]
    rfl
  refine done_ (by kernel_rfl) ?_
  have hbz : Below W.heap.size W (wz.setRow g' (cS (renew s).1).toArray) := below_setRow hb hg' _
  have hz3 : (wz.setRow g' (cS (renew s).1).toArray).heap[g']? = some (.cells (cS (renew s).1).toArray 23 (0, 0)) := setRow_heap wz g' _ _ 23 _ hz
  clear HWz HFz hz hb
  generalize wz.setRow g' (cS (renew s).1).toArray = W3 at hbz hz3 ⊢
  have HW3 := Aside0.mk (HW2.out.later hbz)
  have HF3 := Aside0.mk (HF.out.trans (Fr.of_below hbz))
  have e1 := cell_later hbz hHeld.2.1
  clear hHeld HZ hg'
  have HZ3 := Aside0.mk hz3
  have b0 : W3.cell? ⟨g', 0, none⟩ = some (.int .i64 (renew s).1.f0) := (blk_cell hz3 0).trans rfl
  have b1 : W3.cell? ⟨g', 1, none⟩ = some (.int .i64 (renew s).1.f1) := (blk_cell hz3 1).trans rfl
  have b2 : W3.cell? ⟨g', 2, none⟩ = some (.int .i64 (renew s).1.f2) := (blk_cell hz3 2).trans rfl
  have b3 : W3.cell? ⟨g', 3, none⟩ = some (.int .i64 (renew s).1.f3) := (blk_cell hz3 3).trans rfl
  have b4 : W3.cell? ⟨g', 4, none⟩ = some (.int .i64 (renew s).1.f4) := (blk_cell hz3 4).trans rfl
  have b5 : W3.cell? ⟨g', 5, none⟩ = some (.int .i64 (renew s).1.f5) := (blk_cell hz3 5).trans rfl
  have c0 := HW3.out.cell0
  clear hz3 hbz
  by_cases he : (renew s).2 = 0
  · have he' : ((renew s).2 == 0) = true := beq_iff_eq.2 he
    have HE := Aside0.mk he
    clear he
    go_wp2
    refine start_ (n := 9) (S := fun w' => (w'.cell? ⟨p, 0, none⟩ = some (.slice (some ⟨g, 0, none⟩) L.length cap)) ∧ (w'.cell? ⟨w.heap.size, 1, none⟩ = some (.int .i64 (i : Int))) ∧ (w'.cell? ⟨g', 0, none⟩ = some (.int .i64 (renew s).1.f0)) ∧ (w'.cell? ⟨g', 1, none⟩ = some (.int .i64 (renew s).1.f1)) ∧ (w'.cell? ⟨g', 2, none⟩ = some (.int .i64 (renew s).1.f2)) ∧ (w'.cell? ⟨g', 3, none⟩ = some (.int .i64 (renew s).1.f3)) ∧ (w'.cell? ⟨g', 4, none⟩ = some (.int .i64 (renew s).1.f4)) ∧ (w'.cell? ⟨g', 5, none⟩ = some (.int .i64 (renew s).1.f5))) (ds := [8]) #[false, false, false, false, false, false, false, false, false] (by kernel_rfl) rfl rfl ⟨c0, e1, b0, b1, b2, b3, b4, b5⟩ (fun hHeld => ?_)
    refine pure_ (i := 0) (N := some 20) (v := ?_) (a' := ?_) #[true, false, false, false, false, false, false, false, false] rfl rfl (by kernel_rfl) (fun _ _ _ h => h) (Or.inl ⟨by rfl, ?_⟩) ?_ ?_
    rotate_left
    · intro w'
      go_simp
      with_reducible rfl
    rotate_left
    · simp only [Act.put, List.setIfInBounds_toArray, List.set_cons_zero, List.set_cons_succ, i64_w, i32_w]
      rfl
    refine pure_ (i := 1) (N := some 21) (v := ?_) (a' := ?_) #[true, true, false, false, false, false, false, false, false] rfl rfl (by kernel_rfl) (fun _ _ _ h => h) (Or.inl ⟨by rfl, ?_⟩) ?_ ?_
    rotate_left
    · intro w'
      go_simp
      with_reducible rfl
    rotate_left
    · simp only [Act.put, List.setIfInBounds_toArray, List.set_cons_zero, List.set_cons_succ, i64_w, i32_w]
      rfl
    refine pure_ (i := 2) (N := some 22) (v := ?_) (a' := ?_) #[true, true, true, false, false, false, false, false, false] rfl rfl (by kernel_rfl) (fun _ _ _ h => h) (Or.inl ⟨by rfl, ?_⟩) ?_ ?_
    rotate_left
    · intro w'
      go_simp
      with_reducible rfl
    rotate_left
    · simp only [Act.put, List.setIfInBounds_toArray, List.set_cons_zero, List.set_cons_succ, i64_w, i32_w]
      rfl
    refine take_ (i := 3) (N := some 23) (v := ?_) (a' := ?_) #[true, true, true, true, false, false, false, false, false] rfl rfl (by kernel_rfl) (fun _ _ _ h => h) (Or.inl ⟨by rfl, ?_⟩) hHeld ?_ ?_
    rotate_left
    · rintro w' ⟨s0, s1, s2, s3, s4, s5, s6, s7⟩
      go_simp
      with_reducible rfl
    rotate_left
    · simp only [Act.put, List.setIfInBounds_toArray, List.set_cons_zero, List.set_cons_succ, i64_w, i32_w]
      rfl
    refine pure_ (i := 4) (N := some 24) (v := ?_) (a' := ?_) #[true, true, true, true, true, false, false, false, false] rfl rfl (by kernel_rfl) (fun _ _ _ h => h) (Or.inl ⟨by rfl, ?_⟩) ?_ ?_
    rotate_left
    · intro w'
      go_simp
      with_reducible rfl
    rotate_left
    · simp only [Act.put, List.setIfInBounds_toArray, List.set_cons_zero, List.set_cons_succ, i64_w, i32_w]
      rfl
    refine take_ (i := 5) (N := some 25) (v := ?_) (a' := ?_) #[true, true, true, true, true, true, false, false, false] rfl rfl (by kernel_rfl) (fun _ _ _ h => h) (Or.inl ⟨by rfl, ?_⟩) hHeld ?_ ?_
    rotate_left
    · rintro w' ⟨s0, s1, s2, s3, s4, s5, s6, s7⟩
      go_simp
      with_reducible rfl
    rotate_left
    · simp only [Act.put, List.setIfInBounds_toArray, List.set_cons_zero, List.set_cons_succ, i64_w, i32_w]
      rfl
    refine take_ (i := 6) (N := some 26) (v := ?_) (a' := ?_) #[true, true, true, true, true, true, true, false, false] rfl rfl (by kernel_rfl) (fun _ _ _ h => h) (Or.inl ⟨by rfl, ?_⟩) hHeld ?_ ?_
    rotate_left
    · rintro w' ⟨s0, s1, s2, s3, s4, s5, s6, s7⟩
      go_simp
      with_reducible rfl
    rotate_left
    · simp only [Act.put, List.setIfInBounds_toArray, List.set_cons_zero, List.set_cons_succ, i64_w, i32_w]
      rfl
    refine pure_ (i := 7) (N := some 27) (v := ?_) (a' := ?_) #[true, true, true, true, true, true, true, true, false] rfl rfl (by kernel_rfl) (fun _ _ _ h => h) (Or.inl ⟨by rfl, ?_⟩) ?_ ?_
    rotate_left
    · intro w'
      go_simp
      with_reducible rfl
    rotate_left
    · simp only [Act.put, List.setIfInBounds_toArray, List.set_cons_zero, List.set_cons_succ, i64_w, i32_w]
      rfl
    refine last_ (i := 8) (N := none) #[true, true, true, true, true, true, true, true, true] rfl rfl (by kernel_rfl) (by decide) (fun K hK => ?_)
    refine skip_ (by rfl) rfl (exec_store (vx := .pointer (some ⟨g, i * 6, none⟩)) (vy := vS (renew s).1) rfl (by rfl) (by rfl) (HW3.out.drew.run_store hi (renew s).1)) ?_
    refine hK.out _ _ ?_
    clear hK K
    refine done_ (by kernel_rfl) ?_
    try go_wp2
    go_end0
    exact ⟨rfl, ⟨g, cap, _, av, by unfold renewS; rw [if_pos HE.out]; exact HW3.out.drew.store hi _⟩, HF3.out.drew.trans (HW3.out.drew.frame i _)⟩
  · have he' : ((renew s).2 == 0) = false := beq_eq_false_iff_ne.2 he
    have HE := Aside0.mk he
    clear he
    go_wp2
    go_end0
    exact ⟨rfl, ⟨g, cap, cur, av, by unfold renewS; rw [if_neg HE.out, set_same HS.out]; exact HW3.out⟩, HF3.out⟩
end Go.Proofs.Ytigobnphenhkjaa.Fns
