/- The method advertise of *rank.world. -/
import Derived.Test.YtigobnphenhkjaaRenew
namespace Go.Proofs.Ytigobnphenhkjaa.Fns
open Go.RowKit Go.Proofs.YtigobnphenhkjaaW.PrintWords Go.Proofs.YtigobnphenhkjaaW.PrintLast Go.Proofs.YtigobnphenhkjaaW.PrintMore
set_option linter.unusedVariables false
set_option linter.unusedSimpArgs false
theorem info69 : (Try.prog.info? 69).map (fun i => (i.zero, i.size, i.bytes)) = some (some (.agg #[(.int .i64 0), (.int .i64 0), (.int .i64 0)]), 3, 24) := by kernel_rfl
/-- One advertisement more. -/
theorem WI.append {W w1 : World} {base p g cap : Nat} {cur : Array Value} {av v1 : Value} {L : List S23} {M : List Adv} {a : Adv} (h : WI W base p g cap cur av L M)
    (ho : w1.ownsRow base 69 3 v1 (M.length + 1) (flat cA M ++ cA a)) (hg : W.grownBy w1 av.ownBlock) :
    WI (w1.setCell ⟨p, 1, none⟩ v1) base p g cap cur v1 L (M ++ [a]) ∧ Fr base W (w1.setCell ⟨p, 1, none⟩ v1) := by
  have hp1 : w1.heap[p]? = some (.cells #[.slice (some ⟨g, 0, none⟩) L.length cap, av] 60 (0, 0)) := blk_grown h.blk hg (own_ne_blk h.said h.blk (by decide))
  have hg1 : w1.heap[g]? = some (.cells cur 23 (0, 0)) := blk_grown h.row.blk hg (own_ne_blk h.said h.row.blk (by decide))
  refine ⟨⟨?_, h.hp, h.hg, h.row.move ?_, ?_⟩, ?_⟩
  · exact blk_put hp1 1 v1 rfl
  · exact (Below.heap_setCell w1 ⟨p, 1, none⟩ v1 g (fun e => h.ne_pg e.symm)).trans (hg1.trans h.row.blk.symm)
  · rw [List.length_append, flat_append, flat_one]
    refine own_move ho (fun k hk => Below.heap_setCell w1 ⟨p, 1, none⟩ v1 k ?_)
    rintro rfl
    exact own_ne_blk ho hp1 (by decide) hk.symm
  · have f2 : Fr base W w1 := (Fr.refl _ _).grown hg (fun k hk => ⟨(h.said.lt k hk).1, by obtain ⟨c, hc⟩ := own_typed h.said k hk; exact ⟨c, 69, hc, .inr (.inr rfl)⟩⟩)
    exact f2.setCell hp1 (.inl rfl) h.hp v1
theorem WI.cell1_after {W w1 : World} {base p g cap : Nat} {cur : Array Value} {av : Value} {L : List S23} {M : List Adv} (h : WI W base p g cap cur av L M) (hg : W.grownBy w1 av.ownBlock) :
    w1.cell? ⟨p, 1, none⟩ = some av ∧ w1.frozen? ⟨p, 1, none⟩ = false := by
  have hp1 : w1.heap[p]? = some (.cells #[.slice (some ⟨g, 0, none⟩) L.length cap, av] 60 (0, 0)) := blk_grown h.blk hg (own_ne_blk h.said h.blk (by decide))
  exact ⟨(blk_cell hp1 1).trans rfl, blk_frozen hp1 1⟩
theorem other_ev {w : World} {k : Nat} {c : Array Value} {e : TypeId} {f : Nat × Nat} (h : w.heap[k]? = some (.cells c e f)) (he : e ≠ 60 ∧ e ≠ 23 ∧ e ≠ 69) : Other w k := by
  intro c1 e1 f1 h1
  rw [h] at h1
  injection h1 with h1; injection h1 with _ h2
  subst h2; exact he
theorem blk_fr {base : Nat} {w w1 : World} {k : Nat} {c : Array Value} {e : TypeId} {f : Nat × Nat} (hf : Fr base w w1) (h : w.heap[k]? = some (.cells c e f)) (he : e ≠ 60 ∧ e ≠ 23 ∧ e ≠ 69) : w1.heap[k]? = some (.cells c e f) :=
  (hf.block k (Array.getElem?_eq_some_iff.1 h).1 (.inr (other_ev h he))).trans h
def advS (s : S23) : S23 := if (advertise s).2.2.2 = 0 then (advertise s).1 else s
def advM (i : Nat) (s : S23) (M : List Adv) : List Adv := if (advertise s).2.2.2 = 0 then M ++ [⟨i, (advertise s).2.1, (advertise s).2.2.1⟩] else M
set_option maxRecDepth 100000 in
set_option maxHeartbeats 2000000 in
theorem advertise_method (w : World) (base p : Nat) (L : List S23) (M : List Adv) (x : S50) (i : Nat) (s : S23) (hbw : base ≤ w.heap.size) (hM : M.length ≤ 100000)
    (hX : WX w base p L M) (hx : x.f1 = (i : Int)) (hs : L[i]? = some s) :
    Calls Try.prog 40 #[.pointer (some ⟨p, 0, none⟩), vE x] w fun e w' => e = .returned (.tuple #[]) ∧ WX w' base p (L.set i (advS s)) (advM i s M) ∧ Fr base w w' := by
  obtain ⟨g, cap, cur, av, hW⟩ := hX
  have hi : i < L.length := (List.getElem?_eq_some_iff.1 hs).1
  have hu23 := Try.underlying23
  have hu50 := Try.underlying50
  have hu60 := Try.underlying60
  obtain ⟨k, nd, a3, a4⟩ := x
  obtain rfl : nd = (i : Int) := hx
  obtain ⟨s0, s1, s2, s3, s4, s5⟩ := hW.at hs
  have c0 := hW.cell0
  have HS := Aside0.mk hs
  have HW := Aside0.mk hW
  clear hs hW
  show Calls Try.prog 40 #[.pointer (some ⟨p, 0, none⟩), .agg #[.int .i64 k, .int .i64 (i : Int), .int .i64 a3, .int .i64 a4]] w _
  go_enter Try.func40, Try.ntmps40
  go_wp2
  have hw : Below w.heap.size w (w.alloc (.cells #[.int .i64 k, .int .i64 (i : Int), .int .i64 a3, .int .i64 a4] 50)) := (Below.refl _ _).alloc (Nat.le_refl _) _
  have c0' := cell_later hw c0
  have e1' : (w.alloc (.cells #[.int .i64 k, .int .i64 (i : Int), .int .i64 a3, .int .i64 a4] 50)).cell? ⟨w.heap.size, 1, none⟩ = some (.int .i64 (i : Int)) := by simp
  have s0' := cell_later hw s0
  have s1' := cell_later hw s1
  have s2' := cell_later hw s2
  have s3' := cell_later hw s3
  have s4' := cell_later hw s4
  have s5' := cell_later hw s5
  have HW2 := Aside0.mk ((HW.out.later hw).drew)
  have HF := Aside0.mk ((Fr.of_below (base := base) hw).drew)
  have HEB := Aside0.mk (show (w.alloc (.cells #[.int .i64 k, .int .i64 (i : Int), .int .i64 a3, .int .i64 a4] 50)).drew.heap[w.heap.size]? = some (.cells #[.int .i64 k, .int .i64 (i : Int), .int .i64 a3, .int .i64 a4] 50 (0, 0)) from heap_alloc_new w _)
  have HZ : w.heap.size < (w.alloc (.cells #[.int .i64 k, .int .i64 (i : Int), .int .i64 a3, .int .i64 a4] 50)).drew.heap.size := by simp
  clear hw c0 s0 s1 s2 s3 s4 s5
  refine start_ (n := 19) (S := fun w' => (w'.cell? ⟨p, 0, none⟩ = some (.slice (some ⟨g, 0, none⟩) L.length cap)) ∧ (w'.cell? ⟨w.heap.size, 1, none⟩ = some (.int .i64 (i : Int))) ∧ (w'.cell? ⟨g, i * 6, none⟩ = some (.int .i64 s.f0)) ∧ (w'.cell? ⟨g, i * 6 + 1, none⟩ = some (.int .i64 s.f1)) ∧ (w'.cell? ⟨g, i * 6 + 2, none⟩ = some (.int .i64 s.f2)) ∧ (w'.cell? ⟨g, i * 6 + 3, none⟩ = some (.int .i64 s.f3)) ∧ (w'.cell? ⟨g, i * 6 + 4, none⟩ = some (.int .i64 s.f4)) ∧ (w'.cell? ⟨g, i * 6 + 5, none⟩ = some (.int .i64 s.f5))) (ds := [15, 16, 17, 18]) #[false, false, false, false, false, false, false, false, false, false, false, false, false, false, false, false, false, false, false] (by kernel_rfl) rfl rfl ⟨c0', e1', s0', s1', s2', s3', s4', s5'⟩ (fun hHeld => ?_)
  generalize (w.alloc (.cells #[.int .i64 k, .int .i64 (i : Int), .int .i64 a3, .int .i64 a4] 50)).drew = W at HW2 HF HZ HEB hHeld ⊢
  refine pure_ (i := 0) (N := some 9) (v := ?_) (a' := ?_) #[true, false, false, false, false, false, false, false, false, false, false, false, false, false, false, false, false, false, false] rfl rfl (by kernel_rfl) (fun _ _ _ h => h) (Or.inl ⟨by rfl, ?_⟩) ?_ ?_
  rotate_left
  · intro w'
    go_simp
    with_reducible rfl
  rotate_left
  · simp only [Act.put, List.setIfInBounds_toArray, List.set_cons_zero, List.set_cons_succ, i64_w, i32_w]
    rfl
  refine pure_ (i := 1) (N := some 10) (v := ?_) (a' := ?_) #[true, true, false, false, false, false, false, false, false, false, false, false, false, false, false, false, false, false, false] rfl rfl (by kernel_rfl) (fun _ _ _ h => h) (Or.inl ⟨by rfl, ?_⟩) ?_ ?_
  rotate_left
  · intro w'
    go_simp
    with_reducible rfl
  rotate_left
  · simp only [Act.put, List.setIfInBounds_toArray, List.set_cons_zero, List.set_cons_succ, i64_w, i32_w]
    rfl
  refine pure_ (i := 2) (N := some 11) (v := ?_) (a' := ?_) #[true, true, true, false, false, false, false, false, false, false, false, false, false, false, false, false, false, false, false] rfl rfl (by kernel_rfl) (fun _ _ _ h => h) (Or.inl ⟨by rfl, ?_⟩) ?_ ?_
  rotate_left
  · intro w'
    go_simp
    with_reducible rfl
  rotate_left
  · simp only [Act.put, List.setIfInBounds_toArray, List.set_cons_zero, List.set_cons_succ, i64_w, i32_w]
    rfl
  refine take_ (i := 3) (N := some 12) (v := ?_) (a' := ?_) #[true, true, true, true, false, false, false, false, false, false, false, false, false, false, false, false, false, false, false] rfl rfl (by kernel_rfl) (fun _ _ _ h => h) (Or.inl ⟨by rfl, ?_⟩) hHeld ?_ ?_
  rotate_left
  · rintro w' ⟨s0, s1, s2, s3, s4, s5, s6, s7⟩
    go_simp
    with_reducible rfl
  rotate_left
  · simp only [Act.put, List.setIfInBounds_toArray, List.set_cons_zero, List.set_cons_succ, i64_w, i32_w]
    rfl
  refine pure_ (i := 4) (N := some 13) (v := ?_) (a' := ?_) #[true, true, true, true, true, false, false, false, false, false, false, false, false, false, false, false, false, false, false] rfl rfl (by kernel_rfl) (fun _ _ _ h => h) (Or.inl ⟨by rfl, ?_⟩) ?_ ?_
  rotate_left
  · intro w'
    go_simp
    with_reducible rfl
  rotate_left
  · simp only [Act.put, List.setIfInBounds_toArray, List.set_cons_zero, List.set_cons_succ, i64_w, i32_w]
    rfl
  refine take_ (i := 5) (N := some 14) (v := ?_) (a' := ?_) #[true, true, true, true, true, true, false, false, false, false, false, false, false, false, false, false, false, false, false] rfl rfl (by kernel_rfl) (fun _ _ _ h => h) (Or.inl ⟨by rfl, ?_⟩) hHeld ?_ ?_
  rotate_left
  · rintro w' ⟨s0, s1, s2, s3, s4, s5, s6, s7⟩
    go_simp
    with_reducible rfl
  rotate_left
  · simp only [Act.put, List.setIfInBounds_toArray, List.set_cons_zero, List.set_cons_succ, i64_w, i32_w]
    rfl
  refine pure_ (i := 6) (N := some 15) (v := ?_) (a' := ?_) #[true, true, true, true, true, true, true, false, false, false, false, false, false, false, false, false, false, false, false] rfl rfl (by kernel_rfl) (fun _ _ _ h => h) (Or.inl ⟨by rfl, ?_⟩) ?_ ?_
  rotate_left
  · intro w'
    go_simp
    with_reducible rfl
  rotate_left
  · simp only [Act.put, List.setIfInBounds_toArray, List.set_cons_zero, List.set_cons_succ, i64_w, i32_w]
    rfl
  refine take_ (i := 7) (N := some 16) (v := ?_) (a' := ?_) #[true, true, true, true, true, true, true, true, false, false, false, false, false, false, false, false, false, false, false] rfl rfl (by kernel_rfl) (fun _ _ _ h => h) (Or.inl ⟨by rfl, ?_⟩) hHeld ?_ ?_
  rotate_left
  · rintro w' ⟨s0, s1, s2, s3, s4, s5, s6, s7⟩
    go_simp
    with_reducible rfl
  rotate_left
  · simp only [Act.put, List.setIfInBounds_toArray, List.set_cons_zero, List.set_cons_succ, i64_w, i32_w]
    rfl
  clear c0' e1' s0' s1' s2' s3' s4' s5'
  refine join_ (σ := Nat) 4 #[true, true, true, true, true, true, true, true, true, true, true, true, true, true, true, false, false, false, false] (fun g' => [(17, .tuple #[vS (advertise s).1, .int .i64 (advertise s).2.1, .int .i64 (advertise s).2.2.1, .int .i64 (advertise s).2.2.2]), (8, .tuple #[vS (advertise s).1, .int .i64 (advertise s).2.1, .int .i64 (advertise s).2.2.1, .int .i64 (advertise s).2.2.2]), (18, vS (advertise s).1), (19, .int .i64 (advertise s).2.1), (20, .int .i64 (advertise s).2.2.1), (21, .int .i64 (advertise s).2.2.2), (4, .pointer (some ⟨g', 0, none⟩))]) (fun g' wz => Below W.heap.size W wz ∧ W.heap.size ≤ g' ∧ wz.heap[g']? = some zB) (fun g' wz hF => ?_) (fun hJ => ?_)
  rotate_left
  · refine two_ (i := 8) (j := 14) (Ni := some 17) (Nj := some 4) #[true, true, true, true, true, true, true, true, true, false, false, false, false, false, false, false, false, false, false] #[true, true, true, true, true, true, true, true, false, false, false, false, false, false, true, false, false, false, false] rfl rfl rfl rfl (by kernel_rfl) (by decide) (by decide) (fun K hK => ?_) (fun K hK => ?_)
    · refine goes_ Try.func21 (by kernel_rfl) rfl #[vS s] (by rfl) rfl rfl (by (try simp only [List.map_toArray, List.map_cons, List.map_nil]); first | done | rfl) ?_
      with_reducible refine (advertise_calls s _).mono ?_
      rintro e w1 ⟨rfl, hb1⟩
      refine ⟨_, rfl, ?_⟩
      refine hK.out _ _ ⟨cell_later hb1 hHeld.1, cell_later hb1 hHeld.2.1, cell_later hb1 hHeld.2.2.1, cell_later hb1 hHeld.2.2.2.1, cell_later hb1 hHeld.2.2.2.2.1, cell_later hb1 hHeld.2.2.2.2.2.1, cell_later hb1 hHeld.2.2.2.2.2.2.1, cell_later hb1 hHeld.2.2.2.2.2.2.2⟩ (fun hHeld => ?_)
      clear hK K
      refine norm_ (a' := ?_) ?_ ?_
      rotate_left
      · show Act.put _ (some 17) _ = _
        simp only [Act.put, List.setIfInBounds_toArray, List.set_cons_zero, List.set_cons_succ, i64_w, i32_w]
        rfl
      refine pure_ (i := 9) (N := some 8) (v := ?_) (a' := ?_) #[true, true, true, true, true, true, true, true, true, true, false, false, false, false, false, false, false, false, false] rfl rfl (by kernel_rfl) (fun _ _ _ h => h) (Or.inl ⟨by rfl, ?_⟩) ?_ ?_
      rotate_left
      · intro w'
        go_simp
        with_reducible rfl
      rotate_left
      · simp only [Act.put, List.setIfInBounds_toArray, List.set_cons_zero, List.set_cons_succ, i64_w, i32_w]
        rfl
      refine pure_ (i := 10) (N := some 18) (v := ?_) (a' := ?_) #[true, true, true, true, true, true, true, true, true, true, true, false, false, false, false, false, false, false, false] rfl rfl (by kernel_rfl) (fun _ _ _ h => h) (Or.inl ⟨by rfl, ?_⟩) ?_ ?_
      rotate_left
      · intro w'
        go_simp
        with_reducible rfl
      rotate_left
      · simp only [Act.put, List.setIfInBounds_toArray, List.set_cons_zero, List.set_cons_succ, i64_w, i32_w]
        rfl
      refine pure_ (i := 11) (N := some 19) (v := ?_) (a' := ?_) #[true, true, true, true, true, true, true, true, true, true, true, true, false, false, false, false, false, false, false] rfl rfl (by kernel_rfl) (fun _ _ _ h => h) (Or.inl ⟨by rfl, ?_⟩) ?_ ?_
      rotate_left
      · intro w'
        go_simp
        with_reducible rfl
      rotate_left
      · simp only [Act.put, List.setIfInBounds_toArray, List.set_cons_zero, List.set_cons_succ, i64_w, i32_w]
        rfl
      refine pure_ (i := 12) (N := some 20) (v := ?_) (a' := ?_) #[true, true, true, true, true, true, true, true, true, true, true, true, true, false, false, false, false, false, false] rfl rfl (by kernel_rfl) (fun _ _ _ h => h) (Or.inl ⟨by rfl, ?_⟩) ?_ ?_
      rotate_left
      · intro w'
        go_simp
        with_reducible rfl
      rotate_left
      · simp only [Act.put, List.setIfInBounds_toArray, List.set_cons_zero, List.set_cons_succ, i64_w, i32_w]
        rfl
      refine pure_ (i := 13) (N := some 21) (v := ?_) (a' := ?_) #[true, true, true, true, true, true, true, true, true, true, true, true, true, true, false, false, false, false, false] rfl rfl (by kernel_rfl) (fun _ _ _ h => h) (Or.inl ⟨by rfl, ?_⟩) ?_ ?_
      rotate_left
      · intro w'
        go_simp
        with_reducible rfl
      rotate_left
      · simp only [Act.put, List.setIfInBounds_toArray, List.set_cons_zero, List.set_cons_succ, i64_w, i32_w]
        rfl
      refine one_ (i := 14) (N := some 4) #[true, true, true, true, true, true, true, true, true, true, true, true, true, true, true, false, false, false, false] rfl rfl (by kernel_rfl) (by decide) (fun K hK => ?_)
      refine value_ (w1 := w1.alloc zB) (v := .pointer (some ⟨w1.heap.size, 0, none⟩)) (by rfl) rfl (by go_simp; rfl) ?_
      have hb2 : Below w1.heap.size w1 (w1.alloc zB) := (Below.refl _ _).alloc (Nat.le_refl _) _
      refine hK.out _ _ ⟨cell_later hb2 hHeld.1, cell_later hb2 hHeld.2.1, cell_later hb2 hHeld.2.2.1, cell_later hb2 hHeld.2.2.2.1, cell_later hb2 hHeld.2.2.2.2.1, cell_later hb2 hHeld.2.2.2.2.2.1, cell_later hb2 hHeld.2.2.2.2.2.2.1, cell_later hb2 hHeld.2.2.2.2.2.2.2⟩ (fun hHeld => ?_)
      refine norm_ ?_ (hJ w1.heap.size _ ⟨hb1.alloc hb1.size _, hb1.size, heap_alloc_new w1 _⟩)
      simp only [putAll, Act.put, List.setIfInBounds_toArray, List.set_cons_zero, List.set_cons_succ]
    · refine value_ (w1 := W.alloc zB) (v := .pointer (some ⟨W.heap.size, 0, none⟩)) (by rfl) rfl (by go_simp; rfl) ?_
      have hb1 : Below W.heap.size W (W.alloc zB) := (Below.refl _ _).alloc (Nat.le_refl _) _
      refine hK.out _ _ ⟨cell_later hb1 hHeld.1, cell_later hb1 hHeld.2.1, cell_later hb1 hHeld.2.2.1, cell_later hb1 hHeld.2.2.2.1, cell_later hb1 hHeld.2.2.2.2.1, cell_later hb1 hHeld.2.2.2.2.2.1, cell_later hb1 hHeld.2.2.2.2.2.2.1, cell_later hb1 hHeld.2.2.2.2.2.2.2⟩ (fun hHeld => ?_)
      clear hK K
      refine norm_ (a' := ?_) ?_ ?_
      rotate_left
      · simp only [Act.put, List.setIfInBounds_toArray, List.set_cons_zero, List.set_cons_succ, i64_w, i32_w]
        rfl
      refine one_ (i := 8) (N := some 17) #[true, true, true, true, true, true, true, true, true, false, false, false, false, false, true, false, false, false, false] rfl rfl (by kernel_rfl) (by decide) (fun K hK => ?_)
      refine goes_ Try.func21 (by kernel_rfl) rfl #[vS s] (by rfl) rfl rfl (by (try simp only [List.map_toArray, List.map_cons, List.map_nil]); first | done | rfl) ?_
      with_reducible refine (advertise_calls s _).mono ?_
      rintro e w1 ⟨rfl, hb2⟩
      refine ⟨_, rfl, ?_⟩
      refine hK.out _ _ ⟨cell_later hb2 hHeld.1, cell_later hb2 hHeld.2.1, cell_later hb2 hHeld.2.2.1, cell_later hb2 hHeld.2.2.2.1, cell_later hb2 hHeld.2.2.2.2.1, cell_later hb2 hHeld.2.2.2.2.2.1, cell_later hb2 hHeld.2.2.2.2.2.2.1, cell_later hb2 hHeld.2.2.2.2.2.2.2⟩ (fun hHeld => ?_)
      clear hK K
      refine norm_ (a' := ?_) ?_ ?_
      rotate_left
      · show Act.put _ (some 17) _ = _
        simp only [Act.put, List.setIfInBounds_toArray, List.set_cons_zero, List.set_cons_succ, i64_w, i32_w]
        rfl
      refine pure_ (i := 9) (N := some 8) (v := ?_) (a' := ?_) #[true, true, true, true, true, true, true, true, true, true, false, false, false, false, true, false, false, false, false] rfl rfl (by kernel_rfl) (fun _ _ _ h => h) (Or.inl ⟨by rfl, ?_⟩) ?_ ?_
      rotate_left
      · intro w'
        go_simp
        with_reducible rfl
      rotate_left
      · simp only [Act.put, List.setIfInBounds_toArray, List.set_cons_zero, List.set_cons_succ, i64_w, i32_w]
        rfl
      refine pure_ (i := 10) (N := some 18) (v := ?_) (a' := ?_) #[true, true, true, true, true, true, true, true, true, true, true, false, false, false, true, false, false, false, false] rfl rfl (by kernel_rfl) (fun _ _ _ h => h) (Or.inl ⟨by rfl, ?_⟩) ?_ ?_
      rotate_left
      · intro w'
        go_simp
        with_reducible rfl
      rotate_left
      · simp only [Act.put, List.setIfInBounds_toArray, List.set_cons_zero, List.set_cons_succ, i64_w, i32_w]
        rfl
      refine pure_ (i := 11) (N := some 19) (v := ?_) (a' := ?_) #[true, true, true, true, true, true, true, true, true, true, true, true, false, false, true, false, false, false, false] rfl rfl (by kernel_rfl) (fun _ _ _ h => h) (Or.inl ⟨by rfl, ?_⟩) ?_ ?_
      rotate_left
      · intro w'
        go_simp
        with_reducible rfl
      rotate_left
      · simp only [Act.put, List.setIfInBounds_toArray, List.set_cons_zero, List.set_cons_succ, i64_w, i32_w]
        rfl
      refine pure_ (i := 12) (N := some 20) (v := ?_) (a' := ?_) #[true, true, true, true, true, true, true, true, true, true, true, true, true, false, true, false, false, false, false] rfl rfl (by kernel_rfl) (fun _ _ _ h => h) (Or.inl ⟨by rfl, ?_⟩) ?_ ?_
      rotate_left
      · intro w'
        go_simp
        with_reducible rfl
      rotate_left
      · simp only [Act.put, List.setIfInBounds_toArray, List.set_cons_zero, List.set_cons_succ, i64_w, i32_w]
        rfl
      refine pure_ (i := 13) (N := some 21) (v := ?_) (a' := ?_) #[true, true, true, true, true, true, true, true, true, true, true, true, true, true, true, false, false, false, false] rfl rfl (by kernel_rfl) (fun _ _ _ h => h) (Or.inl ⟨by rfl, ?_⟩) ?_ ?_
      rotate_left
      · intro w'
        go_simp
        with_reducible rfl
      rotate_left
      · simp only [Act.put, List.setIfInBounds_toArray, List.set_cons_zero, List.set_cons_succ, i64_w, i32_w]
        rfl
      refine norm_ ?_ (hJ W.heap.size _ ⟨hb1.trans (hb2.mono (by simp)), Nat.le_refl _, blk_later hb2 (heap_alloc_new W _)⟩)
      simp only [putAll, Act.put, List.setIfInBounds_toArray, List.set_cons_zero, List.set_cons_succ]
  obtain ⟨hb, hg', hz⟩ := hF
  refine norm_ (a' := ?_) ?_ ?_
  rotate_left
  · simp only [putAll, Act.put, List.setIfInBounds_toArray, List.set_cons_zero, List.set_cons_succ]
    rfl
  have HWz := Aside0.mk (HW2.out.later hb)
  have HFz := Aside0.mk (HF.out.trans (Fr.of_below hb))
  refine last_ (i := 15) (N := none) #[true, true, true, true, true, true, true, true, true, true, true, true, true, true, true, true, false, false, false] rfl rfl (by kernel_rfl) (by decide) (fun K hK => ?_)
  refine skip_ (w1 := wz.setRow g' (cS (advertise s).1).toArray) (by rfl) rfl (exec_store (vx := .pointer (some ⟨g', 0, none⟩)) (vy := vS (advertise s).1) rfl (by rfl) (by rfl) (run_store23_box hz rfl _)) ?_
  refine hK.out _ _ ?_
  clear hK K
  refine pure_ (i := 16) (N := some 5) (v := ?_) (a' := ?_) #[true, true, true, true, true, true, true, true, true, true, true, true, true, true, true, true, true, false, false] rfl rfl (by kernel_rfl) (fun _ _ _ h => h) (Or.inl ⟨by rfl, ?_⟩) ?_ ?_
  rotate_left
  · intro w'
    go_simp
    with_reducible rfl
  rotate_left
  · simp only [Act.put, List.setIfInBounds_toArray, List.set_cons_zero, List.set_cons_succ, i64_w, i32_w]
    rfl
  refine pure_ (i := 17) (N := some 6) (v := ?_) (a' := ?_) #[true, true, true, true, true, true, true, true, true, true, true, true, true, true, true, true, true, true, false] rfl rfl (by kernel_rfl) (fun _ _ _ h => h) (Or.inl ⟨by rfl, ?_⟩) ?_ ?_
  rotate_left
  · intro w'
    go_simp
    with_reducible rfl
  rotate_left
  · simp only [Act.put, List.setIfInBounds_toArray, List.set_cons_zero, List.set_cons_succ, i64_w, i32_w]
    rfl
  refine pure_ (i := 18) (N := some 7) (v := ?_) (a' := ?_) #[true, true, true, true, true, true, true, true, true, true, true, true, true, true, true, true, true, true, true] rfl rfl (by kernel_rfl) (fun _ _ _ h => h) (Or.inl ⟨by rfl, ?_⟩) ?_ ?_
  rotate_left
  · intro w'
    go_simp
    with_reducible rfl
  rotate_left
  · simp only [Act.put, List.setIfInBounds_toArray, List.set_cons_zero, List.set_cons_succ, i64_w, i32_w]
    rfl
  refine done_ (by kernel_rfl) ?_
  have hbz : Below W.heap.size W (wz.setRow g' (cS (advertise s).1).toArray) := below_setRow hb hg' _
  have hz3 : (wz.setRow g' (cS (advertise s).1).toArray).heap[g']? = some (.cells (cS (advertise s).1).toArray 23 (0, 0)) := setRow_heap wz g' _ _ 23 _ hz
  clear HWz HFz hz hb
  generalize wz.setRow g' (cS (advertise s).1).toArray = W3 at hbz hz3 ⊢
  have HW3 := Aside0.mk (HW2.out.later hbz)
  have HF3 := Aside0.mk (HF.out.trans (Fr.of_below hbz))
  have HEB3 := Aside0.mk (blk_later hbz HEB.out)
  have e1 := cell_later hbz hHeld.2.1
  clear hHeld HZ hg'
  have HZ3 := Aside0.mk hz3
  have b0 : W3.cell? ⟨g', 0, none⟩ = some (.int .i64 (advertise s).1.f0) := (blk_cell hz3 0).trans rfl
  have b1 : W3.cell? ⟨g', 1, none⟩ = some (.int .i64 (advertise s).1.f1) := (blk_cell hz3 1).trans rfl
  have b2 : W3.cell? ⟨g', 2, none⟩ = some (.int .i64 (advertise s).1.f2) := (blk_cell hz3 2).trans rfl
  have b3 : W3.cell? ⟨g', 3, none⟩ = some (.int .i64 (advertise s).1.f3) := (blk_cell hz3 3).trans rfl
  have b4 : W3.cell? ⟨g', 4, none⟩ = some (.int .i64 (advertise s).1.f4) := (blk_cell hz3 4).trans rfl
  have b5 : W3.cell? ⟨g', 5, none⟩ = some (.int .i64 (advertise s).1.f5) := (blk_cell hz3 5).trans rfl
  have c0 := HW3.out.cell0
  clear hz3 hbz
  by_cases he : (advertise s).2.2.2 = 0
  · have he' : ((advertise s).2.2.2 == 0) = true := beq_iff_eq.2 he
    have HE := Aside0.mk he
    clear he
    go_wp2
    refine start_ (n := 9) (S := fun w' => (w'.cell? ⟨p, 0, none⟩ = some (.slice (some ⟨g, 0, none⟩) L.length cap)) ∧ (w'.cell? ⟨w.heap.size, 1, none⟩ = some (.int .i64 (i : Int))) ∧ (w'.cell? ⟨g', 0, none⟩ = some (.int .i64 (advertise s).1.f0)) ∧ (w'.cell? ⟨g', 1, none⟩ = some (.int .i64 (advertise s).1.f1)) ∧ (w'.cell? ⟨g', 2, none⟩ = some (.int .i64 (advertise s).1.f2)) ∧ (w'.cell? ⟨g', 3, none⟩ = some (.int .i64 (advertise s).1.f3)) ∧ (w'.cell? ⟨g', 4, none⟩ = some (.int .i64 (advertise s).1.f4)) ∧ (w'.cell? ⟨g', 5, none⟩ = some (.int .i64 (advertise s).1.f5))) (ds := [8]) #[false, false, false, false, false, false, false, false, false] (by kernel_rfl) rfl rfl ⟨c0, e1, b0, b1, b2, b3, b4, b5⟩ (fun hHeld => ?_)
    refine pure_ (i := 0) (N := some 24) (v := ?_) (a' := ?_) #[true, false, false, false, false, false, false, false, false] rfl rfl (by kernel_rfl) (fun _ _ _ h => h) (Or.inl ⟨by rfl, ?_⟩) ?_ ?_
    rotate_left
    · intro w'
      go_simp
      with_reducible rfl
    rotate_left
    · simp only [Act.put, List.setIfInBounds_toArray, List.set_cons_zero, List.set_cons_succ, i64_w, i32_w]
      rfl
    refine pure_ (i := 1) (N := some 25) (v := ?_) (a' := ?_) #[true, true, false, false, false, false, false, false, false] rfl rfl (by kernel_rfl) (fun _ _ _ h => h) (Or.inl ⟨by rfl, ?_⟩) ?_ ?_
    rotate_left
    · intro w'
      go_simp
      with_reducible rfl
    rotate_left
    · simp only [Act.put, List.setIfInBounds_toArray, List.set_cons_zero, List.set_cons_succ, i64_w, i32_w]
      rfl
    refine pure_ (i := 2) (N := some 26) (v := ?_) (a' := ?_) #[true, true, true, false, false, false, false, false, false] rfl rfl (by kernel_rfl) (fun _ _ _ h => h) (Or.inl ⟨by rfl, ?_⟩) ?_ ?_
    rotate_left
    · intro w'
      go_simp
      with_reducible rfl
    rotate_left
    · simp only [Act.put, List.setIfInBounds_toArray, List.set_cons_zero, List.set_cons_succ, i64_w, i32_w]
      rfl
    refine take_ (i := 3) (N := some 27) (v := ?_) (a' := ?_) #[true, true, true, true, false, false, false, false, false] rfl rfl (by kernel_rfl) (fun _ _ _ h => h) (Or.inl ⟨by rfl, ?_⟩) hHeld ?_ ?_
    rotate_left
    · rintro w' ⟨s0, s1, s2, s3, s4, s5, s6, s7⟩
      go_simp
      with_reducible rfl
    rotate_left
    · simp only [Act.put, List.setIfInBounds_toArray, List.set_cons_zero, List.set_cons_succ, i64_w, i32_w]
      rfl
    refine pure_ (i := 4) (N := some 28) (v := ?_) (a' := ?_) #[true, true, true, true, true, false, false, false, false] rfl rfl (by kernel_rfl) (fun _ _ _ h => h) (Or.inl ⟨by rfl, ?_⟩) ?_ ?_
    rotate_left
    · intro w'
      go_simp
      with_reducible rfl
    rotate_left
    · simp only [Act.put, List.setIfInBounds_toArray, List.set_cons_zero, List.set_cons_succ, i64_w, i32_w]
      rfl
    refine take_ (i := 5) (N := some 29) (v := ?_) (a' := ?_) #[true, true, true, true, true, true, false, false, false] rfl rfl (by kernel_rfl) (fun _ _ _ h => h) (Or.inl ⟨by rfl, ?_⟩) hHeld ?_ ?_
    rotate_left
    · rintro w' ⟨s0, s1, s2, s3, s4, s5, s6, s7⟩
      go_simp
      with_reducible rfl
    rotate_left
    · simp only [Act.put, List.setIfInBounds_toArray, List.set_cons_zero, List.set_cons_succ, i64_w, i32_w]
      rfl
    refine take_ (i := 6) (N := some 30) (v := ?_) (a' := ?_) #[true, true, true, true, true, true, true, false, false] rfl rfl (by kernel_rfl) (fun _ _ _ h => h) (Or.inl ⟨by rfl, ?_⟩) hHeld ?_ ?_
    rotate_left
    · rintro w' ⟨s0, s1, s2, s3, s4, s5, s6, s7⟩
      go_simp
      with_reducible rfl
    rotate_left
    · simp only [Act.put, List.setIfInBounds_toArray, List.set_cons_zero, List.set_cons_succ, i64_w, i32_w]
      rfl
    refine pure_ (i := 7) (N := some 31) (v := ?_) (a' := ?_) #[true, true, true, true, true, true, true, true, false] rfl rfl (by kernel_rfl) (fun _ _ _ h => h) (Or.inl ⟨by rfl, ?_⟩) ?_ ?_
    rotate_left
    · intro w'
      go_simp
      with_reducible rfl
    rotate_left
    · simp only [Act.put, List.setIfInBounds_toArray, List.set_cons_zero, List.set_cons_succ, i64_w, i32_w]
      rfl
    refine last_ (i := 8) (N := none) #[true, true, true, true, true, true, true, true, true] rfl rfl (by kernel_rfl) (by decide) (fun K hK => ?_)
    refine skip_ (by rfl) rfl (exec_store (vx := .pointer (some ⟨g, i * 6, none⟩)) (vy := vS (advertise s).1) rfl (by rfl) (by rfl) (HW3.out.drew.run_store hi (advertise s).1)) ?_
    refine hK.out _ _ ?_
    clear hK K
    refine done_ (by kernel_rfl) ?_
    have HW4 := Aside0.mk (HW3.out.drew.store hi (advertise s).1)
    have HF4 := Aside0.mk (HF3.out.drew.trans (HW3.out.drew.frame i (advertise s).1))
    have HEB4 := Aside0.mk (blk_fr (HW3.out.drew.frame i (advertise s).1) HEB3.out (by decide))
    clear c0 e1 b0 b1 b2 b3 b4 b5
    generalize W3.drew.setRow g (nrow cur i (advertise s).1) = W4 at HW4 HF4 HEB4 ⊢
    have e1 : W4.cell? ⟨w.heap.size, 1, none⟩ = some (.int .i64 (i : Int)) := (blk_cell HEB4.out 1).trans rfl
    go_wp2
    have c1 := HW4.out.cell1
    refine start_ (n := 15) (S := fun w' => (w'.cell? ⟨p, 1, none⟩ = some av) ∧ (w'.cell? ⟨w.heap.size, 1, none⟩ = some (.int .i64 (i : Int)))) (ds := [11, 14]) #[false, false, false, false, false, false, false, false, false, false, false, false, false, false, false] (by kernel_rfl) rfl rfl ⟨c1, e1⟩ (fun hHeld => ?_)
    refine pure_ (i := 0) (N := some 32) (v := ?_) (a' := ?_) #[true, false, false, false, false, false, false, false, false, false, false, false, false, false, false] rfl rfl (by kernel_rfl) (fun _ _ _ h => h) (Or.inl ⟨by rfl, ?_⟩) ?_ ?_
    rotate_left
    · intro w'
      go_simp
      with_reducible rfl
    rotate_left
    · simp only [Act.put, List.setIfInBounds_toArray, List.set_cons_zero, List.set_cons_succ, i64_w, i32_w]
      rfl
    refine pure_ (i := 1) (N := some 33) (v := ?_) (a' := ?_) #[true, true, false, false, false, false, false, false, false, false, false, false, false, false, false] rfl rfl (by kernel_rfl) (fun _ _ _ h => h) (Or.inl ⟨by rfl, ?_⟩) ?_ ?_
    rotate_left
    · intro w'
      go_simp
      with_reducible rfl
    rotate_left
    · simp only [Act.put, List.setIfInBounds_toArray, List.set_cons_zero, List.set_cons_succ, i64_w, i32_w]
      rfl
    refine pure_ (i := 2) (N := some 34) (v := ?_) (a' := ?_) #[true, true, true, false, false, false, false, false, false, false, false, false, false, false, false] rfl rfl (by kernel_rfl) (fun _ _ _ h => h) (Or.inl ⟨by rfl, ?_⟩) ?_ ?_
    rotate_left
    · intro w'
      go_simp
      with_reducible rfl
    rotate_left
    · simp only [Act.put, List.setIfInBounds_toArray, List.set_cons_zero, List.set_cons_succ, i64_w, i32_w]
      rfl
    refine pure_ (i := 3) (N := some 35) (v := ?_) (a' := ?_) #[true, true, true, true, false, false, false, false, false, false, false, false, false, false, false] rfl rfl (by kernel_rfl) (fun _ _ _ h => h) (Or.inl ⟨by rfl, ?_⟩) ?_ ?_
    rotate_left
    · intro w'
      go_simp
      with_reducible rfl
    rotate_left
    · simp only [Act.put, List.setIfInBounds_toArray, List.set_cons_zero, List.set_cons_succ, i64_w, i32_w]
      rfl
    refine take_ (i := 4) (N := some 36) (v := ?_) (a' := ?_) #[true, true, true, true, true, false, false, false, false, false, false, false, false, false, false] rfl rfl (by kernel_rfl) (fun _ _ _ h => h) (Or.inl ⟨by rfl, ?_⟩) hHeld ?_ ?_
    rotate_left
    · rintro w' ⟨s0, s1⟩
      go_simp
      with_reducible rfl
    rotate_left
    · simp only [Act.put, List.setIfInBounds_toArray, List.set_cons_zero, List.set_cons_succ, i64_w, i32_w]
      rfl
    refine pure_ (i := 5) (N := some 37) (v := ?_) (a' := ?_) #[true, true, true, true, true, true, false, false, false, false, false, false, false, false, false] rfl rfl (by kernel_rfl) (fun _ _ _ h => h) (Or.inl ⟨by rfl, ?_⟩) ?_ ?_
    rotate_left
    · intro w'
      go_simp
      with_reducible rfl
    rotate_left
    · simp only [Act.put, List.setIfInBounds_toArray, List.set_cons_zero, List.set_cons_succ, i64_w, i32_w]
      rfl
    refine take_ (i := 6) (N := some 38) (v := ?_) (a' := ?_) #[true, true, true, true, true, true, true, false, false, false, false, false, false, false, false] rfl rfl (by kernel_rfl) (fun _ _ _ h => h) (Or.inl ⟨by rfl, ?_⟩) hHeld ?_ ?_
    rotate_left
    · rintro w' ⟨s0, s1⟩
      go_simp
      with_reducible rfl
    rotate_left
    · simp only [Act.put, List.setIfInBounds_toArray, List.set_cons_zero, List.set_cons_succ, i64_w, i32_w]
      rfl
    refine pure_ (i := 7) (N := some 39) (v := ?_) (a' := ?_) #[true, true, true, true, true, true, true, true, false, false, false, false, false, false, false] rfl rfl (by kernel_rfl) (fun _ _ _ h => h) (Or.inl ⟨by rfl, ?_⟩) ?_ ?_
    rotate_left
    · intro w'
      go_simp
      with_reducible rfl
    rotate_left
    · simp only [Act.put, List.setIfInBounds_toArray, List.set_cons_zero, List.set_cons_succ, i64_w, i32_w]
      rfl
    refine pure_ (i := 8) (N := some 40) (v := ?_) (a' := ?_) #[true, true, true, true, true, true, true, true, true, false, false, false, false, false, false] rfl rfl (by kernel_rfl) (fun _ _ _ h => h) (Or.inl ⟨by rfl, ?_⟩) ?_ ?_
    rotate_left
    · intro w'
      go_simp
      with_reducible rfl
    rotate_left
    · simp only [Act.put, List.setIfInBounds_toArray, List.set_cons_zero, List.set_cons_succ, i64_w, i32_w]
      rfl
    refine pure_ (i := 9) (N := some 41) (v := ?_) (a' := ?_) #[true, true, true, true, true, true, true, true, true, true, false, false, false, false, false] rfl rfl (by kernel_rfl) (fun _ _ _ h => h) (Or.inl ⟨by rfl, ?_⟩) ?_ ?_
    rotate_left
    · intro w'
      go_simp
      with_reducible rfl
    rotate_left
    · simp only [Act.put, List.setIfInBounds_toArray, List.set_cons_zero, List.set_cons_succ, i64_w, i32_w]
      rfl
    refine one_ (i := 10) (N := some 42) #[true, true, true, true, true, true, true, true, true, true, true, false, false, false, false] rfl rfl (by kernel_rfl) (by decide) (fun K hK => ?_)
    refine value_ (w1 := W4.drew.alloc (.cells (cA ⟨i, (advertise s).2.1, (advertise s).2.2.1⟩).toArray 69)) (v := .slice (some ⟨W4.drew.heap.size, 0, none⟩) 1 1) (by rfl) rfl (by go_simp; rfl) ?_
    have hb5 : Below W4.drew.heap.size W4.drew (W4.drew.alloc (.cells (cA ⟨i, (advertise s).2.1, (advertise s).2.2.1⟩).toArray 69)) := (Below.refl _ _).alloc (Nat.le_refl _) _
    refine hK.out _ _ ⟨cell_later hb5 hHeld.1, cell_later hb5 hHeld.2⟩ (fun hHeld => ?_)
    clear hK K hb5
    refine norm_ (a' := ?_) ?_ ?_
    rotate_left
    · simp only [Act.put, List.setIfInBounds_toArray, List.set_cons_zero, List.set_cons_succ, i64_w, i32_w]
      rfl
    refine last_ (i := 11) (N := some 43) #[true, true, true, true, true, true, true, true, true, true, true, true, false, false, false] rfl rfl (by kernel_rfl) (by decide) (fun K hK => ?_)
    refine step_append_cells base (by rfl) (.tmp 36) (.tmp 42) 58 69 _ 3 24 rfl Try.underlying58 info69 rfl (by decide) (by decide) av M.length (flat cA M) (cA ⟨i, (advertise s).2.1, (advertise s).2.2.1⟩) (by rfl) (by rfl) rfl (by simp [cA, Value.oneCell']) HW4.out.drew.said (Below.refl base _) ?hbase (by omega) ?_
    case hbase => exact Nat.le_trans hbw (HF4.out.size)
    intro v1 w5 ho5 hb5 hg5 _
    have HO5 := Aside0.mk ho5
    have HG5 := Aside0.mk hg5
    have HH5 := Aside0.mk (HW4.out.drew.append ho5 hg5)
    obtain ⟨q1, q2⟩ := HW4.out.drew.cell1_after hg5
    clear ho5 hb5 hg5
    refine hK.out _ _ ?_
    clear hK K
    refine norm_ (a' := ?_) ?_ ?_
    rotate_left
    · show Act.put _ (some 43) _ = _
      simp only [Act.put, List.setIfInBounds_toArray, List.set_cons_zero, List.set_cons_succ, i64_w, i32_w]
      rfl
    refine pure_ (i := 12) (N := some 44) (v := ?_) (a' := ?_) #[true, true, true, true, true, true, true, true, true, true, true, true, true, false, false] rfl rfl (by kernel_rfl) (fun _ _ _ h => h) (Or.inl ⟨by rfl, ?_⟩) ?_ ?_
    rotate_left
    · intro w'
      go_simp
      with_reducible rfl
    rotate_left
    · simp only [Act.put, List.setIfInBounds_toArray, List.set_cons_zero, List.set_cons_succ, i64_w, i32_w]
      rfl
    refine pure_ (i := 13) (N := some 45) (v := ?_) (a' := ?_) #[true, true, true, true, true, true, true, true, true, true, true, true, true, true, false] rfl rfl (by kernel_rfl) (fun _ _ _ h => h) (Or.inl ⟨by rfl, ?_⟩) ?_ ?_
    rotate_left
    · intro w'
      go_simp
      with_reducible rfl
    rotate_left
    · simp only [Act.put, List.setIfInBounds_toArray, List.set_cons_zero, List.set_cons_succ, i64_w, i32_w]
      rfl
    refine last_ (i := 14) (N := none) #[true, true, true, true, true, true, true, true, true, true, true, true, true, true, true] rfl rfl (by kernel_rfl) (by decide) (fun K hK => ?_)
    refine skip_ (w1 := w5.setCell ⟨p, 1, none⟩ v1) (by rfl) rfl ?_ ?_
    · obtain ⟨As, cs, ev1⟩ := own_slice HO5.out
      subst ev1
      go_simp
    refine hK.out _ _ ?_
    clear hK K
    refine done_ (by kernel_rfl) ?_
    try go_wp2
    go_end0
    exact ⟨rfl, ⟨g, cap, _, v1, by unfold advS advM; rw [if_pos HE.out, if_pos HE.out]; exact HH5.out.1⟩, HF4.out.drew.trans HH5.out.2⟩
  · have he' : ((advertise s).2.2.2 == 0) = false := beq_eq_false_iff_ne.2 he
    have HE := Aside0.mk he
    clear he
    go_wp2
    go_end0
    exact ⟨rfl, ⟨g, cap, cur, av, by unfold advS advM; rw [if_neg HE.out, if_neg HE.out, set_same HS.out]; exact HW3.out⟩, HF3.out⟩
end Go.Proofs.Ytigobnphenhkjaa.Fns
