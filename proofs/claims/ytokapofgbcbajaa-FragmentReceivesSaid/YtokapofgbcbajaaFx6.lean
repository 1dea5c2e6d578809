-- Written by the kit's print.py over this seat's translation (run by wip/gprint.py); a text of this claim.
import Derived.Test.YtokapofgbcbajaaFx0
namespace Go.Proofs.Ytokapofgbcbajaa.Fns
open Go.RowKit Go.Proofs.YtokapofgbcbajaaW.PrintWords Go.Proofs.YtokapofgbcbajaaW.PrintLast Go.Proofs.YtokapofgbcbajaaW.PrintMore
attribute [local go_sem] max2_int min2_int max_two min_two max_three min_three max_four min_four   -- for this text's walks alone
set_option linter.unusedVariables false
set_option linter.unusedSimpArgs false

/-! ### fragment_part: function 42 -/
mutual
def fragment_part.j1 : Nat → Int → Bool → Int → Int → Int → Int → ByteArray → Option (Int)
  | 0, _, _, _, _, _, _, _ => none
  | k + 1, x3, x4, x120000, x120001, x120002, x120003, x120004 => if x4 = true then (if (wrap64 (x120002 - 1)) = 0 then (none) else (if x3 > (wrap64 (Int.tdiv (wrap64 (x120003 - x3)) (wrap64 (x120002 - 1)))) then (some 0) else (if (wrap64 (Int.tdiv (wrap64 (x120003 - x3)) (wrap64 (x120002 - 1)))) > 120 then (some 0) else (if (wrap64 ((wrap64 (x120002 - 1)) * (wrap64 (Int.tdiv (wrap64 (x120003 - x3)) (wrap64 (x120002 - 1)))))) ≥ x120003 then (some 0) else (if (wrap64 (x120002 * (wrap64 (Int.tdiv (wrap64 (x120003 - x3)) (wrap64 (x120002 - 1)))))) < x120003 then (some 0) else (some (wrap64 (Int.tdiv (wrap64 (x120003 - x3)) (wrap64 (x120002 - 1)))))))))) else (if x3 > x3 then (some 0) else (if x3 > 120 then (some 0) else (if (wrap64 ((wrap64 (x120002 - 1)) * x3)) ≥ x120003 then (some 0) else (if (wrap64 (x120002 * x3)) < x120003 then (some 0) else (some x3)))))
def fragment_part.j0 : Nat → Int → Bool → Bool → Int → Int → Int → Int → ByteArray → Option (Int)
  | 0, _, _, _, _, _, _, _, _ => none
  | k + 1, x3, x4, x15, x120000, x120001, x120002, x120003, x120004 => if x15 = true then (some 0) else (if x120002 = 1 then (if x3 = x120003 then (if x3 > 120 then (some 0) else (some x3)) else (some 0)) else (if x4 = true then (if x3 ≥ x120003 then (some 0) else (if (wrap64 (x120002 - 1)) = 0 then (none) else (if (Int.tmod (wrap64 (x120003 - x3)) (wrap64 (x120002 - 1))) = 0 then (fragment_part.j1 k x3 x4 x120000 x120001 x120002 x120003 x120004) else (some 0)))) else (fragment_part.j1 k x3 x4 x120000 x120001 x120002 x120003 x120004)))
end
def fragment_part.f (k : Nat) (a0_0 : Int) (a0_1 : Int) (a0_2 : Int) (a0_3 : Int) (a0_4 : ByteArray) : Option (Int) := if a0_0 < 0 then (fragment_part.j0 k (a0_4.size : Int) (a0_1 == (wrap64 (a0_2 - 1))) true a0_0 a0_1 a0_2 a0_3 a0_4) else (if a0_0 > 255 then (fragment_part.j0 k (a0_4.size : Int) (a0_1 == (wrap64 (a0_2 - 1))) true a0_0 a0_1 a0_2 a0_3 a0_4) else (if a0_3 < 1 then (fragment_part.j0 k (a0_4.size : Int) (a0_1 == (wrap64 (a0_2 - 1))) true a0_0 a0_1 a0_2 a0_3 a0_4) else (if a0_3 > 4095 then (fragment_part.j0 k (a0_4.size : Int) (a0_1 == (wrap64 (a0_2 - 1))) true a0_0 a0_1 a0_2 a0_3 a0_4) else (if a0_2 < 1 then (fragment_part.j0 k (a0_4.size : Int) (a0_1 == (wrap64 (a0_2 - 1))) true a0_0 a0_1 a0_2 a0_3 a0_4) else (if a0_2 > 32 then (fragment_part.j0 k (a0_4.size : Int) (a0_1 == (wrap64 (a0_2 - 1))) true a0_0 a0_1 a0_2 a0_3 a0_4) else (if a0_1 < 0 then (fragment_part.j0 k (a0_4.size : Int) (a0_1 == (wrap64 (a0_2 - 1))) true a0_0 a0_1 a0_2 a0_3 a0_4) else (if a0_1 ≥ a0_2 then (fragment_part.j0 k (a0_4.size : Int) (a0_1 == (wrap64 (a0_2 - 1))) true a0_0 a0_1 a0_2 a0_3 a0_4) else (fragment_part.j0 k (a0_4.size : Int) (a0_1 == (wrap64 (a0_2 - 1))) (decide ((a0_4.size : Int) < 1)) a0_0 a0_1 a0_2 a0_3 a0_4))))))))
theorem fragment_part.mono_l : ∀ k, (∀ y0 y1 y2 y3 y4 y5 y6, LeO (fragment_part.j1 k y0 y1 y2 y3 y4 y5 y6) (fragment_part.j1 (k + 1) y0 y1 y2 y3 y4 y5 y6)) ∧ (∀ y0 y1 y2 y3 y4 y5 y6 y7, LeO (fragment_part.j0 k y0 y1 y2 y3 y4 y5 y6 y7) (fragment_part.j0 (k + 1) y0 y1 y2 y3 y4 y5 y6 y7))
  | 0 => ⟨fun _ _ _ _ _ _ _ r h => by simp [fragment_part.j1] at h, fun _ _ _ _ _ _ _ _ r h => by simp [fragment_part.j0] at h⟩
  | k + 1 => by
    obtain ⟨ih0, ih1⟩ := fragment_part.mono_l k
    refine ⟨?_, ?_⟩
    · intro y0 y1 y2 y3 y4 y5 y6
      unfold fragment_part.j1
      repeat' first
      | (with_reducible exact ih0 _ _ _ _ _ _ _)
      | (with_reducible exact ih1 _ _ _ _ _ _ _ _)
      | (with_reducible exact LeO.refl _)
      | (with_reducible exact LeO.none _)
      | (with_reducible refine LeO.ite ?_ ?_)
      | (with_reducible refine LeO.bind ?_ (fun _ => ?_))
      | exact ih0 _ _ _ _ _ _ _
      | exact ih1 _ _ _ _ _ _ _ _
      | exact LeO.none _
      | refine LeO.ite ?_ ?_
      | refine LeO.bind ?_ (fun _ => ?_)
    · intro y0 y1 y2 y3 y4 y5 y6 y7
      unfold fragment_part.j0
      repeat' first
      | (with_reducible exact ih0 _ _ _ _ _ _ _)
      | (with_reducible exact ih1 _ _ _ _ _ _ _ _)
      | (with_reducible exact LeO.refl _)
      | (with_reducible exact LeO.none _)
      | (with_reducible refine LeO.ite ?_ ?_)
      | (with_reducible refine LeO.bind ?_ (fun _ => ?_))
      | exact ih0 _ _ _ _ _ _ _
      | exact ih1 _ _ _ _ _ _ _ _
      | exact LeO.none _
      | refine LeO.ite ?_ ?_
      | refine LeO.bind ?_ (fun _ => ?_)
theorem fragment_part.mono : ∀ a0 a1 a2 a3 a4 k, LeO (fragment_part.f k a0 a1 a2 a3 a4) (fragment_part.f (k + 1) a0 a1 a2 a3 a4) := by
  intro a0 a1 a2 a3 a4 k
  obtain ⟨ih0, ih1⟩ := fragment_part.mono_l k
  unfold fragment_part.f
  repeat' first
      | (with_reducible exact ih0 _ _ _ _ _ _ _)
      | (with_reducible exact ih1 _ _ _ _ _ _ _ _)
      | (with_reducible exact LeO.refl _)
      | (with_reducible exact LeO.none _)
      | (with_reducible refine LeO.ite ?_ ?_)
      | (with_reducible refine LeO.bind ?_ (fun _ => ?_))
      | exact ih0 _ _ _ _ _ _ _
      | exact ih1 _ _ _ _ _ _ _ _
      | exact LeO.none _
      | refine LeO.ite ?_ ?_
      | refine LeO.bind ?_ (fun _ => ?_)
set_option maxHeartbeats 8000000 in
set_option maxRecDepth 100000 in
theorem fragment_part.calls (k : Nat) (a0_0 : Int) (a0_1 : Int) (a0_2 : Int) (a0_3 : Int) (a0_4 : ByteArray) (r : Int) (w : World) (h : fragment_part.f k a0_0 a0_1 a0_2 a0_3 a0_4 = some r) :
    Calls Try.prog 42 #[.agg #[.int .i64 a0_0, .int .i64 a0_1, .int .i64 a0_2, .int .i64 a0_3, .string a0_4]] w fun e w' => e = .returned (.int .i64 r) ∧ Below w.heap.size w w' := by
  have hu23 := Try.underlying23
  have HB := Aside0.mk (Below.refl w.heap.size w)
  have H : (if a0_0 < 0 then (fragment_part.j0 k (a0_4.size : Int) (a0_1 == (wrap64 (a0_2 - 1))) true a0_0 a0_1 a0_2 a0_3 a0_4) else (if a0_0 > 255 then (fragment_part.j0 k (a0_4.size : Int) (a0_1 == (wrap64 (a0_2 - 1))) true a0_0 a0_1 a0_2 a0_3 a0_4) else (if a0_3 < 1 then (fragment_part.j0 k (a0_4.size : Int) (a0_1 == (wrap64 (a0_2 - 1))) true a0_0 a0_1 a0_2 a0_3 a0_4) else (if a0_3 > 4095 then (fragment_part.j0 k (a0_4.size : Int) (a0_1 == (wrap64 (a0_2 - 1))) true a0_0 a0_1 a0_2 a0_3 a0_4) else (if a0_2 < 1 then (fragment_part.j0 k (a0_4.size : Int) (a0_1 == (wrap64 (a0_2 - 1))) true a0_0 a0_1 a0_2 a0_3 a0_4) else (if a0_2 > 32 then (fragment_part.j0 k (a0_4.size : Int) (a0_1 == (wrap64 (a0_2 - 1))) true a0_0 a0_1 a0_2 a0_3 a0_4) else (if a0_1 < 0 then (fragment_part.j0 k (a0_4.size : Int) (a0_1 == (wrap64 (a0_2 - 1))) true a0_0 a0_1 a0_2 a0_3 a0_4) else (if a0_1 ≥ a0_2 then (fragment_part.j0 k (a0_4.size : Int) (a0_1 == (wrap64 (a0_2 - 1))) true a0_0 a0_1 a0_2 a0_3 a0_4) else (fragment_part.j0 k (a0_4.size : Int) (a0_1 == (wrap64 (a0_2 - 1))) (decide ((a0_4.size : Int) < 1)) a0_0 a0_1 a0_2 a0_3 a0_4))))))))) = some r := h
  clear h
  have HC2 := Aside0.mk H
  clear H
  go_enter Try.func42, Try.ntmps42
  go_upto_block 0 with (first | ((with_reducible refine gate_dst (N := 1) rfl ?_); refine box_event ?hg (N := 1) ?hd (cs := #[.int .i64 a0_0, .int .i64 a0_1, .int .i64 a0_2, .int .i64 a0_3, .string a0_4]) (t := 23) ?hr ?_; (case hd => rfl); (case hg => rfl); (case hr => first | (go_simp; done) | (go_simp; rfl)); intro gb119 hg w3 hbox hb; have n0_ := Aside0.mk (below_step (by repeat (first | (with_reducible first | exact HB.out | apply below_alloc | apply pw_below_drewN | apply below_drew1) | exact HB.out)) hb); have n1_ := Aside0.mk (hbox); have n2_ := Aside0.mk ((by rw [hg]; exact (below_size (by repeat (first | (with_reducible first | exact HB.out | apply below_alloc | apply pw_below_drewN | apply below_drew1) | exact HB.out))) : w.heap.size ≤ gb119)); have n3_ := Aside0.mk ((by rw [hg]; exact (below_size (by repeat (first | (with_reducible first | exact HB.out | apply below_alloc | apply pw_below_drewN | apply below_drew1) | exact HB.out))) : w.heap.size ≤ gb119)); clear HB; have HB := n0_; have BK119 := n1_; have GW119 := n2_; have GE119 := n3_; clear n0_ n1_ n2_ n3_; clear hb hbox hg; have hcz4_0 : w3.cell? ⟨gb119, 0, none⟩ = some (.int .i64 a0_0) := (blk_cell BK119.out 0).trans rfl; have hcz4_1 : w3.cell? ⟨gb119, 1, none⟩ = some (.int .i64 a0_1) := (blk_cell BK119.out 1).trans rfl; have hcz4_2 : w3.cell? ⟨gb119, 2, none⟩ = some (.int .i64 a0_2) := (blk_cell BK119.out 2).trans rfl; have hcz4_3 : w3.cell? ⟨gb119, 3, none⟩ = some (.int .i64 a0_3) := (blk_cell BK119.out 3).trans rfl; have hcz4_4 : w3.cell? ⟨gb119, 4, none⟩ = some (.string a0_4) := (blk_cell BK119.out 4).trans rfl; have hfz4_0 := blk_frozen BK119.out 0; have hfz4_1 := blk_frozen BK119.out 1; have hfz4_2 := blk_frozen BK119.out 2; have hfz4_3 := blk_frozen BK119.out 3; have hfz4_4 := blk_frozen BK119.out 4))
  repeat (go_quiet (first | ((with_reducible refine gate_dst (N := 1) rfl ?_); refine box_event ?hg (N := 1) ?hd (cs := #[.int .i64 a0_0, .int .i64 a0_1, .int .i64 a0_2, .int .i64 a0_3, .string a0_4]) (t := 23) ?hr ?_; (case hd => rfl); (case hg => rfl); (case hr => first | (go_simp; done) | (go_simp; rfl)); intro gb119 hg w3 hbox hb; have n0_ := Aside0.mk (below_step (by repeat (first | (with_reducible first | exact HB.out | apply below_alloc | apply pw_below_drewN | apply below_drew1) | exact HB.out)) hb); have n1_ := Aside0.mk (hbox); have n2_ := Aside0.mk ((by rw [hg]; exact (below_size (by repeat (first | (with_reducible first | exact HB.out | apply below_alloc | apply pw_below_drewN | apply below_drew1) | exact HB.out))) : w.heap.size ≤ gb119)); have n3_ := Aside0.mk ((by rw [hg]; exact (below_size (by repeat (first | (with_reducible first | exact HB.out | apply below_alloc | apply pw_below_drewN | apply below_drew1) | exact HB.out))) : w.heap.size ≤ gb119)); clear HB; have HB := n0_; have BK119 := n1_; have GW119 := n2_; have GE119 := n3_; clear n0_ n1_ n2_ n3_; clear hb hbox hg; have hcz4_0 : w3.cell? ⟨gb119, 0, none⟩ = some (.int .i64 a0_0) := (blk_cell BK119.out 0).trans rfl; have hcz4_1 : w3.cell? ⟨gb119, 1, none⟩ = some (.int .i64 a0_1) := (blk_cell BK119.out 1).trans rfl; have hcz4_2 : w3.cell? ⟨gb119, 2, none⟩ = some (.int .i64 a0_2) := (blk_cell BK119.out 2).trans rfl; have hcz4_3 : w3.cell? ⟨gb119, 3, none⟩ = some (.int .i64 a0_3) := (blk_cell BK119.out 3).trans rfl; have hcz4_4 : w3.cell? ⟨gb119, 4, none⟩ = some (.string a0_4) := (blk_cell BK119.out 4).trans rfl; have hfz4_0 := blk_frozen BK119.out 0; have hfz4_1 := blk_frozen BK119.out 1; have hfz4_2 := blk_frozen BK119.out 2; have hfz4_3 := blk_frozen BK119.out 3; have hfz4_4 := blk_frozen BK119.out 4)); go_upto_block 0 with (first | ((with_reducible refine gate_dst (N := 1) rfl ?_); refine box_event ?hg (N := 1) ?hd (cs := #[.int .i64 a0_0, .int .i64 a0_1, .int .i64 a0_2, .int .i64 a0_3, .string a0_4]) (t := 23) ?hr ?_; (case hd => rfl); (case hg => rfl); (case hr => first | (go_simp; done) | (go_simp; rfl)); intro gb119 hg w3 hbox hb; have n0_ := Aside0.mk (below_step (by repeat (first | (with_reducible first | exact HB.out | apply below_alloc | apply pw_below_drewN | apply below_drew1) | exact HB.out)) hb); have n1_ := Aside0.mk (hbox); have n2_ := Aside0.mk ((by rw [hg]; exact (below_size (by repeat (first | (with_reducible first | exact HB.out | apply below_alloc | apply pw_below_drewN | apply below_drew1) | exact HB.out))) : w.heap.size ≤ gb119)); have n3_ := Aside0.mk ((by rw [hg]; exact (below_size (by repeat (first | (with_reducible first | exact HB.out | apply below_alloc | apply pw_below_drewN | apply below_drew1) | exact HB.out))) : w.heap.size ≤ gb119)); clear HB; have HB := n0_; have BK119 := n1_; have GW119 := n2_; have GE119 := n3_; clear n0_ n1_ n2_ n3_; clear hb hbox hg; have hcz4_0 : w3.cell? ⟨gb119, 0, none⟩ = some (.int .i64 a0_0) := (blk_cell BK119.out 0).trans rfl; have hcz4_1 : w3.cell? ⟨gb119, 1, none⟩ = some (.int .i64 a0_1) := (blk_cell BK119.out 1).trans rfl; have hcz4_2 : w3.cell? ⟨gb119, 2, none⟩ = some (.int .i64 a0_2) := (blk_cell BK119.out 2).trans rfl; have hcz4_3 : w3.cell? ⟨gb119, 3, none⟩ = some (.int .i64 a0_3) := (blk_cell BK119.out 3).trans rfl; have hcz4_4 : w3.cell? ⟨gb119, 4, none⟩ = some (.string a0_4) := (blk_cell BK119.out 4).trans rfl; have hfz4_0 := blk_frozen BK119.out 0; have hfz4_1 := blk_frozen BK119.out 1; have hfz4_2 := blk_frozen BK119.out 2; have hfz4_3 := blk_frozen BK119.out 3; have hfz4_4 := blk_frozen BK119.out 4)))
  (try simp only [Act.put, List.setIfInBounds_toArray, List.set_cons_zero, List.set_cons_succ])
  generalize (a0_1 == wrap64 (a0_2 - 1)) = xl4 at HC2 ⊢
  go_cut [] (fun wc => ∃ (kq : Nat), Aside0 (fragment_part.j1 kq (a0_4.size : Int) xl4 a0_0 a0_1 a0_2 a0_3 a0_4 = some r) ∧ Aside0 (kq ≤ k) ∧ Aside0 (wc.heap[gb119]? = some (.cells #[.int .i64 a0_0, .int .i64 a0_1, .int .i64 a0_2, .int .i64 a0_3, .string a0_4] 23 (0, 0))) ∧ Aside0 (Below w.heap.size w wc))
  case first =>
    have H := HC2.out
    clear HC2
    have HC5 := Aside0.mk H
    clear H
    go_upto_region 2 with (fail)
    repeat (go_quiet (fail); go_upto_region 2 with (fail))
    go_cut [15] (fun v15 wc => ∃ (kq : Nat) (x15_4 : Bool), v15 = .bool x15_4 ∧ Aside0 (fragment_part.j0 kq (a0_4.size : Int) xl4 x15_4 a0_0 a0_1 a0_2 a0_3 a0_4 = some r) ∧ Aside0 (kq ≤ k) ∧ Aside0 (wc.heap[gb119]? = some (.cells #[.int .i64 a0_0, .int .i64 a0_1, .int .i64 a0_2, .int .i64 a0_3, .string a0_4] 23 (0, 0))) ∧ Aside0 (Below w.heap.size w wc))
    case first =>
      have H := HC5.out
      clear HC5
      by_cases c6 : a0_0 < 0
      · rw [if_pos c6] at H
        have c6b0 : decide (a0_0 < 0) = true := decide_eq_true c6
        clear c6
        (first | rw [c6b0] | (simp only [i64_w, i32_w]; rw [c6b0]) | skip)
        have H' := Aside0.mk H
        clear H
        have hcz7_0 : w3.cell? ⟨gb119, 0, none⟩ = some (.int .i64 a0_0) := (blk_cell BK119.out 0).trans rfl
        have hcz7_1 : w3.cell? ⟨gb119, 1, none⟩ = some (.int .i64 a0_1) := (blk_cell BK119.out 1).trans rfl
        have hcz7_2 : w3.cell? ⟨gb119, 2, none⟩ = some (.int .i64 a0_2) := (blk_cell BK119.out 2).trans rfl
        have hcz7_3 : w3.cell? ⟨gb119, 3, none⟩ = some (.int .i64 a0_3) := (blk_cell BK119.out 3).trans rfl
        have hcz7_4 : w3.cell? ⟨gb119, 4, none⟩ = some (.string a0_4) := (blk_cell BK119.out 4).trans rfl
        have hfz7_0 := blk_frozen BK119.out 0
        have hfz7_1 := blk_frozen BK119.out 1
        have hfz7_2 := blk_frozen BK119.out 2
        have hfz7_3 := blk_frozen BK119.out 3
        have hfz7_4 := blk_frozen BK119.out 4
        go_wp2
        repeat (go_quiet (fail); try go_wp2)
        go_meet
        case rel => exact ⟨_, (true), (by first | rfl | (simp; done) | (simp [*]; done)), H', ⟨by first | omega | exact Nat.le_refl _⟩, ⟨by (with_reducible repeat (first | refine blk_drewN ?_ _ | refine blk_drew ?_ | refine blk_alloc ?_ _)); exact BK119.out⟩, ⟨by repeat (first | (with_reducible first | exact HB.out | apply below_alloc | apply pw_below_drewN | apply below_drew1 | refine below_set ?_ GE119.out) | exact HB.out)⟩⟩
      · rw [if_neg c6] at H
        have c6b0 : decide (a0_0 < 0) = false := decide_eq_false c6
        clear c6
        (first | rw [c6b0] | (simp only [i64_w, i32_w]; rw [c6b0]) | skip)
        by_cases c8 : a0_0 > 255
        · rw [if_pos c8] at H
          have c8b0 : decide (255 < a0_0) = true := decide_eq_true c8
          clear c8
          have H' := Aside0.mk H
          clear H
          have hcz9_0 : w3.cell? ⟨gb119, 0, none⟩ = some (.int .i64 a0_0) := (blk_cell BK119.out 0).trans rfl
          have hcz9_1 : w3.cell? ⟨gb119, 1, none⟩ = some (.int .i64 a0_1) := (blk_cell BK119.out 1).trans rfl
          have hcz9_2 : w3.cell? ⟨gb119, 2, none⟩ = some (.int .i64 a0_2) := (blk_cell BK119.out 2).trans rfl
          have hcz9_3 : w3.cell? ⟨gb119, 3, none⟩ = some (.int .i64 a0_3) := (blk_cell BK119.out 3).trans rfl
          have hcz9_4 : w3.cell? ⟨gb119, 4, none⟩ = some (.string a0_4) := (blk_cell BK119.out 4).trans rfl
          have hfz9_0 := blk_frozen BK119.out 0
          have hfz9_1 := blk_frozen BK119.out 1
          have hfz9_2 := blk_frozen BK119.out 2
          have hfz9_3 := blk_frozen BK119.out 3
          have hfz9_4 := blk_frozen BK119.out 4
          go_wp2
          repeat (go_quiet (fail); try go_wp2)
          go_meet
          case rel => exact ⟨_, (true), (by first | rfl | (simp; done) | (simp [*]; done)), H', ⟨by first | omega | exact Nat.le_refl _⟩, ⟨by (with_reducible repeat (first | refine blk_drewN ?_ _ | refine blk_drew ?_ | refine blk_alloc ?_ _)); exact BK119.out⟩, ⟨by repeat (first | (with_reducible first | exact HB.out | apply below_alloc | apply pw_below_drewN | apply below_drew1 | refine below_set ?_ GE119.out) | exact HB.out)⟩⟩
        · rw [if_neg c8] at H
          have c8b0 : decide (255 < a0_0) = false := decide_eq_false c8
          clear c8
          by_cases c10 : a0_3 < 1
          · rw [if_pos c10] at H
            have c10b0 : decide (a0_3 < 1) = true := decide_eq_true c10
            clear c10
            have H' := Aside0.mk H
            clear H
            have hcz11_0 : w3.cell? ⟨gb119, 0, none⟩ = some (.int .i64 a0_0) := (blk_cell BK119.out 0).trans rfl
            have hcz11_1 : w3.cell? ⟨gb119, 1, none⟩ = some (.int .i64 a0_1) := (blk_cell BK119.out 1).trans rfl
            have hcz11_2 : w3.cell? ⟨gb119, 2, none⟩ = some (.int .i64 a0_2) := (blk_cell BK119.out 2).trans rfl
            have hcz11_3 : w3.cell? ⟨gb119, 3, none⟩ = some (.int .i64 a0_3) := (blk_cell BK119.out 3).trans rfl
            have hcz11_4 : w3.cell? ⟨gb119, 4, none⟩ = some (.string a0_4) := (blk_cell BK119.out 4).trans rfl
            have hfz11_0 := blk_frozen BK119.out 0
            have hfz11_1 := blk_frozen BK119.out 1
            have hfz11_2 := blk_frozen BK119.out 2
            have hfz11_3 := blk_frozen BK119.out 3
            have hfz11_4 := blk_frozen BK119.out 4
            go_wp2
            repeat (go_quiet (fail); try go_wp2)
            go_meet
            case rel => exact ⟨_, (true), (by first | rfl | (simp; done) | (simp [*]; done)), H', ⟨by first | omega | exact Nat.le_refl _⟩, ⟨by (with_reducible repeat (first | refine blk_drewN ?_ _ | refine blk_drew ?_ | refine blk_alloc ?_ _)); exact BK119.out⟩, ⟨by repeat (first | (with_reducible first | exact HB.out | apply below_alloc | apply pw_below_drewN | apply below_drew1 | refine below_set ?_ GE119.out) | exact HB.out)⟩⟩
          · rw [if_neg c10] at H
            have c10b0 : decide (a0_3 < 1) = false := decide_eq_false c10
            clear c10
            by_cases c12 : a0_3 > 4095
            · rw [if_pos c12] at H
              have c12b0 : decide (4095 < a0_3) = true := decide_eq_true c12
              clear c12
              have H' := Aside0.mk H
              clear H
              have hcz13_0 : w3.cell? ⟨gb119, 0, none⟩ = some (.int .i64 a0_0) := (blk_cell BK119.out 0).trans rfl
              have hcz13_1 : w3.cell? ⟨gb119, 1, none⟩ = some (.int .i64 a0_1) := (blk_cell BK119.out 1).trans rfl
              have hcz13_2 : w3.cell? ⟨gb119, 2, none⟩ = some (.int .i64 a0_2) := (blk_cell BK119.out 2).trans rfl
              have hcz13_3 : w3.cell? ⟨gb119, 3, none⟩ = some (.int .i64 a0_3) := (blk_cell BK119.out 3).trans rfl
              have hcz13_4 : w3.cell? ⟨gb119, 4, none⟩ = some (.string a0_4) := (blk_cell BK119.out 4).trans rfl
              have hfz13_0 := blk_frozen BK119.out 0
              have hfz13_1 := blk_frozen BK119.out 1
              have hfz13_2 := blk_frozen BK119.out 2
              have hfz13_3 := blk_frozen BK119.out 3
              have hfz13_4 := blk_frozen BK119.out 4
              go_wp2
              repeat (go_quiet (fail); try go_wp2)
              go_meet
              case rel => exact ⟨_, (true), (by first | rfl | (simp; done) | (simp [*]; done)), H', ⟨by first | omega | exact Nat.le_refl _⟩, ⟨by (with_reducible repeat (first | refine blk_drewN ?_ _ | refine blk_drew ?_ | refine blk_alloc ?_ _)); exact BK119.out⟩, ⟨by repeat (first | (with_reducible first | exact HB.out | apply below_alloc | apply pw_below_drewN | apply below_drew1 | refine below_set ?_ GE119.out) | exact HB.out)⟩⟩
            · rw [if_neg c12] at H
              have c12b0 : decide (4095 < a0_3) = false := decide_eq_false c12
              clear c12
              by_cases c14 : a0_2 < 1
              · rw [if_pos c14] at H
                have c14b0 : decide (a0_2 < 1) = true := decide_eq_true c14
                clear c14
                have H' := Aside0.mk H
                clear H
                have hcz15_0 : w3.cell? ⟨gb119, 0, none⟩ = some (.int .i64 a0_0) := (blk_cell BK119.out 0).trans rfl
                have hcz15_1 : w3.cell? ⟨gb119, 1, none⟩ = some (.int .i64 a0_1) := (blk_cell BK119.out 1).trans rfl
                have hcz15_2 : w3.cell? ⟨gb119, 2, none⟩ = some (.int .i64 a0_2) := (blk_cell BK119.out 2).trans rfl
                have hcz15_3 : w3.cell? ⟨gb119, 3, none⟩ = some (.int .i64 a0_3) := (blk_cell BK119.out 3).trans rfl
                have hcz15_4 : w3.cell? ⟨gb119, 4, none⟩ = some (.string a0_4) := (blk_cell BK119.out 4).trans rfl
                have hfz15_0 := blk_frozen BK119.out 0
                have hfz15_1 := blk_frozen BK119.out 1
                have hfz15_2 := blk_frozen BK119.out 2
                have hfz15_3 := blk_frozen BK119.out 3
                have hfz15_4 := blk_frozen BK119.out 4
                go_wp2
                repeat (go_quiet (fail); try go_wp2)
                go_meet
                case rel => exact ⟨_, (true), (by first | rfl | (simp; done) | (simp [*]; done)), H', ⟨by first | omega | exact Nat.le_refl _⟩, ⟨by (with_reducible repeat (first | refine blk_drewN ?_ _ | refine blk_drew ?_ | refine blk_alloc ?_ _)); exact BK119.out⟩, ⟨by repeat (first | (with_reducible first | exact HB.out | apply below_alloc | apply pw_below_drewN | apply below_drew1 | refine below_set ?_ GE119.out) | exact HB.out)⟩⟩
              · rw [if_neg c14] at H
                have c14b0 : decide (a0_2 < 1) = false := decide_eq_false c14
                clear c14
                by_cases c16 : a0_2 > 32
                · rw [if_pos c16] at H
                  have c16b0 : decide (32 < a0_2) = true := decide_eq_true c16
                  clear c16
                  have H' := Aside0.mk H
                  clear H
                  have hcz17_0 : w3.cell? ⟨gb119, 0, none⟩ = some (.int .i64 a0_0) := (blk_cell BK119.out 0).trans rfl
                  have hcz17_1 : w3.cell? ⟨gb119, 1, none⟩ = some (.int .i64 a0_1) := (blk_cell BK119.out 1).trans rfl
                  have hcz17_2 : w3.cell? ⟨gb119, 2, none⟩ = some (.int .i64 a0_2) := (blk_cell BK119.out 2).trans rfl
                  have hcz17_3 : w3.cell? ⟨gb119, 3, none⟩ = some (.int .i64 a0_3) := (blk_cell BK119.out 3).trans rfl
                  have hcz17_4 : w3.cell? ⟨gb119, 4, none⟩ = some (.string a0_4) := (blk_cell BK119.out 4).trans rfl
                  have hfz17_0 := blk_frozen BK119.out 0
                  have hfz17_1 := blk_frozen BK119.out 1
                  have hfz17_2 := blk_frozen BK119.out 2
                  have hfz17_3 := blk_frozen BK119.out 3
                  have hfz17_4 := blk_frozen BK119.out 4
                  go_wp2
                  repeat (go_quiet (fail); try go_wp2)
                  go_meet
                  case rel => exact ⟨_, (true), (by first | rfl | (simp; done) | (simp [*]; done)), H', ⟨by first | omega | exact Nat.le_refl _⟩, ⟨by (with_reducible repeat (first | refine blk_drewN ?_ _ | refine blk_drew ?_ | refine blk_alloc ?_ _)); exact BK119.out⟩, ⟨by repeat (first | (with_reducible first | exact HB.out | apply below_alloc | apply pw_below_drewN | apply below_drew1 | refine below_set ?_ GE119.out) | exact HB.out)⟩⟩
                · rw [if_neg c16] at H
                  have c16b0 : decide (32 < a0_2) = false := decide_eq_false c16
                  clear c16
                  by_cases c18 : a0_1 < 0
                  · rw [if_pos c18] at H
                    have c18b0 : decide (a0_1 < 0) = true := decide_eq_true c18
                    clear c18
                    have H' := Aside0.mk H
                    clear H
                    have hcz19_0 : w3.cell? ⟨gb119, 0, none⟩ = some (.int .i64 a0_0) := (blk_cell BK119.out 0).trans rfl
                    have hcz19_1 : w3.cell? ⟨gb119, 1, none⟩ = some (.int .i64 a0_1) := (blk_cell BK119.out 1).trans rfl
                    have hcz19_2 : w3.cell? ⟨gb119, 2, none⟩ = some (.int .i64 a0_2) := (blk_cell BK119.out 2).trans rfl
                    have hcz19_3 : w3.cell? ⟨gb119, 3, none⟩ = some (.int .i64 a0_3) := (blk_cell BK119.out 3).trans rfl
                    have hcz19_4 : w3.cell? ⟨gb119, 4, none⟩ = some (.string a0_4) := (blk_cell BK119.out 4).trans rfl
                    have hfz19_0 := blk_frozen BK119.out 0
                    have hfz19_1 := blk_frozen BK119.out 1
                    have hfz19_2 := blk_frozen BK119.out 2
                    have hfz19_3 := blk_frozen BK119.out 3
                    have hfz19_4 := blk_frozen BK119.out 4
                    go_wp2
                    repeat (go_quiet (fail); try go_wp2)
                    go_meet
                    case rel => exact ⟨_, (true), (by first | rfl | (simp; done) | (simp [*]; done)), H', ⟨by first | omega | exact Nat.le_refl _⟩, ⟨by (with_reducible repeat (first | refine blk_drewN ?_ _ | refine blk_drew ?_ | refine blk_alloc ?_ _)); exact BK119.out⟩, ⟨by repeat (first | (with_reducible first | exact HB.out | apply below_alloc | apply pw_below_drewN | apply below_drew1 | refine below_set ?_ GE119.out) | exact HB.out)⟩⟩
                  · rw [if_neg c18] at H
                    have c18b0 : decide (a0_1 < 0) = false := decide_eq_false c18
                    clear c18
                    by_cases c20 : a0_1 ≥ a0_2
                    · rw [if_pos c20] at H
                      have c20b0 : decide (a0_2 ≤ a0_1) = true := decide_eq_true c20
                      clear c20
                      have H' := Aside0.mk H
                      clear H
                      have hcz21_0 : w3.cell? ⟨gb119, 0, none⟩ = some (.int .i64 a0_0) := (blk_cell BK119.out 0).trans rfl
                      have hcz21_1 : w3.cell? ⟨gb119, 1, none⟩ = some (.int .i64 a0_1) := (blk_cell BK119.out 1).trans rfl
                      have hcz21_2 : w3.cell? ⟨gb119, 2, none⟩ = some (.int .i64 a0_2) := (blk_cell BK119.out 2).trans rfl
                      have hcz21_3 : w3.cell? ⟨gb119, 3, none⟩ = some (.int .i64 a0_3) := (blk_cell BK119.out 3).trans rfl
                      have hcz21_4 : w3.cell? ⟨gb119, 4, none⟩ = some (.string a0_4) := (blk_cell BK119.out 4).trans rfl
                      have hfz21_0 := blk_frozen BK119.out 0
                      have hfz21_1 := blk_frozen BK119.out 1
                      have hfz21_2 := blk_frozen BK119.out 2
                      have hfz21_3 := blk_frozen BK119.out 3
                      have hfz21_4 := blk_frozen BK119.out 4
                      go_wp2
                      repeat (go_quiet (fail); try go_wp2)
                      go_meet
                      case rel => exact ⟨_, (true), (by first | rfl | (simp; done) | (simp [*]; done)), H', ⟨by first | omega | exact Nat.le_refl _⟩, ⟨by (with_reducible repeat (first | refine blk_drewN ?_ _ | refine blk_drew ?_ | refine blk_alloc ?_ _)); exact BK119.out⟩, ⟨by repeat (first | (with_reducible first | exact HB.out | apply below_alloc | apply pw_below_drewN | apply below_drew1 | refine below_set ?_ GE119.out) | exact HB.out)⟩⟩
                    · rw [if_neg c20] at H
                      have c20b0 : decide (a0_2 ≤ a0_1) = false := decide_eq_false c20
                      clear c20
                      have H' := Aside0.mk H
                      clear H
                      have hcz22_0 : w3.cell? ⟨gb119, 0, none⟩ = some (.int .i64 a0_0) := (blk_cell BK119.out 0).trans rfl
                      have hcz22_1 : w3.cell? ⟨gb119, 1, none⟩ = some (.int .i64 a0_1) := (blk_cell BK119.out 1).trans rfl
                      have hcz22_2 : w3.cell? ⟨gb119, 2, none⟩ = some (.int .i64 a0_2) := (blk_cell BK119.out 2).trans rfl
                      have hcz22_3 : w3.cell? ⟨gb119, 3, none⟩ = some (.int .i64 a0_3) := (blk_cell BK119.out 3).trans rfl
                      have hcz22_4 : w3.cell? ⟨gb119, 4, none⟩ = some (.string a0_4) := (blk_cell BK119.out 4).trans rfl
                      have hfz22_0 := blk_frozen BK119.out 0
                      have hfz22_1 := blk_frozen BK119.out 1
                      have hfz22_2 := blk_frozen BK119.out 2
                      have hfz22_3 := blk_frozen BK119.out 3
                      have hfz22_4 := blk_frozen BK119.out 4
                      go_wp2
                      repeat (go_quiet (fail); try go_wp2)
                      go_meet
                      case rel => exact ⟨_, (decide ((a0_4.size : Int) < 1)), (by first | rfl | (simp; done) | (simp [*]; done)), H', ⟨by first | omega | exact Nat.le_refl _⟩, ⟨by (with_reducible repeat (first | refine blk_drewN ?_ _ | refine blk_drew ?_ | refine blk_alloc ?_ _)); exact BK119.out⟩, ⟨by repeat (first | (with_reducible first | exact HB.out | apply below_alloc | apply pw_below_drewN | apply below_drew1 | refine below_set ?_ GE119.out) | exact HB.out)⟩⟩
    case rest =>
      clear HC5
      try clear c1
      try clear c2
      try clear p2
      try clear c4
      try clear c6
      try clear c6b0
      try clear p6
      try clear c8
      try clear c8b0
      try clear c10
      try clear c10b0
      try clear c12
      try clear c12b0
      try clear c14
      try clear c14b0
      try clear c16
      try clear c16b0
      try clear c18
      try clear c18b0
      try clear c20
      try clear c20b0
      try clear hcz11_0
      try clear hcz11_1
      try clear hcz11_2
      try clear hcz11_3
      try clear hcz11_4
      try clear hcz13_0
      try clear hcz13_1
      try clear hcz13_2
      try clear hcz13_3
      try clear hcz13_4
      try clear hcz15_0
      try clear hcz15_1
      try clear hcz15_2
      try clear hcz15_3
      try clear hcz15_4
      try clear hcz17_0
      try clear hcz17_1
      try clear hcz17_2
      try clear hcz17_3
      try clear hcz17_4
      try clear hcz19_0
      try clear hcz19_1
      try clear hcz19_2
      try clear hcz19_3
      try clear hcz19_4
      try clear hcz21_0
      try clear hcz21_1
      try clear hcz21_2
      try clear hcz21_3
      try clear hcz21_4
      try clear hcz22_0
      try clear hcz22_1
      try clear hcz22_2
      try clear hcz22_3
      try clear hcz22_4
      try clear hcz4_0
      try clear hcz4_1
      try clear hcz4_2
      try clear hcz4_3
      try clear hcz4_4
      try clear hcz7_0
      try clear hcz7_1
      try clear hcz7_2
      try clear hcz7_3
      try clear hcz7_4
      try clear hcz9_0
      try clear hcz9_1
      try clear hcz9_2
      try clear hcz9_3
      try clear hcz9_4
      try clear hfz11_0
      try clear hfz11_1
      try clear hfz11_2
      try clear hfz11_3
      try clear hfz11_4
      try clear hfz13_0
      try clear hfz13_1
      try clear hfz13_2
      try clear hfz13_3
      try clear hfz13_4
      try clear hfz15_0
      try clear hfz15_1
      try clear hfz15_2
      try clear hfz15_3
      try clear hfz15_4
      try clear hfz17_0
      try clear hfz17_1
      try clear hfz17_2
      try clear hfz17_3
      try clear hfz17_4
      try clear hfz19_0
      try clear hfz19_1
      try clear hfz19_2
      try clear hfz19_3
      try clear hfz19_4
      try clear hfz21_0
      try clear hfz21_1
      try clear hfz21_2
      try clear hfz21_3
      try clear hfz21_4
      try clear hfz22_0
      try clear hfz22_1
      try clear hfz22_2
      try clear hfz22_3
      try clear hfz22_4
      try clear hfz4_0
      try clear hfz4_1
      try clear hfz4_2
      try clear hfz4_3
      try clear hfz4_4
      try clear hfz7_0
      try clear hfz7_1
      try clear hfz7_2
      try clear hfz7_3
      try clear hfz7_4
      try clear hfz9_0
      try clear hfz9_1
      try clear hfz9_2
      try clear hfz9_3
      try clear hfz9_4
      obtain ⟨kq, x15_4, rfl, HA, HJ4, BK119, HB⟩ := hcut
      cases kq with
      | zero => exact absurd HA.out (by simp [fragment_part.j0])
      | succ kj4 =>
        have H := HA.out
        clear HA
        simp only [fragment_part.j0] at H
        by_cases c23 : x15_4 = true
        · subst c23
          have H1 : (some 0) = some r := by rw [if_pos rfl] at H; exact H
          clear H
          have H := H1
          clear H1
          obtain rfl := Option.some.inj H
          go_wp2
          repeat (go_quiet (fail); try go_wp2)
          go_ret
          exact ⟨by first | rfl | (simp [errW_none, errW_some] <;> rfl) | (simp [*, errW_none, errW_some] <;> rfl), by repeat (first | (with_reducible first | exact HB.out | apply below_alloc | apply pw_below_drewN | apply below_drew1 | refine below_set ?_ GE119.out) | exact HB.out)⟩
        · replace c23 := Bool.eq_false_iff.mpr c23
          subst c23
          have H1 : (if a0_2 = 1 then (if (a0_4.size : Int) = a0_3 then (if (a0_4.size : Int) > 120 then (some 0) else (some (a0_4.size : Int))) else (some 0)) else (if xl4 = true then (if (a0_4.size : Int) ≥ a0_3 then (some 0) else (if (wrap64 (a0_2 - 1)) = 0 then (none) else (if (Int.tmod (wrap64 (a0_3 - (a0_4.size : Int))) (wrap64 (a0_2 - 1))) = 0 then (fragment_part.j1 kj4 (a0_4.size : Int) xl4 a0_0 a0_1 a0_2 a0_3 a0_4) else (some 0)))) else (fragment_part.j1 kj4 (a0_4.size : Int) xl4 a0_0 a0_1 a0_2 a0_3 a0_4))) = some r := by rw [if_neg (show ¬ (false = true) by decide)] at H; exact H
          clear H
          have H := H1
          clear H1
          by_cases c24 : a0_2 = 1
          · rw [if_pos c24] at H
            have c24b0 : (a0_2 == 1) = true := beq_iff_eq.mpr c24
            have c24b1 : (a0_2 != 1) = false := bne_eq_false_iff_eq.mpr c24
            clear c24
            by_cases c25 : (a0_4.size : Int) = a0_3
            · rw [if_pos c25] at H
              have c25b0 : ((a0_4.size : Int) == a0_3) = true := beq_iff_eq.mpr c25
              have c25b1 : ((a0_4.size : Int) != a0_3) = false := bne_eq_false_iff_eq.mpr c25
              clear c25
              by_cases c26 : (a0_4.size : Int) > 120
              · rw [if_pos c26] at H
                have c26b0 : decide (120 < (a0_4.size : Int)) = true := decide_eq_true c26
                have c26b1 : decide (120 < a0_4.size) = true := decide_eq_true (by omega)
                clear c26
                obtain rfl := Option.some.inj H
                have hcz27_0 : wc.cell? ⟨gb119, 0, none⟩ = some (.int .i64 a0_0) := (blk_cell BK119.out 0).trans rfl
                have hcz27_1 : wc.cell? ⟨gb119, 1, none⟩ = some (.int .i64 a0_1) := (blk_cell BK119.out 1).trans rfl
                have hcz27_2 : wc.cell? ⟨gb119, 2, none⟩ = some (.int .i64 a0_2) := (blk_cell BK119.out 2).trans rfl
                have hcz27_3 : wc.cell? ⟨gb119, 3, none⟩ = some (.int .i64 a0_3) := (blk_cell BK119.out 3).trans rfl
                have hcz27_4 : wc.cell? ⟨gb119, 4, none⟩ = some (.string a0_4) := (blk_cell BK119.out 4).trans rfl
                have hfz27_0 := blk_frozen BK119.out 0
                have hfz27_1 := blk_frozen BK119.out 1
                have hfz27_2 := blk_frozen BK119.out 2
                have hfz27_3 := blk_frozen BK119.out 3
                have hfz27_4 := blk_frozen BK119.out 4
                go_wp2
                repeat (go_quiet (fail); try go_wp2)
                go_ret
                exact ⟨by first | rfl | (simp [errW_none, errW_some] <;> rfl) | (simp [*, errW_none, errW_some] <;> rfl), by repeat (first | (with_reducible first | exact HB.out | apply below_alloc | apply pw_below_drewN | apply below_drew1 | refine below_set ?_ GE119.out) | exact HB.out)⟩
              · rw [if_neg c26] at H
                have c26b0 : decide (120 < (a0_4.size : Int)) = false := decide_eq_false c26
                have c26b1 : decide (120 < a0_4.size) = false := decide_eq_false (by omega)
                clear c26
                obtain rfl := Option.some.inj H
                have hcz28_0 : wc.cell? ⟨gb119, 0, none⟩ = some (.int .i64 a0_0) := (blk_cell BK119.out 0).trans rfl
                have hcz28_1 : wc.cell? ⟨gb119, 1, none⟩ = some (.int .i64 a0_1) := (blk_cell BK119.out 1).trans rfl
                have hcz28_2 : wc.cell? ⟨gb119, 2, none⟩ = some (.int .i64 a0_2) := (blk_cell BK119.out 2).trans rfl
                have hcz28_3 : wc.cell? ⟨gb119, 3, none⟩ = some (.int .i64 a0_3) := (blk_cell BK119.out 3).trans rfl
                have hcz28_4 : wc.cell? ⟨gb119, 4, none⟩ = some (.string a0_4) := (blk_cell BK119.out 4).trans rfl
                have hfz28_0 := blk_frozen BK119.out 0
                have hfz28_1 := blk_frozen BK119.out 1
                have hfz28_2 := blk_frozen BK119.out 2
                have hfz28_3 := blk_frozen BK119.out 3
                have hfz28_4 := blk_frozen BK119.out 4
                go_wp2
                repeat (go_quiet (fail); try go_wp2)
                go_ret
                exact ⟨by first | rfl | (simp [errW_none, errW_some] <;> rfl) | (simp [*, errW_none, errW_some] <;> rfl), by repeat (first | (with_reducible first | exact HB.out | apply below_alloc | apply pw_below_drewN | apply below_drew1 | refine below_set ?_ GE119.out) | exact HB.out)⟩
            · rw [if_neg c25] at H
              have c25b0 : ((a0_4.size : Int) == a0_3) = false := beq_eq_false_iff_ne.mpr c25
              have c25b1 : ((a0_4.size : Int) != a0_3) = true := bne_iff_ne.mpr c25
              obtain rfl := Option.some.inj H
              have hcz29_0 : wc.cell? ⟨gb119, 0, none⟩ = some (.int .i64 a0_0) := (blk_cell BK119.out 0).trans rfl
              have hcz29_1 : wc.cell? ⟨gb119, 1, none⟩ = some (.int .i64 a0_1) := (blk_cell BK119.out 1).trans rfl
              have hcz29_2 : wc.cell? ⟨gb119, 2, none⟩ = some (.int .i64 a0_2) := (blk_cell BK119.out 2).trans rfl
              have hcz29_3 : wc.cell? ⟨gb119, 3, none⟩ = some (.int .i64 a0_3) := (blk_cell BK119.out 3).trans rfl
              have hcz29_4 : wc.cell? ⟨gb119, 4, none⟩ = some (.string a0_4) := (blk_cell BK119.out 4).trans rfl
              have hfz29_0 := blk_frozen BK119.out 0
              have hfz29_1 := blk_frozen BK119.out 1
              have hfz29_2 := blk_frozen BK119.out 2
              have hfz29_3 := blk_frozen BK119.out 3
              have hfz29_4 := blk_frozen BK119.out 4
              go_wp2
              repeat (go_quiet (fail); try go_wp2)
              go_ret
              exact ⟨by first | rfl | (simp [errW_none, errW_some] <;> rfl) | (simp [*, errW_none, errW_some] <;> rfl), by repeat (first | (with_reducible first | exact HB.out | apply below_alloc | apply pw_below_drewN | apply below_drew1 | refine below_set ?_ GE119.out) | exact HB.out)⟩
          · rw [if_neg c24] at H
            have c24b0 : (a0_2 == 1) = false := beq_eq_false_iff_ne.mpr c24
            have c24b1 : (a0_2 != 1) = true := bne_iff_ne.mpr c24
            by_cases c30 : xl4 = true
            · rw [if_pos c30] at H
              subst c30
              by_cases c31 : (a0_4.size : Int) ≥ a0_3
              · rw [if_pos c31] at H
                have c31b0 : decide (a0_3 ≤ (a0_4.size : Int)) = true := decide_eq_true c31
                clear c31
                obtain rfl := Option.some.inj H
                have hcz32_0 : wc.cell? ⟨gb119, 0, none⟩ = some (.int .i64 a0_0) := (blk_cell BK119.out 0).trans rfl
                have hcz32_1 : wc.cell? ⟨gb119, 1, none⟩ = some (.int .i64 a0_1) := (blk_cell BK119.out 1).trans rfl
                have hcz32_2 : wc.cell? ⟨gb119, 2, none⟩ = some (.int .i64 a0_2) := (blk_cell BK119.out 2).trans rfl
                have hcz32_3 : wc.cell? ⟨gb119, 3, none⟩ = some (.int .i64 a0_3) := (blk_cell BK119.out 3).trans rfl
                have hcz32_4 : wc.cell? ⟨gb119, 4, none⟩ = some (.string a0_4) := (blk_cell BK119.out 4).trans rfl
                have hfz32_0 := blk_frozen BK119.out 0
                have hfz32_1 := blk_frozen BK119.out 1
                have hfz32_2 := blk_frozen BK119.out 2
                have hfz32_3 := blk_frozen BK119.out 3
                have hfz32_4 := blk_frozen BK119.out 4
                go_wp2
                repeat (go_quiet (fail); try go_wp2)
                go_ret
                exact ⟨by first | rfl | (simp [errW_none, errW_some] <;> rfl) | (simp [*, errW_none, errW_some] <;> rfl), by repeat (first | (with_reducible first | exact HB.out | apply below_alloc | apply pw_below_drewN | apply below_drew1 | refine below_set ?_ GE119.out) | exact HB.out)⟩
              · rw [if_neg c31] at H
                have c31b0 : decide (a0_3 ≤ (a0_4.size : Int)) = false := decide_eq_false c31
                clear c31
                by_cases c33 : (wrap64 (a0_2 - 1)) = 0
                · rw [if_pos c33] at H
                  exact absurd H (by simp)
                · rw [if_neg c33] at H
                  have c33b0 : ((wrap64 (a0_2 - 1)) == 0) = false := beq_eq_false_iff_ne.mpr c33
                  have c33b1 : ((wrap64 (a0_2 - 1)) != 0) = true := bne_iff_ne.mpr c33
                  by_cases c34 : (Int.tmod (wrap64 (a0_3 - (a0_4.size : Int))) (wrap64 (a0_2 - 1))) = 0
                  · rw [if_pos c34] at H
                    have c34b0 : ((Int.tmod (wrap64 (a0_3 - (a0_4.size : Int))) (wrap64 (a0_2 - 1))) == 0) = true := beq_iff_eq.mpr c34
                    have c34b1 : ((Int.tmod (wrap64 (a0_3 - (a0_4.size : Int))) (wrap64 (a0_2 - 1))) != 0) = false := bne_eq_false_iff_eq.mpr c34
                    clear c34
                    have H' := Aside0.mk H
                    clear H
                    have hcz35_0 : wc.cell? ⟨gb119, 0, none⟩ = some (.int .i64 a0_0) := (blk_cell BK119.out 0).trans rfl
                    have hcz35_1 : wc.cell? ⟨gb119, 1, none⟩ = some (.int .i64 a0_1) := (blk_cell BK119.out 1).trans rfl
                    have hcz35_2 : wc.cell? ⟨gb119, 2, none⟩ = some (.int .i64 a0_2) := (blk_cell BK119.out 2).trans rfl
                    have hcz35_3 : wc.cell? ⟨gb119, 3, none⟩ = some (.int .i64 a0_3) := (blk_cell BK119.out 3).trans rfl
                    have hcz35_4 : wc.cell? ⟨gb119, 4, none⟩ = some (.string a0_4) := (blk_cell BK119.out 4).trans rfl
                    have hfz35_0 := blk_frozen BK119.out 0
                    have hfz35_1 := blk_frozen BK119.out 1
                    have hfz35_2 := blk_frozen BK119.out 2
                    have hfz35_3 := blk_frozen BK119.out 3
                    have hfz35_4 := blk_frozen BK119.out 4
                    go_wp2
                    repeat (go_quiet (fail); try go_wp2)
                    go_meet
                    case rel => exact ⟨_, H', ⟨by have := HJ4.out; first | omega | exact Nat.le_refl _⟩, ⟨by (with_reducible repeat (first | refine blk_drewN ?_ _ | refine blk_drew ?_ | refine blk_alloc ?_ _)); exact BK119.out⟩, ⟨by repeat (first | (with_reducible first | exact HB.out | apply below_alloc | apply pw_below_drewN | apply below_drew1 | refine below_set ?_ GE119.out) | exact HB.out)⟩⟩
                  · rw [if_neg c34] at H
                    have c34b0 : ((Int.tmod (wrap64 (a0_3 - (a0_4.size : Int))) (wrap64 (a0_2 - 1))) == 0) = false := beq_eq_false_iff_ne.mpr c34
                    have c34b1 : ((Int.tmod (wrap64 (a0_3 - (a0_4.size : Int))) (wrap64 (a0_2 - 1))) != 0) = true := bne_iff_ne.mpr c34
                    obtain rfl := Option.some.inj H
                    have hcz36_0 : wc.cell? ⟨gb119, 0, none⟩ = some (.int .i64 a0_0) := (blk_cell BK119.out 0).trans rfl
                    have hcz36_1 : wc.cell? ⟨gb119, 1, none⟩ = some (.int .i64 a0_1) := (blk_cell BK119.out 1).trans rfl
                    have hcz36_2 : wc.cell? ⟨gb119, 2, none⟩ = some (.int .i64 a0_2) := (blk_cell BK119.out 2).trans rfl
                    have hcz36_3 : wc.cell? ⟨gb119, 3, none⟩ = some (.int .i64 a0_3) := (blk_cell BK119.out 3).trans rfl
                    have hcz36_4 : wc.cell? ⟨gb119, 4, none⟩ = some (.string a0_4) := (blk_cell BK119.out 4).trans rfl
                    have hfz36_0 := blk_frozen BK119.out 0
                    have hfz36_1 := blk_frozen BK119.out 1
                    have hfz36_2 := blk_frozen BK119.out 2
                    have hfz36_3 := blk_frozen BK119.out 3
                    have hfz36_4 := blk_frozen BK119.out 4
                    go_wp2
                    repeat (go_quiet (fail); try go_wp2)
                    go_ret
                    exact ⟨by first | rfl | (simp [errW_none, errW_some] <;> rfl) | (simp [*, errW_none, errW_some] <;> rfl), by repeat (first | (with_reducible first | exact HB.out | apply below_alloc | apply pw_below_drewN | apply below_drew1 | refine below_set ?_ GE119.out) | exact HB.out)⟩
            · rw [if_neg c30] at H
              replace c30 : xl4 = false := by simpa using c30
              subst c30
              have H' := Aside0.mk H
              clear H
              have hcz37_0 : wc.cell? ⟨gb119, 0, none⟩ = some (.int .i64 a0_0) := (blk_cell BK119.out 0).trans rfl
              have hcz37_1 : wc.cell? ⟨gb119, 1, none⟩ = some (.int .i64 a0_1) := (blk_cell BK119.out 1).trans rfl
              have hcz37_2 : wc.cell? ⟨gb119, 2, none⟩ = some (.int .i64 a0_2) := (blk_cell BK119.out 2).trans rfl
              have hcz37_3 : wc.cell? ⟨gb119, 3, none⟩ = some (.int .i64 a0_3) := (blk_cell BK119.out 3).trans rfl
              have hcz37_4 : wc.cell? ⟨gb119, 4, none⟩ = some (.string a0_4) := (blk_cell BK119.out 4).trans rfl
              have hfz37_0 := blk_frozen BK119.out 0
              have hfz37_1 := blk_frozen BK119.out 1
              have hfz37_2 := blk_frozen BK119.out 2
              have hfz37_3 := blk_frozen BK119.out 3
              have hfz37_4 := blk_frozen BK119.out 4
              go_wp2
              repeat (go_quiet (fail); try go_wp2)
              go_meet
              case rel => exact ⟨_, H', ⟨by have := HJ4.out; first | omega | exact Nat.le_refl _⟩, ⟨by (with_reducible repeat (first | refine blk_drewN ?_ _ | refine blk_drew ?_ | refine blk_alloc ?_ _)); exact BK119.out⟩, ⟨by repeat (first | (with_reducible first | exact HB.out | apply below_alloc | apply pw_below_drewN | apply below_drew1 | refine below_set ?_ GE119.out) | exact HB.out)⟩⟩
  case rest =>
    clear HC2
    try clear c1
    try clear c2
    try clear p2
    try clear c3
    try clear c4
    try clear c6
    try clear c6b0
    try clear p6
    try clear c8
    try clear c8b0
    try clear c10
    try clear c10b0
    try clear c12
    try clear c12b0
    try clear c14
    try clear c14b0
    try clear c16
    try clear c16b0
    try clear c18
    try clear c18b0
    try clear c20
    try clear c20b0
    try clear c23
    try clear c24
    try clear c24b0
    try clear c24b1
    try clear c25
    try clear c25b0
    try clear c25b1
    try clear c26
    try clear c26b0
    try clear c26b1
    try clear c30
    try clear c30b0
    try clear c30b1
    try clear c30b2
    try clear c31
    try clear c31b0
    try clear c33
    try clear c33b0
    try clear c33b1
    try clear c34
    try clear c34b0
    try clear c34b1
    try clear hcz11_0
    try clear hcz11_1
    try clear hcz11_2
    try clear hcz11_3
    try clear hcz11_4
    try clear hcz13_0
    try clear hcz13_1
    try clear hcz13_2
    try clear hcz13_3
    try clear hcz13_4
    try clear hcz15_0
    try clear hcz15_1
    try clear hcz15_2
    try clear hcz15_3
    try clear hcz15_4
    try clear hcz17_0
    try clear hcz17_1
    try clear hcz17_2
    try clear hcz17_3
    try clear hcz17_4
    try clear hcz19_0
    try clear hcz19_1
    try clear hcz19_2
    try clear hcz19_3
    try clear hcz19_4
    try clear hcz21_0
    try clear hcz21_1
    try clear hcz21_2
    try clear hcz21_3
    try clear hcz21_4
    try clear hcz22_0
    try clear hcz22_1
    try clear hcz22_2
    try clear hcz22_3
    try clear hcz22_4
    try clear hcz27_0
    try clear hcz27_1
    try clear hcz27_2
    try clear hcz27_3
    try clear hcz27_4
    try clear hcz28_0
    try clear hcz28_1
    try clear hcz28_2
    try clear hcz28_3
    try clear hcz28_4
    try clear hcz29_0
    try clear hcz29_1
    try clear hcz29_2
    try clear hcz29_3
    try clear hcz29_4
    try clear hcz32_0
    try clear hcz32_1
    try clear hcz32_2
    try clear hcz32_3
    try clear hcz32_4
    try clear hcz35_0
    try clear hcz35_1
    try clear hcz35_2
    try clear hcz35_3
    try clear hcz35_4
    try clear hcz36_0
    try clear hcz36_1
    try clear hcz36_2
    try clear hcz36_3
    try clear hcz36_4
    try clear hcz37_0
    try clear hcz37_1
    try clear hcz37_2
    try clear hcz37_3
    try clear hcz37_4
    try clear hcz4_0
    try clear hcz4_1
    try clear hcz4_2
    try clear hcz4_3
    try clear hcz4_4
    try clear hcz7_0
    try clear hcz7_1
    try clear hcz7_2
    try clear hcz7_3
    try clear hcz7_4
    try clear hcz9_0
    try clear hcz9_1
    try clear hcz9_2
    try clear hcz9_3
    try clear hcz9_4
    try clear hfz11_0
    try clear hfz11_1
    try clear hfz11_2
    try clear hfz11_3
    try clear hfz11_4
    try clear hfz13_0
    try clear hfz13_1
    try clear hfz13_2
    try clear hfz13_3
    try clear hfz13_4
    try clear hfz15_0
    try clear hfz15_1
    try clear hfz15_2
    try clear hfz15_3
    try clear hfz15_4
    try clear hfz17_0
    try clear hfz17_1
    try clear hfz17_2
    try clear hfz17_3
    try clear hfz17_4
    try clear hfz19_0
    try clear hfz19_1
    try clear hfz19_2
    try clear hfz19_3
    try clear hfz19_4
    try clear hfz21_0
    try clear hfz21_1
    try clear hfz21_2
    try clear hfz21_3
    try clear hfz21_4
    try clear hfz22_0
    try clear hfz22_1
    try clear hfz22_2
    try clear hfz22_3
    try clear hfz22_4
    try clear hfz27_0
    try clear hfz27_1
    try clear hfz27_2
    try clear hfz27_3
    try clear hfz27_4
    try clear hfz28_0
    try clear hfz28_1
    try clear hfz28_2
    try clear hfz28_3
    try clear hfz28_4
    try clear hfz29_0
    try clear hfz29_1
    try clear hfz29_2
    try clear hfz29_3
    try clear hfz29_4
    try clear hfz32_0
    try clear hfz32_1
    try clear hfz32_2
    try clear hfz32_3
    try clear hfz32_4
    try clear hfz35_0
    try clear hfz35_1
    try clear hfz35_2
    try clear hfz35_3
    try clear hfz35_4
    try clear hfz36_0
    try clear hfz36_1
    try clear hfz36_2
    try clear hfz36_3
    try clear hfz36_4
    try clear hfz37_0
    try clear hfz37_1
    try clear hfz37_2
    try clear hfz37_3
    try clear hfz37_4
    try clear hfz4_0
    try clear hfz4_1
    try clear hfz4_2
    try clear hfz4_3
    try clear hfz4_4
    try clear hfz7_0
    try clear hfz7_1
    try clear hfz7_2
    try clear hfz7_3
    try clear hfz7_4
    try clear hfz9_0
    try clear hfz9_1
    try clear hfz9_2
    try clear hfz9_3
    try clear hfz9_4
    try clear p2
    try clear p6
    obtain ⟨kq, HA, HJ1, BK119, HB⟩ := hcut
    cases kq with
    | zero => exact absurd HA.out (by simp [fragment_part.j1])
    | succ kj1 =>
      have H := HA.out
      clear HA
      simp only [fragment_part.j1] at H
      by_cases c38 : xl4 = true
      · rw [if_pos c38] at H
        subst c38
        by_cases c39 : (wrap64 (a0_2 - 1)) = 0
        · rw [if_pos c39] at H
          exact absurd H (by simp)
        · rw [if_neg c39] at H
          have c39b0 : ((wrap64 (a0_2 - 1)) == 0) = false := beq_eq_false_iff_ne.mpr c39
          have c39b1 : ((wrap64 (a0_2 - 1)) != 0) = true := bne_iff_ne.mpr c39
          by_cases c40 : (a0_4.size : Int) > (wrap64 (Int.tdiv (wrap64 (a0_3 - (a0_4.size : Int))) (wrap64 (a0_2 - 1))))
          · rw [if_pos c40] at H
            have c40b0 : decide ((wrap64 (Int.tdiv (wrap64 (a0_3 - (a0_4.size : Int))) (wrap64 (a0_2 - 1)))) < (a0_4.size : Int)) = true := decide_eq_true c40
            clear c40
            obtain rfl := Option.some.inj H
            have hcz41_0 : wc.cell? ⟨gb119, 0, none⟩ = some (.int .i64 a0_0) := (blk_cell BK119.out 0).trans rfl
            have hcz41_1 : wc.cell? ⟨gb119, 1, none⟩ = some (.int .i64 a0_1) := (blk_cell BK119.out 1).trans rfl
            have hcz41_2 : wc.cell? ⟨gb119, 2, none⟩ = some (.int .i64 a0_2) := (blk_cell BK119.out 2).trans rfl
            have hcz41_3 : wc.cell? ⟨gb119, 3, none⟩ = some (.int .i64 a0_3) := (blk_cell BK119.out 3).trans rfl
            have hcz41_4 : wc.cell? ⟨gb119, 4, none⟩ = some (.string a0_4) := (blk_cell BK119.out 4).trans rfl
            have hfz41_0 := blk_frozen BK119.out 0
            have hfz41_1 := blk_frozen BK119.out 1
            have hfz41_2 := blk_frozen BK119.out 2
            have hfz41_3 := blk_frozen BK119.out 3
            have hfz41_4 := blk_frozen BK119.out 4
            go_wp2
            repeat (go_quiet (fail); try go_wp2)
            go_ret
            exact ⟨by first | rfl | (simp [errW_none, errW_some] <;> rfl) | (simp [*, errW_none, errW_some] <;> rfl), by repeat (first | (with_reducible first | exact HB.out | apply below_alloc | apply pw_below_drewN | apply below_drew1 | refine below_set ?_ GE119.out) | exact HB.out)⟩
          · rw [if_neg c40] at H
            have c40b0 : decide ((wrap64 (Int.tdiv (wrap64 (a0_3 - (a0_4.size : Int))) (wrap64 (a0_2 - 1)))) < (a0_4.size : Int)) = false := decide_eq_false c40
            clear c40
            by_cases c42 : (wrap64 (Int.tdiv (wrap64 (a0_3 - (a0_4.size : Int))) (wrap64 (a0_2 - 1)))) > 120
            · rw [if_pos c42] at H
              have c42b0 : decide (120 < (wrap64 (Int.tdiv (wrap64 (a0_3 - (a0_4.size : Int))) (wrap64 (a0_2 - 1))))) = true := decide_eq_true c42
              clear c42
              obtain rfl := Option.some.inj H
              have hcz43_0 : wc.cell? ⟨gb119, 0, none⟩ = some (.int .i64 a0_0) := (blk_cell BK119.out 0).trans rfl
              have hcz43_1 : wc.cell? ⟨gb119, 1, none⟩ = some (.int .i64 a0_1) := (blk_cell BK119.out 1).trans rfl
              have hcz43_2 : wc.cell? ⟨gb119, 2, none⟩ = some (.int .i64 a0_2) := (blk_cell BK119.out 2).trans rfl
              have hcz43_3 : wc.cell? ⟨gb119, 3, none⟩ = some (.int .i64 a0_3) := (blk_cell BK119.out 3).trans rfl
              have hcz43_4 : wc.cell? ⟨gb119, 4, none⟩ = some (.string a0_4) := (blk_cell BK119.out 4).trans rfl
              have hfz43_0 := blk_frozen BK119.out 0
              have hfz43_1 := blk_frozen BK119.out 1
              have hfz43_2 := blk_frozen BK119.out 2
              have hfz43_3 := blk_frozen BK119.out 3
              have hfz43_4 := blk_frozen BK119.out 4
              go_wp2
              repeat (go_quiet (fail); try go_wp2)
              go_ret
              exact ⟨by first | rfl | (simp [errW_none, errW_some] <;> rfl) | (simp [*, errW_none, errW_some] <;> rfl), by repeat (first | (with_reducible first | exact HB.out | apply below_alloc | apply pw_below_drewN | apply below_drew1 | refine below_set ?_ GE119.out) | exact HB.out)⟩
            · rw [if_neg c42] at H
              have c42b0 : decide (120 < (wrap64 (Int.tdiv (wrap64 (a0_3 - (a0_4.size : Int))) (wrap64 (a0_2 - 1))))) = false := decide_eq_false c42
              clear c42
              by_cases c44 : (wrap64 ((wrap64 (a0_2 - 1)) * (wrap64 (Int.tdiv (wrap64 (a0_3 - (a0_4.size : Int))) (wrap64 (a0_2 - 1)))))) ≥ a0_3
              · rw [if_pos c44] at H
                have c44b0 : decide (a0_3 ≤ (wrap64 ((wrap64 (a0_2 - 1)) * (wrap64 (Int.tdiv (wrap64 (a0_3 - (a0_4.size : Int))) (wrap64 (a0_2 - 1))))))) = true := decide_eq_true c44
                clear c44
                obtain rfl := Option.some.inj H
                have hcz45_0 : wc.cell? ⟨gb119, 0, none⟩ = some (.int .i64 a0_0) := (blk_cell BK119.out 0).trans rfl
                have hcz45_1 : wc.cell? ⟨gb119, 1, none⟩ = some (.int .i64 a0_1) := (blk_cell BK119.out 1).trans rfl
                have hcz45_2 : wc.cell? ⟨gb119, 2, none⟩ = some (.int .i64 a0_2) := (blk_cell BK119.out 2).trans rfl
                have hcz45_3 : wc.cell? ⟨gb119, 3, none⟩ = some (.int .i64 a0_3) := (blk_cell BK119.out 3).trans rfl
                have hcz45_4 : wc.cell? ⟨gb119, 4, none⟩ = some (.string a0_4) := (blk_cell BK119.out 4).trans rfl
                have hfz45_0 := blk_frozen BK119.out 0
                have hfz45_1 := blk_frozen BK119.out 1
                have hfz45_2 := blk_frozen BK119.out 2
                have hfz45_3 := blk_frozen BK119.out 3
                have hfz45_4 := blk_frozen BK119.out 4
                go_wp2
                repeat (go_quiet (fail); try go_wp2)
                go_ret
                exact ⟨by first | rfl | (simp [errW_none, errW_some] <;> rfl) | (simp [*, errW_none, errW_some] <;> rfl), by repeat (first | (with_reducible first | exact HB.out | apply below_alloc | apply pw_below_drewN | apply below_drew1 | refine below_set ?_ GE119.out) | exact HB.out)⟩
              · rw [if_neg c44] at H
                have c44b0 : decide (a0_3 ≤ (wrap64 ((wrap64 (a0_2 - 1)) * (wrap64 (Int.tdiv (wrap64 (a0_3 - (a0_4.size : Int))) (wrap64 (a0_2 - 1))))))) = false := decide_eq_false c44
                clear c44
                by_cases c46 : (wrap64 (a0_2 * (wrap64 (Int.tdiv (wrap64 (a0_3 - (a0_4.size : Int))) (wrap64 (a0_2 - 1)))))) < a0_3
                · rw [if_pos c46] at H
                  have c46b0 : decide ((wrap64 (a0_2 * (wrap64 (Int.tdiv (wrap64 (a0_3 - (a0_4.size : Int))) (wrap64 (a0_2 - 1)))))) < a0_3) = true := decide_eq_true c46
                  clear c46
                  obtain rfl := Option.some.inj H
                  have hcz47_0 : wc.cell? ⟨gb119, 0, none⟩ = some (.int .i64 a0_0) := (blk_cell BK119.out 0).trans rfl
                  have hcz47_1 : wc.cell? ⟨gb119, 1, none⟩ = some (.int .i64 a0_1) := (blk_cell BK119.out 1).trans rfl
                  have hcz47_2 : wc.cell? ⟨gb119, 2, none⟩ = some (.int .i64 a0_2) := (blk_cell BK119.out 2).trans rfl
                  have hcz47_3 : wc.cell? ⟨gb119, 3, none⟩ = some (.int .i64 a0_3) := (blk_cell BK119.out 3).trans rfl
                  have hcz47_4 : wc.cell? ⟨gb119, 4, none⟩ = some (.string a0_4) := (blk_cell BK119.out 4).trans rfl
                  have hfz47_0 := blk_frozen BK119.out 0
                  have hfz47_1 := blk_frozen BK119.out 1
                  have hfz47_2 := blk_frozen BK119.out 2
                  have hfz47_3 := blk_frozen BK119.out 3
                  have hfz47_4 := blk_frozen BK119.out 4
                  go_wp2
                  repeat (go_quiet (fail); try go_wp2)
                  go_ret
                  exact ⟨by first | rfl | (simp [errW_none, errW_some] <;> rfl) | (simp [*, errW_none, errW_some] <;> rfl), by repeat (first | (with_reducible first | exact HB.out | apply below_alloc | apply pw_below_drewN | apply below_drew1 | refine below_set ?_ GE119.out) | exact HB.out)⟩
                · rw [if_neg c46] at H
                  have c46b0 : decide ((wrap64 (a0_2 * (wrap64 (Int.tdiv (wrap64 (a0_3 - (a0_4.size : Int))) (wrap64 (a0_2 - 1)))))) < a0_3) = false := decide_eq_false c46
                  clear c46
                  obtain rfl := Option.some.inj H
                  have hcz48_0 : wc.cell? ⟨gb119, 0, none⟩ = some (.int .i64 a0_0) := (blk_cell BK119.out 0).trans rfl
                  have hcz48_1 : wc.cell? ⟨gb119, 1, none⟩ = some (.int .i64 a0_1) := (blk_cell BK119.out 1).trans rfl
                  have hcz48_2 : wc.cell? ⟨gb119, 2, none⟩ = some (.int .i64 a0_2) := (blk_cell BK119.out 2).trans rfl
                  have hcz48_3 : wc.cell? ⟨gb119, 3, none⟩ = some (.int .i64 a0_3) := (blk_cell BK119.out 3).trans rfl
                  have hcz48_4 : wc.cell? ⟨gb119, 4, none⟩ = some (.string a0_4) := (blk_cell BK119.out 4).trans rfl
                  have hfz48_0 := blk_frozen BK119.out 0
                  have hfz48_1 := blk_frozen BK119.out 1
                  have hfz48_2 := blk_frozen BK119.out 2
                  have hfz48_3 := blk_frozen BK119.out 3
                  have hfz48_4 := blk_frozen BK119.out 4
                  go_wp2
                  repeat (go_quiet (fail); try go_wp2)
                  go_ret
                  exact ⟨by first | rfl | (simp [errW_none, errW_some] <;> rfl) | (simp [*, errW_none, errW_some] <;> rfl), by repeat (first | (with_reducible first | exact HB.out | apply below_alloc | apply pw_below_drewN | apply below_drew1 | refine below_set ?_ GE119.out) | exact HB.out)⟩
      · rw [if_neg c38] at H
        replace c38 : xl4 = false := by simpa using c38
        subst c38
        by_cases c49 : (a0_4.size : Int) > (a0_4.size : Int)
        · exact absurd c49 (Int.lt_irrefl _)
        · rw [if_neg c49] at H
          have c49b0 : decide ((a0_4.size : Int) < (a0_4.size : Int)) = false := decide_eq_false c49
          have c49b1 : decide (a0_4.size < a0_4.size) = false := decide_eq_false (fun h => c49 (Int.ofNat_lt.mpr h))
          clear c49
          by_cases c50 : (a0_4.size : Int) > 120
          · rw [if_pos c50] at H
            have c50b0 : decide (120 < (a0_4.size : Int)) = true := decide_eq_true c50
            have c50b1 : decide (120 < a0_4.size) = true := decide_eq_true (by omega)
            clear c50
            obtain rfl := Option.some.inj H
            go_wp2
            repeat (go_quiet (fail); try go_wp2)
            go_ret
            exact ⟨by first | rfl | (simp [errW_none, errW_some] <;> rfl) | (simp [*, errW_none, errW_some] <;> rfl), by repeat (first | (with_reducible first | exact HB.out | apply below_alloc | apply pw_below_drewN | apply below_drew1 | refine below_set ?_ GE119.out) | exact HB.out)⟩
          · rw [if_neg c50] at H
            have c50b0 : decide (120 < (a0_4.size : Int)) = false := decide_eq_false c50
            have c50b1 : decide (120 < a0_4.size) = false := decide_eq_false (by omega)
            clear c50
            by_cases c51 : (wrap64 ((wrap64 (a0_2 - 1)) * (a0_4.size : Int))) ≥ a0_3
            · rw [if_pos c51] at H
              have c51b0 : decide (a0_3 ≤ (wrap64 ((wrap64 (a0_2 - 1)) * (a0_4.size : Int)))) = true := decide_eq_true c51
              clear c51
              obtain rfl := Option.some.inj H
              have hcz52_0 : wc.cell? ⟨gb119, 0, none⟩ = some (.int .i64 a0_0) := (blk_cell BK119.out 0).trans rfl
              have hcz52_1 : wc.cell? ⟨gb119, 1, none⟩ = some (.int .i64 a0_1) := (blk_cell BK119.out 1).trans rfl
              have hcz52_2 : wc.cell? ⟨gb119, 2, none⟩ = some (.int .i64 a0_2) := (blk_cell BK119.out 2).trans rfl
              have hcz52_3 : wc.cell? ⟨gb119, 3, none⟩ = some (.int .i64 a0_3) := (blk_cell BK119.out 3).trans rfl
              have hcz52_4 : wc.cell? ⟨gb119, 4, none⟩ = some (.string a0_4) := (blk_cell BK119.out 4).trans rfl
              have hfz52_0 := blk_frozen BK119.out 0
              have hfz52_1 := blk_frozen BK119.out 1
              have hfz52_2 := blk_frozen BK119.out 2
              have hfz52_3 := blk_frozen BK119.out 3
              have hfz52_4 := blk_frozen BK119.out 4
              go_wp2
              repeat (go_quiet (fail); try go_wp2)
              go_ret
              exact ⟨by first | rfl | (simp [errW_none, errW_some] <;> rfl) | (simp [*, errW_none, errW_some] <;> rfl), by repeat (first | (with_reducible first | exact HB.out | apply below_alloc | apply pw_below_drewN | apply below_drew1 | refine below_set ?_ GE119.out) | exact HB.out)⟩
            · rw [if_neg c51] at H
              have c51b0 : decide (a0_3 ≤ (wrap64 ((wrap64 (a0_2 - 1)) * (a0_4.size : Int)))) = false := decide_eq_false c51
              clear c51
              by_cases c53 : (wrap64 (a0_2 * (a0_4.size : Int))) < a0_3
              · rw [if_pos c53] at H
                have c53b0 : decide ((wrap64 (a0_2 * (a0_4.size : Int))) < a0_3) = true := decide_eq_true c53
                clear c53
                obtain rfl := Option.some.inj H
                have hcz54_0 : wc.cell? ⟨gb119, 0, none⟩ = some (.int .i64 a0_0) := (blk_cell BK119.out 0).trans rfl
                have hcz54_1 : wc.cell? ⟨gb119, 1, none⟩ = some (.int .i64 a0_1) := (blk_cell BK119.out 1).trans rfl
                have hcz54_2 : wc.cell? ⟨gb119, 2, none⟩ = some (.int .i64 a0_2) := (blk_cell BK119.out 2).trans rfl
                have hcz54_3 : wc.cell? ⟨gb119, 3, none⟩ = some (.int .i64 a0_3) := (blk_cell BK119.out 3).trans rfl
                have hcz54_4 : wc.cell? ⟨gb119, 4, none⟩ = some (.string a0_4) := (blk_cell BK119.out 4).trans rfl
                have hfz54_0 := blk_frozen BK119.out 0
                have hfz54_1 := blk_frozen BK119.out 1
                have hfz54_2 := blk_frozen BK119.out 2
                have hfz54_3 := blk_frozen BK119.out 3
                have hfz54_4 := blk_frozen BK119.out 4
                go_wp2
                repeat (go_quiet (fail); try go_wp2)
                go_ret
                exact ⟨by first | rfl | (simp [errW_none, errW_some] <;> rfl) | (simp [*, errW_none, errW_some] <;> rfl), by repeat (first | (with_reducible first | exact HB.out | apply below_alloc | apply pw_below_drewN | apply below_drew1 | refine below_set ?_ GE119.out) | exact HB.out)⟩
              · rw [if_neg c53] at H
                have c53b0 : decide ((wrap64 (a0_2 * (a0_4.size : Int))) < a0_3) = false := decide_eq_false c53
                clear c53
                obtain rfl := Option.some.inj H
                have hcz55_0 : wc.cell? ⟨gb119, 0, none⟩ = some (.int .i64 a0_0) := (blk_cell BK119.out 0).trans rfl
                have hcz55_1 : wc.cell? ⟨gb119, 1, none⟩ = some (.int .i64 a0_1) := (blk_cell BK119.out 1).trans rfl
                have hcz55_2 : wc.cell? ⟨gb119, 2, none⟩ = some (.int .i64 a0_2) := (blk_cell BK119.out 2).trans rfl
                have hcz55_3 : wc.cell? ⟨gb119, 3, none⟩ = some (.int .i64 a0_3) := (blk_cell BK119.out 3).trans rfl
                have hcz55_4 : wc.cell? ⟨gb119, 4, none⟩ = some (.string a0_4) := (blk_cell BK119.out 4).trans rfl
                have hfz55_0 := blk_frozen BK119.out 0
                have hfz55_1 := blk_frozen BK119.out 1
                have hfz55_2 := blk_frozen BK119.out 2
                have hfz55_3 := blk_frozen BK119.out 3
                have hfz55_4 := blk_frozen BK119.out 4
                go_wp2
                repeat (go_quiet (fail); try go_wp2)
                go_ret
                exact ⟨by first | rfl | (simp [errW_none, errW_some] <;> rfl) | (simp [*, errW_none, errW_some] <;> rfl), by repeat (first | (with_reducible first | exact HB.out | apply below_alloc | apply pw_below_drewN | apply below_drew1 | refine below_set ?_ GE119.out) | exact HB.out)⟩

end Go.Proofs.Ytokapofgbcbajaa.Fns
