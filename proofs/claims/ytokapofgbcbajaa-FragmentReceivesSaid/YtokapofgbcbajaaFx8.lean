-- Written by the kit's print.py over this seat's translation (run by wip/gprint.py); a text of this claim.
import Derived.Test.YtokapofgbcbajaaFx0
namespace Go.Proofs.Ytokapofgbcbajaa.Fns
open Go.RowKit Go.Proofs.YtokapofgbcbajaaW.PrintWords Go.Proofs.YtokapofgbcbajaaW.PrintLast Go.Proofs.YtokapofgbcbajaaW.PrintMore
attribute [local go_sem] max2_int min2_int max_two min_two max_three min_three max_four min_four   -- for this text's walks alone
set_option linter.unusedVariables false
set_option linter.unusedSimpArgs false

/-! ### hopmeshref15_Length: function 43 -/
mutual
def hopmeshref15_Length.j0 : Nat → Bool → Int → Int → Int → Int → ByteArray → Option (Int)
  | 0, _, _, _, _, _, _ => none
  | k + 1, x45, x123000, x123001, x123002, x123003, x123004 => if x45 = true then (some 0) else (if x123002 = 1 then (if (x123004.size : Int) = x123003 then (if (x123004.size : Int) > 120 then (some 0) else (some (x123004.size : Int))) else (some 0)) else (if x123001 = (wrap64 (x123002 - 1)) then (if (x123004.size : Int) ≥ x123003 then (hopmeshref15_Length.j1 k (x123004.size : Int) true x123000 x123001 x123002 x123003 x123004) else (if (wrap64 (x123002 - 1)) = 0 then (none) else (hopmeshref15_Length.j1 k (x123004.size : Int) ((Int.tmod (wrap64 (x123003 - (x123004.size : Int))) (wrap64 (x123002 - 1))) != 0) x123000 x123001 x123002 x123003 x123004))) else (if (x123004.size : Int) < 1 then (some 0) else (if (x123004.size : Int) > 120 then (some 0) else (if (wrap64 (x123003 - (wrap64 ((x123004.size : Int) * (wrap64 (x123002 - 1)))))) < 1 then (some 0) else (if (wrap64 (x123003 - (wrap64 ((x123004.size : Int) * (wrap64 (x123002 - 1)))))) > (x123004.size : Int) then (some 0) else (some (x123004.size : Int))))))))
def hopmeshref15_Length.j1 : Nat → Int → Bool → Int → Int → Int → Int → ByteArray → Option (Int)
  | 0, _, _, _, _, _, _, _ => none
  | k + 1, x3, x82, x123000, x123001, x123002, x123003, x123004 => if x82 = true then (some 0) else (if (wrap64 (x123002 - 1)) = 0 then (none) else (if (wrap64 (Int.tdiv (wrap64 (x123003 - x3)) (wrap64 (x123002 - 1)))) < 1 then (some 0) else (if (wrap64 (Int.tdiv (wrap64 (x123003 - x3)) (wrap64 (x123002 - 1)))) > 120 then (some 0) else (if (wrap64 (x123003 - (wrap64 ((wrap64 (Int.tdiv (wrap64 (x123003 - x3)) (wrap64 (x123002 - 1)))) * (wrap64 (x123002 - 1)))))) < 1 then (some 0) else (if (wrap64 (x123003 - (wrap64 ((wrap64 (Int.tdiv (wrap64 (x123003 - x3)) (wrap64 (x123002 - 1)))) * (wrap64 (x123002 - 1)))))) > (wrap64 (Int.tdiv (wrap64 (x123003 - x3)) (wrap64 (x123002 - 1)))) then (some 0) else (if x123001 = (wrap64 (x123002 - 1)) then (if x3 = (wrap64 (x123003 - (wrap64 ((wrap64 (Int.tdiv (wrap64 (x123003 - x3)) (wrap64 (x123002 - 1)))) * (wrap64 (x123002 - 1)))))) then (some (wrap64 (Int.tdiv (wrap64 (x123003 - x3)) (wrap64 (x123002 - 1))))) else (some 0)) else (some (wrap64 (Int.tdiv (wrap64 (x123003 - x3)) (wrap64 (x123002 - 1)))))))))))
end
def hopmeshref15_Length.f (k : Nat) (a0_0 : Int) (a0_1 : Int) (a0_2 : Int) (a0_3 : Int) (a0_4 : ByteArray) : Option (Int) := if a0_0 < 0 then (hopmeshref15_Length.j0 k true a0_0 a0_1 a0_2 a0_3 a0_4) else (if a0_0 > 255 then (hopmeshref15_Length.j0 k true a0_0 a0_1 a0_2 a0_3 a0_4) else (if a0_2 < 1 then (hopmeshref15_Length.j0 k true a0_0 a0_1 a0_2 a0_3 a0_4) else (if a0_2 > 32 then (hopmeshref15_Length.j0 k true a0_0 a0_1 a0_2 a0_3 a0_4) else (if a0_1 < 0 then (hopmeshref15_Length.j0 k true a0_0 a0_1 a0_2 a0_3 a0_4) else (if a0_1 ≥ a0_2 then (hopmeshref15_Length.j0 k true a0_0 a0_1 a0_2 a0_3 a0_4) else (if a0_3 < 1 then (hopmeshref15_Length.j0 k true a0_0 a0_1 a0_2 a0_3 a0_4) else (hopmeshref15_Length.j0 k (decide (a0_3 > 4095)) a0_0 a0_1 a0_2 a0_3 a0_4)))))))
theorem hopmeshref15_Length.mono_l : ∀ k, (∀ y0 y1 y2 y3 y4 y5, LeO (hopmeshref15_Length.j0 k y0 y1 y2 y3 y4 y5) (hopmeshref15_Length.j0 (k + 1) y0 y1 y2 y3 y4 y5)) ∧ (∀ y0 y1 y2 y3 y4 y5 y6, LeO (hopmeshref15_Length.j1 k y0 y1 y2 y3 y4 y5 y6) (hopmeshref15_Length.j1 (k + 1) y0 y1 y2 y3 y4 y5 y6))
  | 0 => ⟨fun _ _ _ _ _ _ r h => by simp [hopmeshref15_Length.j0] at h, fun _ _ _ _ _ _ _ r h => by simp [hopmeshref15_Length.j1] at h⟩
  | k + 1 => by
    obtain ⟨ih0, ih1⟩ := hopmeshref15_Length.mono_l k
    refine ⟨?_, ?_⟩
    · intro y0 y1 y2 y3 y4 y5
      unfold hopmeshref15_Length.j0
      repeat' first
      | (with_reducible exact ih0 _ _ _ _ _ _)
      | (with_reducible exact ih1 _ _ _ _ _ _ _)
      | (with_reducible exact LeO.refl _)
      | (with_reducible exact LeO.none _)
      | (with_reducible refine LeO.ite ?_ ?_)
      | (with_reducible refine LeO.bind ?_ (fun _ => ?_))
      | exact ih0 _ _ _ _ _ _
      | exact ih1 _ _ _ _ _ _ _
      | exact LeO.none _
      | refine LeO.ite ?_ ?_
      | refine LeO.bind ?_ (fun _ => ?_)
    · intro y0 y1 y2 y3 y4 y5 y6
      unfold hopmeshref15_Length.j1
      repeat' first
      | (with_reducible exact ih0 _ _ _ _ _ _)
      | (with_reducible exact ih1 _ _ _ _ _ _ _)
      | (with_reducible exact LeO.refl _)
      | (with_reducible exact LeO.none _)
      | (with_reducible refine LeO.ite ?_ ?_)
      | (with_reducible refine LeO.bind ?_ (fun _ => ?_))
      | exact ih0 _ _ _ _ _ _
      | exact ih1 _ _ _ _ _ _ _
      | exact LeO.none _
      | refine LeO.ite ?_ ?_
      | refine LeO.bind ?_ (fun _ => ?_)
theorem hopmeshref15_Length.mono : ∀ a0 a1 a2 a3 a4 k, LeO (hopmeshref15_Length.f k a0 a1 a2 a3 a4) (hopmeshref15_Length.f (k + 1) a0 a1 a2 a3 a4) := by
  intro a0 a1 a2 a3 a4 k
  obtain ⟨ih0, ih1⟩ := hopmeshref15_Length.mono_l k
  unfold hopmeshref15_Length.f
  repeat' first
      | (with_reducible exact ih0 _ _ _ _ _ _)
      | (with_reducible exact ih1 _ _ _ _ _ _ _)
      | (with_reducible exact LeO.refl _)
      | (with_reducible exact LeO.none _)
      | (with_reducible refine LeO.ite ?_ ?_)
      | (with_reducible refine LeO.bind ?_ (fun _ => ?_))
      | exact ih0 _ _ _ _ _ _
      | exact ih1 _ _ _ _ _ _ _
      | exact LeO.none _
      | refine LeO.ite ?_ ?_
      | refine LeO.bind ?_ (fun _ => ?_)
set_option maxHeartbeats 8000000 in
set_option maxRecDepth 100000 in
theorem hopmeshref15_Length.calls (k : Nat) (a0_0 : Int) (a0_1 : Int) (a0_2 : Int) (a0_3 : Int) (a0_4 : ByteArray) (r : Int) (w : World) (h : hopmeshref15_Length.f k a0_0 a0_1 a0_2 a0_3 a0_4 = some r) :
    Calls Try.prog 43 #[.agg #[.int .i64 a0_0, .int .i64 a0_1, .int .i64 a0_2, .int .i64 a0_3, .string a0_4]] w fun e w' => e = .returned (.int .i64 r) ∧ Below w.heap.size w w' := by
  have hu23 := Try.underlying23
  have HB := Aside0.mk (Below.refl w.heap.size w)
  have H : (if a0_0 < 0 then (hopmeshref15_Length.j0 k true a0_0 a0_1 a0_2 a0_3 a0_4) else (if a0_0 > 255 then (hopmeshref15_Length.j0 k true a0_0 a0_1 a0_2 a0_3 a0_4) else (if a0_2 < 1 then (hopmeshref15_Length.j0 k true a0_0 a0_1 a0_2 a0_3 a0_4) else (if a0_2 > 32 then (hopmeshref15_Length.j0 k true a0_0 a0_1 a0_2 a0_3 a0_4) else (if a0_1 < 0 then (hopmeshref15_Length.j0 k true a0_0 a0_1 a0_2 a0_3 a0_4) else (if a0_1 ≥ a0_2 then (hopmeshref15_Length.j0 k true a0_0 a0_1 a0_2 a0_3 a0_4) else (if a0_3 < 1 then (hopmeshref15_Length.j0 k true a0_0 a0_1 a0_2 a0_3 a0_4) else (hopmeshref15_Length.j0 k (decide (a0_3 > 4095)) a0_0 a0_1 a0_2 a0_3 a0_4)))))))) = some r := h
  clear h
  have HC2 := Aside0.mk H
  clear H
  go_enter Try.func43, Try.ntmps43
  go_upto_region 1 with (first | ((with_reducible refine gate_dst (N := 1) rfl ?_); refine box_event ?hg (N := 1) ?hd (cs := #[.int .i64 a0_0, .int .i64 a0_1, .int .i64 a0_2, .int .i64 a0_3, .string a0_4]) (t := 23) ?hr ?_; (case hd => rfl); (case hg => rfl); (case hr => first | (go_simp; done) | (go_simp; rfl)); intro gb122 hg w3 hbox hb; have n0_ := Aside0.mk (below_step (by repeat (first | (with_reducible first | exact HB.out | apply below_alloc | apply pw_below_drewN | apply below_drew1) | exact HB.out)) hb); have n1_ := Aside0.mk (hbox); have n2_ := Aside0.mk ((by rw [hg]; exact (below_size (by repeat (first | (with_reducible first | exact HB.out | apply below_alloc | apply pw_below_drewN | apply below_drew1) | exact HB.out))) : w.heap.size ≤ gb122)); have n3_ := Aside0.mk ((by rw [hg]; exact (below_size (by repeat (first | (with_reducible first | exact HB.out | apply below_alloc | apply pw_below_drewN | apply below_drew1) | exact HB.out))) : w.heap.size ≤ gb122)); clear HB; have HB := n0_; have BK122 := n1_; have GW122 := n2_; have GE122 := n3_; clear n0_ n1_ n2_ n3_; clear hb hbox hg))
  (try simp only [Act.put, List.setIfInBounds_toArray, List.set_cons_zero, List.set_cons_succ])
  go_cut [45] (fun v45 wc => ∃ (kq : Nat) (x45_1 : Bool), v45 = .bool x45_1 ∧ Aside0 (hopmeshref15_Length.j0 kq x45_1 a0_0 a0_1 a0_2 a0_3 a0_4 = some r) ∧ Aside0 (kq ≤ k) ∧ Aside0 (wc.heap[gb122]? = some (.cells #[.int .i64 a0_0, .int .i64 a0_1, .int .i64 a0_2, .int .i64 a0_3, .string a0_4] 23 (0, 0))) ∧ Aside0 (Below w.heap.size w wc))
  case first =>
    have H := HC2.out
    clear HC2
    by_cases c4 : a0_0 < 0
    · rw [if_pos c4] at H
      have c4b0 : decide (a0_0 < 0) = true := decide_eq_true c4
      clear c4
      (first | rw [c4b0] | (simp only [i64_w, i32_w]; rw [c4b0]) | skip)
      have H' := Aside0.mk H
      clear H
      have hcz5_0 : w3.cell? ⟨gb122, 0, none⟩ = some (.int .i64 a0_0) := (blk_cell BK122.out 0).trans rfl
      have hcz5_1 : w3.cell? ⟨gb122, 1, none⟩ = some (.int .i64 a0_1) := (blk_cell BK122.out 1).trans rfl
      have hcz5_2 : w3.cell? ⟨gb122, 2, none⟩ = some (.int .i64 a0_2) := (blk_cell BK122.out 2).trans rfl
      have hcz5_3 : w3.cell? ⟨gb122, 3, none⟩ = some (.int .i64 a0_3) := (blk_cell BK122.out 3).trans rfl
      have hcz5_4 : w3.cell? ⟨gb122, 4, none⟩ = some (.string a0_4) := (blk_cell BK122.out 4).trans rfl
      have hfz5_0 := blk_frozen BK122.out 0
      have hfz5_1 := blk_frozen BK122.out 1
      have hfz5_2 := blk_frozen BK122.out 2
      have hfz5_3 := blk_frozen BK122.out 3
      have hfz5_4 := blk_frozen BK122.out 4
      go_wp2
      go_meet
      case rel => exact ⟨_, (true), (by first | rfl | (simp; done) | (simp [*]; done)), H', ⟨by first | omega | exact Nat.le_refl _⟩, ⟨by (with_reducible repeat (first | refine blk_drewN ?_ _ | refine blk_drew ?_ | refine blk_alloc ?_ _)); exact BK122.out⟩, ⟨by repeat (first | (with_reducible first | exact HB.out | apply below_alloc | apply pw_below_drewN | apply below_drew1 | refine below_set ?_ GE122.out) | exact HB.out)⟩⟩
    · rw [if_neg c4] at H
      have c4b0 : decide (a0_0 < 0) = false := decide_eq_false c4
      clear c4
      (first | rw [c4b0] | (simp only [i64_w, i32_w]; rw [c4b0]) | skip)
      by_cases c6 : a0_0 > 255
      · rw [if_pos c6] at H
        have c6b0 : decide (255 < a0_0) = true := decide_eq_true c6
        clear c6
        have H' := Aside0.mk H
        clear H
        have hcz7_0 : w3.cell? ⟨gb122, 0, none⟩ = some (.int .i64 a0_0) := (blk_cell BK122.out 0).trans rfl
        have hcz7_1 : w3.cell? ⟨gb122, 1, none⟩ = some (.int .i64 a0_1) := (blk_cell BK122.out 1).trans rfl
        have hcz7_2 : w3.cell? ⟨gb122, 2, none⟩ = some (.int .i64 a0_2) := (blk_cell BK122.out 2).trans rfl
        have hcz7_3 : w3.cell? ⟨gb122, 3, none⟩ = some (.int .i64 a0_3) := (blk_cell BK122.out 3).trans rfl
        have hcz7_4 : w3.cell? ⟨gb122, 4, none⟩ = some (.string a0_4) := (blk_cell BK122.out 4).trans rfl
        have hfz7_0 := blk_frozen BK122.out 0
        have hfz7_1 := blk_frozen BK122.out 1
        have hfz7_2 := blk_frozen BK122.out 2
        have hfz7_3 := blk_frozen BK122.out 3
        have hfz7_4 := blk_frozen BK122.out 4
        go_wp2
        go_meet
        case rel => exact ⟨_, (true), (by first | rfl | (simp; done) | (simp [*]; done)), H', ⟨by first | omega | exact Nat.le_refl _⟩, ⟨by (with_reducible repeat (first | refine blk_drewN ?_ _ | refine blk_drew ?_ | refine blk_alloc ?_ _)); exact BK122.out⟩, ⟨by repeat (first | (with_reducible first | exact HB.out | apply below_alloc | apply pw_below_drewN | apply below_drew1 | refine below_set ?_ GE122.out) | exact HB.out)⟩⟩
      · rw [if_neg c6] at H
        have c6b0 : decide (255 < a0_0) = false := decide_eq_false c6
        clear c6
        by_cases c8 : a0_2 < 1
        · rw [if_pos c8] at H
          have c8b0 : decide (a0_2 < 1) = true := decide_eq_true c8
          clear c8
          have H' := Aside0.mk H
          clear H
          have hcz9_0 : w3.cell? ⟨gb122, 0, none⟩ = some (.int .i64 a0_0) := (blk_cell BK122.out 0).trans rfl
          have hcz9_1 : w3.cell? ⟨gb122, 1, none⟩ = some (.int .i64 a0_1) := (blk_cell BK122.out 1).trans rfl
          have hcz9_2 : w3.cell? ⟨gb122, 2, none⟩ = some (.int .i64 a0_2) := (blk_cell BK122.out 2).trans rfl
          have hcz9_3 : w3.cell? ⟨gb122, 3, none⟩ = some (.int .i64 a0_3) := (blk_cell BK122.out 3).trans rfl
          have hcz9_4 : w3.cell? ⟨gb122, 4, none⟩ = some (.string a0_4) := (blk_cell BK122.out 4).trans rfl
          have hfz9_0 := blk_frozen BK122.out 0
          have hfz9_1 := blk_frozen BK122.out 1
          have hfz9_2 := blk_frozen BK122.out 2
          have hfz9_3 := blk_frozen BK122.out 3
          have hfz9_4 := blk_frozen BK122.out 4
          go_wp2
          go_meet
          case rel => exact ⟨_, (true), (by first | rfl | (simp; done) | (simp [*]; done)), H', ⟨by first | omega | exact Nat.le_refl _⟩, ⟨by (with_reducible repeat (first | refine blk_drewN ?_ _ | refine blk_drew ?_ | refine blk_alloc ?_ _)); exact BK122.out⟩, ⟨by repeat (first | (with_reducible first | exact HB.out | apply below_alloc | apply pw_below_drewN | apply below_drew1 | refine below_set ?_ GE122.out) | exact HB.out)⟩⟩
        · rw [if_neg c8] at H
          have c8b0 : decide (a0_2 < 1) = false := decide_eq_false c8
          clear c8
          by_cases c10 : a0_2 > 32
          · rw [if_pos c10] at H
            have c10b0 : decide (32 < a0_2) = true := decide_eq_true c10
            clear c10
            have H' := Aside0.mk H
            clear H
            have hcz11_0 : w3.cell? ⟨gb122, 0, none⟩ = some (.int .i64 a0_0) := (blk_cell BK122.out 0).trans rfl
            have hcz11_1 : w3.cell? ⟨gb122, 1, none⟩ = some (.int .i64 a0_1) := (blk_cell BK122.out 1).trans rfl
            have hcz11_2 : w3.cell? ⟨gb122, 2, none⟩ = some (.int .i64 a0_2) := (blk_cell BK122.out 2).trans rfl
            have hcz11_3 : w3.cell? ⟨gb122, 3, none⟩ = some (.int .i64 a0_3) := (blk_cell BK122.out 3).trans rfl
            have hcz11_4 : w3.cell? ⟨gb122, 4, none⟩ = some (.string a0_4) := (blk_cell BK122.out 4).trans rfl
            have hfz11_0 := blk_frozen BK122.out 0
            have hfz11_1 := blk_frozen BK122.out 1
            have hfz11_2 := blk_frozen BK122.out 2
            have hfz11_3 := blk_frozen BK122.out 3
            have hfz11_4 := blk_frozen BK122.out 4
            go_wp2
            go_meet
            case rel => exact ⟨_, (true), (by first | rfl | (simp; done) | (simp [*]; done)), H', ⟨by first | omega | exact Nat.le_refl _⟩, ⟨by (with_reducible repeat (first | refine blk_drewN ?_ _ | refine blk_drew ?_ | refine blk_alloc ?_ _)); exact BK122.out⟩, ⟨by repeat (first | (with_reducible first | exact HB.out | apply below_alloc | apply pw_below_drewN | apply below_drew1 | refine below_set ?_ GE122.out) | exact HB.out)⟩⟩
          · rw [if_neg c10] at H
            have c10b0 : decide (32 < a0_2) = false := decide_eq_false c10
            clear c10
            by_cases c12 : a0_1 < 0
            · rw [if_pos c12] at H
              have c12b0 : decide (a0_1 < 0) = true := decide_eq_true c12
              clear c12
              have H' := Aside0.mk H
              clear H
              have hcz13_0 : w3.cell? ⟨gb122, 0, none⟩ = some (.int .i64 a0_0) := (blk_cell BK122.out 0).trans rfl
              have hcz13_1 : w3.cell? ⟨gb122, 1, none⟩ = some (.int .i64 a0_1) := (blk_cell BK122.out 1).trans rfl
              have hcz13_2 : w3.cell? ⟨gb122, 2, none⟩ = some (.int .i64 a0_2) := (blk_cell BK122.out 2).trans rfl
              have hcz13_3 : w3.cell? ⟨gb122, 3, none⟩ = some (.int .i64 a0_3) := (blk_cell BK122.out 3).trans rfl
              have hcz13_4 : w3.cell? ⟨gb122, 4, none⟩ = some (.string a0_4) := (blk_cell BK122.out 4).trans rfl
              have hfz13_0 := blk_frozen BK122.out 0
              have hfz13_1 := blk_frozen BK122.out 1
              have hfz13_2 := blk_frozen BK122.out 2
              have hfz13_3 := blk_frozen BK122.out 3
              have hfz13_4 := blk_frozen BK122.out 4
              go_wp2
              go_meet
              case rel => exact ⟨_, (true), (by first | rfl | (simp; done) | (simp [*]; done)), H', ⟨by first | omega | exact Nat.le_refl _⟩, ⟨by (with_reducible repeat (first | refine blk_drewN ?_ _ | refine blk_drew ?_ | refine blk_alloc ?_ _)); exact BK122.out⟩, ⟨by repeat (first | (with_reducible first | exact HB.out | apply below_alloc | apply pw_below_drewN | apply below_drew1 | refine below_set ?_ GE122.out) | exact HB.out)⟩⟩
            · rw [if_neg c12] at H
              have c12b0 : decide (a0_1 < 0) = false := decide_eq_false c12
              clear c12
              by_cases c14 : a0_1 ≥ a0_2
              · rw [if_pos c14] at H
                have c14b0 : decide (a0_2 ≤ a0_1) = true := decide_eq_true c14
                clear c14
                have H' := Aside0.mk H
                clear H
                have hcz15_0 : w3.cell? ⟨gb122, 0, none⟩ = some (.int .i64 a0_0) := (blk_cell BK122.out 0).trans rfl
                have hcz15_1 : w3.cell? ⟨gb122, 1, none⟩ = some (.int .i64 a0_1) := (blk_cell BK122.out 1).trans rfl
                have hcz15_2 : w3.cell? ⟨gb122, 2, none⟩ = some (.int .i64 a0_2) := (blk_cell BK122.out 2).trans rfl
                have hcz15_3 : w3.cell? ⟨gb122, 3, none⟩ = some (.int .i64 a0_3) := (blk_cell BK122.out 3).trans rfl
                have hcz15_4 : w3.cell? ⟨gb122, 4, none⟩ = some (.string a0_4) := (blk_cell BK122.out 4).trans rfl
                have hfz15_0 := blk_frozen BK122.out 0
                have hfz15_1 := blk_frozen BK122.out 1
                have hfz15_2 := blk_frozen BK122.out 2
                have hfz15_3 := blk_frozen BK122.out 3
                have hfz15_4 := blk_frozen BK122.out 4
                go_wp2
                go_meet
                case rel => exact ⟨_, (true), (by first | rfl | (simp; done) | (simp [*]; done)), H', ⟨by first | omega | exact Nat.le_refl _⟩, ⟨by (with_reducible repeat (first | refine blk_drewN ?_ _ | refine blk_drew ?_ | refine blk_alloc ?_ _)); exact BK122.out⟩, ⟨by repeat (first | (with_reducible first | exact HB.out | apply below_alloc | apply pw_below_drewN | apply below_drew1 | refine below_set ?_ GE122.out) | exact HB.out)⟩⟩
              · rw [if_neg c14] at H
                have c14b0 : decide (a0_2 ≤ a0_1) = false := decide_eq_false c14
                clear c14
                by_cases c16 : a0_3 < 1
                · rw [if_pos c16] at H
                  have c16b0 : decide (a0_3 < 1) = true := decide_eq_true c16
                  clear c16
                  have H' := Aside0.mk H
                  clear H
                  have hcz17_0 : w3.cell? ⟨gb122, 0, none⟩ = some (.int .i64 a0_0) := (blk_cell BK122.out 0).trans rfl
                  have hcz17_1 : w3.cell? ⟨gb122, 1, none⟩ = some (.int .i64 a0_1) := (blk_cell BK122.out 1).trans rfl
                  have hcz17_2 : w3.cell? ⟨gb122, 2, none⟩ = some (.int .i64 a0_2) := (blk_cell BK122.out 2).trans rfl
                  have hcz17_3 : w3.cell? ⟨gb122, 3, none⟩ = some (.int .i64 a0_3) := (blk_cell BK122.out 3).trans rfl
                  have hcz17_4 : w3.cell? ⟨gb122, 4, none⟩ = some (.string a0_4) := (blk_cell BK122.out 4).trans rfl
                  have hfz17_0 := blk_frozen BK122.out 0
                  have hfz17_1 := blk_frozen BK122.out 1
                  have hfz17_2 := blk_frozen BK122.out 2
                  have hfz17_3 := blk_frozen BK122.out 3
                  have hfz17_4 := blk_frozen BK122.out 4
                  go_wp2
                  go_meet
                  case rel => exact ⟨_, (true), (by first | rfl | (simp; done) | (simp [*]; done)), H', ⟨by first | omega | exact Nat.le_refl _⟩, ⟨by (with_reducible repeat (first | refine blk_drewN ?_ _ | refine blk_drew ?_ | refine blk_alloc ?_ _)); exact BK122.out⟩, ⟨by repeat (first | (with_reducible first | exact HB.out | apply below_alloc | apply pw_below_drewN | apply below_drew1 | refine below_set ?_ GE122.out) | exact HB.out)⟩⟩
                · rw [if_neg c16] at H
                  have c16b0 : decide (a0_3 < 1) = false := decide_eq_false c16
                  clear c16
                  have H' := Aside0.mk H
                  clear H
                  have hcz18_0 : w3.cell? ⟨gb122, 0, none⟩ = some (.int .i64 a0_0) := (blk_cell BK122.out 0).trans rfl
                  have hcz18_1 : w3.cell? ⟨gb122, 1, none⟩ = some (.int .i64 a0_1) := (blk_cell BK122.out 1).trans rfl
                  have hcz18_2 : w3.cell? ⟨gb122, 2, none⟩ = some (.int .i64 a0_2) := (blk_cell BK122.out 2).trans rfl
                  have hcz18_3 : w3.cell? ⟨gb122, 3, none⟩ = some (.int .i64 a0_3) := (blk_cell BK122.out 3).trans rfl
                  have hcz18_4 : w3.cell? ⟨gb122, 4, none⟩ = some (.string a0_4) := (blk_cell BK122.out 4).trans rfl
                  have hfz18_0 := blk_frozen BK122.out 0
                  have hfz18_1 := blk_frozen BK122.out 1
                  have hfz18_2 := blk_frozen BK122.out 2
                  have hfz18_3 := blk_frozen BK122.out 3
                  have hfz18_4 := blk_frozen BK122.out 4
                  go_wp2
                  go_meet
                  case rel => exact ⟨_, (decide (a0_3 > 4095)), (by first | rfl | (simp; done) | (simp [*]; done)), H', ⟨by first | omega | exact Nat.le_refl _⟩, ⟨by (with_reducible repeat (first | refine blk_drewN ?_ _ | refine blk_drew ?_ | refine blk_alloc ?_ _)); exact BK122.out⟩, ⟨by repeat (first | (with_reducible first | exact HB.out | apply below_alloc | apply pw_below_drewN | apply below_drew1 | refine below_set ?_ GE122.out) | exact HB.out)⟩⟩
  case rest =>
    clear HC2
    try clear c1
    try clear p2
    try clear c4
    try clear c4b0
    try clear c6
    try clear c6b0
    try clear c8
    try clear c8b0
    try clear c10
    try clear c10b0
    try clear c12
    try clear c12b0
    try clear c14
    try clear c14b0
    try clear c16
    try clear c16b0
    try clear hcz11_0
    try clear hcz11_1
    try clear hcz11_2
    try clear hcz11_3
    try clear hcz11_4
    try clear hcz13_0
    try clear hcz13_1
    try clear hcz13_2
    try clear hcz13_3
    try clear hcz13_4
    try clear hcz15_0
    try clear hcz15_1
    try clear hcz15_2
    try clear hcz15_3
    try clear hcz15_4
    try clear hcz17_0
    try clear hcz17_1
    try clear hcz17_2
    try clear hcz17_3
    try clear hcz17_4
    try clear hcz18_0
    try clear hcz18_1
    try clear hcz18_2
    try clear hcz18_3
    try clear hcz18_4
    try clear hcz5_0
    try clear hcz5_1
    try clear hcz5_2
    try clear hcz5_3
    try clear hcz5_4
    try clear hcz7_0
    try clear hcz7_1
    try clear hcz7_2
    try clear hcz7_3
    try clear hcz7_4
    try clear hcz9_0
    try clear hcz9_1
    try clear hcz9_2
    try clear hcz9_3
    try clear hcz9_4
    try clear hfz11_0
    try clear hfz11_1
    try clear hfz11_2
    try clear hfz11_3
    try clear hfz11_4
    try clear hfz13_0
    try clear hfz13_1
    try clear hfz13_2
    try clear hfz13_3
    try clear hfz13_4
    try clear hfz15_0
    try clear hfz15_1
    try clear hfz15_2
    try clear hfz15_3
    try clear hfz15_4
    try clear hfz17_0
    try clear hfz17_1
    try clear hfz17_2
    try clear hfz17_3
    try clear hfz17_4
    try clear hfz18_0
    try clear hfz18_1
    try clear hfz18_2
    try clear hfz18_3
    try clear hfz18_4
    try clear hfz5_0
    try clear hfz5_1
    try clear hfz5_2
    try clear hfz5_3
    try clear hfz5_4
    try clear hfz7_0
    try clear hfz7_1
    try clear hfz7_2
    try clear hfz7_3
    try clear hfz7_4
    try clear hfz9_0
    try clear hfz9_1
    try clear hfz9_2
    try clear hfz9_3
    try clear hfz9_4
    obtain ⟨kq, x45_1, rfl, HA, HJ1, BK122, HB⟩ := hcut
    cases kq with
    | zero => exact absurd HA.out (by simp [hopmeshref15_Length.j0])
    | succ kj1 =>
      have H := HA.out
      clear HA
      simp only [hopmeshref15_Length.j0] at H
      by_cases c19 : x45_1 = true
      · subst c19
        have H1 : (some 0) = some r := by rw [if_pos rfl] at H; exact H
        clear H
        have H := H1
        clear H1
        obtain rfl := Option.some.inj H
        go_wp2
        go_ret
        exact ⟨by first | rfl | (simp [errW_none, errW_some] <;> rfl) | (simp [*, errW_none, errW_some] <;> rfl), by repeat (first | (with_reducible first | exact HB.out | apply below_alloc | apply pw_below_drewN | apply below_drew1 | refine below_set ?_ GE122.out) | exact HB.out)⟩
      · replace c19 := Bool.eq_false_iff.mpr c19
        subst c19
        have H1 : (if a0_2 = 1 then (if (a0_4.size : Int) = a0_3 then (if (a0_4.size : Int) > 120 then (some 0) else (some (a0_4.size : Int))) else (some 0)) else (if a0_1 = (wrap64 (a0_2 - 1)) then (if (a0_4.size : Int) ≥ a0_3 then (hopmeshref15_Length.j1 kj1 (a0_4.size : Int) true a0_0 a0_1 a0_2 a0_3 a0_4) else (if (wrap64 (a0_2 - 1)) = 0 then (none) else (hopmeshref15_Length.j1 kj1 (a0_4.size : Int) ((Int.tmod (wrap64 (a0_3 - (a0_4.size : Int))) (wrap64 (a0_2 - 1))) != 0) a0_0 a0_1 a0_2 a0_3 a0_4))) else (if (a0_4.size : Int) < 1 then (some 0) else (if (a0_4.size : Int) > 120 then (some 0) else (if (wrap64 (a0_3 - (wrap64 ((a0_4.size : Int) * (wrap64 (a0_2 - 1)))))) < 1 then (some 0) else (if (wrap64 (a0_3 - (wrap64 ((a0_4.size : Int) * (wrap64 (a0_2 - 1)))))) > (a0_4.size : Int) then (some 0) else (some (a0_4.size : Int)))))))) = some r := by rw [if_neg (show ¬ (false = true) by decide)] at H; exact H
        clear H
        have H := H1
        clear H1
        by_cases c20 : a0_2 = 1
        · rw [if_pos c20] at H
          have c20b0 : (a0_2 == 1) = true := beq_iff_eq.mpr c20
          have c20b1 : (a0_2 != 1) = false := bne_eq_false_iff_eq.mpr c20
          clear c20
          by_cases c21 : (a0_4.size : Int) = a0_3
          · rw [if_pos c21] at H
            have c21b0 : ((a0_4.size : Int) == a0_3) = true := beq_iff_eq.mpr c21
            have c21b1 : ((a0_4.size : Int) != a0_3) = false := bne_eq_false_iff_eq.mpr c21
            clear c21
            by_cases c22 : (a0_4.size : Int) > 120
            · rw [if_pos c22] at H
              have c22b0 : decide (120 < (a0_4.size : Int)) = true := decide_eq_true c22
              have c22b1 : decide (120 < a0_4.size) = true := decide_eq_true (by omega)
              clear c22
              obtain rfl := Option.some.inj H
              have hcz23_0 : wc.cell? ⟨gb122, 0, none⟩ = some (.int .i64 a0_0) := (blk_cell BK122.out 0).trans rfl
              have hcz23_1 : wc.cell? ⟨gb122, 1, none⟩ = some (.int .i64 a0_1) := (blk_cell BK122.out 1).trans rfl
              have hcz23_2 : wc.cell? ⟨gb122, 2, none⟩ = some (.int .i64 a0_2) := (blk_cell BK122.out 2).trans rfl
              have hcz23_3 : wc.cell? ⟨gb122, 3, none⟩ = some (.int .i64 a0_3) := (blk_cell BK122.out 3).trans rfl
              have hcz23_4 : wc.cell? ⟨gb122, 4, none⟩ = some (.string a0_4) := (blk_cell BK122.out 4).trans rfl
              have hfz23_0 := blk_frozen BK122.out 0
              have hfz23_1 := blk_frozen BK122.out 1
              have hfz23_2 := blk_frozen BK122.out 2
              have hfz23_3 := blk_frozen BK122.out 3
              have hfz23_4 := blk_frozen BK122.out 4
              go_wp2
              go_ret
              exact ⟨by first | rfl | (simp [errW_none, errW_some] <;> rfl) | (simp [*, errW_none, errW_some] <;> rfl), by repeat (first | (with_reducible first | exact HB.out | apply below_alloc | apply pw_below_drewN | apply below_drew1 | refine below_set ?_ GE122.out) | exact HB.out)⟩
            · rw [if_neg c22] at H
              have c22b0 : decide (120 < (a0_4.size : Int)) = false := decide_eq_false c22
              have c22b1 : decide (120 < a0_4.size) = false := decide_eq_false (by omega)
              clear c22
              obtain rfl := Option.some.inj H
              have hcz24_0 : wc.cell? ⟨gb122, 0, none⟩ = some (.int .i64 a0_0) := (blk_cell BK122.out 0).trans rfl
              have hcz24_1 : wc.cell? ⟨gb122, 1, none⟩ = some (.int .i64 a0_1) := (blk_cell BK122.out 1).trans rfl
              have hcz24_2 : wc.cell? ⟨gb122, 2, none⟩ = some (.int .i64 a0_2) := (blk_cell BK122.out 2).trans rfl
              have hcz24_3 : wc.cell? ⟨gb122, 3, none⟩ = some (.int .i64 a0_3) := (blk_cell BK122.out 3).trans rfl
              have hcz24_4 : wc.cell? ⟨gb122, 4, none⟩ = some (.string a0_4) := (blk_cell BK122.out 4).trans rfl
              have hfz24_0 := blk_frozen BK122.out 0
              have hfz24_1 := blk_frozen BK122.out 1
              have hfz24_2 := blk_frozen BK122.out 2
              have hfz24_3 := blk_frozen BK122.out 3
              have hfz24_4 := blk_frozen BK122.out 4
              go_wp2
              go_ret
              exact ⟨by first | rfl | (simp [errW_none, errW_some] <;> rfl) | (simp [*, errW_none, errW_some] <;> rfl), by repeat (first | (with_reducible first | exact HB.out | apply below_alloc | apply pw_below_drewN | apply below_drew1 | refine below_set ?_ GE122.out) | exact HB.out)⟩
          · rw [if_neg c21] at H
            have c21b0 : ((a0_4.size : Int) == a0_3) = false := beq_eq_false_iff_ne.mpr c21
            have c21b1 : ((a0_4.size : Int) != a0_3) = true := bne_iff_ne.mpr c21
            obtain rfl := Option.some.inj H
            have hcz25_0 : wc.cell? ⟨gb122, 0, none⟩ = some (.int .i64 a0_0) := (blk_cell BK122.out 0).trans rfl
            have hcz25_1 : wc.cell? ⟨gb122, 1, none⟩ = some (.int .i64 a0_1) := (blk_cell BK122.out 1).trans rfl
            have hcz25_2 : wc.cell? ⟨gb122, 2, none⟩ = some (.int .i64 a0_2) := (blk_cell BK122.out 2).trans rfl
            have hcz25_3 : wc.cell? ⟨gb122, 3, none⟩ = some (.int .i64 a0_3) := (blk_cell BK122.out 3).trans rfl
            have hcz25_4 : wc.cell? ⟨gb122, 4, none⟩ = some (.string a0_4) := (blk_cell BK122.out 4).trans rfl
            have hfz25_0 := blk_frozen BK122.out 0
            have hfz25_1 := blk_frozen BK122.out 1
            have hfz25_2 := blk_frozen BK122.out 2
            have hfz25_3 := blk_frozen BK122.out 3
            have hfz25_4 := blk_frozen BK122.out 4
            go_wp2
            go_ret
            exact ⟨by first | rfl | (simp [errW_none, errW_some] <;> rfl) | (simp [*, errW_none, errW_some] <;> rfl), by repeat (first | (with_reducible first | exact HB.out | apply below_alloc | apply pw_below_drewN | apply below_drew1 | refine below_set ?_ GE122.out) | exact HB.out)⟩
        · rw [if_neg c20] at H
          have c20b0 : (a0_2 == 1) = false := beq_eq_false_iff_ne.mpr c20
          have c20b1 : (a0_2 != 1) = true := bne_iff_ne.mpr c20
          by_cases c26 : a0_1 = (wrap64 (a0_2 - 1))
          · rw [if_pos c26] at H
            have c26b0 : (a0_1 == (wrap64 (a0_2 - 1))) = true := beq_iff_eq.mpr c26
            have c26b1 : (a0_1 != (wrap64 (a0_2 - 1))) = false := bne_eq_false_iff_eq.mpr c26
            clear c26
            have HC27 := Aside0.mk H
            clear H
            have hcz28_0 : wc.cell? ⟨gb122, 0, none⟩ = some (.int .i64 a0_0) := (blk_cell BK122.out 0).trans rfl
            have hcz28_1 : wc.cell? ⟨gb122, 1, none⟩ = some (.int .i64 a0_1) := (blk_cell BK122.out 1).trans rfl
            have hcz28_2 : wc.cell? ⟨gb122, 2, none⟩ = some (.int .i64 a0_2) := (blk_cell BK122.out 2).trans rfl
            have hcz28_3 : wc.cell? ⟨gb122, 3, none⟩ = some (.int .i64 a0_3) := (blk_cell BK122.out 3).trans rfl
            have hcz28_4 : wc.cell? ⟨gb122, 4, none⟩ = some (.string a0_4) := (blk_cell BK122.out 4).trans rfl
            have hfz28_0 := blk_frozen BK122.out 0
            have hfz28_1 := blk_frozen BK122.out 1
            have hfz28_2 := blk_frozen BK122.out 2
            have hfz28_3 := blk_frozen BK122.out 3
            have hfz28_4 := blk_frozen BK122.out 4
            go_upto_region 10 with (fail)
            go_cut [82] (fun v82 wc => ∃ (kq : Nat) (x82_26 : Bool), v82 = .bool x82_26 ∧ Aside0 (hopmeshref15_Length.j1 kq (a0_4.size : Int) x82_26 a0_0 a0_1 a0_2 a0_3 a0_4 = some r) ∧ Aside0 (kq ≤ kj1) ∧ Aside0 (wc.heap[gb122]? = some (.cells #[.int .i64 a0_0, .int .i64 a0_1, .int .i64 a0_2, .int .i64 a0_3, .string a0_4] 23 (0, 0))) ∧ Aside0 (Below w.heap.size w wc))
            case first =>
              have H := HC27.out
              clear HC27
              by_cases c29 : (a0_4.size : Int) ≥ a0_3
              · rw [if_pos c29] at H
                have c29b0 : decide (a0_3 ≤ (a0_4.size : Int)) = true := decide_eq_true c29
                clear c29
                (first | rw [c29b0] | (simp only [i64_w, i32_w]; rw [c29b0]) | skip)
                have H' := Aside0.mk H
                clear H
                have hcz30_0 : wc.cell? ⟨gb122, 0, none⟩ = some (.int .i64 a0_0) := (blk_cell BK122.out 0).trans rfl
                have hcz30_1 : wc.cell? ⟨gb122, 1, none⟩ = some (.int .i64 a0_1) := (blk_cell BK122.out 1).trans rfl
                have hcz30_2 : wc.cell? ⟨gb122, 2, none⟩ = some (.int .i64 a0_2) := (blk_cell BK122.out 2).trans rfl
                have hcz30_3 : wc.cell? ⟨gb122, 3, none⟩ = some (.int .i64 a0_3) := (blk_cell BK122.out 3).trans rfl
                have hcz30_4 : wc.cell? ⟨gb122, 4, none⟩ = some (.string a0_4) := (blk_cell BK122.out 4).trans rfl
                have hfz30_0 := blk_frozen BK122.out 0
                have hfz30_1 := blk_frozen BK122.out 1
                have hfz30_2 := blk_frozen BK122.out 2
                have hfz30_3 := blk_frozen BK122.out 3
                have hfz30_4 := blk_frozen BK122.out 4
                go_wp2
                go_meet
                case rel => exact ⟨_, (true), (by first | rfl | (simp; done) | (simp [*]; done)), H', ⟨by have := HJ1.out; first | omega | exact Nat.le_refl _⟩, ⟨by (with_reducible repeat (first | refine blk_drewN ?_ _ | refine blk_drew ?_ | refine blk_alloc ?_ _)); exact BK122.out⟩, ⟨by repeat (first | (with_reducible first | exact HB.out | apply below_alloc | apply pw_below_drewN | apply below_drew1 | refine below_set ?_ GE122.out) | exact HB.out)⟩⟩
              · rw [if_neg c29] at H
                have c29b0 : decide (a0_3 ≤ (a0_4.size : Int)) = false := decide_eq_false c29
                clear c29
                (first | rw [c29b0] | (simp only [i64_w, i32_w]; rw [c29b0]) | skip)
                by_cases c31 : (wrap64 (a0_2 - 1)) = 0
                · rw [if_pos c31] at H
                  exact absurd H (by simp)
                · rw [if_neg c31] at H
                  have c31b0 : ((wrap64 (a0_2 - 1)) == 0) = false := beq_eq_false_iff_ne.mpr c31
                  have c31b1 : ((wrap64 (a0_2 - 1)) != 0) = true := bne_iff_ne.mpr c31
                  have H' := Aside0.mk H
                  clear H
                  have hcz32_0 : wc.cell? ⟨gb122, 0, none⟩ = some (.int .i64 a0_0) := (blk_cell BK122.out 0).trans rfl
                  have hcz32_1 : wc.cell? ⟨gb122, 1, none⟩ = some (.int .i64 a0_1) := (blk_cell BK122.out 1).trans rfl
                  have hcz32_2 : wc.cell? ⟨gb122, 2, none⟩ = some (.int .i64 a0_2) := (blk_cell BK122.out 2).trans rfl
                  have hcz32_3 : wc.cell? ⟨gb122, 3, none⟩ = some (.int .i64 a0_3) := (blk_cell BK122.out 3).trans rfl
                  have hcz32_4 : wc.cell? ⟨gb122, 4, none⟩ = some (.string a0_4) := (blk_cell BK122.out 4).trans rfl
                  have hfz32_0 := blk_frozen BK122.out 0
                  have hfz32_1 := blk_frozen BK122.out 1
                  have hfz32_2 := blk_frozen BK122.out 2
                  have hfz32_3 := blk_frozen BK122.out 3
                  have hfz32_4 := blk_frozen BK122.out 4
                  go_wp2
                  go_meet
                  case rel => exact ⟨_, (((Int.tmod (wrap64 (a0_3 - (a0_4.size : Int))) (wrap64 (a0_2 - 1))) != 0)), (by first | rfl | (simp; done) | (simp [*]; done)), H', ⟨by have := HJ1.out; first | omega | exact Nat.le_refl _⟩, ⟨by (with_reducible repeat (first | refine blk_drewN ?_ _ | refine blk_drew ?_ | refine blk_alloc ?_ _)); exact BK122.out⟩, ⟨by repeat (first | (with_reducible first | exact HB.out | apply below_alloc | apply pw_below_drewN | apply below_drew1 | refine below_set ?_ GE122.out) | exact HB.out)⟩⟩
            case rest =>
              clear HC27
              try clear c1
              try clear c2
              try clear p2
              try clear c3
              try clear c4
              try clear c4b0
              try clear c6
              try clear c6b0
              try clear p6
              try clear c8
              try clear c8b0
              try clear c10
              try clear c10b0
              try clear c12
              try clear c12b0
              try clear c14
              try clear c14b0
              try clear c16
              try clear c16b0
              try clear c19
              try clear c20
              try clear c20b0
              try clear c20b1
              try clear c21
              try clear c21b0
              try clear c21b1
              try clear c22
              try clear c22b0
              try clear c22b1
              try clear c26
              try clear c26b0
              try clear c26b1
              try clear c29
              try clear c29b0
              try clear c31
              try clear c31b0
              try clear c31b1
              try clear hcz11_0
              try clear hcz11_1
              try clear hcz11_2
              try clear hcz11_3
              try clear hcz11_4
              try clear hcz13_0
              try clear hcz13_1
              try clear hcz13_2
              try clear hcz13_3
              try clear hcz13_4
              try clear hcz15_0
              try clear hcz15_1
              try clear hcz15_2
              try clear hcz15_3
              try clear hcz15_4
              try clear hcz17_0
              try clear hcz17_1
              try clear hcz17_2
              try clear hcz17_3
              try clear hcz17_4
              try clear hcz18_0
              try clear hcz18_1
              try clear hcz18_2
              try clear hcz18_3
              try clear hcz18_4
              try clear hcz23_0
              try clear hcz23_1
              try clear hcz23_2
              try clear hcz23_3
              try clear hcz23_4
              try clear hcz24_0
              try clear hcz24_1
              try clear hcz24_2
              try clear hcz24_3
              try clear hcz24_4
              try clear hcz25_0
              try clear hcz25_1
              try clear hcz25_2
              try clear hcz25_3
              try clear hcz25_4
              try clear hcz28_0
              try clear hcz28_1
              try clear hcz28_2
              try clear hcz28_3
              try clear hcz28_4
              try clear hcz30_0
              try clear hcz30_1
              try clear hcz30_2
              try clear hcz30_3
              try clear hcz30_4
              try clear hcz32_0
              try clear hcz32_1
              try clear hcz32_2
              try clear hcz32_3
              try clear hcz32_4
              try clear hcz5_0
              try clear hcz5_1
              try clear hcz5_2
              try clear hcz5_3
              try clear hcz5_4
              try clear hcz7_0
              try clear hcz7_1
              try clear hcz7_2
              try clear hcz7_3
              try clear hcz7_4
              try clear hcz9_0
              try clear hcz9_1
              try clear hcz9_2
              try clear hcz9_3
              try clear hcz9_4
              try clear hfz11_0
              try clear hfz11_1
              try clear hfz11_2
              try clear hfz11_3
              try clear hfz11_4
              try clear hfz13_0
              try clear hfz13_1
              try clear hfz13_2
              try clear hfz13_3
              try clear hfz13_4
              try clear hfz15_0
              try clear hfz15_1
              try clear hfz15_2
              try clear hfz15_3
              try clear hfz15_4
              try clear hfz17_0
              try clear hfz17_1
              try clear hfz17_2
              try clear hfz17_3
              try clear hfz17_4
              try clear hfz18_0
              try clear hfz18_1
              try clear hfz18_2
              try clear hfz18_3
              try clear hfz18_4
              try clear hfz23_0
              try clear hfz23_1
              try clear hfz23_2
              try clear hfz23_3
              try clear hfz23_4
              try clear hfz24_0
              try clear hfz24_1
              try clear hfz24_2
              try clear hfz24_3
              try clear hfz24_4
              try clear hfz25_0
              try clear hfz25_1
              try clear hfz25_2
              try clear hfz25_3
              try clear hfz25_4
              try clear hfz28_0
              try clear hfz28_1
              try clear hfz28_2
              try clear hfz28_3
              try clear hfz28_4
              try clear hfz30_0
              try clear hfz30_1
              try clear hfz30_2
              try clear hfz30_3
              try clear hfz30_4
              try clear hfz32_0
              try clear hfz32_1
              try clear hfz32_2
              try clear hfz32_3
              try clear hfz32_4
              try clear hfz5_0
              try clear hfz5_1
              try clear hfz5_2
              try clear hfz5_3
              try clear hfz5_4
              try clear hfz7_0
              try clear hfz7_1
              try clear hfz7_2
              try clear hfz7_3
              try clear hfz7_4
              try clear hfz9_0
              try clear hfz9_1
              try clear hfz9_2
              try clear hfz9_3
              try clear hfz9_4
              try clear p2
              obtain ⟨kq, x82_26, rfl, HA, HJ26, BK122, HB⟩ := hcut
              cases kq with
              | zero => exact absurd HA.out (by simp [hopmeshref15_Length.j1])
              | succ kj26 =>
                have H := HA.out
                clear HA
                simp only [hopmeshref15_Length.j1] at H
                by_cases c33 : x82_26 = true
                · subst c33
                  have H1 : (some 0) = some r := by rw [if_pos rfl] at H; exact H
                  clear H
                  have H := H1
                  clear H1
                  obtain rfl := Option.some.inj H
                  go_wp2
                  go_ret
                  exact ⟨by first | rfl | (simp [errW_none, errW_some] <;> rfl) | (simp [*, errW_none, errW_some] <;> rfl), by repeat (first | (with_reducible first | exact HB.out | apply below_alloc | apply pw_below_drewN | apply below_drew1 | refine below_set ?_ GE122.out) | exact HB.out)⟩
                · replace c33 := Bool.eq_false_iff.mpr c33
                  subst c33
                  have H1 : (if (wrap64 (a0_2 - 1)) = 0 then (none) else (if (wrap64 (Int.tdiv (wrap64 (a0_3 - (a0_4.size : Int))) (wrap64 (a0_2 - 1)))) < 1 then (some 0) else (if (wrap64 (Int.tdiv (wrap64 (a0_3 - (a0_4.size : Int))) (wrap64 (a0_2 - 1)))) > 120 then (some 0) else (if (wrap64 (a0_3 - (wrap64 ((wrap64 (Int.tdiv (wrap64 (a0_3 - (a0_4.size : Int))) (wrap64 (a0_2 - 1)))) * (wrap64 (a0_2 - 1)))))) < 1 then (some 0) else (if (wrap64 (a0_3 - (wrap64 ((wrap64 (Int.tdiv (wrap64 (a0_3 - (a0_4.size : Int))) (wrap64 (a0_2 - 1)))) * (wrap64 (a0_2 - 1)))))) > (wrap64 (Int.tdiv (wrap64 (a0_3 - (a0_4.size : Int))) (wrap64 (a0_2 - 1)))) then (some 0) else (if a0_1 = (wrap64 (a0_2 - 1)) then (if (a0_4.size : Int) = (wrap64 (a0_3 - (wrap64 ((wrap64 (Int.tdiv (wrap64 (a0_3 - (a0_4.size : Int))) (wrap64 (a0_2 - 1)))) * (wrap64 (a0_2 - 1)))))) then (some (wrap64 (Int.tdiv (wrap64 (a0_3 - (a0_4.size : Int))) (wrap64 (a0_2 - 1))))) else (some 0)) else (some (wrap64 (Int.tdiv (wrap64 (a0_3 - (a0_4.size : Int))) (wrap64 (a0_2 - 1))))))))))) = some r := by rw [if_neg (show ¬ (false = true) by decide)] at H; exact H
                  clear H
                  have H := H1
                  clear H1
                  by_cases c34 : (wrap64 (a0_2 - 1)) = 0
                  · rw [if_pos c34] at H
                    exact absurd H (by simp)
                  · rw [if_neg c34] at H
                    have c34b0 : ((wrap64 (a0_2 - 1)) == 0) = false := beq_eq_false_iff_ne.mpr c34
                    have c34b1 : ((wrap64 (a0_2 - 1)) != 0) = true := bne_iff_ne.mpr c34
                    by_cases c35 : (wrap64 (Int.tdiv (wrap64 (a0_3 - (a0_4.size : Int))) (wrap64 (a0_2 - 1)))) < 1
                    · rw [if_pos c35] at H
                      have c35b0 : decide ((wrap64 (Int.tdiv (wrap64 (a0_3 - (a0_4.size : Int))) (wrap64 (a0_2 - 1)))) < 1) = true := decide_eq_true c35
                      clear c35
                      obtain rfl := Option.some.inj H
                      have hcz36_0 : wc.cell? ⟨gb122, 0, none⟩ = some (.int .i64 a0_0) := (blk_cell BK122.out 0).trans rfl
                      have hcz36_1 : wc.cell? ⟨gb122, 1, none⟩ = some (.int .i64 a0_1) := (blk_cell BK122.out 1).trans rfl
                      have hcz36_2 : wc.cell? ⟨gb122, 2, none⟩ = some (.int .i64 a0_2) := (blk_cell BK122.out 2).trans rfl
                      have hcz36_3 : wc.cell? ⟨gb122, 3, none⟩ = some (.int .i64 a0_3) := (blk_cell BK122.out 3).trans rfl
                      have hcz36_4 : wc.cell? ⟨gb122, 4, none⟩ = some (.string a0_4) := (blk_cell BK122.out 4).trans rfl
                      have hfz36_0 := blk_frozen BK122.out 0
                      have hfz36_1 := blk_frozen BK122.out 1
                      have hfz36_2 := blk_frozen BK122.out 2
                      have hfz36_3 := blk_frozen BK122.out 3
                      have hfz36_4 := blk_frozen BK122.out 4
                      go_wp2
                      go_ret
                      exact ⟨by first | rfl | (simp [errW_none, errW_some] <;> rfl) | (simp [*, errW_none, errW_some] <;> rfl), by repeat (first | (with_reducible first | exact HB.out | apply below_alloc | apply pw_below_drewN | apply below_drew1 | refine below_set ?_ GE122.out) | exact HB.out)⟩
                    · rw [if_neg c35] at H
                      have c35b0 : decide ((wrap64 (Int.tdiv (wrap64 (a0_3 - (a0_4.size : Int))) (wrap64 (a0_2 - 1)))) < 1) = false := decide_eq_false c35
                      clear c35
                      by_cases c37 : (wrap64 (Int.tdiv (wrap64 (a0_3 - (a0_4.size : Int))) (wrap64 (a0_2 - 1)))) > 120
                      · rw [if_pos c37] at H
                        have c37b0 : decide (120 < (wrap64 (Int.tdiv (wrap64 (a0_3 - (a0_4.size : Int))) (wrap64 (a0_2 - 1))))) = true := decide_eq_true c37
                        clear c37
                        obtain rfl := Option.some.inj H
                        have hcz38_0 : wc.cell? ⟨gb122, 0, none⟩ = some (.int .i64 a0_0) := (blk_cell BK122.out 0).trans rfl
                        have hcz38_1 : wc.cell? ⟨gb122, 1, none⟩ = some (.int .i64 a0_1) := (blk_cell BK122.out 1).trans rfl
                        have hcz38_2 : wc.cell? ⟨gb122, 2, none⟩ = some (.int .i64 a0_2) := (blk_cell BK122.out 2).trans rfl
                        have hcz38_3 : wc.cell? ⟨gb122, 3, none⟩ = some (.int .i64 a0_3) := (blk_cell BK122.out 3).trans rfl
                        have hcz38_4 : wc.cell? ⟨gb122, 4, none⟩ = some (.string a0_4) := (blk_cell BK122.out 4).trans rfl
                        have hfz38_0 := blk_frozen BK122.out 0
                        have hfz38_1 := blk_frozen BK122.out 1
                        have hfz38_2 := blk_frozen BK122.out 2
                        have hfz38_3 := blk_frozen BK122.out 3
                        have hfz38_4 := blk_frozen BK122.out 4
                        go_wp2
                        go_ret
                        exact ⟨by first | rfl | (simp [errW_none, errW_some] <;> rfl) | (simp [*, errW_none, errW_some] <;> rfl), by repeat (first | (with_reducible first | exact HB.out | apply below_alloc | apply pw_below_drewN | apply below_drew1 | refine below_set ?_ GE122.out) | exact HB.out)⟩
                      · rw [if_neg c37] at H
                        have c37b0 : decide (120 < (wrap64 (Int.tdiv (wrap64 (a0_3 - (a0_4.size : Int))) (wrap64 (a0_2 - 1))))) = false := decide_eq_false c37
                        clear c37
                        by_cases c39 : (wrap64 (a0_3 - (wrap64 ((wrap64 (Int.tdiv (wrap64 (a0_3 - (a0_4.size : Int))) (wrap64 (a0_2 - 1)))) * (wrap64 (a0_2 - 1)))))) < 1
                        · rw [if_pos c39] at H
                          have c39b0 : decide ((wrap64 (a0_3 - (wrap64 ((wrap64 (Int.tdiv (wrap64 (a0_3 - (a0_4.size : Int))) (wrap64 (a0_2 - 1)))) * (wrap64 (a0_2 - 1)))))) < 1) = true := decide_eq_true c39
                          clear c39
                          obtain rfl := Option.some.inj H
                          have hcz40_0 : wc.cell? ⟨gb122, 0, none⟩ = some (.int .i64 a0_0) := (blk_cell BK122.out 0).trans rfl
                          have hcz40_1 : wc.cell? ⟨gb122, 1, none⟩ = some (.int .i64 a0_1) := (blk_cell BK122.out 1).trans rfl
                          have hcz40_2 : wc.cell? ⟨gb122, 2, none⟩ = some (.int .i64 a0_2) := (blk_cell BK122.out 2).trans rfl
                          have hcz40_3 : wc.cell? ⟨gb122, 3, none⟩ = some (.int .i64 a0_3) := (blk_cell BK122.out 3).trans rfl
                          have hcz40_4 : wc.cell? ⟨gb122, 4, none⟩ = some (.string a0_4) := (blk_cell BK122.out 4).trans rfl
                          have hfz40_0 := blk_frozen BK122.out 0
                          have hfz40_1 := blk_frozen BK122.out 1
                          have hfz40_2 := blk_frozen BK122.out 2
                          have hfz40_3 := blk_frozen BK122.out 3
                          have hfz40_4 := blk_frozen BK122.out 4
                          go_wp2
                          go_ret
                          exact ⟨by first | rfl | (simp [errW_none, errW_some] <;> rfl) | (simp [*, errW_none, errW_some] <;> rfl), by repeat (first | (with_reducible first | exact HB.out | apply below_alloc | apply pw_below_drewN | apply below_drew1 | refine below_set ?_ GE122.out) | exact HB.out)⟩
                        · rw [if_neg c39] at H
                          have c39b0 : decide ((wrap64 (a0_3 - (wrap64 ((wrap64 (Int.tdiv (wrap64 (a0_3 - (a0_4.size : Int))) (wrap64 (a0_2 - 1)))) * (wrap64 (a0_2 - 1)))))) < 1) = false := decide_eq_false c39
                          clear c39
                          by_cases c41 : (wrap64 (a0_3 - (wrap64 ((wrap64 (Int.tdiv (wrap64 (a0_3 - (a0_4.size : Int))) (wrap64 (a0_2 - 1)))) * (wrap64 (a0_2 - 1)))))) > (wrap64 (Int.tdiv (wrap64 (a0_3 - (a0_4.size : Int))) (wrap64 (a0_2 - 1))))
                          · rw [if_pos c41] at H
                            have c41b0 : decide ((wrap64 (Int.tdiv (wrap64 (a0_3 - (a0_4.size : Int))) (wrap64 (a0_2 - 1)))) < (wrap64 (a0_3 - (wrap64 ((wrap64 (Int.tdiv (wrap64 (a0_3 - (a0_4.size : Int))) (wrap64 (a0_2 - 1)))) * (wrap64 (a0_2 - 1))))))) = true := decide_eq_true c41
                            clear c41
                            obtain rfl := Option.some.inj H
                            have hcz42_0 : wc.cell? ⟨gb122, 0, none⟩ = some (.int .i64 a0_0) := (blk_cell BK122.out 0).trans rfl
                            have hcz42_1 : wc.cell? ⟨gb122, 1, none⟩ = some (.int .i64 a0_1) := (blk_cell BK122.out 1).trans rfl
                            have hcz42_2 : wc.cell? ⟨gb122, 2, none⟩ = some (.int .i64 a0_2) := (blk_cell BK122.out 2).trans rfl
                            have hcz42_3 : wc.cell? ⟨gb122, 3, none⟩ = some (.int .i64 a0_3) := (blk_cell BK122.out 3).trans rfl
                            have hcz42_4 : wc.cell? ⟨gb122, 4, none⟩ = some (.string a0_4) := (blk_cell BK122.out 4).trans rfl
                            have hfz42_0 := blk_frozen BK122.out 0
                            have hfz42_1 := blk_frozen BK122.out 1
                            have hfz42_2 := blk_frozen BK122.out 2
                            have hfz42_3 := blk_frozen BK122.out 3
                            have hfz42_4 := blk_frozen BK122.out 4
                            go_wp2
                            go_ret
                            exact ⟨by first | rfl | (simp [errW_none, errW_some] <;> rfl) | (simp [*, errW_none, errW_some] <;> rfl), by repeat (first | (with_reducible first | exact HB.out | apply below_alloc | apply pw_below_drewN | apply below_drew1 | refine below_set ?_ GE122.out) | exact HB.out)⟩
                          · rw [if_neg c41] at H
                            have c41b0 : decide ((wrap64 (Int.tdiv (wrap64 (a0_3 - (a0_4.size : Int))) (wrap64 (a0_2 - 1)))) < (wrap64 (a0_3 - (wrap64 ((wrap64 (Int.tdiv (wrap64 (a0_3 - (a0_4.size : Int))) (wrap64 (a0_2 - 1)))) * (wrap64 (a0_2 - 1))))))) = false := decide_eq_false c41
                            clear c41
                            by_cases c43 : a0_1 = (wrap64 (a0_2 - 1))
                            · rw [if_pos c43] at H
                              have c43b0 : (a0_1 == (wrap64 (a0_2 - 1))) = true := beq_iff_eq.mpr c43
                              have c43b1 : (a0_1 != (wrap64 (a0_2 - 1))) = false := bne_eq_false_iff_eq.mpr c43
                              clear c43
                              by_cases c44 : (a0_4.size : Int) = (wrap64 (a0_3 - (wrap64 ((wrap64 (Int.tdiv (wrap64 (a0_3 - (a0_4.size : Int))) (wrap64 (a0_2 - 1)))) * (wrap64 (a0_2 - 1))))))
                              · rw [if_pos c44] at H
                                have c44b0 : ((a0_4.size : Int) == (wrap64 (a0_3 - (wrap64 ((wrap64 (Int.tdiv (wrap64 (a0_3 - (a0_4.size : Int))) (wrap64 (a0_2 - 1)))) * (wrap64 (a0_2 - 1))))))) = true := beq_iff_eq.mpr c44
                                have c44b1 : ((a0_4.size : Int) != (wrap64 (a0_3 - (wrap64 ((wrap64 (Int.tdiv (wrap64 (a0_3 - (a0_4.size : Int))) (wrap64 (a0_2 - 1)))) * (wrap64 (a0_2 - 1))))))) = false := bne_eq_false_iff_eq.mpr c44
                                clear c44
                                obtain rfl := Option.some.inj H
                                have hcz45_0 : wc.cell? ⟨gb122, 0, none⟩ = some (.int .i64 a0_0) := (blk_cell BK122.out 0).trans rfl
                                have hcz45_1 : wc.cell? ⟨gb122, 1, none⟩ = some (.int .i64 a0_1) := (blk_cell BK122.out 1).trans rfl
                                have hcz45_2 : wc.cell? ⟨gb122, 2, none⟩ = some (.int .i64 a0_2) := (blk_cell BK122.out 2).trans rfl
                                have hcz45_3 : wc.cell? ⟨gb122, 3, none⟩ = some (.int .i64 a0_3) := (blk_cell BK122.out 3).trans rfl
                                have hcz45_4 : wc.cell? ⟨gb122, 4, none⟩ = some (.string a0_4) := (blk_cell BK122.out 4).trans rfl
                                have hfz45_0 := blk_frozen BK122.out 0
                                have hfz45_1 := blk_frozen BK122.out 1
                                have hfz45_2 := blk_frozen BK122.out 2
                                have hfz45_3 := blk_frozen BK122.out 3
                                have hfz45_4 := blk_frozen BK122.out 4
                                go_wp2
                                go_ret
                                exact ⟨by first | rfl | (simp [errW_none, errW_some] <;> rfl) | (simp [*, errW_none, errW_some] <;> rfl), by repeat (first | (with_reducible first | exact HB.out | apply below_alloc | apply pw_below_drewN | apply below_drew1 | refine below_set ?_ GE122.out) | exact HB.out)⟩
                              · rw [if_neg c44] at H
                                have c44b0 : ((a0_4.size : Int) == (wrap64 (a0_3 - (wrap64 ((wrap64 (Int.tdiv (wrap64 (a0_3 - (a0_4.size : Int))) (wrap64 (a0_2 - 1)))) * (wrap64 (a0_2 - 1))))))) = false := beq_eq_false_iff_ne.mpr c44
                                have c44b1 : ((a0_4.size : Int) != (wrap64 (a0_3 - (wrap64 ((wrap64 (Int.tdiv (wrap64 (a0_3 - (a0_4.size : Int))) (wrap64 (a0_2 - 1)))) * (wrap64 (a0_2 - 1))))))) = true := bne_iff_ne.mpr c44
                                obtain rfl := Option.some.inj H
                                have hcz46_0 : wc.cell? ⟨gb122, 0, none⟩ = some (.int .i64 a0_0) := (blk_cell BK122.out 0).trans rfl
                                have hcz46_1 : wc.cell? ⟨gb122, 1, none⟩ = some (.int .i64 a0_1) := (blk_cell BK122.out 1).trans rfl
                                have hcz46_2 : wc.cell? ⟨gb122, 2, none⟩ = some (.int .i64 a0_2) := (blk_cell BK122.out 2).trans rfl
                                have hcz46_3 : wc.cell? ⟨gb122, 3, none⟩ = some (.int .i64 a0_3) := (blk_cell BK122.out 3).trans rfl
                                have hcz46_4 : wc.cell? ⟨gb122, 4, none⟩ = some (.string a0_4) := (blk_cell BK122.out 4).trans rfl
                                have hfz46_0 := blk_frozen BK122.out 0
                                have hfz46_1 := blk_frozen BK122.out 1
                                have hfz46_2 := blk_frozen BK122.out 2
                                have hfz46_3 := blk_frozen BK122.out 3
                                have hfz46_4 := blk_frozen BK122.out 4
                                go_wp2
                                go_ret
                                exact ⟨by first | rfl | (simp [errW_none, errW_some] <;> rfl) | (simp [*, errW_none, errW_some] <;> rfl), by repeat (first | (with_reducible first | exact HB.out | apply below_alloc | apply pw_below_drewN | apply below_drew1 | refine below_set ?_ GE122.out) | exact HB.out)⟩
                            · rw [if_neg c43] at H
                              have c43b0 : (a0_1 == (wrap64 (a0_2 - 1))) = false := beq_eq_false_iff_ne.mpr c43
                              have c43b1 : (a0_1 != (wrap64 (a0_2 - 1))) = true := bne_iff_ne.mpr c43
                              obtain rfl := Option.some.inj H
                              have hcz47_0 : wc.cell? ⟨gb122, 0, none⟩ = some (.int .i64 a0_0) := (blk_cell BK122.out 0).trans rfl
                              have hcz47_1 : wc.cell? ⟨gb122, 1, none⟩ = some (.int .i64 a0_1) := (blk_cell BK122.out 1).trans rfl
                              have hcz47_2 : wc.cell? ⟨gb122, 2, none⟩ = some (.int .i64 a0_2) := (blk_cell BK122.out 2).trans rfl
                              have hcz47_3 : wc.cell? ⟨gb122, 3, none⟩ = some (.int .i64 a0_3) := (blk_cell BK122.out 3).trans rfl
                              have hcz47_4 : wc.cell? ⟨gb122, 4, none⟩ = some (.string a0_4) := (blk_cell BK122.out 4).trans rfl
                              have hfz47_0 := blk_frozen BK122.out 0
                              have hfz47_1 := blk_frozen BK122.out 1
                              have hfz47_2 := blk_frozen BK122.out 2
                              have hfz47_3 := blk_frozen BK122.out 3
                              have hfz47_4 := blk_frozen BK122.out 4
                              go_wp2
                              go_ret
                              exact ⟨by first | rfl | (simp [errW_none, errW_some] <;> rfl) | (simp [*, errW_none, errW_some] <;> rfl), by repeat (first | (with_reducible first | exact HB.out | apply below_alloc | apply pw_below_drewN | apply below_drew1 | refine below_set ?_ GE122.out) | exact HB.out)⟩
          · rw [if_neg c26] at H
            have c26b0 : (a0_1 == (wrap64 (a0_2 - 1))) = false := beq_eq_false_iff_ne.mpr c26
            have c26b1 : (a0_1 != (wrap64 (a0_2 - 1))) = true := bne_iff_ne.mpr c26
            by_cases c48 : (a0_4.size : Int) < 1
            · rw [if_pos c48] at H
              have c48b0 : decide ((a0_4.size : Int) < 1) = true := decide_eq_true c48
              have c48b1 : decide (a0_4.size < 1) = true := decide_eq_true (by omega)
              clear c48
              obtain rfl := Option.some.inj H
              have hcz49_0 : wc.cell? ⟨gb122, 0, none⟩ = some (.int .i64 a0_0) := (blk_cell BK122.out 0).trans rfl
              have hcz49_1 : wc.cell? ⟨gb122, 1, none⟩ = some (.int .i64 a0_1) := (blk_cell BK122.out 1).trans rfl
              have hcz49_2 : wc.cell? ⟨gb122, 2, none⟩ = some (.int .i64 a0_2) := (blk_cell BK122.out 2).trans rfl
              have hcz49_3 : wc.cell? ⟨gb122, 3, none⟩ = some (.int .i64 a0_3) := (blk_cell BK122.out 3).trans rfl
              have hcz49_4 : wc.cell? ⟨gb122, 4, none⟩ = some (.string a0_4) := (blk_cell BK122.out 4).trans rfl
              have hfz49_0 := blk_frozen BK122.out 0
              have hfz49_1 := blk_frozen BK122.out 1
              have hfz49_2 := blk_frozen BK122.out 2
              have hfz49_3 := blk_frozen BK122.out 3
              have hfz49_4 := blk_frozen BK122.out 4
              go_wp2
              go_ret
              exact ⟨by first | rfl | (simp [errW_none, errW_some] <;> rfl) | (simp [*, errW_none, errW_some] <;> rfl), by repeat (first | (with_reducible first | exact HB.out | apply below_alloc | apply pw_below_drewN | apply below_drew1 | refine below_set ?_ GE122.out) | exact HB.out)⟩
            · rw [if_neg c48] at H
              have c48b0 : decide ((a0_4.size : Int) < 1) = false := decide_eq_false c48
              have c48b1 : decide (a0_4.size < 1) = false := decide_eq_false (by omega)
              clear c48
              by_cases c50 : (a0_4.size : Int) > 120
              · rw [if_pos c50] at H
                have c50b0 : decide (120 < (a0_4.size : Int)) = true := decide_eq_true c50
                have c50b1 : decide (120 < a0_4.size) = true := decide_eq_true (by omega)
                clear c50
                obtain rfl := Option.some.inj H
                have hcz51_0 : wc.cell? ⟨gb122, 0, none⟩ = some (.int .i64 a0_0) := (blk_cell BK122.out 0).trans rfl
                have hcz51_1 : wc.cell? ⟨gb122, 1, none⟩ = some (.int .i64 a0_1) := (blk_cell BK122.out 1).trans rfl
                have hcz51_2 : wc.cell? ⟨gb122, 2, none⟩ = some (.int .i64 a0_2) := (blk_cell BK122.out 2).trans rfl
                have hcz51_3 : wc.cell? ⟨gb122, 3, none⟩ = some (.int .i64 a0_3) := (blk_cell BK122.out 3).trans rfl
                have hcz51_4 : wc.cell? ⟨gb122, 4, none⟩ = some (.string a0_4) := (blk_cell BK122.out 4).trans rfl
                have hfz51_0 := blk_frozen BK122.out 0
                have hfz51_1 := blk_frozen BK122.out 1
                have hfz51_2 := blk_frozen BK122.out 2
                have hfz51_3 := blk_frozen BK122.out 3
                have hfz51_4 := blk_frozen BK122.out 4
                go_wp2
                go_ret
                exact ⟨by first | rfl | (simp [errW_none, errW_some] <;> rfl) | (simp [*, errW_none, errW_some] <;> rfl), by repeat (first | (with_reducible first | exact HB.out | apply below_alloc | apply pw_below_drewN | apply below_drew1 | refine below_set ?_ GE122.out) | exact HB.out)⟩
              · rw [if_neg c50] at H
                have c50b0 : decide (120 < (a0_4.size : Int)) = false := decide_eq_false c50
                have c50b1 : decide (120 < a0_4.size) = false := decide_eq_false (by omega)
                clear c50
                by_cases c52 : (wrap64 (a0_3 - (wrap64 ((a0_4.size : Int) * (wrap64 (a0_2 - 1)))))) < 1
                · rw [if_pos c52] at H
                  have c52b0 : decide ((wrap64 (a0_3 - (wrap64 ((a0_4.size : Int) * (wrap64 (a0_2 - 1)))))) < 1) = true := decide_eq_true c52
                  clear c52
                  obtain rfl := Option.some.inj H
                  have hcz53_0 : wc.cell? ⟨gb122, 0, none⟩ = some (.int .i64 a0_0) := (blk_cell BK122.out 0).trans rfl
                  have hcz53_1 : wc.cell? ⟨gb122, 1, none⟩ = some (.int .i64 a0_1) := (blk_cell BK122.out 1).trans rfl
                  have hcz53_2 : wc.cell? ⟨gb122, 2, none⟩ = some (.int .i64 a0_2) := (blk_cell BK122.out 2).trans rfl
                  have hcz53_3 : wc.cell? ⟨gb122, 3, none⟩ = some (.int .i64 a0_3) := (blk_cell BK122.out 3).trans rfl
                  have hcz53_4 : wc.cell? ⟨gb122, 4, none⟩ = some (.string a0_4) := (blk_cell BK122.out 4).trans rfl
                  have hfz53_0 := blk_frozen BK122.out 0
                  have hfz53_1 := blk_frozen BK122.out 1
                  have hfz53_2 := blk_frozen BK122.out 2
                  have hfz53_3 := blk_frozen BK122.out 3
                  have hfz53_4 := blk_frozen BK122.out 4
                  go_wp2
                  go_ret
                  exact ⟨by first | rfl | (simp [errW_none, errW_some] <;> rfl) | (simp [*, errW_none, errW_some] <;> rfl), by repeat (first | (with_reducible first | exact HB.out | apply below_alloc | apply pw_below_drewN | apply below_drew1 | refine below_set ?_ GE122.out) | exact HB.out)⟩
                · rw [if_neg c52] at H
                  have c52b0 : decide ((wrap64 (a0_3 - (wrap64 ((a0_4.size : Int) * (wrap64 (a0_2 - 1)))))) < 1) = false := decide_eq_false c52
                  clear c52
                  by_cases c54 : (wrap64 (a0_3 - (wrap64 ((a0_4.size : Int) * (wrap64 (a0_2 - 1)))))) > (a0_4.size : Int)
                  · rw [if_pos c54] at H
                    have c54b0 : decide ((a0_4.size : Int) < (wrap64 (a0_3 - (wrap64 ((a0_4.size : Int) * (wrap64 (a0_2 - 1))))))) = true := decide_eq_true c54
                    clear c54
                    obtain rfl := Option.some.inj H
                    have hcz55_0 : wc.cell? ⟨gb122, 0, none⟩ = some (.int .i64 a0_0) := (blk_cell BK122.out 0).trans rfl
                    have hcz55_1 : wc.cell? ⟨gb122, 1, none⟩ = some (.int .i64 a0_1) := (blk_cell BK122.out 1).trans rfl
                    have hcz55_2 : wc.cell? ⟨gb122, 2, none⟩ = some (.int .i64 a0_2) := (blk_cell BK122.out 2).trans rfl
                    have hcz55_3 : wc.cell? ⟨gb122, 3, none⟩ = some (.int .i64 a0_3) := (blk_cell BK122.out 3).trans rfl
                    have hcz55_4 : wc.cell? ⟨gb122, 4, none⟩ = some (.string a0_4) := (blk_cell BK122.out 4).trans rfl
                    have hfz55_0 := blk_frozen BK122.out 0
                    have hfz55_1 := blk_frozen BK122.out 1
                    have hfz55_2 := blk_frozen BK122.out 2
                    have hfz55_3 := blk_frozen BK122.out 3
                    have hfz55_4 := blk_frozen BK122.out 4
                    go_wp2
                    go_ret
                    exact ⟨by first | rfl | (simp [errW_none, errW_some] <;> rfl) | (simp [*, errW_none, errW_some] <;> rfl), by repeat (first | (with_reducible first | exact HB.out | apply below_alloc | apply pw_below_drewN | apply below_drew1 | refine below_set ?_ GE122.out) | exact HB.out)⟩
                  · rw [if_neg c54] at H
                    have c54b0 : decide ((a0_4.size : Int) < (wrap64 (a0_3 - (wrap64 ((a0_4.size : Int) * (wrap64 (a0_2 - 1))))))) = false := decide_eq_false c54
                    clear c54
                    obtain rfl := Option.some.inj H
                    have hcz56_0 : wc.cell? ⟨gb122, 0, none⟩ = some (.int .i64 a0_0) := (blk_cell BK122.out 0).trans rfl
                    have hcz56_1 : wc.cell? ⟨gb122, 1, none⟩ = some (.int .i64 a0_1) := (blk_cell BK122.out 1).trans rfl
                    have hcz56_2 : wc.cell? ⟨gb122, 2, none⟩ = some (.int .i64 a0_2) := (blk_cell BK122.out 2).trans rfl
                    have hcz56_3 : wc.cell? ⟨gb122, 3, none⟩ = some (.int .i64 a0_3) := (blk_cell BK122.out 3).trans rfl
                    have hcz56_4 : wc.cell? ⟨gb122, 4, none⟩ = some (.string a0_4) := (blk_cell BK122.out 4).trans rfl
                    have hfz56_0 := blk_frozen BK122.out 0
                    have hfz56_1 := blk_frozen BK122.out 1
                    have hfz56_2 := blk_frozen BK122.out 2
                    have hfz56_3 := blk_frozen BK122.out 3
                    have hfz56_4 := blk_frozen BK122.out 4
                    go_wp2
                    go_ret
                    exact ⟨by first | rfl | (simp [errW_none, errW_some] <;> rfl) | (simp [*, errW_none, errW_some] <;> rfl), by repeat (first | (with_reducible first | exact HB.out | apply below_alloc | apply pw_below_drewN | apply below_drew1 | refine below_set ?_ GE122.out) | exact HB.out)⟩

end Go.Proofs.Ytokapofgbcbajaa.Fns
