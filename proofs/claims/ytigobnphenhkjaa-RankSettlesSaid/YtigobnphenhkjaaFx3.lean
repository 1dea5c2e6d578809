-- Written by the kit's print.py over this seat's translation (run by wip/gprint.py); a text of this claim.
import Derived.Test.YtigobnphenhkjaaFx0
import Derived.Test.YtigobnphenhkjaaFx2
namespace Go.Proofs.Ytigobnphenhkjaa.Fns
open Go.RowKit Go.Proofs.YtigobnphenhkjaaW.PrintWords Go.Proofs.YtigobnphenhkjaaW.PrintLast Go.Proofs.YtigobnphenhkjaaW.PrintMore
attribute [local go_sem] max2_int min2_int max_two min_two max_three min_three max_four min_four   -- for this text's walks alone
set_option linter.unusedVariables false
set_option linter.unusedSimpArgs false

/-! ### rank_Check: function 13 -/
mutual
def rank_Check.j0 : Nat → Bool → Int → Int → Int → Int → Int → Int → Option (Int)
  | 0, _, _, _, _, _, _, _ => none
  | k + 1, x3, x105000, x105001, x105002, x105003, x105004, x105005 => (rank_node.f x105000).bind fun t106 => (if t106 = true then ((rank_within.f x105001 0 65535).bind fun t107 => (if t107 = true then (rank_Check.j1 k (!x3) x105000 x105001 x105002 x105003 x105004 x105005) else (rank_Check.j1 k true x105000 x105001 x105002 x105003 x105004 x105005))) else (rank_Check.j1 k true x105000 x105001 x105002 x105003 x105004 x105005))
def rank_Check.j1 : Nat → Bool → Int → Int → Int → Int → Int → Int → Option (Int)
  | 0, _, _, _, _, _, _, _ => none
  | k + 1, x31, x105000, x105001, x105002, x105003, x105004, x105005 => if x31 = true then (some 2) else (if x105000 = 0 then (if x105001 ≥ 1 then (if x105002 = (-1) then (if x105003 = 0 then (if x105004 = 0 then (if x105005 = 0 then (some 0) else (if x105005 = 65535 then (some 0) else (some 1))) else (some 1)) else (some 1)) else (some 1)) else (some 1)) else (if x105002 = (-1) then (if x105003 = 65535 then (if x105004 = 65535 then (if x105001 > 0 then (some 0) else (if x105005 = 65535 then (some 0) else (some 1))) else (some 1)) else (some 1)) else ((rank_node.f x105002).bind fun t108 => (if t108 = true then (if x105002 = x105000 then (some 1) else (if x105001 ≥ 1 then (if x105003 ≥ 0 then (if x105003 < x105004 then (if x105003 < x105005 then (if x105004 < 65535 then (some 0) else (some 1)) else (some 1)) else (some 1)) else (some 1)) else (some 1))) else (some 1)))))
end
def rank_Check.f (k : Nat) (a0_0 : Int) (a0_1 : Int) (a0_2 : Int) (a0_3 : Int) (a0_4 : Int) (a0_5 : Int) : Option (Int) := (rank_within.f a0_5 1 65535).bind fun t105 => (if t105 = true then (rank_Check.j0 k true a0_0 a0_1 a0_2 a0_3 a0_4 a0_5) else (if a0_0 = 0 then (rank_Check.j0 k (a0_5 == 0) a0_0 a0_1 a0_2 a0_3 a0_4 a0_5) else (rank_Check.j0 k false a0_0 a0_1 a0_2 a0_3 a0_4 a0_5)))
theorem rank_Check.mono_l : ∀ k, (∀ y0 y1 y2 y3 y4 y5 y6, LeO (rank_Check.j0 k y0 y1 y2 y3 y4 y5 y6) (rank_Check.j0 (k + 1) y0 y1 y2 y3 y4 y5 y6)) ∧ (∀ y0 y1 y2 y3 y4 y5 y6, LeO (rank_Check.j1 k y0 y1 y2 y3 y4 y5 y6) (rank_Check.j1 (k + 1) y0 y1 y2 y3 y4 y5 y6))
  | 0 => ⟨fun _ _ _ _ _ _ _ r h => by simp [rank_Check.j0] at h, fun _ _ _ _ _ _ _ r h => by simp [rank_Check.j1] at h⟩
  | k + 1 => by
    obtain ⟨ih0, ih1⟩ := rank_Check.mono_l k
    refine ⟨?_, ?_⟩
    · intro y0 y1 y2 y3 y4 y5 y6
      unfold rank_Check.j0
      repeat' first
      | (with_reducible exact ih0 _ _ _ _ _ _ _)
      | (with_reducible exact ih1 _ _ _ _ _ _ _)
      | (with_reducible exact LeO.refl _)
      | (with_reducible exact LeO.none _)
      | (with_reducible refine LeO.ite ?_ ?_)
      | (with_reducible refine LeO.bind ?_ (fun _ => ?_))
      | exact ih0 _ _ _ _ _ _ _
      | exact ih1 _ _ _ _ _ _ _
      | exact LeO.none _
      | refine LeO.ite ?_ ?_
      | refine LeO.bind ?_ (fun _ => ?_)
    · intro y0 y1 y2 y3 y4 y5 y6
      unfold rank_Check.j1
      repeat' first
      | (with_reducible exact ih0 _ _ _ _ _ _ _)
      | (with_reducible exact ih1 _ _ _ _ _ _ _)
      | (with_reducible exact LeO.refl _)
      | (with_reducible exact LeO.none _)
      | (with_reducible refine LeO.ite ?_ ?_)
      | (with_reducible refine LeO.bind ?_ (fun _ => ?_))
      | exact ih0 _ _ _ _ _ _ _
      | exact ih1 _ _ _ _ _ _ _
      | exact LeO.none _
      | refine LeO.ite ?_ ?_
      | refine LeO.bind ?_ (fun _ => ?_)
theorem rank_Check.mono : ∀ a0 a1 a2 a3 a4 a5 k, LeO (rank_Check.f k a0 a1 a2 a3 a4 a5) (rank_Check.f (k + 1) a0 a1 a2 a3 a4 a5) := by
  intro a0 a1 a2 a3 a4 a5 k
  obtain ⟨ih0, ih1⟩ := rank_Check.mono_l k
  unfold rank_Check.f
  repeat' first
      | (with_reducible exact ih0 _ _ _ _ _ _ _)
      | (with_reducible exact ih1 _ _ _ _ _ _ _)
      | (with_reducible exact LeO.refl _)
      | (with_reducible exact LeO.none _)
      | (with_reducible refine LeO.ite ?_ ?_)
      | (with_reducible refine LeO.bind ?_ (fun _ => ?_))
      | exact ih0 _ _ _ _ _ _ _
      | exact ih1 _ _ _ _ _ _ _
      | exact LeO.none _
      | refine LeO.ite ?_ ?_
      | refine LeO.bind ?_ (fun _ => ?_)
set_option maxHeartbeats 8000000 in
set_option maxRecDepth 100000 in
theorem rank_Check.calls (k : Nat) (a0_0 : Int) (a0_1 : Int) (a0_2 : Int) (a0_3 : Int) (a0_4 : Int) (a0_5 : Int) (r : Int) (w : World) (h : rank_Check.f k a0_0 a0_1 a0_2 a0_3 a0_4 a0_5 = some r) :
    Calls Try.prog 13 #[.agg #[.int .i64 a0_0, .int .i64 a0_1, .int .i64 a0_2, .int .i64 a0_3, .int .i64 a0_4, .int .i64 a0_5]] w fun e w' => e = .returned (.int .i64 r) ∧ Below w.heap.size w w' := by
  have hu23 := Try.underlying23
  have HB := Aside0.mk (Below.refl w.heap.size w)
  have H : ((rank_within.f a0_5 1 65535).bind fun t105 => (if t105 = true then (rank_Check.j0 k true a0_0 a0_1 a0_2 a0_3 a0_4 a0_5) else (if a0_0 = 0 then (rank_Check.j0 k (a0_5 == 0) a0_0 a0_1 a0_2 a0_3 a0_4 a0_5) else (rank_Check.j0 k false a0_0 a0_1 a0_2 a0_3 a0_4 a0_5)))) = some r := h
  clear h
  have HC2 := Aside0.mk H
  clear H
  go_enter Try.func13, Try.ntmps13
  go_upto_region 1 with (first | ((with_reducible refine gate_dst (N := 1) rfl ?_); refine box_event ?hg (N := 1) ?hd (cs := #[.int .i64 a0_0, .int .i64 a0_1, .int .i64 a0_2, .int .i64 a0_3, .int .i64 a0_4, .int .i64 a0_5]) (t := 23) ?hr ?_; (case hd => rfl); (case hg => rfl); (case hr => first | (go_simp; done) | (go_simp; rfl)); intro gb104 hg w3 hbox hb; have n0_ := Aside0.mk (below_step (by repeat (first | (with_reducible first | exact HB.out | apply below_alloc | apply pw_below_drewN | apply below_drew1) | exact HB.out)) hb); have n1_ := Aside0.mk (hbox); have n2_ := Aside0.mk ((by rw [hg]; exact (below_size (by repeat (first | (with_reducible first | exact HB.out | apply below_alloc | apply pw_below_drewN | apply below_drew1) | exact HB.out))) : w.heap.size ≤ gb104)); have n3_ := Aside0.mk ((by rw [hg]; exact (below_size (by repeat (first | (with_reducible first | exact HB.out | apply below_alloc | apply pw_below_drewN | apply below_drew1) | exact HB.out))) : w.heap.size ≤ gb104)); clear HB; have HB := n0_; have BK104 := n1_; have GW104 := n2_; have GE104 := n3_; clear n0_ n1_ n2_ n3_; clear hb hbox hg))
  (try simp only [Act.put, List.setIfInBounds_toArray, List.set_cons_zero, List.set_cons_succ])
  go_cut [3] (fun v3 wc => ∃ (kq : Nat) (x3_1 : Bool), v3 = .bool x3_1 ∧ Aside0 (rank_Check.j0 kq x3_1 a0_0 a0_1 a0_2 a0_3 a0_4 a0_5 = some r) ∧ Aside0 (kq ≤ k) ∧ Aside0 (wc.heap[gb104]? = some (.cells #[.int .i64 a0_0, .int .i64 a0_1, .int .i64 a0_2, .int .i64 a0_3, .int .i64 a0_4, .int .i64 a0_5] 23 (0, 0))) ∧ Aside0 (Below w.heap.size w wc))
  case first =>
    have H := HC2.out
    clear HC2
    replace H := Option.bind_eq_some_iff.mp H
    obtain ⟨t105, A40, H⟩ := H
    replace H : (if t105 = true then (rank_Check.j0 k true a0_0 a0_1 a0_2 a0_3 a0_4 a0_5) else (if a0_0 = 0 then (rank_Check.j0 k (a0_5 == 0) a0_0 a0_1 a0_2 a0_3 a0_4 a0_5) else (rank_Check.j0 k false a0_0 a0_1 a0_2 a0_3 a0_4 a0_5))) = some r := H
    have A4 := Aside0.mk A40
    clear A40
    by_cases c5 : t105 = true
    · subst c5
      have H1 : (rank_Check.j0 k true a0_0 a0_1 a0_2 a0_3 a0_4 a0_5) = some r := by rw [if_pos rfl] at H; exact H
      clear H
      have H := H1
      clear H1
      have H' := Aside0.mk H
      clear H
      have hcz6_0 : w3.cell? ⟨gb104, 0, none⟩ = some (.int .i64 a0_0) := (blk_cell BK104.out 0).trans rfl
      have hcz6_1 : w3.cell? ⟨gb104, 1, none⟩ = some (.int .i64 a0_1) := (blk_cell BK104.out 1).trans rfl
      have hcz6_2 : w3.cell? ⟨gb104, 2, none⟩ = some (.int .i64 a0_2) := (blk_cell BK104.out 2).trans rfl
      have hcz6_3 : w3.cell? ⟨gb104, 3, none⟩ = some (.int .i64 a0_3) := (blk_cell BK104.out 3).trans rfl
      have hcz6_4 : w3.cell? ⟨gb104, 4, none⟩ = some (.int .i64 a0_4) := (blk_cell BK104.out 4).trans rfl
      have hcz6_5 : w3.cell? ⟨gb104, 5, none⟩ = some (.int .i64 a0_5) := (blk_cell BK104.out 5).trans rfl
      have hfz6_0 := blk_frozen BK104.out 0
      have hfz6_1 := blk_frozen BK104.out 1
      have hfz6_2 := blk_frozen BK104.out 2
      have hfz6_3 := blk_frozen BK104.out 3
      have hfz6_4 := blk_frozen BK104.out 4
      have hfz6_5 := blk_frozen BK104.out 5
      go_wp2_with (first | ((with_reducible refine gate_callee (f := 36) rfl ?_); refine goesL_ (some 7) rfl rfl Try.func36 (by kernel_rfl) rfl #[.int .i64 a0_5, .int .i64 1, .int .i64 65535] rfl (by (try simp only [List.map_toArray, List.map_cons, List.map_nil]); first | done | rfl | (simp only [List.length_drop, List.length_take]; rfl)) ?_; (with_reducible refine (rank_within.calls a0_5 1 65535 true _ A4.out).mono ?_); rintro e w' ⟨rfl, ⟨nd, rfl⟩⟩; refine ⟨_, rfl, ?_⟩))
      go_meet
      case rel => exact ⟨_, (true), (by first | rfl | (simp; done) | (simp [*]; done)), H', ⟨by first | omega | exact Nat.le_refl _⟩, ⟨by (with_reducible repeat (first | refine blk_drewN ?_ _ | refine blk_drew ?_ | refine blk_alloc ?_ _)); exact BK104.out⟩, ⟨by repeat (first | (with_reducible first | exact HB.out | apply below_alloc | apply pw_below_drewN | apply below_drew1 | refine below_set ?_ GE104.out) | exact HB.out)⟩⟩
    · replace c5 := Bool.eq_false_iff.mpr c5
      subst c5
      have H1 : (if a0_0 = 0 then (rank_Check.j0 k (a0_5 == 0) a0_0 a0_1 a0_2 a0_3 a0_4 a0_5) else (rank_Check.j0 k false a0_0 a0_1 a0_2 a0_3 a0_4 a0_5)) = some r := by rw [if_neg (show ¬ (false = true) by decide)] at H; exact H
      clear H
      have H := H1
      clear H1
      by_cases c7 : a0_0 = 0
      · rw [if_pos c7] at H
        have c7b0 : (a0_0 == 0) = true := beq_iff_eq.mpr c7
        have c7b1 : (a0_0 != 0) = false := bne_eq_false_iff_eq.mpr c7
        clear c7
        (first | rw [c7b0] | (simp only [i64_w, i32_w]; rw [c7b0]) | skip)
        have H' := Aside0.mk H
        clear H
        have hcz8_0 : w3.cell? ⟨gb104, 0, none⟩ = some (.int .i64 a0_0) := (blk_cell BK104.out 0).trans rfl
        have hcz8_1 : w3.cell? ⟨gb104, 1, none⟩ = some (.int .i64 a0_1) := (blk_cell BK104.out 1).trans rfl
        have hcz8_2 : w3.cell? ⟨gb104, 2, none⟩ = some (.int .i64 a0_2) := (blk_cell BK104.out 2).trans rfl
        have hcz8_3 : w3.cell? ⟨gb104, 3, none⟩ = some (.int .i64 a0_3) := (blk_cell BK104.out 3).trans rfl
        have hcz8_4 : w3.cell? ⟨gb104, 4, none⟩ = some (.int .i64 a0_4) := (blk_cell BK104.out 4).trans rfl
        have hcz8_5 : w3.cell? ⟨gb104, 5, none⟩ = some (.int .i64 a0_5) := (blk_cell BK104.out 5).trans rfl
        have hfz8_0 := blk_frozen BK104.out 0
        have hfz8_1 := blk_frozen BK104.out 1
        have hfz8_2 := blk_frozen BK104.out 2
        have hfz8_3 := blk_frozen BK104.out 3
        have hfz8_4 := blk_frozen BK104.out 4
        have hfz8_5 := blk_frozen BK104.out 5
        go_wp2_with (first | ((with_reducible refine gate_callee (f := 36) rfl ?_); refine goesL_ (some 7) rfl rfl Try.func36 (by kernel_rfl) rfl #[.int .i64 a0_5, .int .i64 1, .int .i64 65535] rfl (by (try simp only [List.map_toArray, List.map_cons, List.map_nil]); first | done | rfl | (simp only [List.length_drop, List.length_take]; rfl)) ?_; (with_reducible refine (rank_within.calls a0_5 1 65535 false _ A4.out).mono ?_); rintro e w' ⟨rfl, ⟨nd, rfl⟩⟩; refine ⟨_, rfl, ?_⟩))
        go_meet
        case rel => exact ⟨_, ((a0_5 == 0)), (by first | rfl | (simp; done) | (simp [*]; done)), H', ⟨by first | omega | exact Nat.le_refl _⟩, ⟨by (with_reducible repeat (first | refine blk_drewN ?_ _ | refine blk_drew ?_ | refine blk_alloc ?_ _)); exact BK104.out⟩, ⟨by repeat (first | (with_reducible first | exact HB.out | apply below_alloc | apply pw_below_drewN | apply below_drew1 | refine below_set ?_ GE104.out) | exact HB.out)⟩⟩
      · rw [if_neg c7] at H
        have c7b0 : (a0_0 == 0) = false := beq_eq_false_iff_ne.mpr c7
        have c7b1 : (a0_0 != 0) = true := bne_iff_ne.mpr c7
        (first | rw [c7b0] | (simp only [i64_w, i32_w]; rw [c7b0]) | skip)
        have H' := Aside0.mk H
        clear H
        have hcz9_0 : w3.cell? ⟨gb104, 0, none⟩ = some (.int .i64 a0_0) := (blk_cell BK104.out 0).trans rfl
        have hcz9_1 : w3.cell? ⟨gb104, 1, none⟩ = some (.int .i64 a0_1) := (blk_cell BK104.out 1).trans rfl
        have hcz9_2 : w3.cell? ⟨gb104, 2, none⟩ = some (.int .i64 a0_2) := (blk_cell BK104.out 2).trans rfl
        have hcz9_3 : w3.cell? ⟨gb104, 3, none⟩ = some (.int .i64 a0_3) := (blk_cell BK104.out 3).trans rfl
        have hcz9_4 : w3.cell? ⟨gb104, 4, none⟩ = some (.int .i64 a0_4) := (blk_cell BK104.out 4).trans rfl
        have hcz9_5 : w3.cell? ⟨gb104, 5, none⟩ = some (.int .i64 a0_5) := (blk_cell BK104.out 5).trans rfl
        have hfz9_0 := blk_frozen BK104.out 0
        have hfz9_1 := blk_frozen BK104.out 1
        have hfz9_2 := blk_frozen BK104.out 2
        have hfz9_3 := blk_frozen BK104.out 3
        have hfz9_4 := blk_frozen BK104.out 4
        have hfz9_5 := blk_frozen BK104.out 5
        go_wp2_with (first | ((with_reducible refine gate_callee (f := 36) rfl ?_); refine goesL_ (some 7) rfl rfl Try.func36 (by kernel_rfl) rfl #[.int .i64 a0_5, .int .i64 1, .int .i64 65535] rfl (by (try simp only [List.map_toArray, List.map_cons, List.map_nil]); first | done | rfl | (simp only [List.length_drop, List.length_take]; rfl)) ?_; (with_reducible refine (rank_within.calls a0_5 1 65535 false _ A4.out).mono ?_); rintro e w' ⟨rfl, ⟨nd, rfl⟩⟩; refine ⟨_, rfl, ?_⟩))
        go_meet
        case rel => exact ⟨_, (false), (by first | rfl | (simp; done) | (simp [*]; done)), H', ⟨by first | omega | exact Nat.le_refl _⟩, ⟨by (with_reducible repeat (first | refine blk_drewN ?_ _ | refine blk_drew ?_ | refine blk_alloc ?_ _)); exact BK104.out⟩, ⟨by repeat (first | (with_reducible first | exact HB.out | apply below_alloc | apply pw_below_drewN | apply below_drew1 | refine below_set ?_ GE104.out) | exact HB.out)⟩⟩
  case rest =>
    clear HC2
    try clear c1
    try clear p2
    try clear c3
    try clear c5
    try clear c7
    try clear c7b0
    try clear c7b1
    try clear hcz6_0
    try clear hcz6_1
    try clear hcz6_2
    try clear hcz6_3
    try clear hcz6_4
    try clear hcz6_5
    try clear hcz8_0
    try clear hcz8_1
    try clear hcz8_2
    try clear hcz8_3
    try clear hcz8_4
    try clear hcz8_5
    try clear hcz9_0
    try clear hcz9_1
    try clear hcz9_2
    try clear hcz9_3
    try clear hcz9_4
    try clear hcz9_5
    try clear hfz6_0
    try clear hfz6_1
    try clear hfz6_2
    try clear hfz6_3
    try clear hfz6_4
    try clear hfz6_5
    try clear hfz8_0
    try clear hfz8_1
    try clear hfz8_2
    try clear hfz8_3
    try clear hfz8_4
    try clear hfz8_5
    try clear hfz9_0
    try clear hfz9_1
    try clear hfz9_2
    try clear hfz9_3
    try clear hfz9_4
    try clear hfz9_5
    obtain ⟨kq, x3_1, rfl, HA, HJ1, BK104, HB⟩ := hcut
    cases kq with
    | zero => exact absurd HA.out (by simp [rank_Check.j0])
    | succ kj1 =>
      have H := HA.out
      clear HA
      simp only [rank_Check.j0] at H
      have HC10 := Aside0.mk H
      clear H
      go_upto_region 2 with (fail)
      go_cut [31] (fun v31 wc => ∃ (kq : Nat) (x31_9 : Bool), v31 = .bool x31_9 ∧ Aside0 (rank_Check.j1 kq x31_9 a0_0 a0_1 a0_2 a0_3 a0_4 a0_5 = some r) ∧ Aside0 (kq ≤ kj1) ∧ Aside0 (wc.heap[gb104]? = some (.cells #[.int .i64 a0_0, .int .i64 a0_1, .int .i64 a0_2, .int .i64 a0_3, .int .i64 a0_4, .int .i64 a0_5] 23 (0, 0))) ∧ Aside0 (Below w.heap.size w wc))
      case first =>
        have H := HC10.out
        clear HC10
        replace H := Option.bind_eq_some_iff.mp H
        obtain ⟨t106, A110, H⟩ := H
        replace H : (if t106 = true then ((rank_within.f a0_1 0 65535).bind fun t107 => (if t107 = true then (rank_Check.j1 kj1 (!x3_1) a0_0 a0_1 a0_2 a0_3 a0_4 a0_5) else (rank_Check.j1 kj1 true a0_0 a0_1 a0_2 a0_3 a0_4 a0_5))) else (rank_Check.j1 kj1 true a0_0 a0_1 a0_2 a0_3 a0_4 a0_5)) = some r := H
        have A11 := Aside0.mk A110
        clear A110
        by_cases c12 : t106 = true
        · subst c12
          have H1 : ((rank_within.f a0_1 0 65535).bind fun t107 => (if t107 = true then (rank_Check.j1 kj1 (!x3_1) a0_0 a0_1 a0_2 a0_3 a0_4 a0_5) else (rank_Check.j1 kj1 true a0_0 a0_1 a0_2 a0_3 a0_4 a0_5))) = some r := by rw [if_pos rfl] at H; exact H
          clear H
          have H := H1
          clear H1
          replace H := Option.bind_eq_some_iff.mp H
          obtain ⟨t107, A130, H⟩ := H
          replace H : (if t107 = true then (rank_Check.j1 kj1 (!x3_1) a0_0 a0_1 a0_2 a0_3 a0_4 a0_5) else (rank_Check.j1 kj1 true a0_0 a0_1 a0_2 a0_3 a0_4 a0_5)) = some r := H
          have A13 := Aside0.mk A130
          clear A130
          by_cases c14 : t107 = true
          · subst c14
            have H1 : (rank_Check.j1 kj1 (!x3_1) a0_0 a0_1 a0_2 a0_3 a0_4 a0_5) = some r := by rw [if_pos rfl] at H; exact H
            clear H
            have H := H1
            clear H1
            have H' := Aside0.mk H
            clear H
            have hcz15_0 : wc.cell? ⟨gb104, 0, none⟩ = some (.int .i64 a0_0) := (blk_cell BK104.out 0).trans rfl
            have hcz15_1 : wc.cell? ⟨gb104, 1, none⟩ = some (.int .i64 a0_1) := (blk_cell BK104.out 1).trans rfl
            have hcz15_2 : wc.cell? ⟨gb104, 2, none⟩ = some (.int .i64 a0_2) := (blk_cell BK104.out 2).trans rfl
            have hcz15_3 : wc.cell? ⟨gb104, 3, none⟩ = some (.int .i64 a0_3) := (blk_cell BK104.out 3).trans rfl
            have hcz15_4 : wc.cell? ⟨gb104, 4, none⟩ = some (.int .i64 a0_4) := (blk_cell BK104.out 4).trans rfl
            have hcz15_5 : wc.cell? ⟨gb104, 5, none⟩ = some (.int .i64 a0_5) := (blk_cell BK104.out 5).trans rfl
            have hfz15_0 := blk_frozen BK104.out 0
            have hfz15_1 := blk_frozen BK104.out 1
            have hfz15_2 := blk_frozen BK104.out 2
            have hfz15_3 := blk_frozen BK104.out 3
            have hfz15_4 := blk_frozen BK104.out 4
            have hfz15_5 := blk_frozen BK104.out 5
            go_wp2_with (first | ((with_reducible refine gate_callee (f := 34) rfl ?_); refine goesL_ (some 20) rfl rfl Try.func34 (by kernel_rfl) rfl #[.int .i64 a0_0] rfl (by (try simp only [List.map_toArray, List.map_cons, List.map_nil]); first | done | rfl | (simp only [List.length_drop, List.length_take]; rfl)) ?_; (with_reducible refine (rank_node.calls a0_0 true _ A11.out).mono ?_); rintro e w' ⟨rfl, ⟨nd, rfl⟩⟩; refine ⟨_, rfl, ?_⟩) | (go_at_call 36; (with_reducible refine (rank_within.calls a0_1 0 65535 true _ A13.out).mono ?_); rintro e w' ⟨rfl, ⟨nd, rfl⟩⟩))
            go_meet
            case rel => exact ⟨_, (!x3_1), (by first | rfl | (simp; done) | (simp [*]; done)), H', ⟨by have := HJ1.out; first | omega | exact Nat.le_refl _⟩, ⟨by (with_reducible repeat (first | refine blk_drewN ?_ _ | refine blk_drew ?_ | refine blk_alloc ?_ _)); exact BK104.out⟩, ⟨by repeat (first | (with_reducible first | exact HB.out | apply below_alloc | apply pw_below_drewN | apply below_drew1 | refine below_set ?_ GE104.out) | exact HB.out)⟩⟩
          · replace c14 := Bool.eq_false_iff.mpr c14
            subst c14
            have H1 : (rank_Check.j1 kj1 true a0_0 a0_1 a0_2 a0_3 a0_4 a0_5) = some r := by rw [if_neg (show ¬ (false = true) by decide)] at H; exact H
            clear H
            have H := H1
            clear H1
            have H' := Aside0.mk H
            clear H
            have hcz16_0 : wc.cell? ⟨gb104, 0, none⟩ = some (.int .i64 a0_0) := (blk_cell BK104.out 0).trans rfl
            have hcz16_1 : wc.cell? ⟨gb104, 1, none⟩ = some (.int .i64 a0_1) := (blk_cell BK104.out 1).trans rfl
            have hcz16_2 : wc.cell? ⟨gb104, 2, none⟩ = some (.int .i64 a0_2) := (blk_cell BK104.out 2).trans rfl
            have hcz16_3 : wc.cell? ⟨gb104, 3, none⟩ = some (.int .i64 a0_3) := (blk_cell BK104.out 3).trans rfl
            have hcz16_4 : wc.cell? ⟨gb104, 4, none⟩ = some (.int .i64 a0_4) := (blk_cell BK104.out 4).trans rfl
            have hcz16_5 : wc.cell? ⟨gb104, 5, none⟩ = some (.int .i64 a0_5) := (blk_cell BK104.out 5).trans rfl
            have hfz16_0 := blk_frozen BK104.out 0
            have hfz16_1 := blk_frozen BK104.out 1
            have hfz16_2 := blk_frozen BK104.out 2
            have hfz16_3 := blk_frozen BK104.out 3
            have hfz16_4 := blk_frozen BK104.out 4
            have hfz16_5 := blk_frozen BK104.out 5
            go_wp2_with (first | ((with_reducible refine gate_callee (f := 34) rfl ?_); refine goesL_ (some 20) rfl rfl Try.func34 (by kernel_rfl) rfl #[.int .i64 a0_0] rfl (by (try simp only [List.map_toArray, List.map_cons, List.map_nil]); first | done | rfl | (simp only [List.length_drop, List.length_take]; rfl)) ?_; (with_reducible refine (rank_node.calls a0_0 true _ A11.out).mono ?_); rintro e w' ⟨rfl, ⟨nd, rfl⟩⟩; refine ⟨_, rfl, ?_⟩) | (go_at_call 36; (with_reducible refine (rank_within.calls a0_1 0 65535 false _ A13.out).mono ?_); rintro e w' ⟨rfl, ⟨nd, rfl⟩⟩))
            go_meet
            case rel => exact ⟨_, (true), (by first | rfl | (simp; done) | (simp [*]; done)), H', ⟨by have := HJ1.out; first | omega | exact Nat.le_refl _⟩, ⟨by (with_reducible repeat (first | refine blk_drewN ?_ _ | refine blk_drew ?_ | refine blk_alloc ?_ _)); exact BK104.out⟩, ⟨by repeat (first | (with_reducible first | exact HB.out | apply below_alloc | apply pw_below_drewN | apply below_drew1 | refine below_set ?_ GE104.out) | exact HB.out)⟩⟩
        · replace c12 := Bool.eq_false_iff.mpr c12
          subst c12
          have H1 : (rank_Check.j1 kj1 true a0_0 a0_1 a0_2 a0_3 a0_4 a0_5) = some r := by rw [if_neg (show ¬ (false = true) by decide)] at H; exact H
          clear H
          have H := H1
          clear H1
          have H' := Aside0.mk H
          clear H
          have hcz17_0 : wc.cell? ⟨gb104, 0, none⟩ = some (.int .i64 a0_0) := (blk_cell BK104.out 0).trans rfl
          have hcz17_1 : wc.cell? ⟨gb104, 1, none⟩ = some (.int .i64 a0_1) := (blk_cell BK104.out 1).trans rfl
          have hcz17_2 : wc.cell? ⟨gb104, 2, none⟩ = some (.int .i64 a0_2) := (blk_cell BK104.out 2).trans rfl
          have hcz17_3 : wc.cell? ⟨gb104, 3, none⟩ = some (.int .i64 a0_3) := (blk_cell BK104.out 3).trans rfl
          have hcz17_4 : wc.cell? ⟨gb104, 4, none⟩ = some (.int .i64 a0_4) := (blk_cell BK104.out 4).trans rfl
          have hcz17_5 : wc.cell? ⟨gb104, 5, none⟩ = some (.int .i64 a0_5) := (blk_cell BK104.out 5).trans rfl
          have hfz17_0 := blk_frozen BK104.out 0
          have hfz17_1 := blk_frozen BK104.out 1
          have hfz17_2 := blk_frozen BK104.out 2
          have hfz17_3 := blk_frozen BK104.out 3
          have hfz17_4 := blk_frozen BK104.out 4
          have hfz17_5 := blk_frozen BK104.out 5
          go_wp2_with (first | ((with_reducible refine gate_callee (f := 34) rfl ?_); refine goesL_ (some 20) rfl rfl Try.func34 (by kernel_rfl) rfl #[.int .i64 a0_0] rfl (by (try simp only [List.map_toArray, List.map_cons, List.map_nil]); first | done | rfl | (simp only [List.length_drop, List.length_take]; rfl)) ?_; (with_reducible refine (rank_node.calls a0_0 false _ A11.out).mono ?_); rintro e w' ⟨rfl, ⟨nd, rfl⟩⟩; refine ⟨_, rfl, ?_⟩))
          go_meet
          case rel => exact ⟨_, (true), (by first | rfl | (simp; done) | (simp [*]; done)), H', ⟨by have := HJ1.out; first | omega | exact Nat.le_refl _⟩, ⟨by (with_reducible repeat (first | refine blk_drewN ?_ _ | refine blk_drew ?_ | refine blk_alloc ?_ _)); exact BK104.out⟩, ⟨by repeat (first | (with_reducible first | exact HB.out | apply below_alloc | apply pw_below_drewN | apply below_drew1 | refine below_set ?_ GE104.out) | exact HB.out)⟩⟩
      case rest =>
        clear HC10
        try clear c1
        try clear p2
        try clear c3
        try clear c5
        try clear c7
        try clear c7b0
        try clear c7b1
        try clear c12
        try clear c13
        try clear c14
        try clear hcz15_0
        try clear hcz15_1
        try clear hcz15_2
        try clear hcz15_3
        try clear hcz15_4
        try clear hcz15_5
        try clear hcz16_0
        try clear hcz16_1
        try clear hcz16_2
        try clear hcz16_3
        try clear hcz16_4
        try clear hcz16_5
        try clear hcz17_0
        try clear hcz17_1
        try clear hcz17_2
        try clear hcz17_3
        try clear hcz17_4
        try clear hcz17_5
        try clear hcz6_0
        try clear hcz6_1
        try clear hcz6_2
        try clear hcz6_3
        try clear hcz6_4
        try clear hcz6_5
        try clear hcz8_0
        try clear hcz8_1
        try clear hcz8_2
        try clear hcz8_3
        try clear hcz8_4
        try clear hcz8_5
        try clear hcz9_0
        try clear hcz9_1
        try clear hcz9_2
        try clear hcz9_3
        try clear hcz9_4
        try clear hcz9_5
        try clear hfz15_0
        try clear hfz15_1
        try clear hfz15_2
        try clear hfz15_3
        try clear hfz15_4
        try clear hfz15_5
        try clear hfz16_0
        try clear hfz16_1
        try clear hfz16_2
        try clear hfz16_3
        try clear hfz16_4
        try clear hfz16_5
        try clear hfz17_0
        try clear hfz17_1
        try clear hfz17_2
        try clear hfz17_3
        try clear hfz17_4
        try clear hfz17_5
        try clear hfz6_0
        try clear hfz6_1
        try clear hfz6_2
        try clear hfz6_3
        try clear hfz6_4
        try clear hfz6_5
        try clear hfz8_0
        try clear hfz8_1
        try clear hfz8_2
        try clear hfz8_3
        try clear hfz8_4
        try clear hfz8_5
        try clear hfz9_0
        try clear hfz9_1
        try clear hfz9_2
        try clear hfz9_3
        try clear hfz9_4
        try clear hfz9_5
        try clear p2
        obtain ⟨kq, x31_9, rfl, HA, HJ9, BK104, HB⟩ := hcut
        cases kq with
        | zero => exact absurd HA.out (by simp [rank_Check.j1])
        | succ kj9 =>
          have H := HA.out
          clear HA
          simp only [rank_Check.j1] at H
          by_cases c18 : x31_9 = true
          · subst c18
            have H1 : (some 2) = some r := by rw [if_pos rfl] at H; exact H
            clear H
            have H := H1
            clear H1
            obtain rfl := Option.some.inj H
            go_wp2
            go_ret
            exact ⟨by first | rfl | (simp [errW_none, errW_some] <;> rfl) | (simp [*, errW_none, errW_some] <;> rfl), by repeat (first | (with_reducible first | exact HB.out | apply below_alloc | apply pw_below_drewN | apply below_drew1 | refine below_set ?_ GE104.out) | exact HB.out)⟩
          · replace c18 := Bool.eq_false_iff.mpr c18
            subst c18
            have H1 : (if a0_0 = 0 then (if a0_1 ≥ 1 then (if a0_2 = (-1) then (if a0_3 = 0 then (if a0_4 = 0 then (if a0_5 = 0 then (some 0) else (if a0_5 = 65535 then (some 0) else (some 1))) else (some 1)) else (some 1)) else (some 1)) else (some 1)) else (if a0_2 = (-1) then (if a0_3 = 65535 then (if a0_4 = 65535 then (if a0_1 > 0 then (some 0) else (if a0_5 = 65535 then (some 0) else (some 1))) else (some 1)) else (some 1)) else ((rank_node.f a0_2).bind fun t108 => (if t108 = true then (if a0_2 = a0_0 then (some 1) else (if a0_1 ≥ 1 then (if a0_3 ≥ 0 then (if a0_3 < a0_4 then (if a0_3 < a0_5 then (if a0_4 < 65535 then (some 0) else (some 1)) else (some 1)) else (some 1)) else (some 1)) else (some 1))) else (some 1))))) = some r := by rw [if_neg (show ¬ (false = true) by decide)] at H; exact H
            clear H
            have H := H1
            clear H1
            by_cases c19 : a0_0 = 0
            · rw [if_pos c19] at H
              have c19b0 : (a0_0 == 0) = true := beq_iff_eq.mpr c19
              have c19b1 : (a0_0 != 0) = false := bne_eq_false_iff_eq.mpr c19
              clear c19
              by_cases c20 : a0_1 ≥ 1
              · rw [if_pos c20] at H
                have c20b0 : decide (1 ≤ a0_1) = true := decide_eq_true c20
                clear c20
                by_cases c21 : a0_2 = (-1)
                · rw [if_pos c21] at H
                  have c21b0 : (a0_2 == (-1)) = true := beq_iff_eq.mpr c21
                  have c21b1 : (a0_2 != (-1)) = false := bne_eq_false_iff_eq.mpr c21
                  clear c21
                  by_cases c22 : a0_3 = 0
                  · rw [if_pos c22] at H
                    have c22b0 : (a0_3 == 0) = true := beq_iff_eq.mpr c22
                    have c22b1 : (a0_3 != 0) = false := bne_eq_false_iff_eq.mpr c22
                    clear c22
                    by_cases c23 : a0_4 = 0
                    · rw [if_pos c23] at H
                      have c23b0 : (a0_4 == 0) = true := beq_iff_eq.mpr c23
                      have c23b1 : (a0_4 != 0) = false := bne_eq_false_iff_eq.mpr c23
                      clear c23
                      by_cases c24 : a0_5 = 0
                      · rw [if_pos c24] at H
                        have c24b0 : (a0_5 == 0) = true := beq_iff_eq.mpr c24
                        have c24b1 : (a0_5 != 0) = false := bne_eq_false_iff_eq.mpr c24
                        clear c24
                        obtain rfl := Option.some.inj H
                        have hcz25_0 : wc.cell? ⟨gb104, 0, none⟩ = some (.int .i64 a0_0) := (blk_cell BK104.out 0).trans rfl
                        have hcz25_1 : wc.cell? ⟨gb104, 1, none⟩ = some (.int .i64 a0_1) := (blk_cell BK104.out 1).trans rfl
                        have hcz25_2 : wc.cell? ⟨gb104, 2, none⟩ = some (.int .i64 a0_2) := (blk_cell BK104.out 2).trans rfl
                        have hcz25_3 : wc.cell? ⟨gb104, 3, none⟩ = some (.int .i64 a0_3) := (blk_cell BK104.out 3).trans rfl
                        have hcz25_4 : wc.cell? ⟨gb104, 4, none⟩ = some (.int .i64 a0_4) := (blk_cell BK104.out 4).trans rfl
                        have hcz25_5 : wc.cell? ⟨gb104, 5, none⟩ = some (.int .i64 a0_5) := (blk_cell BK104.out 5).trans rfl
                        have hfz25_0 := blk_frozen BK104.out 0
                        have hfz25_1 := blk_frozen BK104.out 1
                        have hfz25_2 := blk_frozen BK104.out 2
                        have hfz25_3 := blk_frozen BK104.out 3
                        have hfz25_4 := blk_frozen BK104.out 4
                        have hfz25_5 := blk_frozen BK104.out 5
                        go_wp2
                        go_ret
                        exact ⟨by first | rfl | (simp [errW_none, errW_some] <;> rfl) | (simp [*, errW_none, errW_some] <;> rfl), by repeat (first | (with_reducible first | exact HB.out | apply below_alloc | apply pw_below_drewN | apply below_drew1 | refine below_set ?_ GE104.out) | exact HB.out)⟩
                      · rw [if_neg c24] at H
                        have c24b0 : (a0_5 == 0) = false := beq_eq_false_iff_ne.mpr c24
                        have c24b1 : (a0_5 != 0) = true := bne_iff_ne.mpr c24
                        by_cases c26 : a0_5 = 65535
                        · rw [if_pos c26] at H
                          have c26b0 : (a0_5 == 65535) = true := beq_iff_eq.mpr c26
                          have c26b1 : (a0_5 != 65535) = false := bne_eq_false_iff_eq.mpr c26
                          clear c26
                          obtain rfl := Option.some.inj H
                          have hcz27_0 : wc.cell? ⟨gb104, 0, none⟩ = some (.int .i64 a0_0) := (blk_cell BK104.out 0).trans rfl
                          have hcz27_1 : wc.cell? ⟨gb104, 1, none⟩ = some (.int .i64 a0_1) := (blk_cell BK104.out 1).trans rfl
                          have hcz27_2 : wc.cell? ⟨gb104, 2, none⟩ = some (.int .i64 a0_2) := (blk_cell BK104.out 2).trans rfl
                          have hcz27_3 : wc.cell? ⟨gb104, 3, none⟩ = some (.int .i64 a0_3) := (blk_cell BK104.out 3).trans rfl
                          have hcz27_4 : wc.cell? ⟨gb104, 4, none⟩ = some (.int .i64 a0_4) := (blk_cell BK104.out 4).trans rfl
                          have hcz27_5 : wc.cell? ⟨gb104, 5, none⟩ = some (.int .i64 a0_5) := (blk_cell BK104.out 5).trans rfl
                          have hfz27_0 := blk_frozen BK104.out 0
                          have hfz27_1 := blk_frozen BK104.out 1
                          have hfz27_2 := blk_frozen BK104.out 2
                          have hfz27_3 := blk_frozen BK104.out 3
                          have hfz27_4 := blk_frozen BK104.out 4
                          have hfz27_5 := blk_frozen BK104.out 5
                          go_wp2
                          go_ret
                          exact ⟨by first | rfl | (simp [errW_none, errW_some] <;> rfl) | (simp [*, errW_none, errW_some] <;> rfl), by repeat (first | (with_reducible first | exact HB.out | apply below_alloc | apply pw_below_drewN | apply below_drew1 | refine below_set ?_ GE104.out) | exact HB.out)⟩
                        · rw [if_neg c26] at H
                          have c26b0 : (a0_5 == 65535) = false := beq_eq_false_iff_ne.mpr c26
                          have c26b1 : (a0_5 != 65535) = true := bne_iff_ne.mpr c26
                          obtain rfl := Option.some.inj H
                          have hcz28_0 : wc.cell? ⟨gb104, 0, none⟩ = some (.int .i64 a0_0) := (blk_cell BK104.out 0).trans rfl
                          have hcz28_1 : wc.cell? ⟨gb104, 1, none⟩ = some (.int .i64 a0_1) := (blk_cell BK104.out 1).trans rfl
                          have hcz28_2 : wc.cell? ⟨gb104, 2, none⟩ = some (.int .i64 a0_2) := (blk_cell BK104.out 2).trans rfl
                          have hcz28_3 : wc.cell? ⟨gb104, 3, none⟩ = some (.int .i64 a0_3) := (blk_cell BK104.out 3).trans rfl
                          have hcz28_4 : wc.cell? ⟨gb104, 4, none⟩ = some (.int .i64 a0_4) := (blk_cell BK104.out 4).trans rfl
                          have hcz28_5 : wc.cell? ⟨gb104, 5, none⟩ = some (.int .i64 a0_5) := (blk_cell BK104.out 5).trans rfl
                          have hfz28_0 := blk_frozen BK104.out 0
                          have hfz28_1 := blk_frozen BK104.out 1
                          have hfz28_2 := blk_frozen BK104.out 2
                          have hfz28_3 := blk_frozen BK104.out 3
                          have hfz28_4 := blk_frozen BK104.out 4
                          have hfz28_5 := blk_frozen BK104.out 5
                          go_wp2
                          go_ret
                          exact ⟨by first | rfl | (simp [errW_none, errW_some] <;> rfl) | (simp [*, errW_none, errW_some] <;> rfl), by repeat (first | (with_reducible first | exact HB.out | apply below_alloc | apply pw_below_drewN | apply below_drew1 | refine below_set ?_ GE104.out) | exact HB.out)⟩
                    · rw [if_neg c23] at H
                      have c23b0 : (a0_4 == 0) = false := beq_eq_false_iff_ne.mpr c23
                      have c23b1 : (a0_4 != 0) = true := bne_iff_ne.mpr c23
                      obtain rfl := Option.some.inj H
                      have hcz29_0 : wc.cell? ⟨gb104, 0, none⟩ = some (.int .i64 a0_0) := (blk_cell BK104.out 0).trans rfl
                      have hcz29_1 : wc.cell? ⟨gb104, 1, none⟩ = some (.int .i64 a0_1) := (blk_cell BK104.out 1).trans rfl
                      have hcz29_2 : wc.cell? ⟨gb104, 2, none⟩ = some (.int .i64 a0_2) := (blk_cell BK104.out 2).trans rfl
                      have hcz29_3 : wc.cell? ⟨gb104, 3, none⟩ = some (.int .i64 a0_3) := (blk_cell BK104.out 3).trans rfl
                      have hcz29_4 : wc.cell? ⟨gb104, 4, none⟩ = some (.int .i64 a0_4) := (blk_cell BK104.out 4).trans rfl
                      have hcz29_5 : wc.cell? ⟨gb104, 5, none⟩ = some (.int .i64 a0_5) := (blk_cell BK104.out 5).trans rfl
                      have hfz29_0 := blk_frozen BK104.out 0
                      have hfz29_1 := blk_frozen BK104.out 1
                      have hfz29_2 := blk_frozen BK104.out 2
                      have hfz29_3 := blk_frozen BK104.out 3
                      have hfz29_4 := blk_frozen BK104.out 4
                      have hfz29_5 := blk_frozen BK104.out 5
                      go_wp2
                      go_ret
                      exact ⟨by first | rfl | (simp [errW_none, errW_some] <;> rfl) | (simp [*, errW_none, errW_some] <;> rfl), by repeat (first | (with_reducible first | exact HB.out | apply below_alloc | apply pw_below_drewN | apply below_drew1 | refine below_set ?_ GE104.out) | exact HB.out)⟩
                  · rw [if_neg c22] at H
                    have c22b0 : (a0_3 == 0) = false := beq_eq_false_iff_ne.mpr c22
                    have c22b1 : (a0_3 != 0) = true := bne_iff_ne.mpr c22
                    obtain rfl := Option.some.inj H
                    have hcz30_0 : wc.cell? ⟨gb104, 0, none⟩ = some (.int .i64 a0_0) := (blk_cell BK104.out 0).trans rfl
                    have hcz30_1 : wc.cell? ⟨gb104, 1, none⟩ = some (.int .i64 a0_1) := (blk_cell BK104.out 1).trans rfl
                    have hcz30_2 : wc.cell? ⟨gb104, 2, none⟩ = some (.int .i64 a0_2) := (blk_cell BK104.out 2).trans rfl
                    have hcz30_3 : wc.cell? ⟨gb104, 3, none⟩ = some (.int .i64 a0_3) := (blk_cell BK104.out 3).trans rfl
                    have hcz30_4 : wc.cell? ⟨gb104, 4, none⟩ = some (.int .i64 a0_4) := (blk_cell BK104.out 4).trans rfl
                    have hcz30_5 : wc.cell? ⟨gb104, 5, none⟩ = some (.int .i64 a0_5) := (blk_cell BK104.out 5).trans rfl
                    have hfz30_0 := blk_frozen BK104.out 0
                    have hfz30_1 := blk_frozen BK104.out 1
                    have hfz30_2 := blk_frozen BK104.out 2
                    have hfz30_3 := blk_frozen BK104.out 3
                    have hfz30_4 := blk_frozen BK104.out 4
                    have hfz30_5 := blk_frozen BK104.out 5
                    go_wp2
                    go_ret
                    exact ⟨by first | rfl | (simp [errW_none, errW_some] <;> rfl) | (simp [*, errW_none, errW_some] <;> rfl), by repeat (first | (with_reducible first | exact HB.out | apply below_alloc | apply pw_below_drewN | apply below_drew1 | refine below_set ?_ GE104.out) | exact HB.out)⟩
                · rw [if_neg c21] at H
                  have c21b0 : (a0_2 == (-1)) = false := beq_eq_false_iff_ne.mpr c21
                  have c21b1 : (a0_2 != (-1)) = true := bne_iff_ne.mpr c21
                  obtain rfl := Option.some.inj H
                  have hcz31_0 : wc.cell? ⟨gb104, 0, none⟩ = some (.int .i64 a0_0) := (blk_cell BK104.out 0).trans rfl
                  have hcz31_1 : wc.cell? ⟨gb104, 1, none⟩ = some (.int .i64 a0_1) := (blk_cell BK104.out 1).trans rfl
                  have hcz31_2 : wc.cell? ⟨gb104, 2, none⟩ = some (.int .i64 a0_2) := (blk_cell BK104.out 2).trans rfl
                  have hcz31_3 : wc.cell? ⟨gb104, 3, none⟩ = some (.int .i64 a0_3) := (blk_cell BK104.out 3).trans rfl
                  have hcz31_4 : wc.cell? ⟨gb104, 4, none⟩ = some (.int .i64 a0_4) := (blk_cell BK104.out 4).trans rfl
                  have hcz31_5 : wc.cell? ⟨gb104, 5, none⟩ = some (.int .i64 a0_5) := (blk_cell BK104.out 5).trans rfl
                  have hfz31_0 := blk_frozen BK104.out 0
                  have hfz31_1 := blk_frozen BK104.out 1
                  have hfz31_2 := blk_frozen BK104.out 2
                  have hfz31_3 := blk_frozen BK104.out 3
                  have hfz31_4 := blk_frozen BK104.out 4
                  have hfz31_5 := blk_frozen BK104.out 5
                  go_wp2
                  go_ret
                  exact ⟨by first | rfl | (simp [errW_none, errW_some] <;> rfl) | (simp [*, errW_none, errW_some] <;> rfl), by repeat (first | (with_reducible first | exact HB.out | apply below_alloc | apply pw_below_drewN | apply below_drew1 | refine below_set ?_ GE104.out) | exact HB.out)⟩
              · rw [if_neg c20] at H
                have c20b0 : decide (1 ≤ a0_1) = false := decide_eq_false c20
                clear c20
                obtain rfl := Option.some.inj H
                have hcz32_0 : wc.cell? ⟨gb104, 0, none⟩ = some (.int .i64 a0_0) := (blk_cell BK104.out 0).trans rfl
                have hcz32_1 : wc.cell? ⟨gb104, 1, none⟩ = some (.int .i64 a0_1) := (blk_cell BK104.out 1).trans rfl
                have hcz32_2 : wc.cell? ⟨gb104, 2, none⟩ = some (.int .i64 a0_2) := (blk_cell BK104.out 2).trans rfl
                have hcz32_3 : wc.cell? ⟨gb104, 3, none⟩ = some (.int .i64 a0_3) := (blk_cell BK104.out 3).trans rfl
                have hcz32_4 : wc.cell? ⟨gb104, 4, none⟩ = some (.int .i64 a0_4) := (blk_cell BK104.out 4).trans rfl
                have hcz32_5 : wc.cell? ⟨gb104, 5, none⟩ = some (.int .i64 a0_5) := (blk_cell BK104.out 5).trans rfl
                have hfz32_0 := blk_frozen BK104.out 0
                have hfz32_1 := blk_frozen BK104.out 1
                have hfz32_2 := blk_frozen BK104.out 2
                have hfz32_3 := blk_frozen BK104.out 3
                have hfz32_4 := blk_frozen BK104.out 4
                have hfz32_5 := blk_frozen BK104.out 5
                go_wp2
                go_ret
                exact ⟨by first | rfl | (simp [errW_none, errW_some] <;> rfl) | (simp [*, errW_none, errW_some] <;> rfl), by repeat (first | (with_reducible first | exact HB.out | apply below_alloc | apply pw_below_drewN | apply below_drew1 | refine below_set ?_ GE104.out) | exact HB.out)⟩
            · rw [if_neg c19] at H
              have c19b0 : (a0_0 == 0) = false := beq_eq_false_iff_ne.mpr c19
              have c19b1 : (a0_0 != 0) = true := bne_iff_ne.mpr c19
              by_cases c33 : a0_2 = (-1)
              · rw [if_pos c33] at H
                have c33b0 : (a0_2 == (-1)) = true := beq_iff_eq.mpr c33
                have c33b1 : (a0_2 != (-1)) = false := bne_eq_false_iff_eq.mpr c33
                clear c33
                by_cases c34 : a0_3 = 65535
                · rw [if_pos c34] at H
                  have c34b0 : (a0_3 == 65535) = true := beq_iff_eq.mpr c34
                  have c34b1 : (a0_3 != 65535) = false := bne_eq_false_iff_eq.mpr c34
                  clear c34
                  by_cases c35 : a0_4 = 65535
                  · rw [if_pos c35] at H
                    have c35b0 : (a0_4 == 65535) = true := beq_iff_eq.mpr c35
                    have c35b1 : (a0_4 != 65535) = false := bne_eq_false_iff_eq.mpr c35
                    clear c35
                    by_cases c36 : a0_1 > 0
                    · rw [if_pos c36] at H
                      have c36b0 : decide (0 < a0_1) = true := decide_eq_true c36
                      clear c36
                      obtain rfl := Option.some.inj H
                      have hcz37_0 : wc.cell? ⟨gb104, 0, none⟩ = some (.int .i64 a0_0) := (blk_cell BK104.out 0).trans rfl
                      have hcz37_1 : wc.cell? ⟨gb104, 1, none⟩ = some (.int .i64 a0_1) := (blk_cell BK104.out 1).trans rfl
                      have hcz37_2 : wc.cell? ⟨gb104, 2, none⟩ = some (.int .i64 a0_2) := (blk_cell BK104.out 2).trans rfl
                      have hcz37_3 : wc.cell? ⟨gb104, 3, none⟩ = some (.int .i64 a0_3) := (blk_cell BK104.out 3).trans rfl
                      have hcz37_4 : wc.cell? ⟨gb104, 4, none⟩ = some (.int .i64 a0_4) := (blk_cell BK104.out 4).trans rfl
                      have hcz37_5 : wc.cell? ⟨gb104, 5, none⟩ = some (.int .i64 a0_5) := (blk_cell BK104.out 5).trans rfl
                      have hfz37_0 := blk_frozen BK104.out 0
                      have hfz37_1 := blk_frozen BK104.out 1
                      have hfz37_2 := blk_frozen BK104.out 2
                      have hfz37_3 := blk_frozen BK104.out 3
                      have hfz37_4 := blk_frozen BK104.out 4
                      have hfz37_5 := blk_frozen BK104.out 5
                      go_wp2
                      go_ret
                      exact ⟨by first | rfl | (simp [errW_none, errW_some] <;> rfl) | (simp [*, errW_none, errW_some] <;> rfl), by repeat (first | (with_reducible first | exact HB.out | apply below_alloc | apply pw_below_drewN | apply below_drew1 | refine below_set ?_ GE104.out) | exact HB.out)⟩
                    · rw [if_neg c36] at H
                      have c36b0 : decide (0 < a0_1) = false := decide_eq_false c36
                      clear c36
                      by_cases c38 : a0_5 = 65535
                      · rw [if_pos c38] at H
                        have c38b0 : (a0_5 == 65535) = true := beq_iff_eq.mpr c38
                        have c38b1 : (a0_5 != 65535) = false := bne_eq_false_iff_eq.mpr c38
                        clear c38
                        obtain rfl := Option.some.inj H
                        have hcz39_0 : wc.cell? ⟨gb104, 0, none⟩ = some (.int .i64 a0_0) := (blk_cell BK104.out 0).trans rfl
                        have hcz39_1 : wc.cell? ⟨gb104, 1, none⟩ = some (.int .i64 a0_1) := (blk_cell BK104.out 1).trans rfl
                        have hcz39_2 : wc.cell? ⟨gb104, 2, none⟩ = some (.int .i64 a0_2) := (blk_cell BK104.out 2).trans rfl
                        have hcz39_3 : wc.cell? ⟨gb104, 3, none⟩ = some (.int .i64 a0_3) := (blk_cell BK104.out 3).trans rfl
                        have hcz39_4 : wc.cell? ⟨gb104, 4, none⟩ = some (.int .i64 a0_4) := (blk_cell BK104.out 4).trans rfl
                        have hcz39_5 : wc.cell? ⟨gb104, 5, none⟩ = some (.int .i64 a0_5) := (blk_cell BK104.out 5).trans rfl
                        have hfz39_0 := blk_frozen BK104.out 0
                        have hfz39_1 := blk_frozen BK104.out 1
                        have hfz39_2 := blk_frozen BK104.out 2
                        have hfz39_3 := blk_frozen BK104.out 3
                        have hfz39_4 := blk_frozen BK104.out 4
                        have hfz39_5 := blk_frozen BK104.out 5
                        go_wp2
                        go_ret
                        exact ⟨by first | rfl | (simp [errW_none, errW_some] <;> rfl) | (simp [*, errW_none, errW_some] <;> rfl), by repeat (first | (with_reducible first | exact HB.out | apply below_alloc | apply pw_below_drewN | apply below_drew1 | refine below_set ?_ GE104.out) | exact HB.out)⟩
                      · rw [if_neg c38] at H
                        have c38b0 : (a0_5 == 65535) = false := beq_eq_false_iff_ne.mpr c38
                        have c38b1 : (a0_5 != 65535) = true := bne_iff_ne.mpr c38
                        obtain rfl := Option.some.inj H
                        have hcz40_0 : wc.cell? ⟨gb104, 0, none⟩ = some (.int .i64 a0_0) := (blk_cell BK104.out 0).trans rfl
                        have hcz40_1 : wc.cell? ⟨gb104, 1, none⟩ = some (.int .i64 a0_1) := (blk_cell BK104.out 1).trans rfl
                        have hcz40_2 : wc.cell? ⟨gb104, 2, none⟩ = some (.int .i64 a0_2) := (blk_cell BK104.out 2).trans rfl
                        have hcz40_3 : wc.cell? ⟨gb104, 3, none⟩ = some (.int .i64 a0_3) := (blk_cell BK104.out 3).trans rfl
                        have hcz40_4 : wc.cell? ⟨gb104, 4, none⟩ = some (.int .i64 a0_4) := (blk_cell BK104.out 4).trans rfl
                        have hcz40_5 : wc.cell? ⟨gb104, 5, none⟩ = some (.int .i64 a0_5) := (blk_cell BK104.out 5).trans rfl
                        have hfz40_0 := blk_frozen BK104.out 0
                        have hfz40_1 := blk_frozen BK104.out 1
                        have hfz40_2 := blk_frozen BK104.out 2
                        have hfz40_3 := blk_frozen BK104.out 3
                        have hfz40_4 := blk_frozen BK104.out 4
                        have hfz40_5 := blk_frozen BK104.out 5
                        go_wp2
                        go_ret
                        exact ⟨by first | rfl | (simp [errW_none, errW_some] <;> rfl) | (simp [*, errW_none, errW_some] <;> rfl), by repeat (first | (with_reducible first | exact HB.out | apply below_alloc | apply pw_below_drewN | apply below_drew1 | refine below_set ?_ GE104.out) | exact HB.out)⟩
                  · rw [if_neg c35] at H
                    have c35b0 : (a0_4 == 65535) = false := beq_eq_false_iff_ne.mpr c35
                    have c35b1 : (a0_4 != 65535) = true := bne_iff_ne.mpr c35
                    obtain rfl := Option.some.inj H
                    have hcz41_0 : wc.cell? ⟨gb104, 0, none⟩ = some (.int .i64 a0_0) := (blk_cell BK104.out 0).trans rfl
                    have hcz41_1 : wc.cell? ⟨gb104, 1, none⟩ = some (.int .i64 a0_1) := (blk_cell BK104.out 1).trans rfl
                    have hcz41_2 : wc.cell? ⟨gb104, 2, none⟩ = some (.int .i64 a0_2) := (blk_cell BK104.out 2).trans rfl
                    have hcz41_3 : wc.cell? ⟨gb104, 3, none⟩ = some (.int .i64 a0_3) := (blk_cell BK104.out 3).trans rfl
                    have hcz41_4 : wc.cell? ⟨gb104, 4, none⟩ = some (.int .i64 a0_4) := (blk_cell BK104.out 4).trans rfl
                    have hcz41_5 : wc.cell? ⟨gb104, 5, none⟩ = some (.int .i64 a0_5) := (blk_cell BK104.out 5).trans rfl
                    have hfz41_0 := blk_frozen BK104.out 0
                    have hfz41_1 := blk_frozen BK104.out 1
                    have hfz41_2 := blk_frozen BK104.out 2
                    have hfz41_3 := blk_frozen BK104.out 3
                    have hfz41_4 := blk_frozen BK104.out 4
                    have hfz41_5 := blk_frozen BK104.out 5
                    go_wp2
                    go_ret
                    exact ⟨by first | rfl | (simp [errW_none, errW_some] <;> rfl) | (simp [*, errW_none, errW_some] <;> rfl), by repeat (first | (with_reducible first | exact HB.out | apply below_alloc | apply pw_below_drewN | apply below_drew1 | refine below_set ?_ GE104.out) | exact HB.out)⟩
                · rw [if_neg c34] at H
                  have c34b0 : (a0_3 == 65535) = false := beq_eq_false_iff_ne.mpr c34
                  have c34b1 : (a0_3 != 65535) = true := bne_iff_ne.mpr c34
                  obtain rfl := Option.some.inj H
                  have hcz42_0 : wc.cell? ⟨gb104, 0, none⟩ = some (.int .i64 a0_0) := (blk_cell BK104.out 0).trans rfl
                  have hcz42_1 : wc.cell? ⟨gb104, 1, none⟩ = some (.int .i64 a0_1) := (blk_cell BK104.out 1).trans rfl
                  have hcz42_2 : wc.cell? ⟨gb104, 2, none⟩ = some (.int .i64 a0_2) := (blk_cell BK104.out 2).trans rfl
                  have hcz42_3 : wc.cell? ⟨gb104, 3, none⟩ = some (.int .i64 a0_3) := (blk_cell BK104.out 3).trans rfl
                  have hcz42_4 : wc.cell? ⟨gb104, 4, none⟩ = some (.int .i64 a0_4) := (blk_cell BK104.out 4).trans rfl
                  have hcz42_5 : wc.cell? ⟨gb104, 5, none⟩ = some (.int .i64 a0_5) := (blk_cell BK104.out 5).trans rfl
                  have hfz42_0 := blk_frozen BK104.out 0
                  have hfz42_1 := blk_frozen BK104.out 1
                  have hfz42_2 := blk_frozen BK104.out 2
                  have hfz42_3 := blk_frozen BK104.out 3
                  have hfz42_4 := blk_frozen BK104.out 4
                  have hfz42_5 := blk_frozen BK104.out 5
                  go_wp2
                  go_ret
                  exact ⟨by first | rfl | (simp [errW_none, errW_some] <;> rfl) | (simp [*, errW_none, errW_some] <;> rfl), by repeat (first | (with_reducible first | exact HB.out | apply below_alloc | apply pw_below_drewN | apply below_drew1 | refine below_set ?_ GE104.out) | exact HB.out)⟩
              · rw [if_neg c33] at H
                have c33b0 : (a0_2 == (-1)) = false := beq_eq_false_iff_ne.mpr c33
                have c33b1 : (a0_2 != (-1)) = true := bne_iff_ne.mpr c33
                replace H := Option.bind_eq_some_iff.mp H
                obtain ⟨t108, A430, H⟩ := H
                replace H : (if t108 = true then (if a0_2 = a0_0 then (some 1) else (if a0_1 ≥ 1 then (if a0_3 ≥ 0 then (if a0_3 < a0_4 then (if a0_3 < a0_5 then (if a0_4 < 65535 then (some 0) else (some 1)) else (some 1)) else (some 1)) else (some 1)) else (some 1))) else (some 1)) = some r := H
                have A43 := Aside0.mk A430
                clear A430
                by_cases c44 : t108 = true
                · subst c44
                  have H1 : (if a0_2 = a0_0 then (some 1) else (if a0_1 ≥ 1 then (if a0_3 ≥ 0 then (if a0_3 < a0_4 then (if a0_3 < a0_5 then (if a0_4 < 65535 then (some 0) else (some 1)) else (some 1)) else (some 1)) else (some 1)) else (some 1))) = some r := by rw [if_pos rfl] at H; exact H
                  clear H
                  have H := H1
                  clear H1
                  by_cases c45 : a0_2 = a0_0
                  · rw [if_pos c45] at H
                    have c45b0 : (a0_2 == a0_0) = true := beq_iff_eq.mpr c45
                    have c45b1 : (a0_2 != a0_0) = false := bne_eq_false_iff_eq.mpr c45
                    clear c45
                    obtain rfl := Option.some.inj H
                    have hcz46_0 : wc.cell? ⟨gb104, 0, none⟩ = some (.int .i64 a0_0) := (blk_cell BK104.out 0).trans rfl
                    have hcz46_1 : wc.cell? ⟨gb104, 1, none⟩ = some (.int .i64 a0_1) := (blk_cell BK104.out 1).trans rfl
                    have hcz46_2 : wc.cell? ⟨gb104, 2, none⟩ = some (.int .i64 a0_2) := (blk_cell BK104.out 2).trans rfl
                    have hcz46_3 : wc.cell? ⟨gb104, 3, none⟩ = some (.int .i64 a0_3) := (blk_cell BK104.out 3).trans rfl
                    have hcz46_4 : wc.cell? ⟨gb104, 4, none⟩ = some (.int .i64 a0_4) := (blk_cell BK104.out 4).trans rfl
                    have hcz46_5 : wc.cell? ⟨gb104, 5, none⟩ = some (.int .i64 a0_5) := (blk_cell BK104.out 5).trans rfl
                    have hfz46_0 := blk_frozen BK104.out 0
                    have hfz46_1 := blk_frozen BK104.out 1
                    have hfz46_2 := blk_frozen BK104.out 2
                    have hfz46_3 := blk_frozen BK104.out 3
                    have hfz46_4 := blk_frozen BK104.out 4
                    have hfz46_5 := blk_frozen BK104.out 5
                    go_wp2_with (first | ((with_reducible refine gate_callee (f := 34) rfl ?_); refine goesL_ (some 34) rfl rfl Try.func34 (by kernel_rfl) rfl #[.int .i64 a0_2] rfl (by (try simp only [List.map_toArray, List.map_cons, List.map_nil]); first | done | rfl | (simp only [List.length_drop, List.length_take]; rfl)) ?_; (with_reducible refine (rank_node.calls a0_2 true _ A43.out).mono ?_); rintro e w' ⟨rfl, ⟨nd, rfl⟩⟩; refine ⟨_, rfl, ?_⟩))
                    go_ret
                    exact ⟨by first | rfl | (simp [errW_none, errW_some] <;> rfl) | (simp [*, errW_none, errW_some] <;> rfl), by repeat (first | (with_reducible first | exact HB.out | apply below_alloc | apply pw_below_drewN | apply below_drew1 | refine below_set ?_ GE104.out) | exact HB.out)⟩
                  · rw [if_neg c45] at H
                    have c45b0 : (a0_2 == a0_0) = false := beq_eq_false_iff_ne.mpr c45
                    have c45b1 : (a0_2 != a0_0) = true := bne_iff_ne.mpr c45
                    by_cases c47 : a0_1 ≥ 1
                    · rw [if_pos c47] at H
                      have c47b0 : decide (1 ≤ a0_1) = true := decide_eq_true c47
                      clear c47
                      by_cases c48 : a0_3 ≥ 0
                      · rw [if_pos c48] at H
                        have c48b0 : decide (0 ≤ a0_3) = true := decide_eq_true c48
                        clear c48
                        by_cases c49 : a0_3 < a0_4
                        · rw [if_pos c49] at H
                          have c49b0 : decide (a0_3 < a0_4) = true := decide_eq_true c49
                          clear c49
                          by_cases c50 : a0_3 < a0_5
                          · rw [if_pos c50] at H
                            have c50b0 : decide (a0_3 < a0_5) = true := decide_eq_true c50
                            clear c50
                            by_cases c51 : a0_4 < 65535
                            · rw [if_pos c51] at H
                              have c51b0 : decide (a0_4 < 65535) = true := decide_eq_true c51
                              clear c51
                              obtain rfl := Option.some.inj H
                              have hcz52_0 : wc.cell? ⟨gb104, 0, none⟩ = some (.int .i64 a0_0) := (blk_cell BK104.out 0).trans rfl
                              have hcz52_1 : wc.cell? ⟨gb104, 1, none⟩ = some (.int .i64 a0_1) := (blk_cell BK104.out 1).trans rfl
                              have hcz52_2 : wc.cell? ⟨gb104, 2, none⟩ = some (.int .i64 a0_2) := (blk_cell BK104.out 2).trans rfl
                              have hcz52_3 : wc.cell? ⟨gb104, 3, none⟩ = some (.int .i64 a0_3) := (blk_cell BK104.out 3).trans rfl
                              have hcz52_4 : wc.cell? ⟨gb104, 4, none⟩ = some (.int .i64 a0_4) := (blk_cell BK104.out 4).trans rfl
                              have hcz52_5 : wc.cell? ⟨gb104, 5, none⟩ = some (.int .i64 a0_5) := (blk_cell BK104.out 5).trans rfl
                              have hfz52_0 := blk_frozen BK104.out 0
                              have hfz52_1 := blk_frozen BK104.out 1
                              have hfz52_2 := blk_frozen BK104.out 2
                              have hfz52_3 := blk_frozen BK104.out 3
                              have hfz52_4 := blk_frozen BK104.out 4
                              have hfz52_5 := blk_frozen BK104.out 5
                              go_wp2_with (first | ((with_reducible refine gate_callee (f := 34) rfl ?_); refine goesL_ (some 34) rfl rfl Try.func34 (by kernel_rfl) rfl #[.int .i64 a0_2] rfl (by (try simp only [List.map_toArray, List.map_cons, List.map_nil]); first | done | rfl | (simp only [List.length_drop, List.length_take]; rfl)) ?_; (with_reducible refine (rank_node.calls a0_2 true _ A43.out).mono ?_); rintro e w' ⟨rfl, ⟨nd, rfl⟩⟩; refine ⟨_, rfl, ?_⟩))
                              go_ret
                              exact ⟨by first | rfl | (simp [errW_none, errW_some] <;> rfl) | (simp [*, errW_none, errW_some] <;> rfl), by repeat (first | (with_reducible first | exact HB.out | apply below_alloc | apply pw_below_drewN | apply below_drew1 | refine below_set ?_ GE104.out) | exact HB.out)⟩
                            · rw [if_neg c51] at H
                              have c51b0 : decide (a0_4 < 65535) = false := decide_eq_false c51
                              clear c51
                              obtain rfl := Option.some.inj H
                              have hcz53_0 : wc.cell? ⟨gb104, 0, none⟩ = some (.int .i64 a0_0) := (blk_cell BK104.out 0).trans rfl
                              have hcz53_1 : wc.cell? ⟨gb104, 1, none⟩ = some (.int .i64 a0_1) := (blk_cell BK104.out 1).trans rfl
                              have hcz53_2 : wc.cell? ⟨gb104, 2, none⟩ = some (.int .i64 a0_2) := (blk_cell BK104.out 2).trans rfl
                              have hcz53_3 : wc.cell? ⟨gb104, 3, none⟩ = some (.int .i64 a0_3) := (blk_cell BK104.out 3).trans rfl
                              have hcz53_4 : wc.cell? ⟨gb104, 4, none⟩ = some (.int .i64 a0_4) := (blk_cell BK104.out 4).trans rfl
                              have hcz53_5 : wc.cell? ⟨gb104, 5, none⟩ = some (.int .i64 a0_5) := (blk_cell BK104.out 5).trans rfl
                              have hfz53_0 := blk_frozen BK104.out 0
                              have hfz53_1 := blk_frozen BK104.out 1
                              have hfz53_2 := blk_frozen BK104.out 2
                              have hfz53_3 := blk_frozen BK104.out 3
                              have hfz53_4 := blk_frozen BK104.out 4
                              have hfz53_5 := blk_frozen BK104.out 5
                              go_wp2_with (first | ((with_reducible refine gate_callee (f := 34) rfl ?_); refine goesL_ (some 34) rfl rfl Try.func34 (by kernel_rfl) rfl #[.int .i64 a0_2] rfl (by (try simp only [List.map_toArray, List.map_cons, List.map_nil]); first | done | rfl | (simp only [List.length_drop, List.length_take]; rfl)) ?_; (with_reducible refine (rank_node.calls a0_2 true _ A43.out).mono ?_); rintro e w' ⟨rfl, ⟨nd, rfl⟩⟩; refine ⟨_, rfl, ?_⟩))
                              go_ret
                              exact ⟨by first | rfl | (simp [errW_none, errW_some] <;> rfl) | (simp [*, errW_none, errW_some] <;> rfl), by repeat (first | (with_reducible first | exact HB.out | apply below_alloc | apply pw_below_drewN | apply below_drew1 | refine below_set ?_ GE104.out) | exact HB.out)⟩
                          · rw [if_neg c50] at H
                            have c50b0 : decide (a0_3 < a0_5) = false := decide_eq_false c50
                            clear c50
                            obtain rfl := Option.some.inj H
                            have hcz54_0 : wc.cell? ⟨gb104, 0, none⟩ = some (.int .i64 a0_0) := (blk_cell BK104.out 0).trans rfl
                            have hcz54_1 : wc.cell? ⟨gb104, 1, none⟩ = some (.int .i64 a0_1) := (blk_cell BK104.out 1).trans rfl
                            have hcz54_2 : wc.cell? ⟨gb104, 2, none⟩ = some (.int .i64 a0_2) := (blk_cell BK104.out 2).trans rfl
                            have hcz54_3 : wc.cell? ⟨gb104, 3, none⟩ = some (.int .i64 a0_3) := (blk_cell BK104.out 3).trans rfl
                            have hcz54_4 : wc.cell? ⟨gb104, 4, none⟩ = some (.int .i64 a0_4) := (blk_cell BK104.out 4).trans rfl
                            have hcz54_5 : wc.cell? ⟨gb104, 5, none⟩ = some (.int .i64 a0_5) := (blk_cell BK104.out 5).trans rfl
                            have hfz54_0 := blk_frozen BK104.out 0
                            have hfz54_1 := blk_frozen BK104.out 1
                            have hfz54_2 := blk_frozen BK104.out 2
                            have hfz54_3 := blk_frozen BK104.out 3
                            have hfz54_4 := blk_frozen BK104.out 4
                            have hfz54_5 := blk_frozen BK104.out 5
                            go_wp2_with (first | ((with_reducible refine gate_callee (f := 34) rfl ?_); refine goesL_ (some 34) rfl rfl Try.func34 (by kernel_rfl) rfl #[.int .i64 a0_2] rfl (by (try simp only [List.map_toArray, List.map_cons, List.map_nil]); first | done | rfl | (simp only [List.length_drop, List.length_take]; rfl)) ?_; (with_reducible refine (rank_node.calls a0_2 true _ A43.out).mono ?_); rintro e w' ⟨rfl, ⟨nd, rfl⟩⟩; refine ⟨_, rfl, ?_⟩))
                            go_ret
                            exact ⟨by first | rfl | (simp [errW_none, errW_some] <;> rfl) | (simp [*, errW_none, errW_some] <;> rfl), by repeat (first | (with_reducible first | exact HB.out | apply below_alloc | apply pw_below_drewN | apply below_drew1 | refine below_set ?_ GE104.out) | exact HB.out)⟩
                        · rw [if_neg c49] at H
                          have c49b0 : decide (a0_3 < a0_4) = false := decide_eq_false c49
                          clear c49
                          obtain rfl := Option.some.inj H
                          have hcz55_0 : wc.cell? ⟨gb104, 0, none⟩ = some (.int .i64 a0_0) := (blk_cell BK104.out 0).trans rfl
                          have hcz55_1 : wc.cell? ⟨gb104, 1, none⟩ = some (.int .i64 a0_1) := (blk_cell BK104.out 1).trans rfl
                          have hcz55_2 : wc.cell? ⟨gb104, 2, none⟩ = some (.int .i64 a0_2) := (blk_cell BK104.out 2).trans rfl
                          have hcz55_3 : wc.cell? ⟨gb104, 3, none⟩ = some (.int .i64 a0_3) := (blk_cell BK104.out 3).trans rfl
                          have hcz55_4 : wc.cell? ⟨gb104, 4, none⟩ = some (.int .i64 a0_4) := (blk_cell BK104.out 4).trans rfl
                          have hcz55_5 : wc.cell? ⟨gb104, 5, none⟩ = some (.int .i64 a0_5) := (blk_cell BK104.out 5).trans rfl
                          have hfz55_0 := blk_frozen BK104.out 0
                          have hfz55_1 := blk_frozen BK104.out 1
                          have hfz55_2 := blk_frozen BK104.out 2
                          have hfz55_3 := blk_frozen BK104.out 3
                          have hfz55_4 := blk_frozen BK104.out 4
                          have hfz55_5 := blk_frozen BK104.out 5
                          go_wp2_with (first | ((with_reducible refine gate_callee (f := 34) rfl ?_); refine goesL_ (some 34) rfl rfl Try.func34 (by kernel_rfl) rfl #[.int .i64 a0_2] rfl (by (try simp only [List.map_toArray, List.map_cons, List.map_nil]); first | done | rfl | (simp only [List.length_drop, List.length_take]; rfl)) ?_; (with_reducible refine (rank_node.calls a0_2 true _ A43.out).mono ?_); rintro e w' ⟨rfl, ⟨nd, rfl⟩⟩; refine ⟨_, rfl, ?_⟩))
                          go_ret
                          exact ⟨by first | rfl | (simp [errW_none, errW_some] <;> rfl) | (simp [*, errW_none, errW_some] <;> rfl), by repeat (first | (with_reducible first | exact HB.out | apply below_alloc | apply pw_below_drewN | apply below_drew1 | refine below_set ?_ GE104.out) | exact HB.out)⟩
                      · rw [if_neg c48] at H
                        have c48b0 : decide (0 ≤ a0_3) = false := decide_eq_false c48
                        clear c48
                        obtain rfl := Option.some.inj H
                        have hcz56_0 : wc.cell? ⟨gb104, 0, none⟩ = some (.int .i64 a0_0) := (blk_cell BK104.out 0).trans rfl
                        have hcz56_1 : wc.cell? ⟨gb104, 1, none⟩ = some (.int .i64 a0_1) := (blk_cell BK104.out 1).trans rfl
                        have hcz56_2 : wc.cell? ⟨gb104, 2, none⟩ = some (.int .i64 a0_2) := (blk_cell BK104.out 2).trans rfl
                        have hcz56_3 : wc.cell? ⟨gb104, 3, none⟩ = some (.int .i64 a0_3) := (blk_cell BK104.out 3).trans rfl
                        have hcz56_4 : wc.cell? ⟨gb104, 4, none⟩ = some (.int .i64 a0_4) := (blk_cell BK104.out 4).trans rfl
                        have hcz56_5 : wc.cell? ⟨gb104, 5, none⟩ = some (.int .i64 a0_5) := (blk_cell BK104.out 5).trans rfl
                        have hfz56_0 := blk_frozen BK104.out 0
                        have hfz56_1 := blk_frozen BK104.out 1
                        have hfz56_2 := blk_frozen BK104.out 2
                        have hfz56_3 := blk_frozen BK104.out 3
                        have hfz56_4 := blk_frozen BK104.out 4
                        have hfz56_5 := blk_frozen BK104.out 5
                        go_wp2_with (first | ((with_reducible refine gate_callee (f := 34) rfl ?_); refine goesL_ (some 34) rfl rfl Try.func34 (by kernel_rfl) rfl #[.int .i64 a0_2] rfl (by (try simp only [List.map_toArray, List.map_cons, List.map_nil]); first | done | rfl | (simp only [List.length_drop, List.length_take]; rfl)) ?_; (with_reducible refine (rank_node.calls a0_2 true _ A43.out).mono ?_); rintro e w' ⟨rfl, ⟨nd, rfl⟩⟩; refine ⟨_, rfl, ?_⟩))
                        go_ret
                        exact ⟨by first | rfl | (simp [errW_none, errW_some] <;> rfl) | (simp [*, errW_none, errW_some] <;> rfl), by repeat (first | (with_reducible first | exact HB.out | apply below_alloc | apply pw_below_drewN | apply below_drew1 | refine below_set ?_ GE104.out) | exact HB.out)⟩
                    · rw [if_neg c47] at H
                      have c47b0 : decide (1 ≤ a0_1) = false := decide_eq_false c47
                      clear c47
                      obtain rfl := Option.some.inj H
                      have hcz57_0 : wc.cell? ⟨gb104, 0, none⟩ = some (.int .i64 a0_0) := (blk_cell BK104.out 0).trans rfl
                      have hcz57_1 : wc.cell? ⟨gb104, 1, none⟩ = some (.int .i64 a0_1) := (blk_cell BK104.out 1).trans rfl
                      have hcz57_2 : wc.cell? ⟨gb104, 2, none⟩ = some (.int .i64 a0_2) := (blk_cell BK104.out 2).trans rfl
                      have hcz57_3 : wc.cell? ⟨gb104, 3, none⟩ = some (.int .i64 a0_3) := (blk_cell BK104.out 3).trans rfl
                      have hcz57_4 : wc.cell? ⟨gb104, 4, none⟩ = some (.int .i64 a0_4) := (blk_cell BK104.out 4).trans rfl
                      have hcz57_5 : wc.cell? ⟨gb104, 5, none⟩ = some (.int .i64 a0_5) := (blk_cell BK104.out 5).trans rfl
                      have hfz57_0 := blk_frozen BK104.out 0
                      have hfz57_1 := blk_frozen BK104.out 1
                      have hfz57_2 := blk_frozen BK104.out 2
                      have hfz57_3 := blk_frozen BK104.out 3
                      have hfz57_4 := blk_frozen BK104.out 4
                      have hfz57_5 := blk_frozen BK104.out 5
                      go_wp2_with (first | ((with_reducible refine gate_callee (f := 34) rfl ?_); refine goesL_ (some 34) rfl rfl Try.func34 (by kernel_rfl) rfl #[.int .i64 a0_2] rfl (by (try simp only [List.map_toArray, List.map_cons, List.map_nil]); first | done | rfl | (simp only [List.length_drop, List.length_take]; rfl)) ?_; (with_reducible refine (rank_node.calls a0_2 true _ A43.out).mono ?_); rintro e w' ⟨rfl, ⟨nd, rfl⟩⟩; refine ⟨_, rfl, ?_⟩))
                      go_ret
                      exact ⟨by first | rfl | (simp [errW_none, errW_some] <;> rfl) | (simp [*, errW_none, errW_some] <;> rfl), by repeat (first | (with_reducible first | exact HB.out | apply below_alloc | apply pw_below_drewN | apply below_drew1 | refine below_set ?_ GE104.out) | exact HB.out)⟩
                · replace c44 := Bool.eq_false_iff.mpr c44
                  subst c44
                  have H1 : (some 1) = some r := by rw [if_neg (show ¬ (false = true) by decide)] at H; exact H
                  clear H
                  have H := H1
                  clear H1
                  obtain rfl := Option.some.inj H
                  have hcz58_0 : wc.cell? ⟨gb104, 0, none⟩ = some (.int .i64 a0_0) := (blk_cell BK104.out 0).trans rfl
                  have hcz58_1 : wc.cell? ⟨gb104, 1, none⟩ = some (.int .i64 a0_1) := (blk_cell BK104.out 1).trans rfl
                  have hcz58_2 : wc.cell? ⟨gb104, 2, none⟩ = some (.int .i64 a0_2) := (blk_cell BK104.out 2).trans rfl
                  have hcz58_3 : wc.cell? ⟨gb104, 3, none⟩ = some (.int .i64 a0_3) := (blk_cell BK104.out 3).trans rfl
                  have hcz58_4 : wc.cell? ⟨gb104, 4, none⟩ = some (.int .i64 a0_4) := (blk_cell BK104.out 4).trans rfl
                  have hcz58_5 : wc.cell? ⟨gb104, 5, none⟩ = some (.int .i64 a0_5) := (blk_cell BK104.out 5).trans rfl
                  have hfz58_0 := blk_frozen BK104.out 0
                  have hfz58_1 := blk_frozen BK104.out 1
                  have hfz58_2 := blk_frozen BK104.out 2
                  have hfz58_3 := blk_frozen BK104.out 3
                  have hfz58_4 := blk_frozen BK104.out 4
                  have hfz58_5 := blk_frozen BK104.out 5
                  go_wp2_with (first | ((with_reducible refine gate_callee (f := 34) rfl ?_); refine goesL_ (some 34) rfl rfl Try.func34 (by kernel_rfl) rfl #[.int .i64 a0_2] rfl (by (try simp only [List.map_toArray, List.map_cons, List.map_nil]); first | done | rfl | (simp only [List.length_drop, List.length_take]; rfl)) ?_; (with_reducible refine (rank_node.calls a0_2 false _ A43.out).mono ?_); rintro e w' ⟨rfl, ⟨nd, rfl⟩⟩; refine ⟨_, rfl, ?_⟩))
                  go_ret
                  exact ⟨by first | rfl | (simp [errW_none, errW_some] <;> rfl) | (simp [*, errW_none, errW_some] <;> rfl), by repeat (first | (with_reducible first | exact HB.out | apply below_alloc | apply pw_below_drewN | apply below_drew1 | refine below_set ?_ GE104.out) | exact HB.out)⟩

end Go.Proofs.Ytigobnphenhkjaa.Fns
