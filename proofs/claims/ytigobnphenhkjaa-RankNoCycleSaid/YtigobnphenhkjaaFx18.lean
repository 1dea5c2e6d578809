-- Written by the kit's print.py over this seat's translation (run by wip/gprint.py); a text of this claim.
import Derived.Test.YtigobnphenhkjaaFx0
import Derived.Test.YtigobnphenhkjaaFx15
import Derived.Test.YtigobnphenhkjaaCycle
import Derived.Test.YtigobnphenhkjaaPlay
namespace Go.Proofs.Ytigobnphenhkjaa.Fns
open Go.RowKit Go.Proofs.YtigobnphenhkjaaW.PrintWords Go.Proofs.YtigobnphenhkjaaW.PrintLast Go.Proofs.YtigobnphenhkjaaW.PrintMore
attribute [local go_sem] max2_int min2_int max_two min_two max_three min_three max_four min_four   -- for this text's walks alone
set_option linter.unusedVariables false
set_option linter.unusedSimpArgs false

/-! ### hopmeshlaw22_RankNoCycle: function 6 -/
mutual
def hopmeshlaw22_RankNoCycle.l0 : Nat → List (S50) → Int → Int → Int → Option (Bool)
  | 0, _, _, _, _ => none
  | k + 1, x1, x5, x22, x23 => if x23 < x22 then (if 0 ≤ x23 then (if x23 ≤ (x1.length : Int) then ((rank_Play.f x5 (x1.take (x23 : Int).toNat)).bind fun bt362 => (if bt362.2 = 0 then (if (bt362.1.length : Int) = x5 then ((rank_Cycle.f bt362.1).bind fun t366 => (hopmeshlaw22_RankNoCycle.j1 k x1 x5 bt362.1 x22 x23 (decide ((t366.length : Int) > 0)))) else (hopmeshlaw22_RankNoCycle.j1 k x1 x5 bt362.1 x22 x23 true)) else (some ((bt362.1.length : Int) == 0)))) else (none)) else (none)) else (some true)
def hopmeshlaw22_RankNoCycle.j1 : Nat → List (S50) → Int → List (S23) → Int → Int → Bool → Option (Bool)
  | 0, _, _, _, _, _, _ => none
  | k + 1, x1, x5, x7, x22, x23, x48 => if x48 = true then (some false) else (hopmeshlaw22_RankNoCycle.l1 k x1 x5 x7 x22 x23 (x7.length : Int) 0)
def hopmeshlaw22_RankNoCycle.l1 : Nat → List (S50) → Int → List (S23) → Int → Int → Int → Int → Option (Bool)
  | 0, _, _, _, _, _, _, _ => none
  | k + 1, x1, x5, x7, x22, x23, x50, x51 => if x51 < x50 then (hopmeshlaw22_RankNoCycle.l2 k x1 x5 x7 x51 x22 x23 x50 x51 x5 0) else (hopmeshlaw22_RankNoCycle.l0 k x1 x5 x22 (wrap64 (x23 + 1)))
def hopmeshlaw22_RankNoCycle.l2 : Nat → List (S50) → Int → List (S23) → Int → Int → Int → Int → Int → Int → Int → Option (Bool)
  | 0, _, _, _, _, _, _, _, _, _, _ => none
  | k + 1, x1, x5, x7, x10, x22, x23, x50, x51, x55, x56 => if x56 < x55 then (if x10 ≥ 0 then (if x10 < x5 then (if 0 ≤ x10 then (if x10 < (x7.length : Int) then (hopmeshlaw22_RankNoCycle.l2 k x1 x5 x7 ((rd_T23 x7 x10).f2) x22 x23 x50 x51 x55 (wrap64 (x56 + 1))) else (none)) else (none)) else (hopmeshlaw22_RankNoCycle.l2 k x1 x5 x7 x10 x22 x23 x50 x51 x55 (wrap64 (x56 + 1)))) else (hopmeshlaw22_RankNoCycle.l2 k x1 x5 x7 x10 x22 x23 x50 x51 x55 (wrap64 (x56 + 1)))) else (if x10 = (-1) then (hopmeshlaw22_RankNoCycle.l1 k x1 x5 x7 x22 x23 x50 (wrap64 (x51 + 1))) else (some false))
end
def hopmeshlaw22_RankNoCycle.f (k : Nat) (a0 : Int) (l1 : List (S50)) : Option (Bool) := (hopmeshlaw22_awake.f k).bind fun t357 => (if t357 = true then (if (l1.length : Int) > 60 then (some true) else (hopmeshlaw22_RankNoCycle.l0 k l1 (wrap64 (1 + (Int.tmod (wrap64 (a0)) 8))) (wrap64 ((l1.length : Int) + 1)) 0)) else (some false))
theorem hopmeshlaw22_RankNoCycle.mono_l : ∀ k, (∀ y0 y1 y2 y3, LeO (hopmeshlaw22_RankNoCycle.l0 k y0 y1 y2 y3) (hopmeshlaw22_RankNoCycle.l0 (k + 1) y0 y1 y2 y3)) ∧ (∀ y0 y1 y2 y3 y4 y5, LeO (hopmeshlaw22_RankNoCycle.j1 k y0 y1 y2 y3 y4 y5) (hopmeshlaw22_RankNoCycle.j1 (k + 1) y0 y1 y2 y3 y4 y5)) ∧ (∀ y0 y1 y2 y3 y4 y5 y6, LeO (hopmeshlaw22_RankNoCycle.l1 k y0 y1 y2 y3 y4 y5 y6) (hopmeshlaw22_RankNoCycle.l1 (k + 1) y0 y1 y2 y3 y4 y5 y6)) ∧ (∀ y0 y1 y2 y3 y4 y5 y6 y7 y8 y9, LeO (hopmeshlaw22_RankNoCycle.l2 k y0 y1 y2 y3 y4 y5 y6 y7 y8 y9) (hopmeshlaw22_RankNoCycle.l2 (k + 1) y0 y1 y2 y3 y4 y5 y6 y7 y8 y9))
  | 0 => ⟨fun _ _ _ _ r h => by simp [hopmeshlaw22_RankNoCycle.l0] at h, fun _ _ _ _ _ _ r h => by simp [hopmeshlaw22_RankNoCycle.j1] at h, fun _ _ _ _ _ _ _ r h => by simp [hopmeshlaw22_RankNoCycle.l1] at h, fun _ _ _ _ _ _ _ _ _ _ r h => by simp [hopmeshlaw22_RankNoCycle.l2] at h⟩
  | k + 1 => by
    obtain ⟨ih0, ih1, ih2, ih3⟩ := hopmeshlaw22_RankNoCycle.mono_l k
    refine ⟨?_, ?_, ?_, ?_⟩
    · intro y0 y1 y2 y3
      unfold hopmeshlaw22_RankNoCycle.l0
      repeat' first
      | (with_reducible exact ih0 _ _ _ _)
      | (with_reducible exact ih1 _ _ _ _ _ _)
      | (with_reducible exact ih2 _ _ _ _ _ _ _)
      | (with_reducible exact ih3 _ _ _ _ _ _ _ _ _ _)
      | (with_reducible exact hopmeshlaw22_awake.mono _)
      | (with_reducible exact LeO.refl _)
      | (with_reducible exact LeO.none _)
      | (with_reducible refine LeO.ite ?_ ?_)
      | (with_reducible refine LeO.bind ?_ (fun _ => ?_))
      | exact ih0 _ _ _ _
      | exact ih1 _ _ _ _ _ _
      | exact ih2 _ _ _ _ _ _ _
      | exact ih3 _ _ _ _ _ _ _ _ _ _
      | exact hopmeshlaw22_awake.mono _
      | exact LeO.none _
      | refine LeO.ite ?_ ?_
      | refine LeO.bind ?_ (fun _ => ?_)
    · intro y0 y1 y2 y3 y4 y5
      unfold hopmeshlaw22_RankNoCycle.j1
      repeat' first
      | (with_reducible exact ih0 _ _ _ _)
      | (with_reducible exact ih1 _ _ _ _ _ _)
      | (with_reducible exact ih2 _ _ _ _ _ _ _)
      | (with_reducible exact ih3 _ _ _ _ _ _ _ _ _ _)
      | (with_reducible exact hopmeshlaw22_awake.mono _)
      | (with_reducible exact LeO.refl _)
      | (with_reducible exact LeO.none _)
      | (with_reducible refine LeO.ite ?_ ?_)
      | (with_reducible refine LeO.bind ?_ (fun _ => ?_))
      | exact ih0 _ _ _ _
      | exact ih1 _ _ _ _ _ _
      | exact ih2 _ _ _ _ _ _ _
      | exact ih3 _ _ _ _ _ _ _ _ _ _
      | exact hopmeshlaw22_awake.mono _
      | exact LeO.none _
      | refine LeO.ite ?_ ?_
      | refine LeO.bind ?_ (fun _ => ?_)
    · intro y0 y1 y2 y3 y4 y5 y6
      unfold hopmeshlaw22_RankNoCycle.l1
      repeat' first
      | (with_reducible exact ih0 _ _ _ _)
      | (with_reducible exact ih1 _ _ _ _ _ _)
      | (with_reducible exact ih2 _ _ _ _ _ _ _)
      | (with_reducible exact ih3 _ _ _ _ _ _ _ _ _ _)
      | (with_reducible exact hopmeshlaw22_awake.mono _)
      | (with_reducible exact LeO.refl _)
      | (with_reducible exact LeO.none _)
      | (with_reducible refine LeO.ite ?_ ?_)
      | (with_reducible refine LeO.bind ?_ (fun _ => ?_))
      | exact ih0 _ _ _ _
      | exact ih1 _ _ _ _ _ _
      | exact ih2 _ _ _ _ _ _ _
      | exact ih3 _ _ _ _ _ _ _ _ _ _
      | exact hopmeshlaw22_awake.mono _
      | exact LeO.none _
      | refine LeO.ite ?_ ?_
      | refine LeO.bind ?_ (fun _ => ?_)
    · intro y0 y1 y2 y3 y4 y5 y6 y7 y8 y9
      unfold hopmeshlaw22_RankNoCycle.l2
      repeat' first
      | (with_reducible exact ih0 _ _ _ _)
      | (with_reducible exact ih1 _ _ _ _ _ _)
      | (with_reducible exact ih2 _ _ _ _ _ _ _)
      | (with_reducible exact ih3 _ _ _ _ _ _ _ _ _ _)
      | (with_reducible exact hopmeshlaw22_awake.mono _)
      | (with_reducible exact LeO.refl _)
      | (with_reducible exact LeO.none _)
      | (with_reducible refine LeO.ite ?_ ?_)
      | (with_reducible refine LeO.bind ?_ (fun _ => ?_))
      | exact ih0 _ _ _ _
      | exact ih1 _ _ _ _ _ _
      | exact ih2 _ _ _ _ _ _ _
      | exact ih3 _ _ _ _ _ _ _ _ _ _
      | exact hopmeshlaw22_awake.mono _
      | exact LeO.none _
      | refine LeO.ite ?_ ?_
      | refine LeO.bind ?_ (fun _ => ?_)
theorem hopmeshlaw22_RankNoCycle.mono : ∀ a0 a1 k, LeO (hopmeshlaw22_RankNoCycle.f k a0 a1) (hopmeshlaw22_RankNoCycle.f (k + 1) a0 a1) := by
  intro a0 a1 k
  obtain ⟨ih0, ih1, ih2, ih3⟩ := hopmeshlaw22_RankNoCycle.mono_l k
  unfold hopmeshlaw22_RankNoCycle.f
  repeat' first
      | (with_reducible exact ih0 _ _ _ _)
      | (with_reducible exact ih1 _ _ _ _ _ _)
      | (with_reducible exact ih2 _ _ _ _ _ _ _)
      | (with_reducible exact ih3 _ _ _ _ _ _ _ _ _ _)
      | (with_reducible exact hopmeshlaw22_awake.mono _)
      | (with_reducible exact LeO.refl _)
      | (with_reducible exact LeO.none _)
      | (with_reducible refine LeO.ite ?_ ?_)
      | (with_reducible refine LeO.bind ?_ (fun _ => ?_))
      | exact ih0 _ _ _ _
      | exact ih1 _ _ _ _ _ _
      | exact ih2 _ _ _ _ _ _ _
      | exact ih3 _ _ _ _ _ _ _ _ _ _
      | exact hopmeshlaw22_awake.mono _
      | exact LeO.none _
      | refine LeO.ite ?_ ?_
      | refine LeO.bind ?_ (fun _ => ?_)
set_option maxHeartbeats 8000000 in
set_option maxRecDepth 100000 in
theorem hopmeshlaw22_RankNoCycle.calls (k : Nat) (a0 : Int) (A1 : Option Addr) (c1 : Nat) (l1 : List (S50)) (r : Bool) (w : World) (hr1 : Kd.C k50 w A1 l1.length l1) (hc1 : l1.length ≤ c1) (h : hopmeshlaw22_RankNoCycle.f k a0 l1 = some r) :
    Calls Try.prog 6 #[.int .u8 a0, .slice A1 l1.length c1] w fun e w' => e = .returned (.bool r) ∧ Below w.heap.size w w' := by
  have HR1 := Aside0.mk hr1
  have HC1 := Aside0.mk hc1
  clear hr1 hc1
  have HB := Aside0.mk (Below.refl w.heap.size w)
  have H : ((hopmeshlaw22_awake.f k).bind fun t357 => (if t357 = true then (if (l1.length : Int) > 60 then (some true) else (hopmeshlaw22_RankNoCycle.l0 k l1 (wrap64 (1 + (Int.tmod (wrap64 (a0)) 8))) (wrap64 ((l1.length : Int) + 1)) 0)) else (some false))) = some r := h
  clear h
  replace H := Option.bind_eq_some_iff.mp H
  obtain ⟨t357, A30, H⟩ := H
  replace H : (if t357 = true then (if (l1.length : Int) > 60 then (some true) else (hopmeshlaw22_RankNoCycle.l0 k l1 (wrap64 (1 + (Int.tmod (wrap64 (a0)) 8))) (wrap64 ((l1.length : Int) + 1)) 0)) else (some false)) = some r := H
  have A3 := Aside0.mk A30
  clear A30
  by_cases c4 : t357 = true
  · subst c4
    have H1 : (if (l1.length : Int) > 60 then (some true) else (hopmeshlaw22_RankNoCycle.l0 k l1 (wrap64 (1 + (Int.tmod (wrap64 (a0)) 8))) (wrap64 ((l1.length : Int) + 1)) 0)) = some r := by rw [if_pos rfl] at H; exact H
    clear H
    have H := H1
    clear H1
    by_cases c5 : (l1.length : Int) > 60
    · rw [if_pos c5] at H
      have c5b0 : decide (60 < (l1.length : Int)) = true := decide_eq_true c5
      have c5b1 : decide (60 < l1.length) = true := decide_eq_true (by omega)
      clear c5
      obtain rfl := Option.some.inj H
      go_enter Try.func6, Try.ntmps6
      go_wp2_with (first | ((with_reducible refine gate_callee (f := 10) rfl ?_); refine goesL_ (some 11) rfl rfl Try.func10 (by kernel_rfl) rfl #[] rfl (by (try simp only [List.map_toArray, List.map_cons, List.map_nil]); first | done | rfl | (simp only [List.length_drop, List.length_take]; rfl)) ?_; (with_reducible refine (hopmeshlaw22_awake.calls k  true _ A3.out).mono ?_); rintro e w6 ⟨rfl, hb⟩; refine ⟨_, rfl, ?_⟩; have n0_ := Aside0.mk (below_step (by repeat (first | (with_reducible first | exact HB.out | apply below_alloc | apply pw_below_drewN | apply below_drew1) | exact HB.out)) hb); clear HB; have HB := n0_; clear n0_; (try clear hb); (try clear hb2); (try clear hk); (try clear hi)))
      go_ret
      exact ⟨by first | rfl | (simp [errW_none, errW_some] <;> rfl) | (simp [*, errW_none, errW_some] <;> rfl), by repeat (first | (with_reducible first | exact HB.out | apply below_alloc | apply pw_below_drewN | apply below_drew1) | exact HB.out)⟩
    · rw [if_neg c5] at H
      have c5b0 : decide (60 < (l1.length : Int)) = false := decide_eq_false c5
      have c5b1 : decide (60 < l1.length) = false := decide_eq_false (by omega)
      clear c5
      have H' := Aside0.mk H
      clear H
      go_enter Try.func6, Try.ntmps6
      go_wp2_with (first | ((with_reducible refine gate_callee (f := 10) rfl ?_); refine goesL_ (some 11) rfl rfl Try.func10 (by kernel_rfl) rfl #[] rfl (by (try simp only [List.map_toArray, List.map_cons, List.map_nil]); first | done | rfl | (simp only [List.length_drop, List.length_take]; rfl)) ?_; (with_reducible refine (hopmeshlaw22_awake.calls k  true _ A3.out).mono ?_); rintro e w7 ⟨rfl, hb⟩; refine ⟨_, rfl, ?_⟩; have n0_ := Aside0.mk (below_step (by repeat (first | (with_reducible first | exact HB.out | apply below_alloc | apply pw_below_drewN | apply below_drew1) | exact HB.out)) hb); clear HB; have HB := n0_; clear n0_; (try clear hb); (try clear hb2); (try clear hk); (try clear hi)))
      go_loopg [23] k (fun kq v23 w' => ∃ (x23_1 : Int), v23 = .int .i64 x23_1 ∧ Aside0 (hopmeshlaw22_RankNoCycle.l0 kq l1 (wrap64 (1 + (Int.tmod (wrap64 (a0)) 8))) (wrap64 ((l1.length : Int) + 1)) x23_1 = some r) ∧ Aside0 (kq ≤ k) ∧ Aside0 (Below w.heap.size w w'))
      case atStart => exact ⟨(0), (by first | rfl | (simp; done) | (simp [*]; done)), H', ⟨Nat.le_refl _⟩, ⟨by repeat (first | (with_reducible first | exact HB.out | apply below_alloc | apply pw_below_drewN | apply below_drew1) | exact HB.out)⟩⟩
      case round =>
        clear H'
        try clear c1
        try clear p2
        try clear c4
        try clear c5
        try clear c5b0
        try clear c5b1
        try clear c6
        try clear p6
        obtain ⟨x23_1, rfl, HA, HK1, HB⟩ := hrel
        cases gk with
        | zero => exact absurd HA.out (by simp [hopmeshlaw22_RankNoCycle.l0])
        | succ k1 =>
          have H := HA.out
          clear HA
          simp only [hopmeshlaw22_RankNoCycle.l0] at H
          by_cases c8 : x23_1 < (wrap64 ((l1.length : Int) + 1))
          · rw [if_pos c8] at H
            have c8b0 : decide (x23_1 < (wrap64 ((l1.length : Int) + 1))) = true := decide_eq_true c8
            clear c8
            by_cases c9 : 0 ≤ x23_1
            · rw [if_pos c9] at H
              have c9b0 := eq_true c9
              have c9b1 : decide (0 ≤ x23_1) = true := decide_eq_true c9
              clear c9
              by_cases c10 : x23_1 ≤ (l1.length : Int)
              · rw [if_pos c10] at H
                have c10b0 := eq_true c10
                have c10b1 : decide (x23_1 ≤ (l1.length : Int)) = true := decide_eq_true c10
                clear c10
                obtain ⟨y358, hy358⟩ : ∃ y_ : List (S50), y_ = (l1.take (x23_1 : Int).toNat) := ⟨_, rfl⟩
                replace H : ((rank_Play.f (wrap64 (1 + (Int.tmod (wrap64 (a0)) 8))) y358).bind fun bt362 => (if bt362.2 = 0 then (if (bt362.1.length : Int) = (wrap64 (1 + (Int.tmod (wrap64 (a0)) 8))) then ((rank_Cycle.f bt362.1).bind fun t366 => (hopmeshlaw22_RankNoCycle.j1 k1 l1 (wrap64 (1 + (Int.tmod (wrap64 (a0)) 8))) bt362.1 (wrap64 ((l1.length : Int) + 1)) x23_1 (decide ((t366.length : Int) > 0)))) else (hopmeshlaw22_RankNoCycle.j1 k1 l1 (wrap64 (1 + (Int.tmod (wrap64 (a0)) 8))) bt362.1 (wrap64 ((l1.length : Int) + 1)) x23_1 true)) else (some ((bt362.1.length : Int) == 0)))) = some r := by first | (rw [hy358]; with_reducible exact H) | (have H2_ := (Option.bind_some _ _).symm.trans H; rw [hy358]; with_reducible exact H2_) | (have H2_ := (Option.bind_some _ _).symm.trans H; with_reducible exact H2_) | with_reducible exact H | (rw [hy358]; exact H) | exact H
                have Ny358 := Aside0.mk hy358
                clear hy358
                replace H := Option.bind_eq_some_iff.mp H
                obtain ⟨⟨t362, t363⟩, A110, H⟩ := H
                replace H : (if t363 = 0 then (if (t362.length : Int) = (wrap64 (1 + (Int.tmod (wrap64 (a0)) 8))) then ((rank_Cycle.f t362).bind fun t366 => (hopmeshlaw22_RankNoCycle.j1 k1 l1 (wrap64 (1 + (Int.tmod (wrap64 (a0)) 8))) t362 (wrap64 ((l1.length : Int) + 1)) x23_1 (decide ((t366.length : Int) > 0)))) else (hopmeshlaw22_RankNoCycle.j1 k1 l1 (wrap64 (1 + (Int.tmod (wrap64 (a0)) 8))) t362 (wrap64 ((l1.length : Int) + 1)) x23_1 true)) else (some ((t362.length : Int) == 0))) = some r := H
                have A11 := Aside0.mk A110
                clear A110
                by_cases c12 : t363 = 0
                · rw [if_pos c12] at H
                  have c12b0 : (t363 == 0) = true := beq_iff_eq.mpr c12
                  have c12b1 : (t363 != 0) = false := bne_eq_false_iff_eq.mpr c12
                  clear c12
                  have HC13 := Aside0.mk H
                  clear H
                  have q14 : (x23_1 : Int) ≤ ((l1.length : Int) : Int) := of_decide_eq_true (by first | (with_reducible assumption) | assumption)
                  obtain ⟨i014, hi014, _, hsz14, _⟩ := info_parts info50
                  have hroom14 : l1.length ≤ c1 := HC1.out
                  have hC14 : Kd.C k50 _ A1 l1.length l1 := HR1.out
                  have hcut14 := cut_to (P := Try.prog) 39 50 .i64 Try.underlying39 hi014 A1 l1.length c1 x23_1 (of_decide_eq_true (by first | (with_reducible assumption) | assumption)) q14 hroom14
                  have hr14 := Kd.C_take (m := (x23_1 : Int).toNat) hC14 (by omega)
                  have hy14 : y358.length = (x23_1 : Int).toNat := (by rw [Ny358.out, List.length_take]; omega)
                  rw [← Ny358.out] at hr14
                  rw [← hy14] at hcut14
                  have HR361 := Aside0.mk hr14
                  have HC361 := Aside0.mk (show y358.length ≤ c1 from by omega)
                  clear hr14 hC14 hroom14 hi014 hsz14
                  have KY14 := Aside0.mk hy14
                  clear hy14
                  replace q14 := eq_true q14
                  go_upto_region 12 with (first | ((with_reducible refine gate_callee (f := 28) rfl ?_); refine goesL_ (some 31) rfl rfl Try.func28 (by kernel_rfl) rfl #[.int .i64 (wrap64 (1 + (Int.tmod (wrap64 (a0)) 8))), .slice A1 y358.length c1] rfl (by (try simp only [List.map_toArray, List.map_cons, List.map_nil]); first | done | rfl | (simp only [List.length_drop, List.length_take]; rfl)) ?_; (with_reducible refine (rank_Play.calls (wrap64 (1 + (Int.tmod (wrap64 (a0)) 8))) _ _ y358 t362 t363 _ ?side1 ?side2 A11.out).mono ?_); (case side1 => repeat (first | exact (Kd.C_below HR361.out HB.out) | (with_reducible refine Kd.C_alloc ?_ _) | (with_reducible refine Kd.C_drewN ?_ _) | (with_reducible refine Kd.C_drew ?_))); (case side2 => exact HC361.out); rintro e w15 ⟨v364, rfl, ho0, hb⟩; refine ⟨_, rfl, ?_⟩; have n0_ := Aside0.mk (Kd.R_lower ho0 (below_size (by repeat (first | (with_reducible first | exact HB.out | apply below_alloc | apply pw_below_drewN | apply below_drew1) | exact HB.out)))); have n1_ := Aside0.mk (below_step (by repeat (first | (with_reducible first | exact HB.out | apply below_alloc | apply pw_below_drewN | apply below_drew1) | exact HB.out)) hb); clear HB; have HO365 := n0_; have HB := n1_; clear n0_ n1_; (try clear hb); (try clear hb2); (try clear hk); (try clear hi); (try clear ho0)))
                  (try simp only [Act.put, List.setIfInBounds_toArray, List.set_cons_zero, List.set_cons_succ])
                  go_cut [48] (fun v48 wc => ∃ (kq : Nat) (x48_12 : Bool), v48 = .bool x48_12 ∧ Aside0 (hopmeshlaw22_RankNoCycle.j1 kq l1 (wrap64 (1 + (Int.tmod (wrap64 (a0)) 8))) t362 (wrap64 ((l1.length : Int) + 1)) x23_1 x48_12 = some r) ∧ Aside0 (kq ≤ k1) ∧ Aside0 (Kd.R k23 23 wc w.heap.size (fun _ => True) v364 t362) ∧ Aside0 (Below w.heap.size w wc))
                  case first =>
                    have H := HC13.out
                    clear HC13
                    by_cases c16 : (t362.length : Int) = (wrap64 (1 + (Int.tmod (wrap64 (a0)) 8)))
                    · rw [if_pos c16] at H
                      have c16b0 : ((t362.length : Int) == (wrap64 (1 + (Int.tmod (wrap64 (a0)) 8)))) = true := beq_iff_eq.mpr c16
                      have c16b1 : ((t362.length : Int) != (wrap64 (1 + (Int.tmod (wrap64 (a0)) 8)))) = false := bne_eq_false_iff_eq.mpr c16
                      clear c16
                      (first | rw [c16b0] | (simp only [i64_w, i32_w]; rw [c16b0]) | skip)
                      replace H := Option.bind_eq_some_iff.mp H
                      obtain ⟨t366, A170, H⟩ := H
                      replace H : (hopmeshlaw22_RankNoCycle.j1 k1 l1 (wrap64 (1 + (Int.tmod (wrap64 (a0)) 8))) t362 (wrap64 ((l1.length : Int) + 1)) x23_1 (decide ((t366.length : Int) > 0))) = some r := H
                      have A17 := Aside0.mk A170
                      clear A170
                      have H' := Aside0.mk H
                      clear H
                      obtain ⟨Ao18, co18, eo18⟩ := Kd.R_slice HO365.out
                      subst eo18
                      go_wp2_with (first | (go_at_call 29; (with_reducible refine (rank_Cycle.calls _ _ t362 t366 _ ?side1 ?side2 A17.out).mono ?_); (case side1 => repeat (first | exact (Kd.R_reads' HO365.out).2.2 | (with_reducible refine Kd.C_alloc ?_ _) | (with_reducible refine Kd.C_drewN ?_ _) | (with_reducible refine Kd.C_drew ?_))); (case side2 => exact (Kd.R_reads' HO365.out).2.1); rintro e w19 ⟨v367, rfl, ho0, hb⟩; have n0_ := Aside0.mk (Kd.R_below (by (with_reducible repeat (first | apply Kd.R_alloc | apply Kd.R_drewN | apply Kd.R_drew)); exact HO365.out) hb); have n1_ := Aside0.mk (Kd.R_lower ho0 (below_size (by repeat (first | (with_reducible first | exact HB.out | apply below_alloc | apply pw_below_drewN | apply below_drew1) | exact HB.out)))); have n2_ := Aside0.mk (below_step (by repeat (first | (with_reducible first | exact HB.out | apply below_alloc | apply pw_below_drewN | apply below_drew1) | exact HB.out)) hb); clear HO365; clear HB; have HO365 := n0_; have HO368 := n1_; have HB := n2_; clear n0_ n1_ n2_; (try clear hb); (try clear hb2); (try clear hk); (try clear hi); (try clear ho0); obtain ⟨Ao20, co20, eo20⟩ := Kd.R_slice HO368.out; subst eo20))
                      go_meet
                      case rel => exact ⟨_, (decide ((t366.length : Int) > 0)), (by first | rfl | (simp; done) | (simp [*]; done)), H', ⟨by have := HK1.out; first | omega | exact Nat.le_refl _⟩, ⟨by (with_reducible repeat (first | apply Kd.R_alloc | apply Kd.R_drewN | apply Kd.R_drew)); exact HO365.out⟩, ⟨by repeat (first | (with_reducible first | exact HB.out | apply below_alloc | apply pw_below_drewN | apply below_drew1) | exact HB.out)⟩⟩
                    · rw [if_neg c16] at H
                      have c16b0 : ((t362.length : Int) == (wrap64 (1 + (Int.tmod (wrap64 (a0)) 8)))) = false := beq_eq_false_iff_ne.mpr c16
                      have c16b1 : ((t362.length : Int) != (wrap64 (1 + (Int.tmod (wrap64 (a0)) 8)))) = true := bne_iff_ne.mpr c16
                      (first | rw [c16b0] | (simp only [i64_w, i32_w]; rw [c16b0]) | skip)
                      have H' := Aside0.mk H
                      clear H
                      obtain ⟨Ao21, co21, eo21⟩ := Kd.R_slice HO365.out
                      subst eo21
                      go_wp2
                      go_meet
                      case rel => exact ⟨_, (true), (by first | rfl | (simp; done) | (simp [*]; done)), H', ⟨by have := HK1.out; first | omega | exact Nat.le_refl _⟩, ⟨by (with_reducible repeat (first | apply Kd.R_alloc | apply Kd.R_drewN | apply Kd.R_drew)); exact HO365.out⟩, ⟨by repeat (first | (with_reducible first | exact HB.out | apply below_alloc | apply pw_below_drewN | apply below_drew1) | exact HB.out)⟩⟩
                  case rest =>
                    clear HC13
                    try clear c1
                    try clear q1
                    try clear c2
                    try clear p2
                    try clear c4
                    try clear c5
                    try clear c5b0
                    try clear c5b1
                    try clear c6
                    try clear p6
                    try clear c8
                    try clear c8b0
                    try clear c9
                    try clear c9b0
                    try clear c9b1
                    try clear c10
                    try clear c10b0
                    try clear c10b1
                    try clear c12
                    try clear c12b0
                    try clear c12b1
                    try clear q14
                    try clear c16
                    try clear c16b0
                    try clear c16b1
                    try clear p2
                    try clear p6
                    try clear q14
                    obtain ⟨kq, x48_12, rfl, HA, HJ12, HO_7, HB⟩ := hcut
                    cases kq with
                    | zero => exact absurd HA.out (by simp [hopmeshlaw22_RankNoCycle.j1])
                    | succ kj12 =>
                      have H := HA.out
                      clear HA
                      simp only [hopmeshlaw22_RankNoCycle.j1] at H
                      by_cases c22 : x48_12 = true
                      · subst c22
                        have H1 : (some false) = some r := by rw [if_pos rfl] at H; exact H
                        clear H
                        have H := H1
                        clear H1
                        obtain rfl := Option.some.inj H
                        go_wp2
                        go_ret
                        exact ⟨by first | rfl | (simp [errW_none, errW_some] <;> rfl) | (simp [*, errW_none, errW_some] <;> rfl), by repeat (first | (with_reducible first | exact HB.out | apply below_alloc | apply pw_below_drewN | apply below_drew1) | exact HB.out)⟩
                      · replace c22 := Bool.eq_false_iff.mpr c22
                        subst c22
                        have H1 : (hopmeshlaw22_RankNoCycle.l1 kj12 l1 (wrap64 (1 + (Int.tmod (wrap64 (a0)) 8))) t362 (wrap64 ((l1.length : Int) + 1)) x23_1 (t362.length : Int) 0) = some r := by rw [if_neg (show ¬ (false = true) by decide)] at H; exact H
                        clear H
                        have H := H1
                        clear H1
                        have H' := Aside0.mk H
                        clear H
                        obtain ⟨Ao23, co23, eo23⟩ := Kd.R_slice HO_7.out
                        subst eo23
                        go_wp2
                        go_loopg [51] kj12 (fun kq v51 w' => ∃ (x51_3 : Int), v51 = .int .i64 x51_3 ∧ Aside0 (hopmeshlaw22_RankNoCycle.l1 kq l1 (wrap64 (1 + (Int.tmod (wrap64 (a0)) 8))) t362 (wrap64 ((l1.length : Int) + 1)) x23_1 (t362.length : Int) x51_3 = some r) ∧ Aside0 (kq ≤ kj12) ∧ Aside0 (Kd.R k23 23 w' w.heap.size (fun _ => True) (.slice Ao23 t362.length co23) t362) ∧ Aside0 (Below w.heap.size w w'))
                        case atStart => exact ⟨(0), (by first | rfl | (simp; done) | (simp [*]; done)), H', ⟨Nat.le_refl _⟩, ⟨by (with_reducible repeat (first | apply Kd.R_alloc | apply Kd.R_drewN | apply Kd.R_drew)); exact HO_7.out⟩, ⟨by repeat (first | (with_reducible first | exact HB.out | apply below_alloc | apply pw_below_drewN | apply below_drew1) | exact HB.out)⟩⟩
                        case round =>
                          clear H'
                          try clear c1
                          try clear q1
                          try clear c2
                          try clear p2
                          try clear c4
                          try clear c5
                          try clear c5b0
                          try clear c5b1
                          try clear c6
                          try clear p6
                          try clear c8
                          try clear c8b0
                          try clear c9
                          try clear c9b0
                          try clear c9b1
                          try clear c10
                          try clear c10b0
                          try clear c10b1
                          try clear c12
                          try clear c12b0
                          try clear c12b1
                          try clear q14
                          try clear c16
                          try clear c16b0
                          try clear c16b1
                          try clear c22
                          try clear p2
                          try clear p6
                          try clear q1
                          try clear q14
                          obtain ⟨x51_3, rfl, HA, HK3, HO_7, HB⟩ := hrel
                          cases gk with
                          | zero => exact absurd HA.out (by simp [hopmeshlaw22_RankNoCycle.l1])
                          | succ k3 =>
                            have H := HA.out
                            clear HA
                            simp only [hopmeshlaw22_RankNoCycle.l1] at H
                            by_cases c24 : x51_3 < (t362.length : Int)
                            · rw [if_pos c24] at H
                              have c24b0 : decide (x51_3 < (t362.length : Int)) = true := decide_eq_true c24
                              clear c24
                              have H' := Aside0.mk H
                              clear H
                              go_wp2
                              go_loopg [10, 56] k3 (fun kq v10 v56 w' => ∃ (x10_4 : Int) (x56_4 : Int), v10 = .int .i64 x10_4 ∧ v56 = .int .i64 x56_4 ∧ Aside0 (hopmeshlaw22_RankNoCycle.l2 kq l1 (wrap64 (1 + (Int.tmod (wrap64 (a0)) 8))) t362 x10_4 (wrap64 ((l1.length : Int) + 1)) x23_1 (t362.length : Int) x51_3 (wrap64 (1 + (Int.tmod (wrap64 (a0)) 8))) x56_4 = some r) ∧ Aside0 (kq ≤ k3) ∧ Aside0 (Kd.R k23 23 w' w.heap.size (fun _ => True) (.slice Ao23 t362.length co23) t362) ∧ Aside0 (Below w.heap.size w w'))
                              case atStart => exact ⟨(x51_3), (0), (by first | rfl | (simp; done) | (simp [*]; done)), (by first | rfl | (simp; done) | (simp [*]; done)), H', ⟨Nat.le_refl _⟩, ⟨by (with_reducible repeat (first | apply Kd.R_alloc | apply Kd.R_drewN | apply Kd.R_drew)); exact HO_7.out⟩, ⟨by repeat (first | (with_reducible first | exact HB.out | apply below_alloc | apply pw_below_drewN | apply below_drew1) | exact HB.out)⟩⟩
                              case round =>
                                clear H'
                                try clear c1
                                try clear q1
                                try clear c2
                                try clear p2
                                try clear c4
                                try clear c5
                                try clear c5b0
                                try clear c5b1
                                try clear c6
                                try clear p6
                                try clear c8
                                try clear c8b0
                                try clear c9
                                try clear c9b0
                                try clear c9b1
                                try clear c10
                                try clear c10b0
                                try clear c10b1
                                try clear c12
                                try clear c12b0
                                try clear c12b1
                                try clear q14
                                try clear c16
                                try clear c16b0
                                try clear c16b1
                                try clear c22
                                try clear c24
                                try clear c24b0
                                try clear p2
                                try clear p6
                                try clear q1
                                try clear q14
                                obtain ⟨x10_4, x56_4, rfl, rfl, HA, HK4, HO_7, HB⟩ := hrel
                                cases gk with
                                | zero => exact absurd HA.out (by simp [hopmeshlaw22_RankNoCycle.l2])
                                | succ k4 =>
                                  have H := HA.out
                                  clear HA
                                  simp only [hopmeshlaw22_RankNoCycle.l2] at H
                                  by_cases c25 : x56_4 < (wrap64 (1 + (Int.tmod (wrap64 (a0)) 8)))
                                  · rw [if_pos c25] at H
                                    have c25b0 : decide (x56_4 < (wrap64 (1 + (Int.tmod (wrap64 (a0)) 8)))) = true := decide_eq_true c25
                                    clear c25
                                    by_cases c26 : x10_4 ≥ 0
                                    · rw [if_pos c26] at H
                                      have c26b0 : decide (0 ≤ x10_4) = true := decide_eq_true c26
                                      clear c26
                                      by_cases c27 : x10_4 < (wrap64 (1 + (Int.tmod (wrap64 (a0)) 8)))
                                      · rw [if_pos c27] at H
                                        have c27b0 : decide (x10_4 < (wrap64 (1 + (Int.tmod (wrap64 (a0)) 8)))) = true := decide_eq_true c27
                                        clear c27
                                        by_cases c28 : 0 ≤ x10_4
                                        · rw [if_pos c28] at H
                                          have c28b0 : decide (0 ≤ x10_4) = true := decide_eq_true c28
                                          clear c28
                                          by_cases c29 : x10_4 < (t362.length : Int)
                                          · rw [if_pos c29] at H
                                            have c29b0 : decide (x10_4 < (t362.length : Int)) = true := decide_eq_true c29
                                            clear c29
                                            have H' := Aside0.mk H
                                            clear H
                                            have p369 : 0 ≤ (x10_4 : Int) := of_decide_eq_true (by first | (with_reducible assumption) | assumption)
                                            have q369 : x10_4 < (t362.length : Int) := of_decide_eq_true (by first | (with_reducible assumption) | assumption)
                                            obtain ⟨ad369, e369, hx369_0, hx369_1, hx369_2, hx369_3, hx369_4, hx369_5⟩ := at_T23 (Kd.R_reads' HO_7.out).2.2 x10_4 p369 q369
                                            cases e369
                                            replace p369 := eq_true p369
                                            replace q369 := eq_true q369
                                            go_wp2
                                            go_roundg k4
                                            case measure => have := HK1.out; have := HJ12.out; have := HK3.out; have := HK4.out; omega
                                            case rel => exact ⟨((rd_T23 t362 x10_4).f2), (wrap64 (x56_4 + 1)), (by first | rfl | (simp; done) | (simp [*]; done)), (by first | rfl | (simp; done) | (simp [*]; done)), H', ⟨by have := HK1.out; have := HJ12.out; have := HK3.out; have := HK4.out; omega⟩, ⟨by (with_reducible repeat (first | apply Kd.R_alloc | apply Kd.R_drewN | apply Kd.R_drew)); exact HO_7.out⟩, ⟨by repeat (first | (with_reducible first | exact HB.out | apply below_alloc | apply pw_below_drewN | apply below_drew1) | exact HB.out)⟩⟩
                                          · rw [if_neg c29] at H
                                            exact absurd H (by simp)
                                        · rw [if_neg c28] at H
                                          exact absurd H (by simp)
                                      · rw [if_neg c27] at H
                                        have c27b0 : decide (x10_4 < (wrap64 (1 + (Int.tmod (wrap64 (a0)) 8)))) = false := decide_eq_false c27
                                        clear c27
                                        have H' := Aside0.mk H
                                        clear H
                                        go_wp2
                                        go_roundg k4
                                        case measure => have := HK1.out; have := HJ12.out; have := HK3.out; have := HK4.out; omega
                                        case rel => exact ⟨(x10_4), (wrap64 (x56_4 + 1)), (by first | rfl | (simp; done) | (simp [*]; done)), (by first | rfl | (simp; done) | (simp [*]; done)), H', ⟨by have := HK1.out; have := HJ12.out; have := HK3.out; have := HK4.out; omega⟩, ⟨by (with_reducible repeat (first | apply Kd.R_alloc | apply Kd.R_drewN | apply Kd.R_drew)); exact HO_7.out⟩, ⟨by repeat (first | (with_reducible first | exact HB.out | apply below_alloc | apply pw_below_drewN | apply below_drew1) | exact HB.out)⟩⟩
                                    · rw [if_neg c26] at H
                                      have c26b0 : decide (0 ≤ x10_4) = false := decide_eq_false c26
                                      clear c26
                                      have H' := Aside0.mk H
                                      clear H
                                      go_wp2
                                      go_roundg k4
                                      case measure => have := HK1.out; have := HJ12.out; have := HK3.out; have := HK4.out; omega
                                      case rel => exact ⟨(x10_4), (wrap64 (x56_4 + 1)), (by first | rfl | (simp; done) | (simp [*]; done)), (by first | rfl | (simp; done) | (simp [*]; done)), H', ⟨by have := HK1.out; have := HJ12.out; have := HK3.out; have := HK4.out; omega⟩, ⟨by (with_reducible repeat (first | apply Kd.R_alloc | apply Kd.R_drewN | apply Kd.R_drew)); exact HO_7.out⟩, ⟨by repeat (first | (with_reducible first | exact HB.out | apply below_alloc | apply pw_below_drewN | apply below_drew1) | exact HB.out)⟩⟩
                                  · rw [if_neg c25] at H
                                    have c25b0 : decide (x56_4 < (wrap64 (1 + (Int.tmod (wrap64 (a0)) 8)))) = false := decide_eq_false c25
                                    clear c25
                                    by_cases c30 : x10_4 = (-1)
                                    · rw [if_pos c30] at H
                                      have c30b0 : (x10_4 == (-1)) = true := beq_iff_eq.mpr c30
                                      have c30b1 : (x10_4 != (-1)) = false := bne_eq_false_iff_eq.mpr c30
                                      clear c30
                                      have H' := Aside0.mk H
                                      clear H
                                      go_wp2
                                      go_roundg k4
                                      case measure => have := HK1.out; have := HJ12.out; have := HK3.out; have := HK4.out; omega
                                      case rel => exact ⟨(wrap64 (x51_3 + 1)), (by first | rfl | (simp; done) | (simp [*]; done)), H', ⟨by have := HK1.out; have := HJ12.out; have := HK3.out; have := HK4.out; omega⟩, ⟨by (with_reducible repeat (first | apply Kd.R_alloc | apply Kd.R_drewN | apply Kd.R_drew)); exact HO_7.out⟩, ⟨by repeat (first | (with_reducible first | exact HB.out | apply below_alloc | apply pw_below_drewN | apply below_drew1) | exact HB.out)⟩⟩
                                    · rw [if_neg c30] at H
                                      have c30b0 : (x10_4 == (-1)) = false := beq_eq_false_iff_ne.mpr c30
                                      have c30b1 : (x10_4 != (-1)) = true := bne_iff_ne.mpr c30
                                      obtain rfl := Option.some.inj H
                                      go_wp2
                                      go_ret
                                      exact ⟨by first | rfl | (simp [errW_none, errW_some] <;> rfl) | (simp [*, errW_none, errW_some] <;> rfl), by repeat (first | (with_reducible first | exact HB.out | apply below_alloc | apply pw_below_drewN | apply below_drew1) | exact HB.out)⟩
                            · rw [if_neg c24] at H
                              have c24b0 : decide (x51_3 < (t362.length : Int)) = false := decide_eq_false c24
                              clear c24
                              have H' := Aside0.mk H
                              clear H
                              go_wp2
                              go_roundg k3
                              case measure => have := HK1.out; have := HJ12.out; have := HK3.out; omega
                              case rel => exact ⟨(wrap64 (x23_1 + 1)), (by first | rfl | (simp; done) | (simp [*]; done)), H', ⟨by have := HK1.out; have := HJ12.out; have := HK3.out; omega⟩, ⟨by repeat (first | (with_reducible first | exact HB.out | apply below_alloc | apply pw_below_drewN | apply below_drew1) | exact HB.out)⟩⟩
                · rw [if_neg c12] at H
                  have c12b0 : (t363 == 0) = false := beq_eq_false_iff_ne.mpr c12
                  have c12b1 : (t363 != 0) = true := bne_iff_ne.mpr c12
                  obtain rfl := Option.some.inj H
                  have q31 : (x23_1 : Int) ≤ ((l1.length : Int) : Int) := of_decide_eq_true (by first | (with_reducible assumption) | assumption)
                  obtain ⟨i031, hi031, _, hsz31, _⟩ := info_parts info50
                  have hroom31 : l1.length ≤ c1 := HC1.out
                  have hC31 : Kd.C k50 _ A1 l1.length l1 := HR1.out
                  have hcut31 := cut_to (P := Try.prog) 39 50 .i64 Try.underlying39 hi031 A1 l1.length c1 x23_1 (of_decide_eq_true (by first | (with_reducible assumption) | assumption)) q31 hroom31
                  have hr31 := Kd.C_take (m := (x23_1 : Int).toNat) hC31 (by omega)
                  have hy31 : y358.length = (x23_1 : Int).toNat := (by rw [Ny358.out, List.length_take]; omega)
                  rw [← Ny358.out] at hr31
                  rw [← hy31] at hcut31
                  have HR361 := Aside0.mk hr31
                  have HC361 := Aside0.mk (show y358.length ≤ c1 from by omega)
                  clear hr31 hC31 hroom31 hi031 hsz31
                  have KY31 := Aside0.mk hy31
                  clear hy31
                  replace q31 := eq_true q31
                  go_wp2_with (first | ((with_reducible refine gate_callee (f := 28) rfl ?_); refine goesL_ (some 31) rfl rfl Try.func28 (by kernel_rfl) rfl #[.int .i64 (wrap64 (1 + (Int.tmod (wrap64 (a0)) 8))), .slice A1 y358.length c1] rfl (by (try simp only [List.map_toArray, List.map_cons, List.map_nil]); first | done | rfl | (simp only [List.length_drop, List.length_take]; rfl)) ?_; (with_reducible refine (rank_Play.calls (wrap64 (1 + (Int.tmod (wrap64 (a0)) 8))) _ _ y358 t362 t363 _ ?side1 ?side2 A11.out).mono ?_); (case side1 => repeat (first | exact (Kd.C_below HR361.out HB.out) | (with_reducible refine Kd.C_alloc ?_ _) | (with_reducible refine Kd.C_drewN ?_ _) | (with_reducible refine Kd.C_drew ?_))); (case side2 => exact HC361.out); rintro e w32 ⟨v364, rfl, ho0, hb⟩; refine ⟨_, rfl, ?_⟩; have n0_ := Aside0.mk (Kd.R_lower ho0 (below_size (by repeat (first | (with_reducible first | exact HB.out | apply below_alloc | apply pw_below_drewN | apply below_drew1) | exact HB.out)))); have n1_ := Aside0.mk (below_step (by repeat (first | (with_reducible first | exact HB.out | apply below_alloc | apply pw_below_drewN | apply below_drew1) | exact HB.out)) hb); clear HB; have HO365 := n0_; have HB := n1_; clear n0_ n1_; (try clear hb); (try clear hb2); (try clear hk); (try clear hi); (try clear ho0); obtain ⟨Ao33, co33, eo33⟩ := Kd.R_slice HO365.out; subst eo33))
                  go_ret
                  exact ⟨by first | rfl | (simp [errW_none, errW_some] <;> rfl) | (simp [*, errW_none, errW_some] <;> rfl), by repeat (first | (with_reducible first | exact HB.out | apply below_alloc | apply pw_below_drewN | apply below_drew1) | exact HB.out)⟩
              · rw [if_neg c10] at H
                exact absurd H (by simp)
            · rw [if_neg c9] at H
              exact absurd H (by simp)
          · rw [if_neg c8] at H
            have c8b0 : decide (x23_1 < (wrap64 ((l1.length : Int) + 1))) = false := decide_eq_false c8
            clear c8
            obtain rfl := Option.some.inj H
            go_wp2
            go_ret
            exact ⟨by first | rfl | (simp [errW_none, errW_some] <;> rfl) | (simp [*, errW_none, errW_some] <;> rfl), by repeat (first | (with_reducible first | exact HB.out | apply below_alloc | apply pw_below_drewN | apply below_drew1) | exact HB.out)⟩
  · replace c4 := Bool.eq_false_iff.mpr c4
    subst c4
    have H1 : (some false) = some r := by rw [if_neg (show ¬ (false = true) by decide)] at H; exact H
    clear H
    have H := H1
    clear H1
    obtain rfl := Option.some.inj H
    go_enter Try.func6, Try.ntmps6
    go_wp2_with (first | ((with_reducible refine gate_callee (f := 10) rfl ?_); refine goesL_ (some 11) rfl rfl Try.func10 (by kernel_rfl) rfl #[] rfl (by (try simp only [List.map_toArray, List.map_cons, List.map_nil]); first | done | rfl | (simp only [List.length_drop, List.length_take]; rfl)) ?_; (with_reducible refine (hopmeshlaw22_awake.calls k  false _ A3.out).mono ?_); rintro e w34 ⟨rfl, hb⟩; refine ⟨_, rfl, ?_⟩; have n0_ := Aside0.mk (below_step (by repeat (first | (with_reducible first | exact HB.out | apply below_alloc | apply pw_below_drewN | apply below_drew1) | exact HB.out)) hb); clear HB; have HB := n0_; clear n0_; (try clear hb); (try clear hb2); (try clear hk); (try clear hi)))
    go_ret
    exact ⟨by first | rfl | (simp [errW_none, errW_some] <;> rfl) | (simp [*, errW_none, errW_some] <;> rfl), by repeat (first | (with_reducible first | exact HB.out | apply below_alloc | apply pw_below_drewN | apply below_drew1) | exact HB.out)⟩

end Go.Proofs.Ytigobnphenhkjaa.Fns
