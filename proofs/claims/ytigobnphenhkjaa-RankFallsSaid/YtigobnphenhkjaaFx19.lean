-- Written by the kit's print.py over this seat's translation (run by wip/gprint.py); a text of this claim.
import Derived.Test.YtigobnphenhkjaaFx0
import Derived.Test.YtigobnphenhkjaaFx3
import Derived.Test.YtigobnphenhkjaaFx15
import Derived.Test.YtigobnphenhkjaaPlay
namespace Go.Proofs.Ytigobnphenhkjaa.Fns
open Go.RowKit Go.Proofs.YtigobnphenhkjaaW.PrintWords Go.Proofs.YtigobnphenhkjaaW.PrintLast Go.Proofs.YtigobnphenhkjaaW.PrintMore
attribute [local go_sem] max2_int min2_int max_two min_two max_three min_three max_four min_four   -- for this text's walks alone
set_option linter.unusedVariables false
set_option linter.unusedSimpArgs false

/-! ### hopmeshlaw22_RankFalls: function 7 -/
mutual
def hopmeshlaw22_RankFalls.j0 : Nat → Int → List (S23) → Bool → Option (Bool)
  | 0, _, _, _ => none
  | k + 1, x5, x6, x29 => if x29 = true then (some true) else (if (x6.length : Int) = x5 then (hopmeshlaw22_RankFalls.l0 k x5 x6 x6 (x6.length : Int) 0) else (some false))
def hopmeshlaw22_RankFalls.l0 : Nat → Int → List (S23) → List (S23) → Int → Int → Option (Bool)
  | 0, _, _, _, _, _ => none
  | k + 1, x5, x6, x34, x35, x36 => if x36 < x35 then (if 0 ≤ x36 then (if x36 < (x34.length : Int) then ((rank_Check.f k ((rd_T23 x34 x36).f0) ((rd_T23 x34 x36).f1) ((rd_T23 x34 x36).f2) ((rd_T23 x34 x36).f3) ((rd_T23 x34 x36).f4) ((rd_T23 x34 x36).f5)).bind fun t377 => (if t377 = 0 then (if ((rd_T23 x34 x36).f0) = x36 then (if ((rd_T23 x34 x36).f2) ≥ x5 then (hopmeshlaw22_RankFalls.j2 k x5 x6 x34 x35 x36 true ((rd_T23 x34 x36).f0) ((rd_T23 x34 x36).f1) ((rd_T23 x34 x36).f2) ((rd_T23 x34 x36).f3) ((rd_T23 x34 x36).f4) ((rd_T23 x34 x36).f5)) else (hopmeshlaw22_RankFalls.j2 k x5 x6 x34 x35 x36 (decide (((rd_T23 x34 x36).f2) < (-1))) ((rd_T23 x34 x36).f0) ((rd_T23 x34 x36).f1) ((rd_T23 x34 x36).f2) ((rd_T23 x34 x36).f3) ((rd_T23 x34 x36).f4) ((rd_T23 x34 x36).f5))) else (hopmeshlaw22_RankFalls.j2 k x5 x6 x34 x35 x36 true ((rd_T23 x34 x36).f0) ((rd_T23 x34 x36).f1) ((rd_T23 x34 x36).f2) ((rd_T23 x34 x36).f3) ((rd_T23 x34 x36).f4) ((rd_T23 x34 x36).f5))) else (hopmeshlaw22_RankFalls.j2 k x5 x6 x34 x35 x36 true ((rd_T23 x34 x36).f0) ((rd_T23 x34 x36).f1) ((rd_T23 x34 x36).f2) ((rd_T23 x34 x36).f3) ((rd_T23 x34 x36).f4) ((rd_T23 x34 x36).f5)))) else (none)) else (none)) else (some true)
def hopmeshlaw22_RankFalls.j2 : Nat → Int → List (S23) → List (S23) → Int → Int → Bool → Int → Int → Int → Int → Int → Int → Option (Bool)
  | 0, _, _, _, _, _, _, _, _, _, _, _, _ => none
  | k + 1, x5, x6, x34, x35, x36, x60, x377000, x377001, x377002, x377003, x377004, x377005 => if x60 = true then (some false) else (if x377002 = (-1) then (hopmeshlaw22_RankFalls.l0 k x5 x6 x34 x35 (wrap64 (x36 + 1))) else (if 0 ≤ x377002 then (if x377002 < (x6.length : Int) then (if ((rd_T23 x6 x377002).f1) < x377001 then (some false) else (if ((rd_T23 x6 x377002).f1) = x377001 then (if ((rd_T23 x6 x377002).f5) > x377003 then (some false) else (if x377003 ≥ x377005 then (some false) else (if x377004 ≤ x377003 then (some false) else (hopmeshlaw22_RankFalls.l0 k x5 x6 x34 x35 (wrap64 (x36 + 1)))))) else (if x377003 ≥ x377005 then (some false) else (if x377004 ≤ x377003 then (some false) else (hopmeshlaw22_RankFalls.l0 k x5 x6 x34 x35 (wrap64 (x36 + 1))))))) else (none)) else (none)))
end
def hopmeshlaw22_RankFalls.f (k : Nat) (a0 : Int) (l1 : List (S50)) : Option (Bool) := (hopmeshlaw22_awake.f k).bind fun t370 => (if t370 = true then ((rank_Play.f (wrap64 (1 + (Int.tmod (wrap64 (a0)) 8))) l1).bind fun bt371 => (if (l1.length : Int) > 60 then (hopmeshlaw22_RankFalls.j0 k (wrap64 (1 + (Int.tmod (wrap64 (a0)) 8))) bt371.1 true) else (hopmeshlaw22_RankFalls.j0 k (wrap64 (1 + (Int.tmod (wrap64 (a0)) 8))) bt371.1 (bt371.2 != 0)))) else (some false))
theorem hopmeshlaw22_RankFalls.mono_l : ∀ k, (∀ y0 y1 y2, LeO (hopmeshlaw22_RankFalls.j0 k y0 y1 y2) (hopmeshlaw22_RankFalls.j0 (k + 1) y0 y1 y2)) ∧ (∀ y0 y1 y2 y3 y4, LeO (hopmeshlaw22_RankFalls.l0 k y0 y1 y2 y3 y4) (hopmeshlaw22_RankFalls.l0 (k + 1) y0 y1 y2 y3 y4)) ∧ (∀ y0 y1 y2 y3 y4 y5 y6 y7 y8 y9 y10 y11, LeO (hopmeshlaw22_RankFalls.j2 k y0 y1 y2 y3 y4 y5 y6 y7 y8 y9 y10 y11) (hopmeshlaw22_RankFalls.j2 (k + 1) y0 y1 y2 y3 y4 y5 y6 y7 y8 y9 y10 y11))
  | 0 => ⟨fun _ _ _ r h => by simp [hopmeshlaw22_RankFalls.j0] at h, fun _ _ _ _ _ r h => by simp [hopmeshlaw22_RankFalls.l0] at h, fun _ _ _ _ _ _ _ _ _ _ _ _ r h => by simp [hopmeshlaw22_RankFalls.j2] at h⟩
  | k + 1 => by
    obtain ⟨ih0, ih1, ih2⟩ := hopmeshlaw22_RankFalls.mono_l k
    refine ⟨?_, ?_, ?_⟩
    · intro y0 y1 y2
      unfold hopmeshlaw22_RankFalls.j0
      repeat' first
      | (with_reducible exact ih0 _ _ _)
      | (with_reducible exact ih1 _ _ _ _ _)
      | (with_reducible exact ih2 _ _ _ _ _ _ _ _ _ _ _ _)
      | (with_reducible exact hopmeshlaw22_awake.mono _)
      | (with_reducible exact rank_Check.mono _ _ _ _ _ _ _)
      | (with_reducible exact LeO.refl _)
      | (with_reducible exact LeO.none _)
      | (with_reducible refine LeO.ite ?_ ?_)
      | (with_reducible refine LeO.bind ?_ (fun _ => ?_))
      | exact ih0 _ _ _
      | exact ih1 _ _ _ _ _
      | exact ih2 _ _ _ _ _ _ _ _ _ _ _ _
      | exact hopmeshlaw22_awake.mono _
      | exact rank_Check.mono _ _ _ _ _ _ _
      | exact LeO.none _
      | refine LeO.ite ?_ ?_
      | refine LeO.bind ?_ (fun _ => ?_)
    · intro y0 y1 y2 y3 y4
      unfold hopmeshlaw22_RankFalls.l0
      repeat' first
      | (with_reducible exact ih0 _ _ _)
      | (with_reducible exact ih1 _ _ _ _ _)
      | (with_reducible exact ih2 _ _ _ _ _ _ _ _ _ _ _ _)
      | (with_reducible exact hopmeshlaw22_awake.mono _)
      | (with_reducible exact rank_Check.mono _ _ _ _ _ _ _)
      | (with_reducible exact LeO.refl _)
      | (with_reducible exact LeO.none _)
      | (with_reducible refine LeO.ite ?_ ?_)
      | (with_reducible refine LeO.bind ?_ (fun _ => ?_))
      | exact ih0 _ _ _
      | exact ih1 _ _ _ _ _
      | exact ih2 _ _ _ _ _ _ _ _ _ _ _ _
      | exact hopmeshlaw22_awake.mono _
      | exact rank_Check.mono _ _ _ _ _ _ _
      | exact LeO.none _
      | refine LeO.ite ?_ ?_
      | refine LeO.bind ?_ (fun _ => ?_)
    · intro y0 y1 y2 y3 y4 y5 y6 y7 y8 y9 y10 y11
      unfold hopmeshlaw22_RankFalls.j2
      repeat' first
      | (with_reducible exact ih0 _ _ _)
      | (with_reducible exact ih1 _ _ _ _ _)
      | (with_reducible exact ih2 _ _ _ _ _ _ _ _ _ _ _ _)
      | (with_reducible exact hopmeshlaw22_awake.mono _)
      | (with_reducible exact rank_Check.mono _ _ _ _ _ _ _)
      | (with_reducible exact LeO.refl _)
      | (with_reducible exact LeO.none _)
      | (with_reducible refine LeO.ite ?_ ?_)
      | (with_reducible refine LeO.bind ?_ (fun _ => ?_))
      | exact ih0 _ _ _
      | exact ih1 _ _ _ _ _
      | exact ih2 _ _ _ _ _ _ _ _ _ _ _ _
      | exact hopmeshlaw22_awake.mono _
      | exact rank_Check.mono _ _ _ _ _ _ _
      | exact LeO.none _
      | refine LeO.ite ?_ ?_
      | refine LeO.bind ?_ (fun _ => ?_)
theorem hopmeshlaw22_RankFalls.mono : ∀ a0 a1 k, LeO (hopmeshlaw22_RankFalls.f k a0 a1) (hopmeshlaw22_RankFalls.f (k + 1) a0 a1) := by
  intro a0 a1 k
  obtain ⟨ih0, ih1, ih2⟩ := hopmeshlaw22_RankFalls.mono_l k
  unfold hopmeshlaw22_RankFalls.f
  repeat' first
      | (with_reducible exact ih0 _ _ _)
      | (with_reducible exact ih1 _ _ _ _ _)
      | (with_reducible exact ih2 _ _ _ _ _ _ _ _ _ _ _ _)
      | (with_reducible exact hopmeshlaw22_awake.mono _)
      | (with_reducible exact rank_Check.mono _ _ _ _ _ _ _)
      | (with_reducible exact LeO.refl _)
      | (with_reducible exact LeO.none _)
      | (with_reducible refine LeO.ite ?_ ?_)
      | (with_reducible refine LeO.bind ?_ (fun _ => ?_))
      | exact ih0 _ _ _
      | exact ih1 _ _ _ _ _
      | exact ih2 _ _ _ _ _ _ _ _ _ _ _ _
      | exact hopmeshlaw22_awake.mono _
      | exact rank_Check.mono _ _ _ _ _ _ _
      | exact LeO.none _
      | refine LeO.ite ?_ ?_
      | refine LeO.bind ?_ (fun _ => ?_)
set_option maxHeartbeats 8000000 in
set_option maxRecDepth 100000 in
theorem hopmeshlaw22_RankFalls.calls (k : Nat) (a0 : Int) (A1 : Option Addr) (c1 : Nat) (l1 : List (S50)) (r : Bool) (w : World) (hr1 : Kd.C k50 w A1 l1.length l1) (hc1 : l1.length ≤ c1) (h : hopmeshlaw22_RankFalls.f k a0 l1 = some r) :
    Calls Try.prog 7 #[.int .u8 a0, .slice A1 l1.length c1] w fun e w' => e = .returned (.bool r) ∧ Below w.heap.size w w' := by
  have hu23 := Try.underlying23
  have HR1 := Aside0.mk hr1
  have HC1 := Aside0.mk hc1
  clear hr1 hc1
  have HB := Aside0.mk (Below.refl w.heap.size w)
  have H : ((hopmeshlaw22_awake.f k).bind fun t370 => (if t370 = true then ((rank_Play.f (wrap64 (1 + (Int.tmod (wrap64 (a0)) 8))) l1).bind fun bt371 => (if (l1.length : Int) > 60 then (hopmeshlaw22_RankFalls.j0 k (wrap64 (1 + (Int.tmod (wrap64 (a0)) 8))) bt371.1 true) else (hopmeshlaw22_RankFalls.j0 k (wrap64 (1 + (Int.tmod (wrap64 (a0)) 8))) bt371.1 (bt371.2 != 0)))) else (some false))) = some r := h
  clear h
  replace H := Option.bind_eq_some_iff.mp H
  obtain ⟨t370, A30, H⟩ := H
  replace H : (if t370 = true then ((rank_Play.f (wrap64 (1 + (Int.tmod (wrap64 (a0)) 8))) l1).bind fun bt371 => (if (l1.length : Int) > 60 then (hopmeshlaw22_RankFalls.j0 k (wrap64 (1 + (Int.tmod (wrap64 (a0)) 8))) bt371.1 true) else (hopmeshlaw22_RankFalls.j0 k (wrap64 (1 + (Int.tmod (wrap64 (a0)) 8))) bt371.1 (bt371.2 != 0)))) else (some false)) = some r := H
  have A3 := Aside0.mk A30
  clear A30
  by_cases c4 : t370 = true
  · subst c4
    have H1 : ((rank_Play.f (wrap64 (1 + (Int.tmod (wrap64 (a0)) 8))) l1).bind fun bt371 => (if (l1.length : Int) > 60 then (hopmeshlaw22_RankFalls.j0 k (wrap64 (1 + (Int.tmod (wrap64 (a0)) 8))) bt371.1 true) else (hopmeshlaw22_RankFalls.j0 k (wrap64 (1 + (Int.tmod (wrap64 (a0)) 8))) bt371.1 (bt371.2 != 0)))) = some r := by rw [if_pos rfl] at H; exact H
    clear H
    have H := H1
    clear H1
    replace H := Option.bind_eq_some_iff.mp H
    obtain ⟨⟨t371, t372⟩, A50, H⟩ := H
    replace H : (if (l1.length : Int) > 60 then (hopmeshlaw22_RankFalls.j0 k (wrap64 (1 + (Int.tmod (wrap64 (a0)) 8))) t371 true) else (hopmeshlaw22_RankFalls.j0 k (wrap64 (1 + (Int.tmod (wrap64 (a0)) 8))) t371 (t372 != 0))) = some r := H
    have A5 := Aside0.mk A50
    clear A50
    have HC6 := Aside0.mk H
    clear H
    go_enter Try.func7, Try.ntmps7
    go_upto_region 5 with (first | ((with_reducible refine gate_callee (f := 10) rfl ?_); refine goesL_ (some 11) rfl rfl Try.func10 (by kernel_rfl) rfl #[] rfl (by (try simp only [List.map_toArray, List.map_cons, List.map_nil]); first | done | rfl | (simp only [List.length_drop, List.length_take]; rfl)) ?_; (with_reducible refine (hopmeshlaw22_awake.calls k  true _ A3.out).mono ?_); rintro e w7 ⟨rfl, hb⟩; refine ⟨_, rfl, ?_⟩; have n0_ := Aside0.mk (below_step (by repeat (first | (with_reducible first | exact HB.out | apply below_alloc | apply pw_below_drewN | apply below_drew1) | exact HB.out)) hb); clear HB; have HB := n0_; clear n0_; (try clear hb); (try clear hb2); (try clear hk); (try clear hi)) | ((with_reducible refine gate_callee (f := 28) rfl ?_); refine goesL_ (some 20) rfl rfl Try.func28 (by kernel_rfl) rfl #[.int .i64 (wrap64 (1 + (Int.tmod (wrap64 (a0)) 8))), .slice A1 l1.length c1] rfl (by (try simp only [List.map_toArray, List.map_cons, List.map_nil]); first | done | rfl | (simp only [List.length_drop, List.length_take]; rfl)) ?_; (with_reducible refine (rank_Play.calls (wrap64 (1 + (Int.tmod (wrap64 (a0)) 8))) _ _ l1 t371 t372 _ ?side1 ?side2 A5.out).mono ?_); (case side1 => repeat (first | exact (Kd.C_below HR1.out HB.out) | (with_reducible refine Kd.C_alloc ?_ _) | (with_reducible refine Kd.C_drewN ?_ _) | (with_reducible refine Kd.C_drew ?_))); (case side2 => exact HC1.out); rintro e w8 ⟨v373, rfl, ho0, hb⟩; refine ⟨_, rfl, ?_⟩; have n0_ := Aside0.mk (Kd.R_lower ho0 (below_size (by repeat (first | (with_reducible first | exact HB.out | apply below_alloc | apply pw_below_drewN | apply below_drew1) | exact HB.out)))); have n1_ := Aside0.mk (below_step (by repeat (first | (with_reducible first | exact HB.out | apply below_alloc | apply pw_below_drewN | apply below_drew1) | exact HB.out)) hb); clear HB; have HO374 := n0_; have HB := n1_; clear n0_ n1_; (try clear hb); (try clear hb2); (try clear hk); (try clear hi); (try clear ho0)))
    (try simp only [Act.put, List.setIfInBounds_toArray, List.set_cons_zero, List.set_cons_succ])
    go_cut [29] (fun v29 wc => ∃ (kq : Nat) (x29_5 : Bool), v29 = .bool x29_5 ∧ Aside0 (hopmeshlaw22_RankFalls.j0 kq (wrap64 (1 + (Int.tmod (wrap64 (a0)) 8))) t371 x29_5 = some r) ∧ Aside0 (kq ≤ k) ∧ Aside0 (Kd.R k23 23 wc w.heap.size (fun _ => True) v373 t371) ∧ Aside0 (Below w.heap.size w wc))
    case first =>
      have H := HC6.out
      clear HC6
      by_cases c9 : (l1.length : Int) > 60
      · rw [if_pos c9] at H
        have c9b0 : decide (60 < (l1.length : Int)) = true := decide_eq_true c9
        have c9b1 : decide (60 < l1.length) = true := decide_eq_true (by omega)
        clear c9
        (first | rw [c9b0] | (simp only [i64_w, i32_w]; rw [c9b0]) | skip)
        have H' := Aside0.mk H
        clear H
        go_wp2
        go_meet
        case rel => exact ⟨_, (true), (by first | rfl | (simp; done) | (simp [*]; done)), H', ⟨by first | omega | exact Nat.le_refl _⟩, ⟨by (with_reducible repeat (first | apply Kd.R_alloc | apply Kd.R_drewN | apply Kd.R_drew)); exact HO374.out⟩, ⟨by repeat (first | (with_reducible first | exact HB.out | apply below_alloc | apply pw_below_drewN | apply below_drew1) | exact HB.out)⟩⟩
      · rw [if_neg c9] at H
        have c9b0 : decide (60 < (l1.length : Int)) = false := decide_eq_false c9
        have c9b1 : decide (60 < l1.length) = false := decide_eq_false (by omega)
        clear c9
        (first | rw [c9b0] | (simp only [i64_w, i32_w]; rw [c9b0]) | skip)
        have H' := Aside0.mk H
        clear H
        go_wp2
        go_meet
        case rel => exact ⟨_, ((t372 != 0)), (by first | rfl | (simp; done) | (simp [*]; done)), H', ⟨by first | omega | exact Nat.le_refl _⟩, ⟨by (with_reducible repeat (first | apply Kd.R_alloc | apply Kd.R_drewN | apply Kd.R_drew)); exact HO374.out⟩, ⟨by repeat (first | (with_reducible first | exact HB.out | apply below_alloc | apply pw_below_drewN | apply below_drew1) | exact HB.out)⟩⟩
    case rest =>
      clear HC6
      try clear c1
      try clear c2
      try clear p2
      try clear c4
      try clear p6
      try clear c7
      try clear c9
      try clear c9b0
      try clear c9b1
      obtain ⟨kq, x29_5, rfl, HA, HJ5, HO_6, HB⟩ := hcut
      cases kq with
      | zero => exact absurd HA.out (by simp [hopmeshlaw22_RankFalls.j0])
      | succ kj5 =>
        have H := HA.out
        clear HA
        simp only [hopmeshlaw22_RankFalls.j0] at H
        by_cases c10 : x29_5 = true
        · subst c10
          have H1 : (some true) = some r := by rw [if_pos rfl] at H; exact H
          clear H
          have H := H1
          clear H1
          obtain rfl := Option.some.inj H
          go_wp2
          go_ret
          exact ⟨by first | rfl | (simp [errW_none, errW_some] <;> rfl) | (simp [*, errW_none, errW_some] <;> rfl), by repeat (first | (with_reducible first | exact HB.out | apply below_alloc | apply pw_below_drewN | apply below_drew1) | exact HB.out)⟩
        · replace c10 := Bool.eq_false_iff.mpr c10
          subst c10
          have H1 : (if (t371.length : Int) = (wrap64 (1 + (Int.tmod (wrap64 (a0)) 8))) then (hopmeshlaw22_RankFalls.l0 kj5 (wrap64 (1 + (Int.tmod (wrap64 (a0)) 8))) t371 t371 (t371.length : Int) 0) else (some false)) = some r := by rw [if_neg (show ¬ (false = true) by decide)] at H; exact H
          clear H
          have H := H1
          clear H1
          by_cases c11 : (t371.length : Int) = (wrap64 (1 + (Int.tmod (wrap64 (a0)) 8)))
          · rw [if_pos c11] at H
            have c11b0 : ((t371.length : Int) == (wrap64 (1 + (Int.tmod (wrap64 (a0)) 8)))) = true := beq_iff_eq.mpr c11
            have c11b1 : ((t371.length : Int) != (wrap64 (1 + (Int.tmod (wrap64 (a0)) 8)))) = false := bne_eq_false_iff_eq.mpr c11
            clear c11
            have H' := Aside0.mk H
            clear H
            obtain ⟨Ao12, co12, eo12⟩ := Kd.R_slice HO_6.out
            subst eo12
            go_wp2
            go_loopg [36] kj5 (fun kq v36 w' => ∃ (x36_2 : Int), v36 = .int .i64 x36_2 ∧ Aside0 (hopmeshlaw22_RankFalls.l0 kq (wrap64 (1 + (Int.tmod (wrap64 (a0)) 8))) t371 t371 (t371.length : Int) x36_2 = some r) ∧ Aside0 (kq ≤ kj5) ∧ Aside0 (Kd.R k23 23 w' w.heap.size (fun _ => True) (.slice Ao12 t371.length co12) t371) ∧ Aside0 (Kd.R k23 23 w' w.heap.size (fun _ => True) (.slice Ao12 t371.length co12) t371) ∧ Aside0 (Below w.heap.size w w'))
            case atStart => exact ⟨(0), (by first | rfl | (simp; done) | (simp [*]; done)), H', ⟨Nat.le_refl _⟩, ⟨by (with_reducible repeat (first | apply Kd.R_alloc | apply Kd.R_drewN | apply Kd.R_drew)); exact HO_6.out⟩, ⟨by (with_reducible repeat (first | apply Kd.R_alloc | apply Kd.R_drewN | apply Kd.R_drew)); exact HO_6.out⟩, ⟨by repeat (first | (with_reducible first | exact HB.out | apply below_alloc | apply pw_below_drewN | apply below_drew1) | exact HB.out)⟩⟩
            case round =>
              clear H'
              try clear c1
              try clear c2
              try clear p2
              try clear c4
              try clear p6
              try clear c7
              try clear c9
              try clear c9b0
              try clear c9b1
              try clear c10
              try clear c11
              try clear c11b0
              try clear c11b1
              try clear p2
              try clear p6
              obtain ⟨x36_2, rfl, HA, HK2, HO_6, HO_34, HB⟩ := hrel
              cases gk with
              | zero => exact absurd HA.out (by simp [hopmeshlaw22_RankFalls.l0])
              | succ k2 =>
                have H := HA.out
                clear HA
                simp only [hopmeshlaw22_RankFalls.l0] at H
                by_cases c13 : x36_2 < (t371.length : Int)
                · rw [if_pos c13] at H
                  have c13b0 : decide (x36_2 < (t371.length : Int)) = true := decide_eq_true c13
                  clear c13
                  by_cases c14 : 0 ≤ x36_2
                  · rw [if_pos c14] at H
                    have c14b0 : decide (0 ≤ x36_2) = true := decide_eq_true c14
                    clear c14
                    by_cases c15 : x36_2 < (t371.length : Int)
                    · rw [if_pos c15] at H
                      have c15b0 : decide (x36_2 < (t371.length : Int)) = true := decide_eq_true c15
                      clear c15
                      have HC16 := Aside0.mk H
                      clear H
                      have p375 : 0 ≤ (x36_2 : Int) := of_decide_eq_true (by first | (with_reducible assumption) | assumption)
                      have q375 : x36_2 < (t371.length : Int) := of_decide_eq_true (by first | (with_reducible assumption) | assumption)
                      obtain ⟨ad375, e375, hx375_0, hx375_1, hx375_2, hx375_3, hx375_4, hx375_5⟩ := at_T23 (Kd.R_reads' HO_34.out).2.2 x36_2 p375 q375
                      cases e375
                      replace p375 := eq_true p375
                      replace q375 := eq_true q375
                      go_upto_region 12 with (first | ((with_reducible refine gate_dst (N := 9) rfl ?_); refine box_event ?hg (N := 9) ?hd (cs := #[.int .i64 0, .int .i64 0, .int .i64 0, .int .i64 0, .int .i64 0, .int .i64 0]) (t := 23) ?hr ?_; (case hd => rfl); (case hg => rfl); (case hr => first | (go_simp; done) | (go_simp; rfl)); intro gb376 hg w17 hbox hb; have n0_ := Aside0.mk (Kd.R_below (Kd.R_elderB (by (with_reducible repeat (first | apply Kd.R_alloc | apply Kd.R_drewN | apply Kd.R_drew)); exact HO_6.out) gb376 (Nat.le_of_eq hg.symm)) hb); have n1_ := Aside0.mk (Kd.R_below (Kd.R_elderB (by (with_reducible repeat (first | apply Kd.R_alloc | apply Kd.R_drewN | apply Kd.R_drew)); exact HO_34.out) gb376 (Nat.le_of_eq hg.symm)) hb); have n2_ := Aside0.mk (below_step (by repeat (first | (with_reducible first | exact HB.out | apply below_alloc | apply pw_below_drewN | apply below_drew1) | exact HB.out)) hb); have n3_ := Aside0.mk (hbox); have n4_ := Aside0.mk ((by rw [hg]; exact (below_size (by repeat (first | (with_reducible first | exact HB.out | apply below_alloc | apply pw_below_drewN | apply below_drew1) | exact HB.out))) : w.heap.size ≤ gb376)); have n5_ := Aside0.mk ((by rw [hg]; exact (below_size (by repeat (first | (with_reducible first | exact HB.out | apply below_alloc | apply pw_below_drewN | apply below_drew1) | exact HB.out))) : w.heap.size ≤ gb376)); clear HO_6; clear HO_34; clear HB; have HO_6 := n0_; have HO_34 := n1_; have HB := n2_; have BK376 := n3_; have GW376 := n4_; have GE376 := n5_; clear n0_ n1_ n2_ n3_ n4_ n5_; clear hb hbox hg; have hcz18_0 : w17.cell? ⟨gb376, 0, none⟩ = some (.int .i64 0) := (blk_cell BK376.out 0).trans rfl; have hcz18_1 : w17.cell? ⟨gb376, 1, none⟩ = some (.int .i64 0) := (blk_cell BK376.out 1).trans rfl; have hcz18_2 : w17.cell? ⟨gb376, 2, none⟩ = some (.int .i64 0) := (blk_cell BK376.out 2).trans rfl; have hcz18_3 : w17.cell? ⟨gb376, 3, none⟩ = some (.int .i64 0) := (blk_cell BK376.out 3).trans rfl; have hcz18_4 : w17.cell? ⟨gb376, 4, none⟩ = some (.int .i64 0) := (blk_cell BK376.out 4).trans rfl; have hcz18_5 : w17.cell? ⟨gb376, 5, none⟩ = some (.int .i64 0) := (blk_cell BK376.out 5).trans rfl; have hfz18_0 := blk_frozen BK376.out 0; have hfz18_1 := blk_frozen BK376.out 1; have hfz18_2 := blk_frozen BK376.out 2; have hfz18_3 := blk_frozen BK376.out 3; have hfz18_4 := blk_frozen BK376.out 4; have hfz18_5 := blk_frozen BK376.out 5))
                      (try simp only [Act.put, List.setIfInBounds_toArray, List.set_cons_zero, List.set_cons_succ])
                      go_cut [60] (fun v60 wc => ∃ (kq : Nat) (x60_15 : Bool), v60 = .bool x60_15 ∧ Aside0 (hopmeshlaw22_RankFalls.j2 kq (wrap64 (1 + (Int.tmod (wrap64 (a0)) 8))) t371 t371 (t371.length : Int) x36_2 x60_15 ((rd_T23 t371 x36_2).f0) ((rd_T23 t371 x36_2).f1) ((rd_T23 t371 x36_2).f2) ((rd_T23 t371 x36_2).f3) ((rd_T23 t371 x36_2).f4) ((rd_T23 t371 x36_2).f5) = some r) ∧ Aside0 (kq ≤ k2) ∧ Aside0 (Kd.R k23 23 wc w.heap.size (fun k_ => k_ ≠ gb376) (.slice (some ad375) t371.length co12) t371) ∧ Aside0 (Kd.R k23 23 wc w.heap.size (fun k_ => k_ ≠ gb376) (.slice (some ad375) t371.length co12) t371) ∧ Aside0 (wc.heap[gb376]? = some (.cells #[.int .i64 ((rd_T23 t371 x36_2).f0), .int .i64 ((rd_T23 t371 x36_2).f1), .int .i64 ((rd_T23 t371 x36_2).f2), .int .i64 ((rd_T23 t371 x36_2).f3), .int .i64 ((rd_T23 t371 x36_2).f4), .int .i64 ((rd_T23 t371 x36_2).f5)] 23 (0, 0))) ∧ Aside0 (Below w.heap.size w wc))
                      case first =>
                        have H := HC16.out
                        clear HC16
                        replace H := Option.bind_eq_some_iff.mp H
                        obtain ⟨t377, A190, H⟩ := H
                        replace H : (if t377 = 0 then (if ((rd_T23 t371 x36_2).f0) = x36_2 then (if ((rd_T23 t371 x36_2).f2) ≥ (wrap64 (1 + (Int.tmod (wrap64 (a0)) 8))) then (hopmeshlaw22_RankFalls.j2 k2 (wrap64 (1 + (Int.tmod (wrap64 (a0)) 8))) t371 t371 (t371.length : Int) x36_2 true ((rd_T23 t371 x36_2).f0) ((rd_T23 t371 x36_2).f1) ((rd_T23 t371 x36_2).f2) ((rd_T23 t371 x36_2).f3) ((rd_T23 t371 x36_2).f4) ((rd_T23 t371 x36_2).f5)) else (hopmeshlaw22_RankFalls.j2 k2 (wrap64 (1 + (Int.tmod (wrap64 (a0)) 8))) t371 t371 (t371.length : Int) x36_2 (decide (((rd_T23 t371 x36_2).f2) < (-1))) ((rd_T23 t371 x36_2).f0) ((rd_T23 t371 x36_2).f1) ((rd_T23 t371 x36_2).f2) ((rd_T23 t371 x36_2).f3) ((rd_T23 t371 x36_2).f4) ((rd_T23 t371 x36_2).f5))) else (hopmeshlaw22_RankFalls.j2 k2 (wrap64 (1 + (Int.tmod (wrap64 (a0)) 8))) t371 t371 (t371.length : Int) x36_2 true ((rd_T23 t371 x36_2).f0) ((rd_T23 t371 x36_2).f1) ((rd_T23 t371 x36_2).f2) ((rd_T23 t371 x36_2).f3) ((rd_T23 t371 x36_2).f4) ((rd_T23 t371 x36_2).f5))) else (hopmeshlaw22_RankFalls.j2 k2 (wrap64 (1 + (Int.tmod (wrap64 (a0)) 8))) t371 t371 (t371.length : Int) x36_2 true ((rd_T23 t371 x36_2).f0) ((rd_T23 t371 x36_2).f1) ((rd_T23 t371 x36_2).f2) ((rd_T23 t371 x36_2).f3) ((rd_T23 t371 x36_2).f4) ((rd_T23 t371 x36_2).f5))) = some r := H
                        have A19 := Aside0.mk A190
                        clear A190
                        by_cases c20 : t377 = 0
                        · rw [if_pos c20] at H
                          have c20b0 : (t377 == 0) = true := beq_iff_eq.mpr c20
                          have c20b1 : (t377 != 0) = false := bne_eq_false_iff_eq.mpr c20
                          clear c20
                          (first | rw [c20b0] | (simp only [i64_w, i32_w]; rw [c20b0]) | skip)
                          by_cases c21 : ((rd_T23 t371 x36_2).f0) = x36_2
                          · rw [if_pos c21] at H
                            have c21b0 : (((rd_T23 t371 x36_2).f0) == x36_2) = true := beq_iff_eq.mpr c21
                            have c21b1 : (((rd_T23 t371 x36_2).f0) != x36_2) = false := bne_eq_false_iff_eq.mpr c21
                            clear c21
                            by_cases c22 : ((rd_T23 t371 x36_2).f2) ≥ (wrap64 (1 + (Int.tmod (wrap64 (a0)) 8)))
                            · rw [if_pos c22] at H
                              have c22b0 : decide ((wrap64 (1 + (Int.tmod (wrap64 (a0)) 8))) ≤ ((rd_T23 t371 x36_2).f2)) = true := decide_eq_true c22
                              clear c22
                              have H' := Aside0.mk H
                              clear H
                              have hcz23_0 : w17.cell? ⟨gb376, 0, none⟩ = some (.int .i64 0) := (blk_cell BK376.out 0).trans rfl
                              have hcz23_1 : w17.cell? ⟨gb376, 1, none⟩ = some (.int .i64 0) := (blk_cell BK376.out 1).trans rfl
                              have hcz23_2 : w17.cell? ⟨gb376, 2, none⟩ = some (.int .i64 0) := (blk_cell BK376.out 2).trans rfl
                              have hcz23_3 : w17.cell? ⟨gb376, 3, none⟩ = some (.int .i64 0) := (blk_cell BK376.out 3).trans rfl
                              have hcz23_4 : w17.cell? ⟨gb376, 4, none⟩ = some (.int .i64 0) := (blk_cell BK376.out 4).trans rfl
                              have hcz23_5 : w17.cell? ⟨gb376, 5, none⟩ = some (.int .i64 0) := (blk_cell BK376.out 5).trans rfl
                              have hfz23_0 := blk_frozen BK376.out 0
                              have hfz23_1 := blk_frozen BK376.out 1
                              have hfz23_2 := blk_frozen BK376.out 2
                              have hfz23_3 := blk_frozen BK376.out 3
                              have hfz23_4 := blk_frozen BK376.out 4
                              have hfz23_5 := blk_frozen BK376.out 5
                              go_wp2_with (first | ((with_reducible refine gate_callee (f := 13) rfl ?_); refine goesL_ (some 42) rfl rfl Try.func13 (by kernel_rfl) rfl #[.agg #[.int .i64 ((rd_T23 t371 x36_2).f0), .int .i64 ((rd_T23 t371 x36_2).f1), .int .i64 ((rd_T23 t371 x36_2).f2), .int .i64 ((rd_T23 t371 x36_2).f3), .int .i64 ((rd_T23 t371 x36_2).f4), .int .i64 ((rd_T23 t371 x36_2).f5)]] rfl (by (try simp only [List.map_toArray, List.map_cons, List.map_nil]); first | done | rfl | (simp only [List.length_drop, List.length_take]; rfl)) ?_; (with_reducible refine (rank_Check.calls k2 ((rd_T23 t371 x36_2).f0) ((rd_T23 t371 x36_2).f1) ((rd_T23 t371 x36_2).f2) ((rd_T23 t371 x36_2).f3) ((rd_T23 t371 x36_2).f4) ((rd_T23 t371 x36_2).f5) t377 _ A19.out).mono ?_); rintro e w24 ⟨rfl, hb⟩; refine ⟨_, rfl, ?_⟩; have n0_ := Aside0.mk (Kd.R_below (by (with_reducible repeat (first | apply Kd.R_alloc | apply Kd.R_drewN | apply Kd.R_drew)); exact (Kd.R_mono (Kd.R_far (p := ⟨gb376, 5, none⟩) (Kd.R_far (p := ⟨gb376, 4, none⟩) (Kd.R_far (p := ⟨gb376, 3, none⟩) (Kd.R_far (p := ⟨gb376, 2, none⟩) (Kd.R_far (p := ⟨gb376, 1, none⟩) (Kd.R_far (p := ⟨gb376, 0, none⟩) (Kd.R_mono HO_6.out (fun k_ hk => (⟨hk, hk.2⟩ : _ ∧ k_ ≠ gb376))) (fun _ hk => hk.2) (.int .i64 ((rd_T23 t371 x36_2).f0))) (fun _ hk => hk.2) (.int .i64 ((rd_T23 t371 x36_2).f1))) (fun _ hk => hk.2) (.int .i64 ((rd_T23 t371 x36_2).f2))) (fun _ hk => hk.2) (.int .i64 ((rd_T23 t371 x36_2).f3))) (fun _ hk => hk.2) (.int .i64 ((rd_T23 t371 x36_2).f4))) (fun _ hk => hk.2) (.int .i64 ((rd_T23 t371 x36_2).f5))) (fun _ h_ => h_.1))) hb); have n1_ := Aside0.mk (Kd.R_below (by (with_reducible repeat (first | apply Kd.R_alloc | apply Kd.R_drewN | apply Kd.R_drew)); exact (Kd.R_mono (Kd.R_far (p := ⟨gb376, 5, none⟩) (Kd.R_far (p := ⟨gb376, 4, none⟩) (Kd.R_far (p := ⟨gb376, 3, none⟩) (Kd.R_far (p := ⟨gb376, 2, none⟩) (Kd.R_far (p := ⟨gb376, 1, none⟩) (Kd.R_far (p := ⟨gb376, 0, none⟩) (Kd.R_mono HO_34.out (fun k_ hk => (⟨hk, hk.2⟩ : _ ∧ k_ ≠ gb376))) (fun _ hk => hk.2) (.int .i64 ((rd_T23 t371 x36_2).f0))) (fun _ hk => hk.2) (.int .i64 ((rd_T23 t371 x36_2).f1))) (fun _ hk => hk.2) (.int .i64 ((rd_T23 t371 x36_2).f2))) (fun _ hk => hk.2) (.int .i64 ((rd_T23 t371 x36_2).f3))) (fun _ hk => hk.2) (.int .i64 ((rd_T23 t371 x36_2).f4))) (fun _ hk => hk.2) (.int .i64 ((rd_T23 t371 x36_2).f5))) (fun _ h_ => h_.1))) hb); have n2_ := Aside0.mk (blk_below (g := gb376) (o := .cells #[.int .i64 ((rd_T23 t371 x36_2).f0), .int .i64 ((rd_T23 t371 x36_2).f1), .int .i64 ((rd_T23 t371 x36_2).f2), .int .i64 ((rd_T23 t371 x36_2).f3), .int .i64 ((rd_T23 t371 x36_2).f4), .int .i64 ((rd_T23 t371 x36_2).f5)] 23 (0, 0)) (by (with_reducible repeat (first | refine blk_drewN ?_ _ | refine blk_drew ?_ | refine blk_alloc ?_ _)); refine blk_put (cs := #[.int .i64 ((rd_T23 t371 x36_2).f0), .int .i64 ((rd_T23 t371 x36_2).f1), .int .i64 ((rd_T23 t371 x36_2).f2), .int .i64 ((rd_T23 t371 x36_2).f3), .int .i64 ((rd_T23 t371 x36_2).f4), .int .i64 0]) ?_ 5 _ rfl; (with_reducible repeat (first | refine blk_drewN ?_ _ | refine blk_drew ?_ | refine blk_alloc ?_ _)); refine blk_put (cs := #[.int .i64 ((rd_T23 t371 x36_2).f0), .int .i64 ((rd_T23 t371 x36_2).f1), .int .i64 ((rd_T23 t371 x36_2).f2), .int .i64 ((rd_T23 t371 x36_2).f3), .int .i64 0, .int .i64 0]) ?_ 4 _ rfl; (with_reducible repeat (first | refine blk_drewN ?_ _ | refine blk_drew ?_ | refine blk_alloc ?_ _)); refine blk_put (cs := #[.int .i64 ((rd_T23 t371 x36_2).f0), .int .i64 ((rd_T23 t371 x36_2).f1), .int .i64 ((rd_T23 t371 x36_2).f2), .int .i64 0, .int .i64 0, .int .i64 0]) ?_ 3 _ rfl; (with_reducible repeat (first | refine blk_drewN ?_ _ | refine blk_drew ?_ | refine blk_alloc ?_ _)); refine blk_put (cs := #[.int .i64 ((rd_T23 t371 x36_2).f0), .int .i64 ((rd_T23 t371 x36_2).f1), .int .i64 0, .int .i64 0, .int .i64 0, .int .i64 0]) ?_ 2 _ rfl; (with_reducible repeat (first | refine blk_drewN ?_ _ | refine blk_drew ?_ | refine blk_alloc ?_ _)); refine blk_put (cs := #[.int .i64 ((rd_T23 t371 x36_2).f0), .int .i64 0, .int .i64 0, .int .i64 0, .int .i64 0, .int .i64 0]) ?_ 1 _ rfl; (with_reducible repeat (first | refine blk_drewN ?_ _ | refine blk_drew ?_ | refine blk_alloc ?_ _)); refine blk_put (cs := #[.int .i64 0, .int .i64 0, .int .i64 0, .int .i64 0, .int .i64 0, .int .i64 0]) ?_ 0 _ rfl; (with_reducible repeat (first | refine blk_drewN ?_ _ | refine blk_drew ?_ | refine blk_alloc ?_ _)); exact BK376.out) hb); have n3_ := Aside0.mk (below_step (by repeat (first | (with_reducible first | exact HB.out | apply below_alloc | apply pw_below_drewN | apply below_drew1 | refine below_set ?_ GE376.out) | exact HB.out)) hb); clear HO_6; clear HO_34; clear BK376; clear HB; have HO_6 := n0_; have HO_34 := n1_; have BK376 := n2_; have HB := n3_; clear n0_ n1_ n2_ n3_; (try clear hb); (try clear hb2); (try clear hk); (try clear hi); have hcz25_0 : w24.cell? ⟨gb376, 0, none⟩ = some (.int .i64 ((rd_T23 t371 x36_2).f0)) := (blk_cell BK376.out 0).trans rfl; have hcz25_1 : w24.cell? ⟨gb376, 1, none⟩ = some (.int .i64 ((rd_T23 t371 x36_2).f1)) := (blk_cell BK376.out 1).trans rfl; have hcz25_2 : w24.cell? ⟨gb376, 2, none⟩ = some (.int .i64 ((rd_T23 t371 x36_2).f2)) := (blk_cell BK376.out 2).trans rfl; have hcz25_3 : w24.cell? ⟨gb376, 3, none⟩ = some (.int .i64 ((rd_T23 t371 x36_2).f3)) := (blk_cell BK376.out 3).trans rfl; have hcz25_4 : w24.cell? ⟨gb376, 4, none⟩ = some (.int .i64 ((rd_T23 t371 x36_2).f4)) := (blk_cell BK376.out 4).trans rfl; have hcz25_5 : w24.cell? ⟨gb376, 5, none⟩ = some (.int .i64 ((rd_T23 t371 x36_2).f5)) := (blk_cell BK376.out 5).trans rfl; have hfz25_0 := blk_frozen BK376.out 0; have hfz25_1 := blk_frozen BK376.out 1; have hfz25_2 := blk_frozen BK376.out 2; have hfz25_3 := blk_frozen BK376.out 3; have hfz25_4 := blk_frozen BK376.out 4; have hfz25_5 := blk_frozen BK376.out 5))
                              go_meet
                              case rel => exact ⟨_, (true), (by first | rfl | (simp; done) | (simp [*]; done)), H', ⟨by have := HJ5.out; have := HK2.out; first | omega | exact Nat.le_refl _⟩, ⟨by (with_reducible repeat (first | apply Kd.R_alloc | apply Kd.R_drewN | apply Kd.R_drew)); exact Kd.R_mono HO_6.out (fun _ hk => hk.2)⟩, ⟨by (with_reducible repeat (first | apply Kd.R_alloc | apply Kd.R_drewN | apply Kd.R_drew)); exact Kd.R_mono HO_34.out (fun _ hk => hk.2)⟩, ⟨by (with_reducible repeat (first | refine blk_drewN ?_ _ | refine blk_drew ?_ | refine blk_alloc ?_ _)); exact BK376.out⟩, ⟨by repeat (first | (with_reducible first | exact HB.out | apply below_alloc | apply pw_below_drewN | apply below_drew1 | refine below_set ?_ GE376.out) | exact HB.out)⟩⟩
                            · rw [if_neg c22] at H
                              have c22b0 : decide ((wrap64 (1 + (Int.tmod (wrap64 (a0)) 8))) ≤ ((rd_T23 t371 x36_2).f2)) = false := decide_eq_false c22
                              clear c22
                              have H' := Aside0.mk H
                              clear H
                              have hcz26_0 : w17.cell? ⟨gb376, 0, none⟩ = some (.int .i64 0) := (blk_cell BK376.out 0).trans rfl
                              have hcz26_1 : w17.cell? ⟨gb376, 1, none⟩ = some (.int .i64 0) := (blk_cell BK376.out 1).trans rfl
                              have hcz26_2 : w17.cell? ⟨gb376, 2, none⟩ = some (.int .i64 0) := (blk_cell BK376.out 2).trans rfl
                              have hcz26_3 : w17.cell? ⟨gb376, 3, none⟩ = some (.int .i64 0) := (blk_cell BK376.out 3).trans rfl
                              have hcz26_4 : w17.cell? ⟨gb376, 4, none⟩ = some (.int .i64 0) := (blk_cell BK376.out 4).trans rfl
                              have hcz26_5 : w17.cell? ⟨gb376, 5, none⟩ = some (.int .i64 0) := (blk_cell BK376.out 5).trans rfl
                              have hfz26_0 := blk_frozen BK376.out 0
                              have hfz26_1 := blk_frozen BK376.out 1
                              have hfz26_2 := blk_frozen BK376.out 2
                              have hfz26_3 := blk_frozen BK376.out 3
                              have hfz26_4 := blk_frozen BK376.out 4
                              have hfz26_5 := blk_frozen BK376.out 5
                              go_wp2_with (first | ((with_reducible refine gate_callee (f := 13) rfl ?_); refine goesL_ (some 42) rfl rfl Try.func13 (by kernel_rfl) rfl #[.agg #[.int .i64 ((rd_T23 t371 x36_2).f0), .int .i64 ((rd_T23 t371 x36_2).f1), .int .i64 ((rd_T23 t371 x36_2).f2), .int .i64 ((rd_T23 t371 x36_2).f3), .int .i64 ((rd_T23 t371 x36_2).f4), .int .i64 ((rd_T23 t371 x36_2).f5)]] rfl (by (try simp only [List.map_toArray, List.map_cons, List.map_nil]); first | done | rfl | (simp only [List.length_drop, List.length_take]; rfl)) ?_; (with_reducible refine (rank_Check.calls k2 ((rd_T23 t371 x36_2).f0) ((rd_T23 t371 x36_2).f1) ((rd_T23 t371 x36_2).f2) ((rd_T23 t371 x36_2).f3) ((rd_T23 t371 x36_2).f4) ((rd_T23 t371 x36_2).f5) t377 _ A19.out).mono ?_); rintro e w27 ⟨rfl, hb⟩; refine ⟨_, rfl, ?_⟩; have n0_ := Aside0.mk (Kd.R_below (by (with_reducible repeat (first | apply Kd.R_alloc | apply Kd.R_drewN | apply Kd.R_drew)); exact (Kd.R_mono (Kd.R_far (p := ⟨gb376, 5, none⟩) (Kd.R_far (p := ⟨gb376, 4, none⟩) (Kd.R_far (p := ⟨gb376, 3, none⟩) (Kd.R_far (p := ⟨gb376, 2, none⟩) (Kd.R_far (p := ⟨gb376, 1, none⟩) (Kd.R_far (p := ⟨gb376, 0, none⟩) (Kd.R_mono HO_6.out (fun k_ hk => (⟨hk, hk.2⟩ : _ ∧ k_ ≠ gb376))) (fun _ hk => hk.2) (.int .i64 ((rd_T23 t371 x36_2).f0))) (fun _ hk => hk.2) (.int .i64 ((rd_T23 t371 x36_2).f1))) (fun _ hk => hk.2) (.int .i64 ((rd_T23 t371 x36_2).f2))) (fun _ hk => hk.2) (.int .i64 ((rd_T23 t371 x36_2).f3))) (fun _ hk => hk.2) (.int .i64 ((rd_T23 t371 x36_2).f4))) (fun _ hk => hk.2) (.int .i64 ((rd_T23 t371 x36_2).f5))) (fun _ h_ => h_.1))) hb); have n1_ := Aside0.mk (Kd.R_below (by (with_reducible repeat (first | apply Kd.R_alloc | apply Kd.R_drewN | apply Kd.R_drew)); exact (Kd.R_mono (Kd.R_far (p := ⟨gb376, 5, none⟩) (Kd.R_far (p := ⟨gb376, 4, none⟩) (Kd.R_far (p := ⟨gb376, 3, none⟩) (Kd.R_far (p := ⟨gb376, 2, none⟩) (Kd.R_far (p := ⟨gb376, 1, none⟩) (Kd.R_far (p := ⟨gb376, 0, none⟩) (Kd.R_mono HO_34.out (fun k_ hk => (⟨hk, hk.2⟩ : _ ∧ k_ ≠ gb376))) (fun _ hk => hk.2) (.int .i64 ((rd_T23 t371 x36_2).f0))) (fun _ hk => hk.2) (.int .i64 ((rd_T23 t371 x36_2).f1))) (fun _ hk => hk.2) (.int .i64 ((rd_T23 t371 x36_2).f2))) (fun _ hk => hk.2) (.int .i64 ((rd_T23 t371 x36_2).f3))) (fun _ hk => hk.2) (.int .i64 ((rd_T23 t371 x36_2).f4))) (fun _ hk => hk.2) (.int .i64 ((rd_T23 t371 x36_2).f5))) (fun _ h_ => h_.1))) hb); have n2_ := Aside0.mk (blk_below (g := gb376) (o := .cells #[.int .i64 ((rd_T23 t371 x36_2).f0), .int .i64 ((rd_T23 t371 x36_2).f1), .int .i64 ((rd_T23 t371 x36_2).f2), .int .i64 ((rd_T23 t371 x36_2).f3), .int .i64 ((rd_T23 t371 x36_2).f4), .int .i64 ((rd_T23 t371 x36_2).f5)] 23 (0, 0)) (by (with_reducible repeat (first | refine blk_drewN ?_ _ | refine blk_drew ?_ | refine blk_alloc ?_ _)); refine blk_put (cs := #[.int .i64 ((rd_T23 t371 x36_2).f0), .int .i64 ((rd_T23 t371 x36_2).f1), .int .i64 ((rd_T23 t371 x36_2).f2), .int .i64 ((rd_T23 t371 x36_2).f3), .int .i64 ((rd_T23 t371 x36_2).f4), .int .i64 0]) ?_ 5 _ rfl; (with_reducible repeat (first | refine blk_drewN ?_ _ | refine blk_drew ?_ | refine blk_alloc ?_ _)); refine blk_put (cs := #[.int .i64 ((rd_T23 t371 x36_2).f0), .int .i64 ((rd_T23 t371 x36_2).f1), .int .i64 ((rd_T23 t371 x36_2).f2), .int .i64 ((rd_T23 t371 x36_2).f3), .int .i64 0, .int .i64 0]) ?_ 4 _ rfl; (with_reducible repeat (first | refine blk_drewN ?_ _ | refine blk_drew ?_ | refine blk_alloc ?_ _)); refine blk_put (cs := #[.int .i64 ((rd_T23 t371 x36_2).f0), .int .i64 ((rd_T23 t371 x36_2).f1), .int .i64 ((rd_T23 t371 x36_2).f2), .int .i64 0, .int .i64 0, .int .i64 0]) ?_ 3 _ rfl; (with_reducible repeat (first | refine blk_drewN ?_ _ | refine blk_drew ?_ | refine blk_alloc ?_ _)); refine blk_put (cs := #[.int .i64 ((rd_T23 t371 x36_2).f0), .int .i64 ((rd_T23 t371 x36_2).f1), .int .i64 0, .int .i64 0, .int .i64 0, .int .i64 0]) ?_ 2 _ rfl; (with_reducible repeat (first | refine blk_drewN ?_ _ | refine blk_drew ?_ | refine blk_alloc ?_ _)); refine blk_put (cs := #[.int .i64 ((rd_T23 t371 x36_2).f0), .int .i64 0, .int .i64 0, .int .i64 0, .int .i64 0, .int .i64 0]) ?_ 1 _ rfl; (with_reducible repeat (first | refine blk_drewN ?_ _ | refine blk_drew ?_ | refine blk_alloc ?_ _)); refine blk_put (cs := #[.int .i64 0, .int .i64 0, .int .i64 0, .int .i64 0, .int .i64 0, .int .i64 0]) ?_ 0 _ rfl; (with_reducible repeat (first | refine blk_drewN ?_ _ | refine blk_drew ?_ | refine blk_alloc ?_ _)); exact BK376.out) hb); have n3_ := Aside0.mk (below_step (by repeat (first | (with_reducible first | exact HB.out | apply below_alloc | apply pw_below_drewN | apply below_drew1 | refine below_set ?_ GE376.out) | exact HB.out)) hb); clear HO_6; clear HO_34; clear BK376; clear HB; have HO_6 := n0_; have HO_34 := n1_; have BK376 := n2_; have HB := n3_; clear n0_ n1_ n2_ n3_; (try clear hb); (try clear hb2); (try clear hk); (try clear hi); have hcz28_0 : w27.cell? ⟨gb376, 0, none⟩ = some (.int .i64 ((rd_T23 t371 x36_2).f0)) := (blk_cell BK376.out 0).trans rfl; have hcz28_1 : w27.cell? ⟨gb376, 1, none⟩ = some (.int .i64 ((rd_T23 t371 x36_2).f1)) := (blk_cell BK376.out 1).trans rfl; have hcz28_2 : w27.cell? ⟨gb376, 2, none⟩ = some (.int .i64 ((rd_T23 t371 x36_2).f2)) := (blk_cell BK376.out 2).trans rfl; have hcz28_3 : w27.cell? ⟨gb376, 3, none⟩ = some (.int .i64 ((rd_T23 t371 x36_2).f3)) := (blk_cell BK376.out 3).trans rfl; have hcz28_4 : w27.cell? ⟨gb376, 4, none⟩ = some (.int .i64 ((rd_T23 t371 x36_2).f4)) := (blk_cell BK376.out 4).trans rfl; have hcz28_5 : w27.cell? ⟨gb376, 5, none⟩ = some (.int .i64 ((rd_T23 t371 x36_2).f5)) := (blk_cell BK376.out 5).trans rfl; have hfz28_0 := blk_frozen BK376.out 0; have hfz28_1 := blk_frozen BK376.out 1; have hfz28_2 := blk_frozen BK376.out 2; have hfz28_3 := blk_frozen BK376.out 3; have hfz28_4 := blk_frozen BK376.out 4; have hfz28_5 := blk_frozen BK376.out 5))
                              go_meet
                              case rel => exact ⟨_, (decide (((rd_T23 t371 x36_2).f2) < (-1))), (by first | rfl | (simp; done) | (simp [*]; done)), H', ⟨by have := HJ5.out; have := HK2.out; first | omega | exact Nat.le_refl _⟩, ⟨by (with_reducible repeat (first | apply Kd.R_alloc | apply Kd.R_drewN | apply Kd.R_drew)); exact Kd.R_mono HO_6.out (fun _ hk => hk.2)⟩, ⟨by (with_reducible repeat (first | apply Kd.R_alloc | apply Kd.R_drewN | apply Kd.R_drew)); exact Kd.R_mono HO_34.out (fun _ hk => hk.2)⟩, ⟨by (with_reducible repeat (first | refine blk_drewN ?_ _ | refine blk_drew ?_ | refine blk_alloc ?_ _)); exact BK376.out⟩, ⟨by repeat (first | (with_reducible first | exact HB.out | apply below_alloc | apply pw_below_drewN | apply below_drew1 | refine below_set ?_ GE376.out) | exact HB.out)⟩⟩
                          · rw [if_neg c21] at H
                            have c21b0 : (((rd_T23 t371 x36_2).f0) == x36_2) = false := beq_eq_false_iff_ne.mpr c21
                            have c21b1 : (((rd_T23 t371 x36_2).f0) != x36_2) = true := bne_iff_ne.mpr c21
                            have H' := Aside0.mk H
                            clear H
                            have hcz29_0 : w17.cell? ⟨gb376, 0, none⟩ = some (.int .i64 0) := (blk_cell BK376.out 0).trans rfl
                            have hcz29_1 : w17.cell? ⟨gb376, 1, none⟩ = some (.int .i64 0) := (blk_cell BK376.out 1).trans rfl
                            have hcz29_2 : w17.cell? ⟨gb376, 2, none⟩ = some (.int .i64 0) := (blk_cell BK376.out 2).trans rfl
                            have hcz29_3 : w17.cell? ⟨gb376, 3, none⟩ = some (.int .i64 0) := (blk_cell BK376.out 3).trans rfl
                            have hcz29_4 : w17.cell? ⟨gb376, 4, none⟩ = some (.int .i64 0) := (blk_cell BK376.out 4).trans rfl
                            have hcz29_5 : w17.cell? ⟨gb376, 5, none⟩ = some (.int .i64 0) := (blk_cell BK376.out 5).trans rfl
                            have hfz29_0 := blk_frozen BK376.out 0
                            have hfz29_1 := blk_frozen BK376.out 1
                            have hfz29_2 := blk_frozen BK376.out 2
                            have hfz29_3 := blk_frozen BK376.out 3
                            have hfz29_4 := blk_frozen BK376.out 4
                            have hfz29_5 := blk_frozen BK376.out 5
                            go_wp2_with (first | ((with_reducible refine gate_callee (f := 13) rfl ?_); refine goesL_ (some 42) rfl rfl Try.func13 (by kernel_rfl) rfl #[.agg #[.int .i64 ((rd_T23 t371 x36_2).f0), .int .i64 ((rd_T23 t371 x36_2).f1), .int .i64 ((rd_T23 t371 x36_2).f2), .int .i64 ((rd_T23 t371 x36_2).f3), .int .i64 ((rd_T23 t371 x36_2).f4), .int .i64 ((rd_T23 t371 x36_2).f5)]] rfl (by (try simp only [List.map_toArray, List.map_cons, List.map_nil]); first | done | rfl | (simp only [List.length_drop, List.length_take]; rfl)) ?_; (with_reducible refine (rank_Check.calls k2 ((rd_T23 t371 x36_2).f0) ((rd_T23 t371 x36_2).f1) ((rd_T23 t371 x36_2).f2) ((rd_T23 t371 x36_2).f3) ((rd_T23 t371 x36_2).f4) ((rd_T23 t371 x36_2).f5) t377 _ A19.out).mono ?_); rintro e w30 ⟨rfl, hb⟩; refine ⟨_, rfl, ?_⟩; have n0_ := Aside0.mk (Kd.R_below (by (with_reducible repeat (first | apply Kd.R_alloc | apply Kd.R_drewN | apply Kd.R_drew)); exact (Kd.R_mono (Kd.R_far (p := ⟨gb376, 5, none⟩) (Kd.R_far (p := ⟨gb376, 4, none⟩) (Kd.R_far (p := ⟨gb376, 3, none⟩) (Kd.R_far (p := ⟨gb376, 2, none⟩) (Kd.R_far (p := ⟨gb376, 1, none⟩) (Kd.R_far (p := ⟨gb376, 0, none⟩) (Kd.R_mono HO_6.out (fun k_ hk => (⟨hk, hk.2⟩ : _ ∧ k_ ≠ gb376))) (fun _ hk => hk.2) (.int .i64 ((rd_T23 t371 x36_2).f0))) (fun _ hk => hk.2) (.int .i64 ((rd_T23 t371 x36_2).f1))) (fun _ hk => hk.2) (.int .i64 ((rd_T23 t371 x36_2).f2))) (fun _ hk => hk.2) (.int .i64 ((rd_T23 t371 x36_2).f3))) (fun _ hk => hk.2) (.int .i64 ((rd_T23 t371 x36_2).f4))) (fun _ hk => hk.2) (.int .i64 ((rd_T23 t371 x36_2).f5))) (fun _ h_ => h_.1))) hb); have n1_ := Aside0.mk (Kd.R_below (by (with_reducible repeat (first | apply Kd.R_alloc | apply Kd.R_drewN | apply Kd.R_drew)); exact (Kd.R_mono (Kd.R_far (p := ⟨gb376, 5, none⟩) (Kd.R_far (p := ⟨gb376, 4, none⟩) (Kd.R_far (p := ⟨gb376, 3, none⟩) (Kd.R_far (p := ⟨gb376, 2, none⟩) (Kd.R_far (p := ⟨gb376, 1, none⟩) (Kd.R_far (p := ⟨gb376, 0, none⟩) (Kd.R_mono HO_34.out (fun k_ hk => (⟨hk, hk.2⟩ : _ ∧ k_ ≠ gb376))) (fun _ hk => hk.2) (.int .i64 ((rd_T23 t371 x36_2).f0))) (fun _ hk => hk.2) (.int .i64 ((rd_T23 t371 x36_2).f1))) (fun _ hk => hk.2) (.int .i64 ((rd_T23 t371 x36_2).f2))) (fun _ hk => hk.2) (.int .i64 ((rd_T23 t371 x36_2).f3))) (fun _ hk => hk.2) (.int .i64 ((rd_T23 t371 x36_2).f4))) (fun _ hk => hk.2) (.int .i64 ((rd_T23 t371 x36_2).f5))) (fun _ h_ => h_.1))) hb); have n2_ := Aside0.mk (blk_below (g := gb376) (o := .cells #[.int .i64 ((rd_T23 t371 x36_2).f0), .int .i64 ((rd_T23 t371 x36_2).f1), .int .i64 ((rd_T23 t371 x36_2).f2), .int .i64 ((rd_T23 t371 x36_2).f3), .int .i64 ((rd_T23 t371 x36_2).f4), .int .i64 ((rd_T23 t371 x36_2).f5)] 23 (0, 0)) (by (with_reducible repeat (first | refine blk_drewN ?_ _ | refine blk_drew ?_ | refine blk_alloc ?_ _)); refine blk_put (cs := #[.int .i64 ((rd_T23 t371 x36_2).f0), .int .i64 ((rd_T23 t371 x36_2).f1), .int .i64 ((rd_T23 t371 x36_2).f2), .int .i64 ((rd_T23 t371 x36_2).f3), .int .i64 ((rd_T23 t371 x36_2).f4), .int .i64 0]) ?_ 5 _ rfl; (with_reducible repeat (first | refine blk_drewN ?_ _ | refine blk_drew ?_ | refine blk_alloc ?_ _)); refine blk_put (cs := #[.int .i64 ((rd_T23 t371 x36_2).f0), .int .i64 ((rd_T23 t371 x36_2).f1), .int .i64 ((rd_T23 t371 x36_2).f2), .int .i64 ((rd_T23 t371 x36_2).f3), .int .i64 0, .int .i64 0]) ?_ 4 _ rfl; (with_reducible repeat (first | refine blk_drewN ?_ _ | refine blk_drew ?_ | refine blk_alloc ?_ _)); refine blk_put (cs := #[.int .i64 ((rd_T23 t371 x36_2).f0), .int .i64 ((rd_T23 t371 x36_2).f1), .int .i64 ((rd_T23 t371 x36_2).f2), .int .i64 0, .int .i64 0, .int .i64 0]) ?_ 3 _ rfl; (with_reducible repeat (first | refine blk_drewN ?_ _ | refine blk_drew ?_ | refine blk_alloc ?_ _)); refine blk_put (cs := #[.int .i64 ((rd_T23 t371 x36_2).f0), .int .i64 ((rd_T23 t371 x36_2).f1), .int .i64 0, .int .i64 0, .int .i64 0, .int .i64 0]) ?_ 2 _ rfl; (with_reducible repeat (first | refine blk_drewN ?_ _ | refine blk_drew ?_ | refine blk_alloc ?_ _)); refine blk_put (cs := #[.int .i64 ((rd_T23 t371 x36_2).f0), .int .i64 0, .int .i64 0, .int .i64 0, .int .i64 0, .int .i64 0]) ?_ 1 _ rfl; (with_reducible repeat (first | refine blk_drewN ?_ _ | refine blk_drew ?_ | refine blk_alloc ?_ _)); refine blk_put (cs := #[.int .i64 0, .int .i64 0, .int .i64 0, .int .i64 0, .int .i64 0, .int .i64 0]) ?_ 0 _ rfl; (with_reducible repeat (first | refine blk_drewN ?_ _ | refine blk_drew ?_ | refine blk_alloc ?_ _)); exact BK376.out) hb); have n3_ := Aside0.mk (below_step (by repeat (first | (with_reducible first | exact HB.out | apply below_alloc | apply pw_below_drewN | apply below_drew1 | refine below_set ?_ GE376.out) | exact HB.out)) hb); clear HO_6; clear HO_34; clear BK376; clear HB; have HO_6 := n0_; have HO_34 := n1_; have BK376 := n2_; have HB := n3_; clear n0_ n1_ n2_ n3_; (try clear hb); (try clear hb2); (try clear hk); (try clear hi); have hcz31_0 : w30.cell? ⟨gb376, 0, none⟩ = some (.int .i64 ((rd_T23 t371 x36_2).f0)) := (blk_cell BK376.out 0).trans rfl; have hcz31_1 : w30.cell? ⟨gb376, 1, none⟩ = some (.int .i64 ((rd_T23 t371 x36_2).f1)) := (blk_cell BK376.out 1).trans rfl; have hcz31_2 : w30.cell? ⟨gb376, 2, none⟩ = some (.int .i64 ((rd_T23 t371 x36_2).f2)) := (blk_cell BK376.out 2).trans rfl; have hcz31_3 : w30.cell? ⟨gb376, 3, none⟩ = some (.int .i64 ((rd_T23 t371 x36_2).f3)) := (blk_cell BK376.out 3).trans rfl; have hcz31_4 : w30.cell? ⟨gb376, 4, none⟩ = some (.int .i64 ((rd_T23 t371 x36_2).f4)) := (blk_cell BK376.out 4).trans rfl; have hcz31_5 : w30.cell? ⟨gb376, 5, none⟩ = some (.int .i64 ((rd_T23 t371 x36_2).f5)) := (blk_cell BK376.out 5).trans rfl; have hfz31_0 := blk_frozen BK376.out 0; have hfz31_1 := blk_frozen BK376.out 1; have hfz31_2 := blk_frozen BK376.out 2; have hfz31_3 := blk_frozen BK376.out 3; have hfz31_4 := blk_frozen BK376.out 4; have hfz31_5 := blk_frozen BK376.out 5))
                            go_meet
                            case rel => exact ⟨_, (true), (by first | rfl | (simp; done) | (simp [*]; done)), H', ⟨by have := HJ5.out; have := HK2.out; first | omega | exact Nat.le_refl _⟩, ⟨by (with_reducible repeat (first | apply Kd.R_alloc | apply Kd.R_drewN | apply Kd.R_drew)); exact Kd.R_mono HO_6.out (fun _ hk => hk.2)⟩, ⟨by (with_reducible repeat (first | apply Kd.R_alloc | apply Kd.R_drewN | apply Kd.R_drew)); exact Kd.R_mono HO_34.out (fun _ hk => hk.2)⟩, ⟨by (with_reducible repeat (first | refine blk_drewN ?_ _ | refine blk_drew ?_ | refine blk_alloc ?_ _)); exact BK376.out⟩, ⟨by repeat (first | (with_reducible first | exact HB.out | apply below_alloc | apply pw_below_drewN | apply below_drew1 | refine below_set ?_ GE376.out) | exact HB.out)⟩⟩
                        · rw [if_neg c20] at H
                          have c20b0 : (t377 == 0) = false := beq_eq_false_iff_ne.mpr c20
                          have c20b1 : (t377 != 0) = true := bne_iff_ne.mpr c20
                          (first | rw [c20b0] | (simp only [i64_w, i32_w]; rw [c20b0]) | skip)
                          have H' := Aside0.mk H
                          clear H
                          have hcz32_0 : w17.cell? ⟨gb376, 0, none⟩ = some (.int .i64 0) := (blk_cell BK376.out 0).trans rfl
                          have hcz32_1 : w17.cell? ⟨gb376, 1, none⟩ = some (.int .i64 0) := (blk_cell BK376.out 1).trans rfl
                          have hcz32_2 : w17.cell? ⟨gb376, 2, none⟩ = some (.int .i64 0) := (blk_cell BK376.out 2).trans rfl
                          have hcz32_3 : w17.cell? ⟨gb376, 3, none⟩ = some (.int .i64 0) := (blk_cell BK376.out 3).trans rfl
                          have hcz32_4 : w17.cell? ⟨gb376, 4, none⟩ = some (.int .i64 0) := (blk_cell BK376.out 4).trans rfl
                          have hcz32_5 : w17.cell? ⟨gb376, 5, none⟩ = some (.int .i64 0) := (blk_cell BK376.out 5).trans rfl
                          have hfz32_0 := blk_frozen BK376.out 0
                          have hfz32_1 := blk_frozen BK376.out 1
                          have hfz32_2 := blk_frozen BK376.out 2
                          have hfz32_3 := blk_frozen BK376.out 3
                          have hfz32_4 := blk_frozen BK376.out 4
                          have hfz32_5 := blk_frozen BK376.out 5
                          go_wp2_with (first | ((with_reducible refine gate_callee (f := 13) rfl ?_); refine goesL_ (some 42) rfl rfl Try.func13 (by kernel_rfl) rfl #[.agg #[.int .i64 ((rd_T23 t371 x36_2).f0), .int .i64 ((rd_T23 t371 x36_2).f1), .int .i64 ((rd_T23 t371 x36_2).f2), .int .i64 ((rd_T23 t371 x36_2).f3), .int .i64 ((rd_T23 t371 x36_2).f4), .int .i64 ((rd_T23 t371 x36_2).f5)]] rfl (by (try simp only [List.map_toArray, List.map_cons, List.map_nil]); first | done | rfl | (simp only [List.length_drop, List.length_take]; rfl)) ?_; (with_reducible refine (rank_Check.calls k2 ((rd_T23 t371 x36_2).f0) ((rd_T23 t371 x36_2).f1) ((rd_T23 t371 x36_2).f2) ((rd_T23 t371 x36_2).f3) ((rd_T23 t371 x36_2).f4) ((rd_T23 t371 x36_2).f5) t377 _ A19.out).mono ?_); rintro e w33 ⟨rfl, hb⟩; refine ⟨_, rfl, ?_⟩; have n0_ := Aside0.mk (Kd.R_below (by (with_reducible repeat (first | apply Kd.R_alloc | apply Kd.R_drewN | apply Kd.R_drew)); exact (Kd.R_mono (Kd.R_far (p := ⟨gb376, 5, none⟩) (Kd.R_far (p := ⟨gb376, 4, none⟩) (Kd.R_far (p := ⟨gb376, 3, none⟩) (Kd.R_far (p := ⟨gb376, 2, none⟩) (Kd.R_far (p := ⟨gb376, 1, none⟩) (Kd.R_far (p := ⟨gb376, 0, none⟩) (Kd.R_mono HO_6.out (fun k_ hk => (⟨hk, hk.2⟩ : _ ∧ k_ ≠ gb376))) (fun _ hk => hk.2) (.int .i64 ((rd_T23 t371 x36_2).f0))) (fun _ hk => hk.2) (.int .i64 ((rd_T23 t371 x36_2).f1))) (fun _ hk => hk.2) (.int .i64 ((rd_T23 t371 x36_2).f2))) (fun _ hk => hk.2) (.int .i64 ((rd_T23 t371 x36_2).f3))) (fun _ hk => hk.2) (.int .i64 ((rd_T23 t371 x36_2).f4))) (fun _ hk => hk.2) (.int .i64 ((rd_T23 t371 x36_2).f5))) (fun _ h_ => h_.1))) hb); have n1_ := Aside0.mk (Kd.R_below (by (with_reducible repeat (first | apply Kd.R_alloc | apply Kd.R_drewN | apply Kd.R_drew)); exact (Kd.R_mono (Kd.R_far (p := ⟨gb376, 5, none⟩) (Kd.R_far (p := ⟨gb376, 4, none⟩) (Kd.R_far (p := ⟨gb376, 3, none⟩) (Kd.R_far (p := ⟨gb376, 2, none⟩) (Kd.R_far (p := ⟨gb376, 1, none⟩) (Kd.R_far (p := ⟨gb376, 0, none⟩) (Kd.R_mono HO_34.out (fun k_ hk => (⟨hk, hk.2⟩ : _ ∧ k_ ≠ gb376))) (fun _ hk => hk.2) (.int .i64 ((rd_T23 t371 x36_2).f0))) (fun _ hk => hk.2) (.int .i64 ((rd_T23 t371 x36_2).f1))) (fun _ hk => hk.2) (.int .i64 ((rd_T23 t371 x36_2).f2))) (fun _ hk => hk.2) (.int .i64 ((rd_T23 t371 x36_2).f3))) (fun _ hk => hk.2) (.int .i64 ((rd_T23 t371 x36_2).f4))) (fun _ hk => hk.2) (.int .i64 ((rd_T23 t371 x36_2).f5))) (fun _ h_ => h_.1))) hb); have n2_ := Aside0.mk (blk_below (g := gb376) (o := .cells #[.int .i64 ((rd_T23 t371 x36_2).f0), .int .i64 ((rd_T23 t371 x36_2).f1), .int .i64 ((rd_T23 t371 x36_2).f2), .int .i64 ((rd_T23 t371 x36_2).f3), .int .i64 ((rd_T23 t371 x36_2).f4), .int .i64 ((rd_T23 t371 x36_2).f5)] 23 (0, 0)) (by (with_reducible repeat (first | refine blk_drewN ?_ _ | refine blk_drew ?_ | refine blk_alloc ?_ _)); refine blk_put (cs := #[.int .i64 ((rd_T23 t371 x36_2).f0), .int .i64 ((rd_T23 t371 x36_2).f1), .int .i64 ((rd_T23 t371 x36_2).f2), .int .i64 ((rd_T23 t371 x36_2).f3), .int .i64 ((rd_T23 t371 x36_2).f4), .int .i64 0]) ?_ 5 _ rfl; (with_reducible repeat (first | refine blk_drewN ?_ _ | refine blk_drew ?_ | refine blk_alloc ?_ _)); refine blk_put (cs := #[.int .i64 ((rd_T23 t371 x36_2).f0), .int .i64 ((rd_T23 t371 x36_2).f1), .int .i64 ((rd_T23 t371 x36_2).f2), .int .i64 ((rd_T23 t371 x36_2).f3), .int .i64 0, .int .i64 0]) ?_ 4 _ rfl; (with_reducible repeat (first | refine blk_drewN ?_ _ | refine blk_drew ?_ | refine blk_alloc ?_ _)); refine blk_put (cs := #[.int .i64 ((rd_T23 t371 x36_2).f0), .int .i64 ((rd_T23 t371 x36_2).f1), .int .i64 ((rd_T23 t371 x36_2).f2), .int .i64 0, .int .i64 0, .int .i64 0]) ?_ 3 _ rfl; (with_reducible repeat (first | refine blk_drewN ?_ _ | refine blk_drew ?_ | refine blk_alloc ?_ _)); refine blk_put (cs := #[.int .i64 ((rd_T23 t371 x36_2).f0), .int .i64 ((rd_T23 t371 x36_2).f1), .int .i64 0, .int .i64 0, .int .i64 0, .int .i64 0]) ?_ 2 _ rfl; (with_reducible repeat (first | refine blk_drewN ?_ _ | refine blk_drew ?_ | refine blk_alloc ?_ _)); refine blk_put (cs := #[.int .i64 ((rd_T23 t371 x36_2).f0), .int .i64 0, .int .i64 0, .int .i64 0, .int .i64 0, .int .i64 0]) ?_ 1 _ rfl; (with_reducible repeat (first | refine blk_drewN ?_ _ | refine blk_drew ?_ | refine blk_alloc ?_ _)); refine blk_put (cs := #[.int .i64 0, .int .i64 0, .int .i64 0, .int .i64 0, .int .i64 0, .int .i64 0]) ?_ 0 _ rfl; (with_reducible repeat (first | refine blk_drewN ?_ _ | refine blk_drew ?_ | refine blk_alloc ?_ _)); exact BK376.out) hb); have n3_ := Aside0.mk (below_step (by repeat (first | (with_reducible first | exact HB.out | apply below_alloc | apply pw_below_drewN | apply below_drew1 | refine below_set ?_ GE376.out) | exact HB.out)) hb); clear HO_6; clear HO_34; clear BK376; clear HB; have HO_6 := n0_; have HO_34 := n1_; have BK376 := n2_; have HB := n3_; clear n0_ n1_ n2_ n3_; (try clear hb); (try clear hb2); (try clear hk); (try clear hi)))
                          go_meet
                          case rel => exact ⟨_, (true), (by first | rfl | (simp; done) | (simp [*]; done)), H', ⟨by have := HJ5.out; have := HK2.out; first | omega | exact Nat.le_refl _⟩, ⟨by (with_reducible repeat (first | apply Kd.R_alloc | apply Kd.R_drewN | apply Kd.R_drew)); exact Kd.R_mono HO_6.out (fun _ hk => hk.2)⟩, ⟨by (with_reducible repeat (first | apply Kd.R_alloc | apply Kd.R_drewN | apply Kd.R_drew)); exact Kd.R_mono HO_34.out (fun _ hk => hk.2)⟩, ⟨by (with_reducible repeat (first | refine blk_drewN ?_ _ | refine blk_drew ?_ | refine blk_alloc ?_ _)); exact BK376.out⟩, ⟨by repeat (first | (with_reducible first | exact HB.out | apply below_alloc | apply pw_below_drewN | apply below_drew1 | refine below_set ?_ GE376.out) | exact HB.out)⟩⟩
                      case rest =>
                        clear HC16
                        try clear c1
                        try clear c2
                        try clear p2
                        try clear p3
                        try clear q3
                        try clear hx3
                        try clear c4
                        try clear p6
                        try clear c7
                        try clear c9
                        try clear c9b0
                        try clear c9b1
                        try clear c10
                        try clear c11
                        try clear c11b0
                        try clear c11b1
                        try clear c13
                        try clear c13b0
                        try clear c14
                        try clear c14b0
                        try clear c15
                        try clear c15b0
                        try clear c20
                        try clear c20b0
                        try clear c20b1
                        try clear c21
                        try clear c21b0
                        try clear c21b1
                        try clear c22
                        try clear c22b0
                        try clear c28
                        try clear hcz18_0
                        try clear hcz18_1
                        try clear hcz18_2
                        try clear hcz18_3
                        try clear hcz18_4
                        try clear hcz18_5
                        try clear hcz23_0
                        try clear hcz23_1
                        try clear hcz23_2
                        try clear hcz23_3
                        try clear hcz23_4
                        try clear hcz23_5
                        try clear hcz25_0
                        try clear hcz25_1
                        try clear hcz25_2
                        try clear hcz25_3
                        try clear hcz25_4
                        try clear hcz25_5
                        try clear hcz26_0
                        try clear hcz26_1
                        try clear hcz26_2
                        try clear hcz26_3
                        try clear hcz26_4
                        try clear hcz26_5
                        try clear hcz28_0
                        try clear hcz28_1
                        try clear hcz28_2
                        try clear hcz28_3
                        try clear hcz28_4
                        try clear hcz28_5
                        try clear hcz29_0
                        try clear hcz29_1
                        try clear hcz29_2
                        try clear hcz29_3
                        try clear hcz29_4
                        try clear hcz29_5
                        try clear hcz31_0
                        try clear hcz31_1
                        try clear hcz31_2
                        try clear hcz31_3
                        try clear hcz31_4
                        try clear hcz31_5
                        try clear hcz32_0
                        try clear hcz32_1
                        try clear hcz32_2
                        try clear hcz32_3
                        try clear hcz32_4
                        try clear hcz32_5
                        try clear hfz18_0
                        try clear hfz18_1
                        try clear hfz18_2
                        try clear hfz18_3
                        try clear hfz18_4
                        try clear hfz18_5
                        try clear hfz23_0
                        try clear hfz23_1
                        try clear hfz23_2
                        try clear hfz23_3
                        try clear hfz23_4
                        try clear hfz23_5
                        try clear hfz25_0
                        try clear hfz25_1
                        try clear hfz25_2
                        try clear hfz25_3
                        try clear hfz25_4
                        try clear hfz25_5
                        try clear hfz26_0
                        try clear hfz26_1
                        try clear hfz26_2
                        try clear hfz26_3
                        try clear hfz26_4
                        try clear hfz26_5
                        try clear hfz28_0
                        try clear hfz28_1
                        try clear hfz28_2
                        try clear hfz28_3
                        try clear hfz28_4
                        try clear hfz28_5
                        try clear hfz29_0
                        try clear hfz29_1
                        try clear hfz29_2
                        try clear hfz29_3
                        try clear hfz29_4
                        try clear hfz29_5
                        try clear hfz31_0
                        try clear hfz31_1
                        try clear hfz31_2
                        try clear hfz31_3
                        try clear hfz31_4
                        try clear hfz31_5
                        try clear hfz32_0
                        try clear hfz32_1
                        try clear hfz32_2
                        try clear hfz32_3
                        try clear hfz32_4
                        try clear hfz32_5
                        try clear hx375_0
                        try clear hx375_1
                        try clear hx375_2
                        try clear hx375_3
                        try clear hx375_4
                        try clear hx375_5
                        try clear p2
                        try clear p375
                        try clear p6
                        try clear q375
                        obtain ⟨kq, x60_15, rfl, HA, HJ15, HO_6, HO_34, BK376, HB⟩ := hcut
                        cases kq with
                        | zero => exact absurd HA.out (by simp [hopmeshlaw22_RankFalls.j2])
                        | succ kj15 =>
                          have H := HA.out
                          clear HA
                          simp only [hopmeshlaw22_RankFalls.j2] at H
                          by_cases c34 : x60_15 = true
                          · subst c34
                            have H1 : (some false) = some r := by rw [if_pos rfl] at H; exact H
                            clear H
                            have H := H1
                            clear H1
                            obtain rfl := Option.some.inj H
                            go_wp2
                            go_ret
                            exact ⟨by first | rfl | (simp [errW_none, errW_some] <;> rfl) | (simp [*, errW_none, errW_some] <;> rfl), by repeat (first | (with_reducible first | exact HB.out | apply below_alloc | apply pw_below_drewN | apply below_drew1 | refine below_set ?_ GE376.out) | exact HB.out)⟩
                          · replace c34 := Bool.eq_false_iff.mpr c34
                            subst c34
                            have H1 : (if ((rd_T23 t371 x36_2).f2) = (-1) then (hopmeshlaw22_RankFalls.l0 kj15 (wrap64 (1 + (Int.tmod (wrap64 (a0)) 8))) t371 t371 (t371.length : Int) (wrap64 (x36_2 + 1))) else (if 0 ≤ ((rd_T23 t371 x36_2).f2) then (if ((rd_T23 t371 x36_2).f2) < (t371.length : Int) then (if ((rd_T23 t371 ((rd_T23 t371 x36_2).f2)).f1) < ((rd_T23 t371 x36_2).f1) then (some false) else (if ((rd_T23 t371 ((rd_T23 t371 x36_2).f2)).f1) = ((rd_T23 t371 x36_2).f1) then (if ((rd_T23 t371 ((rd_T23 t371 x36_2).f2)).f5) > ((rd_T23 t371 x36_2).f3) then (some false) else (if ((rd_T23 t371 x36_2).f3) ≥ ((rd_T23 t371 x36_2).f5) then (some false) else (if ((rd_T23 t371 x36_2).f4) ≤ ((rd_T23 t371 x36_2).f3) then (some false) else (hopmeshlaw22_RankFalls.l0 kj15 (wrap64 (1 + (Int.tmod (wrap64 (a0)) 8))) t371 t371 (t371.length : Int) (wrap64 (x36_2 + 1)))))) else (if ((rd_T23 t371 x36_2).f3) ≥ ((rd_T23 t371 x36_2).f5) then (some false) else (if ((rd_T23 t371 x36_2).f4) ≤ ((rd_T23 t371 x36_2).f3) then (some false) else (hopmeshlaw22_RankFalls.l0 kj15 (wrap64 (1 + (Int.tmod (wrap64 (a0)) 8))) t371 t371 (t371.length : Int) (wrap64 (x36_2 + 1))))))) else (none)) else (none))) = some r := by rw [if_neg (show ¬ (false = true) by decide)] at H; exact H
                            clear H
                            have H := H1
                            clear H1
                            by_cases c35 : ((rd_T23 t371 x36_2).f2) = (-1)
                            · rw [if_pos c35] at H
                              have c35b0 : (((rd_T23 t371 x36_2).f2) == (-1)) = true := beq_iff_eq.mpr c35
                              have c35b1 : (((rd_T23 t371 x36_2).f2) != (-1)) = false := bne_eq_false_iff_eq.mpr c35
                              clear c35
                              have H' := Aside0.mk H
                              clear H
                              have hcz36_0 : wc.cell? ⟨gb376, 0, none⟩ = some (.int .i64 ((rd_T23 t371 x36_2).f0)) := (blk_cell BK376.out 0).trans rfl
                              have hcz36_1 : wc.cell? ⟨gb376, 1, none⟩ = some (.int .i64 ((rd_T23 t371 x36_2).f1)) := (blk_cell BK376.out 1).trans rfl
                              have hcz36_2 : wc.cell? ⟨gb376, 2, none⟩ = some (.int .i64 ((rd_T23 t371 x36_2).f2)) := (blk_cell BK376.out 2).trans rfl
                              have hcz36_3 : wc.cell? ⟨gb376, 3, none⟩ = some (.int .i64 ((rd_T23 t371 x36_2).f3)) := (blk_cell BK376.out 3).trans rfl
                              have hcz36_4 : wc.cell? ⟨gb376, 4, none⟩ = some (.int .i64 ((rd_T23 t371 x36_2).f4)) := (blk_cell BK376.out 4).trans rfl
                              have hcz36_5 : wc.cell? ⟨gb376, 5, none⟩ = some (.int .i64 ((rd_T23 t371 x36_2).f5)) := (blk_cell BK376.out 5).trans rfl
                              have hfz36_0 := blk_frozen BK376.out 0
                              have hfz36_1 := blk_frozen BK376.out 1
                              have hfz36_2 := blk_frozen BK376.out 2
                              have hfz36_3 := blk_frozen BK376.out 3
                              have hfz36_4 := blk_frozen BK376.out 4
                              have hfz36_5 := blk_frozen BK376.out 5
                              go_wp2
                              go_roundg kj15
                              case measure => have := HJ5.out; have := HK2.out; have := HJ15.out; omega
                              case rel => exact ⟨(wrap64 (x36_2 + 1)), (by first | rfl | (simp; done) | (simp [*]; done)), H', ⟨by have := HJ5.out; have := HK2.out; have := HJ15.out; omega⟩, ⟨by (with_reducible repeat (first | apply Kd.R_alloc | apply Kd.R_drewN | apply Kd.R_drew)); exact Kd.R_mono HO_6.out (fun _ hk => trivial)⟩, ⟨by (with_reducible repeat (first | apply Kd.R_alloc | apply Kd.R_drewN | apply Kd.R_drew)); exact Kd.R_mono HO_34.out (fun _ hk => trivial)⟩, ⟨by repeat (first | (with_reducible first | exact HB.out | apply below_alloc | apply pw_below_drewN | apply below_drew1 | refine below_set ?_ GE376.out) | exact HB.out)⟩⟩
                            · rw [if_neg c35] at H
                              have c35b0 : (((rd_T23 t371 x36_2).f2) == (-1)) = false := beq_eq_false_iff_ne.mpr c35
                              have c35b1 : (((rd_T23 t371 x36_2).f2) != (-1)) = true := bne_iff_ne.mpr c35
                              by_cases c37 : 0 ≤ ((rd_T23 t371 x36_2).f2)
                              · rw [if_pos c37] at H
                                have c37b0 : decide (0 ≤ ((rd_T23 t371 x36_2).f2)) = true := decide_eq_true c37
                                clear c37
                                by_cases c38 : ((rd_T23 t371 x36_2).f2) < (t371.length : Int)
                                · rw [if_pos c38] at H
                                  have c38b0 : decide (((rd_T23 t371 x36_2).f2) < (t371.length : Int)) = true := decide_eq_true c38
                                  clear c38
                                  by_cases c39 : ((rd_T23 t371 ((rd_T23 t371 x36_2).f2)).f1) < ((rd_T23 t371 x36_2).f1)
                                  · rw [if_pos c39] at H
                                    have c39b0 : decide (((rd_T23 t371 ((rd_T23 t371 x36_2).f2)).f1) < ((rd_T23 t371 x36_2).f1)) = true := decide_eq_true c39
                                    clear c39
                                    obtain rfl := Option.some.inj H
                                    have hcz40_0 : wc.cell? ⟨gb376, 0, none⟩ = some (.int .i64 ((rd_T23 t371 x36_2).f0)) := (blk_cell BK376.out 0).trans rfl
                                    have hcz40_1 : wc.cell? ⟨gb376, 1, none⟩ = some (.int .i64 ((rd_T23 t371 x36_2).f1)) := (blk_cell BK376.out 1).trans rfl
                                    have hcz40_2 : wc.cell? ⟨gb376, 2, none⟩ = some (.int .i64 ((rd_T23 t371 x36_2).f2)) := (blk_cell BK376.out 2).trans rfl
                                    have hcz40_3 : wc.cell? ⟨gb376, 3, none⟩ = some (.int .i64 ((rd_T23 t371 x36_2).f3)) := (blk_cell BK376.out 3).trans rfl
                                    have hcz40_4 : wc.cell? ⟨gb376, 4, none⟩ = some (.int .i64 ((rd_T23 t371 x36_2).f4)) := (blk_cell BK376.out 4).trans rfl
                                    have hcz40_5 : wc.cell? ⟨gb376, 5, none⟩ = some (.int .i64 ((rd_T23 t371 x36_2).f5)) := (blk_cell BK376.out 5).trans rfl
                                    have hfz40_0 := blk_frozen BK376.out 0
                                    have hfz40_1 := blk_frozen BK376.out 1
                                    have hfz40_2 := blk_frozen BK376.out 2
                                    have hfz40_3 := blk_frozen BK376.out 3
                                    have hfz40_4 := blk_frozen BK376.out 4
                                    have hfz40_5 := blk_frozen BK376.out 5
                                    have p378 : 0 ≤ (((rd_T23 t371 x36_2).f2) : Int) := of_decide_eq_true (by first | (with_reducible assumption) | assumption)
                                    have q378 : ((rd_T23 t371 x36_2).f2) < (t371.length : Int) := of_decide_eq_true (by first | (with_reducible assumption) | assumption)
                                    obtain ⟨ad378, e378, hx378_0, hx378_1, hx378_2, hx378_3, hx378_4, hx378_5⟩ := at_T23 (Kd.R_reads' HO_6.out).2.2 ((rd_T23 t371 x36_2).f2) p378 q378
                                    obtain rfl : ad375 = ad378 := (by injection e378)
                                    replace p378 := eq_true p378
                                    replace q378 := eq_true q378
                                    go_wp2_with (first | ((with_reducible refine gate_dst (N := 10) rfl ?_); refine box_event ?hg (N := 10) ?hd (cs := #[.int .i64 0, .int .i64 0, .int .i64 0, .int .i64 0, .int .i64 0, .int .i64 0]) (t := 23) ?hr ?_; (case hd => rfl); (case hg => rfl); (case hr => first | (go_simp; done) | (go_simp; rfl)); intro gb379 hg w41 hbox hb; have n0_ := Aside0.mk (Kd.R_below (Kd.R_elderB (by (with_reducible repeat (first | apply Kd.R_alloc | apply Kd.R_drewN | apply Kd.R_drew)); exact HO_6.out) gb379 (Nat.le_of_eq hg.symm)) hb); have n1_ := Aside0.mk (Kd.R_below (Kd.R_elderB (by (with_reducible repeat (first | apply Kd.R_alloc | apply Kd.R_drewN | apply Kd.R_drew)); exact HO_34.out) gb379 (Nat.le_of_eq hg.symm)) hb); have n2_ := Aside0.mk (blk_below (g := gb376) (o := .cells #[.int .i64 ((rd_T23 t371 x36_2).f0), .int .i64 ((rd_T23 t371 x36_2).f1), .int .i64 ((rd_T23 t371 x36_2).f2), .int .i64 ((rd_T23 t371 x36_2).f3), .int .i64 ((rd_T23 t371 x36_2).f4), .int .i64 ((rd_T23 t371 x36_2).f5)] 23 (0, 0)) (by (with_reducible repeat (first | refine blk_drewN ?_ _ | refine blk_drew ?_ | refine blk_alloc ?_ _)); exact BK376.out) hb); have n3_ := Aside0.mk (below_step (by repeat (first | (with_reducible first | exact HB.out | apply below_alloc | apply pw_below_drewN | apply below_drew1 | refine below_set ?_ GE376.out) | exact HB.out)) hb); have n4_ := Aside0.mk (hbox); have n5_ := Aside0.mk ((by rw [hg]; exact (below_size (by repeat (first | (with_reducible first | exact HB.out | apply below_alloc | apply pw_below_drewN | apply below_drew1 | refine below_set ?_ GE376.out) | exact HB.out))) : w.heap.size ≤ gb379)); have n6_ := Aside0.mk ((by rw [hg]; exact (below_size (by repeat (first | (with_reducible first | exact HB.out | apply below_alloc | apply pw_below_drewN | apply below_drew1 | refine below_set ?_ GE376.out) | exact HB.out))) : w.heap.size ≤ gb379)); have n7_ := Aside0.mk ((by rw [hg]; exact Nat.ne_of_lt (blk_lt (g := gb376) (o := .cells #[.int .i64 ((rd_T23 t371 x36_2).f0), .int .i64 ((rd_T23 t371 x36_2).f1), .int .i64 ((rd_T23 t371 x36_2).f2), .int .i64 ((rd_T23 t371 x36_2).f3), .int .i64 ((rd_T23 t371 x36_2).f4), .int .i64 ((rd_T23 t371 x36_2).f5)] 23 (0, 0)) (by (with_reducible repeat (first | refine blk_drewN ?_ _ | refine blk_drew ?_ | refine blk_alloc ?_ _)); exact BK376.out)) : gb376 ≠ gb379)); have n8_ := Aside0.mk ((by rw [hg]; exact Nat.ne_of_gt (blk_lt (g := gb376) (o := .cells #[.int .i64 ((rd_T23 t371 x36_2).f0), .int .i64 ((rd_T23 t371 x36_2).f1), .int .i64 ((rd_T23 t371 x36_2).f2), .int .i64 ((rd_T23 t371 x36_2).f3), .int .i64 ((rd_T23 t371 x36_2).f4), .int .i64 ((rd_T23 t371 x36_2).f5)] 23 (0, 0)) (by (with_reducible repeat (first | refine blk_drewN ?_ _ | refine blk_drew ?_ | refine blk_alloc ?_ _)); exact BK376.out)) : gb379 ≠ gb376)); clear HO_6; clear HO_34; clear BK376; clear HB; have HO_6 := n0_; have HO_34 := n1_; have BK376 := n2_; have HB := n3_; have BK379 := n4_; have GW379 := n5_; have GE379 := n6_; have NB376_379 := n7_; have NB379_376 := n8_; clear n0_ n1_ n2_ n3_ n4_ n5_ n6_ n7_ n8_; clear hb hbox hg; have hnb42 := NB379_376.out; have hnc42 := NB376_379.out; have hcz43_0 : w41.cell? ⟨gb379, 0, none⟩ = some (.int .i64 0) := (blk_cell BK379.out 0).trans rfl; have hcz43_1 : w41.cell? ⟨gb379, 1, none⟩ = some (.int .i64 0) := (blk_cell BK379.out 1).trans rfl; have hcz43_2 : w41.cell? ⟨gb379, 2, none⟩ = some (.int .i64 0) := (blk_cell BK379.out 2).trans rfl; have hcz43_3 : w41.cell? ⟨gb379, 3, none⟩ = some (.int .i64 0) := (blk_cell BK379.out 3).trans rfl; have hcz43_4 : w41.cell? ⟨gb379, 4, none⟩ = some (.int .i64 0) := (blk_cell BK379.out 4).trans rfl; have hcz43_5 : w41.cell? ⟨gb379, 5, none⟩ = some (.int .i64 0) := (blk_cell BK379.out 5).trans rfl; have hfz43_0 := blk_frozen BK379.out 0; have hfz43_1 := blk_frozen BK379.out 1; have hfz43_2 := blk_frozen BK379.out 2; have hfz43_3 := blk_frozen BK379.out 3; have hfz43_4 := blk_frozen BK379.out 4; have hfz43_5 := blk_frozen BK379.out 5; have hcz44_0 : w41.cell? ⟨gb376, 0, none⟩ = some (.int .i64 ((rd_T23 t371 x36_2).f0)) := (blk_cell BK376.out 0).trans rfl; have hcz44_1 : w41.cell? ⟨gb376, 1, none⟩ = some (.int .i64 ((rd_T23 t371 x36_2).f1)) := (blk_cell BK376.out 1).trans rfl; have hcz44_2 : w41.cell? ⟨gb376, 2, none⟩ = some (.int .i64 ((rd_T23 t371 x36_2).f2)) := (blk_cell BK376.out 2).trans rfl; have hcz44_3 : w41.cell? ⟨gb376, 3, none⟩ = some (.int .i64 ((rd_T23 t371 x36_2).f3)) := (blk_cell BK376.out 3).trans rfl; have hcz44_4 : w41.cell? ⟨gb376, 4, none⟩ = some (.int .i64 ((rd_T23 t371 x36_2).f4)) := (blk_cell BK376.out 4).trans rfl; have hcz44_5 : w41.cell? ⟨gb376, 5, none⟩ = some (.int .i64 ((rd_T23 t371 x36_2).f5)) := (blk_cell BK376.out 5).trans rfl; have hfz44_0 := blk_frozen BK376.out 0; have hfz44_1 := blk_frozen BK376.out 1; have hfz44_2 := blk_frozen BK376.out 2; have hfz44_3 := blk_frozen BK376.out 3; have hfz44_4 := blk_frozen BK376.out 4; have hfz44_5 := blk_frozen BK376.out 5))
                                    go_ret
                                    exact ⟨by first | rfl | (simp [errW_none, errW_some] <;> rfl) | (simp [*, errW_none, errW_some] <;> rfl), by repeat (first | (with_reducible first | exact HB.out | apply below_alloc | apply pw_below_drewN | apply below_drew1 | refine below_set ?_ GE376.out | refine below_set ?_ GE379.out) | exact HB.out)⟩
                                  · rw [if_neg c39] at H
                                    have c39b0 : decide (((rd_T23 t371 ((rd_T23 t371 x36_2).f2)).f1) < ((rd_T23 t371 x36_2).f1)) = false := decide_eq_false c39
                                    clear c39
                                    by_cases c45 : ((rd_T23 t371 ((rd_T23 t371 x36_2).f2)).f1) = ((rd_T23 t371 x36_2).f1)
                                    · rw [if_pos c45] at H
                                      have c45b0 : (((rd_T23 t371 ((rd_T23 t371 x36_2).f2)).f1) == ((rd_T23 t371 x36_2).f1)) = true := beq_iff_eq.mpr c45
                                      have c45b1 : (((rd_T23 t371 ((rd_T23 t371 x36_2).f2)).f1) != ((rd_T23 t371 x36_2).f1)) = false := bne_eq_false_iff_eq.mpr c45
                                      clear c45
                                      by_cases c46 : ((rd_T23 t371 ((rd_T23 t371 x36_2).f2)).f5) > ((rd_T23 t371 x36_2).f3)
                                      · rw [if_pos c46] at H
                                        have c46b0 : decide (((rd_T23 t371 x36_2).f3) < ((rd_T23 t371 ((rd_T23 t371 x36_2).f2)).f5)) = true := decide_eq_true c46
                                        clear c46
                                        obtain rfl := Option.some.inj H
                                        have hcz47_0 : wc.cell? ⟨gb376, 0, none⟩ = some (.int .i64 ((rd_T23 t371 x36_2).f0)) := (blk_cell BK376.out 0).trans rfl
                                        have hcz47_1 : wc.cell? ⟨gb376, 1, none⟩ = some (.int .i64 ((rd_T23 t371 x36_2).f1)) := (blk_cell BK376.out 1).trans rfl
                                        have hcz47_2 : wc.cell? ⟨gb376, 2, none⟩ = some (.int .i64 ((rd_T23 t371 x36_2).f2)) := (blk_cell BK376.out 2).trans rfl
                                        have hcz47_3 : wc.cell? ⟨gb376, 3, none⟩ = some (.int .i64 ((rd_T23 t371 x36_2).f3)) := (blk_cell BK376.out 3).trans rfl
                                        have hcz47_4 : wc.cell? ⟨gb376, 4, none⟩ = some (.int .i64 ((rd_T23 t371 x36_2).f4)) := (blk_cell BK376.out 4).trans rfl
                                        have hcz47_5 : wc.cell? ⟨gb376, 5, none⟩ = some (.int .i64 ((rd_T23 t371 x36_2).f5)) := (blk_cell BK376.out 5).trans rfl
                                        have hfz47_0 := blk_frozen BK376.out 0
                                        have hfz47_1 := blk_frozen BK376.out 1
                                        have hfz47_2 := blk_frozen BK376.out 2
                                        have hfz47_3 := blk_frozen BK376.out 3
                                        have hfz47_4 := blk_frozen BK376.out 4
                                        have hfz47_5 := blk_frozen BK376.out 5
                                        have p378 : 0 ≤ (((rd_T23 t371 x36_2).f2) : Int) := of_decide_eq_true (by first | (with_reducible assumption) | assumption)
                                        have q378 : ((rd_T23 t371 x36_2).f2) < (t371.length : Int) := of_decide_eq_true (by first | (with_reducible assumption) | assumption)
                                        obtain ⟨ad378, e378, hx378_0, hx378_1, hx378_2, hx378_3, hx378_4, hx378_5⟩ := at_T23 (Kd.R_reads' HO_6.out).2.2 ((rd_T23 t371 x36_2).f2) p378 q378
                                        obtain rfl : ad375 = ad378 := (by injection e378)
                                        replace p378 := eq_true p378
                                        replace q378 := eq_true q378
                                        go_wp2_with (first | ((with_reducible refine gate_dst (N := 10) rfl ?_); refine box_event ?hg (N := 10) ?hd (cs := #[.int .i64 0, .int .i64 0, .int .i64 0, .int .i64 0, .int .i64 0, .int .i64 0]) (t := 23) ?hr ?_; (case hd => rfl); (case hg => rfl); (case hr => first | (go_simp; done) | (go_simp; rfl)); intro gb379 hg w48 hbox hb; have n0_ := Aside0.mk (Kd.R_below (Kd.R_elderB (by (with_reducible repeat (first | apply Kd.R_alloc | apply Kd.R_drewN | apply Kd.R_drew)); exact HO_6.out) gb379 (Nat.le_of_eq hg.symm)) hb); have n1_ := Aside0.mk (Kd.R_below (Kd.R_elderB (by (with_reducible repeat (first | apply Kd.R_alloc | apply Kd.R_drewN | apply Kd.R_drew)); exact HO_34.out) gb379 (Nat.le_of_eq hg.symm)) hb); have n2_ := Aside0.mk (blk_below (g := gb376) (o := .cells #[.int .i64 ((rd_T23 t371 x36_2).f0), .int .i64 ((rd_T23 t371 x36_2).f1), .int .i64 ((rd_T23 t371 x36_2).f2), .int .i64 ((rd_T23 t371 x36_2).f3), .int .i64 ((rd_T23 t371 x36_2).f4), .int .i64 ((rd_T23 t371 x36_2).f5)] 23 (0, 0)) (by (with_reducible repeat (first | refine blk_drewN ?_ _ | refine blk_drew ?_ | refine blk_alloc ?_ _)); exact BK376.out) hb); have n3_ := Aside0.mk (below_step (by repeat (first | (with_reducible first | exact HB.out | apply below_alloc | apply pw_below_drewN | apply below_drew1 | refine below_set ?_ GE376.out) | exact HB.out)) hb); have n4_ := Aside0.mk (hbox); have n5_ := Aside0.mk ((by rw [hg]; exact (below_size (by repeat (first | (with_reducible first | exact HB.out | apply below_alloc | apply pw_below_drewN | apply below_drew1 | refine below_set ?_ GE376.out) | exact HB.out))) : w.heap.size ≤ gb379)); have n6_ := Aside0.mk ((by rw [hg]; exact (below_size (by repeat (first | (with_reducible first | exact HB.out | apply below_alloc | apply pw_below_drewN | apply below_drew1 | refine below_set ?_ GE376.out) | exact HB.out))) : w.heap.size ≤ gb379)); have n7_ := Aside0.mk ((by rw [hg]; exact Nat.ne_of_lt (blk_lt (g := gb376) (o := .cells #[.int .i64 ((rd_T23 t371 x36_2).f0), .int .i64 ((rd_T23 t371 x36_2).f1), .int .i64 ((rd_T23 t371 x36_2).f2), .int .i64 ((rd_T23 t371 x36_2).f3), .int .i64 ((rd_T23 t371 x36_2).f4), .int .i64 ((rd_T23 t371 x36_2).f5)] 23 (0, 0)) (by (with_reducible repeat (first | refine blk_drewN ?_ _ | refine blk_drew ?_ | refine blk_alloc ?_ _)); exact BK376.out)) : gb376 ≠ gb379)); have n8_ := Aside0.mk ((by rw [hg]; exact Nat.ne_of_gt (blk_lt (g := gb376) (o := .cells #[.int .i64 ((rd_T23 t371 x36_2).f0), .int .i64 ((rd_T23 t371 x36_2).f1), .int .i64 ((rd_T23 t371 x36_2).f2), .int .i64 ((rd_T23 t371 x36_2).f3), .int .i64 ((rd_T23 t371 x36_2).f4), .int .i64 ((rd_T23 t371 x36_2).f5)] 23 (0, 0)) (by (with_reducible repeat (first | refine blk_drewN ?_ _ | refine blk_drew ?_ | refine blk_alloc ?_ _)); exact BK376.out)) : gb379 ≠ gb376)); clear HO_6; clear HO_34; clear BK376; clear HB; have HO_6 := n0_; have HO_34 := n1_; have BK376 := n2_; have HB := n3_; have BK379 := n4_; have GW379 := n5_; have GE379 := n6_; have NB376_379 := n7_; have NB379_376 := n8_; clear n0_ n1_ n2_ n3_ n4_ n5_ n6_ n7_ n8_; clear hb hbox hg; have hnb49 := NB379_376.out; have hnc49 := NB376_379.out; have hcz50_0 : w48.cell? ⟨gb379, 0, none⟩ = some (.int .i64 0) := (blk_cell BK379.out 0).trans rfl; have hcz50_1 : w48.cell? ⟨gb379, 1, none⟩ = some (.int .i64 0) := (blk_cell BK379.out 1).trans rfl; have hcz50_2 : w48.cell? ⟨gb379, 2, none⟩ = some (.int .i64 0) := (blk_cell BK379.out 2).trans rfl; have hcz50_3 : w48.cell? ⟨gb379, 3, none⟩ = some (.int .i64 0) := (blk_cell BK379.out 3).trans rfl; have hcz50_4 : w48.cell? ⟨gb379, 4, none⟩ = some (.int .i64 0) := (blk_cell BK379.out 4).trans rfl; have hcz50_5 : w48.cell? ⟨gb379, 5, none⟩ = some (.int .i64 0) := (blk_cell BK379.out 5).trans rfl; have hfz50_0 := blk_frozen BK379.out 0; have hfz50_1 := blk_frozen BK379.out 1; have hfz50_2 := blk_frozen BK379.out 2; have hfz50_3 := blk_frozen BK379.out 3; have hfz50_4 := blk_frozen BK379.out 4; have hfz50_5 := blk_frozen BK379.out 5; have hcz51_0 : w48.cell? ⟨gb376, 0, none⟩ = some (.int .i64 ((rd_T23 t371 x36_2).f0)) := (blk_cell BK376.out 0).trans rfl; have hcz51_1 : w48.cell? ⟨gb376, 1, none⟩ = some (.int .i64 ((rd_T23 t371 x36_2).f1)) := (blk_cell BK376.out 1).trans rfl; have hcz51_2 : w48.cell? ⟨gb376, 2, none⟩ = some (.int .i64 ((rd_T23 t371 x36_2).f2)) := (blk_cell BK376.out 2).trans rfl; have hcz51_3 : w48.cell? ⟨gb376, 3, none⟩ = some (.int .i64 ((rd_T23 t371 x36_2).f3)) := (blk_cell BK376.out 3).trans rfl; have hcz51_4 : w48.cell? ⟨gb376, 4, none⟩ = some (.int .i64 ((rd_T23 t371 x36_2).f4)) := (blk_cell BK376.out 4).trans rfl; have hcz51_5 : w48.cell? ⟨gb376, 5, none⟩ = some (.int .i64 ((rd_T23 t371 x36_2).f5)) := (blk_cell BK376.out 5).trans rfl; have hfz51_0 := blk_frozen BK376.out 0; have hfz51_1 := blk_frozen BK376.out 1; have hfz51_2 := blk_frozen BK376.out 2; have hfz51_3 := blk_frozen BK376.out 3; have hfz51_4 := blk_frozen BK376.out 4; have hfz51_5 := blk_frozen BK376.out 5))
                                        go_ret
                                        exact ⟨by first | rfl | (simp [errW_none, errW_some] <;> rfl) | (simp [*, errW_none, errW_some] <;> rfl), by repeat (first | (with_reducible first | exact HB.out | apply below_alloc | apply pw_below_drewN | apply below_drew1 | refine below_set ?_ GE376.out | refine below_set ?_ GE379.out) | exact HB.out)⟩
                                      · rw [if_neg c46] at H
                                        have c46b0 : decide (((rd_T23 t371 x36_2).f3) < ((rd_T23 t371 ((rd_T23 t371 x36_2).f2)).f5)) = false := decide_eq_false c46
                                        clear c46
                                        by_cases c52 : ((rd_T23 t371 x36_2).f3) ≥ ((rd_T23 t371 x36_2).f5)
                                        · rw [if_pos c52] at H
                                          have c52b0 : decide (((rd_T23 t371 x36_2).f5) ≤ ((rd_T23 t371 x36_2).f3)) = true := decide_eq_true c52
                                          clear c52
                                          obtain rfl := Option.some.inj H
                                          have hcz53_0 : wc.cell? ⟨gb376, 0, none⟩ = some (.int .i64 ((rd_T23 t371 x36_2).f0)) := (blk_cell BK376.out 0).trans rfl
                                          have hcz53_1 : wc.cell? ⟨gb376, 1, none⟩ = some (.int .i64 ((rd_T23 t371 x36_2).f1)) := (blk_cell BK376.out 1).trans rfl
                                          have hcz53_2 : wc.cell? ⟨gb376, 2, none⟩ = some (.int .i64 ((rd_T23 t371 x36_2).f2)) := (blk_cell BK376.out 2).trans rfl
                                          have hcz53_3 : wc.cell? ⟨gb376, 3, none⟩ = some (.int .i64 ((rd_T23 t371 x36_2).f3)) := (blk_cell BK376.out 3).trans rfl
                                          have hcz53_4 : wc.cell? ⟨gb376, 4, none⟩ = some (.int .i64 ((rd_T23 t371 x36_2).f4)) := (blk_cell BK376.out 4).trans rfl
                                          have hcz53_5 : wc.cell? ⟨gb376, 5, none⟩ = some (.int .i64 ((rd_T23 t371 x36_2).f5)) := (blk_cell BK376.out 5).trans rfl
                                          have hfz53_0 := blk_frozen BK376.out 0
                                          have hfz53_1 := blk_frozen BK376.out 1
                                          have hfz53_2 := blk_frozen BK376.out 2
                                          have hfz53_3 := blk_frozen BK376.out 3
                                          have hfz53_4 := blk_frozen BK376.out 4
                                          have hfz53_5 := blk_frozen BK376.out 5
                                          have p378 : 0 ≤ (((rd_T23 t371 x36_2).f2) : Int) := of_decide_eq_true (by first | (with_reducible assumption) | assumption)
                                          have q378 : ((rd_T23 t371 x36_2).f2) < (t371.length : Int) := of_decide_eq_true (by first | (with_reducible assumption) | assumption)
                                          obtain ⟨ad378, e378, hx378_0, hx378_1, hx378_2, hx378_3, hx378_4, hx378_5⟩ := at_T23 (Kd.R_reads' HO_6.out).2.2 ((rd_T23 t371 x36_2).f2) p378 q378
                                          obtain rfl : ad375 = ad378 := (by injection e378)
                                          replace p378 := eq_true p378
                                          replace q378 := eq_true q378
                                          go_wp2_with (first | ((with_reducible refine gate_dst (N := 10) rfl ?_); refine box_event ?hg (N := 10) ?hd (cs := #[.int .i64 0, .int .i64 0, .int .i64 0, .int .i64 0, .int .i64 0, .int .i64 0]) (t := 23) ?hr ?_; (case hd => rfl); (case hg => rfl); (case hr => first | (go_simp; done) | (go_simp; rfl)); intro gb379 hg w54 hbox hb; have n0_ := Aside0.mk (Kd.R_below (Kd.R_elderB (by (with_reducible repeat (first | apply Kd.R_alloc | apply Kd.R_drewN | apply Kd.R_drew)); exact HO_6.out) gb379 (Nat.le_of_eq hg.symm)) hb); have n1_ := Aside0.mk (Kd.R_below (Kd.R_elderB (by (with_reducible repeat (first | apply Kd.R_alloc | apply Kd.R_drewN | apply Kd.R_drew)); exact HO_34.out) gb379 (Nat.le_of_eq hg.symm)) hb); have n2_ := Aside0.mk (blk_below (g := gb376) (o := .cells #[.int .i64 ((rd_T23 t371 x36_2).f0), .int .i64 ((rd_T23 t371 x36_2).f1), .int .i64 ((rd_T23 t371 x36_2).f2), .int .i64 ((rd_T23 t371 x36_2).f3), .int .i64 ((rd_T23 t371 x36_2).f4), .int .i64 ((rd_T23 t371 x36_2).f5)] 23 (0, 0)) (by (with_reducible repeat (first | refine blk_drewN ?_ _ | refine blk_drew ?_ | refine blk_alloc ?_ _)); exact BK376.out) hb); have n3_ := Aside0.mk (below_step (by repeat (first | (with_reducible first | exact HB.out | apply below_alloc | apply pw_below_drewN | apply below_drew1 | refine below_set ?_ GE376.out) | exact HB.out)) hb); have n4_ := Aside0.mk (hbox); have n5_ := Aside0.mk ((by rw [hg]; exact (below_size (by repeat (first | (with_reducible first | exact HB.out | apply below_alloc | apply pw_below_drewN | apply below_drew1 | refine below_set ?_ GE376.out) | exact HB.out))) : w.heap.size ≤ gb379)); have n6_ := Aside0.mk ((by rw [hg]; exact (below_size (by repeat (first | (with_reducible first | exact HB.out | apply below_alloc | apply pw_below_drewN | apply below_drew1 | refine below_set ?_ GE376.out) | exact HB.out))) : w.heap.size ≤ gb379)); have n7_ := Aside0.mk ((by rw [hg]; exact Nat.ne_of_lt (blk_lt (g := gb376) (o := .cells #[.int .i64 ((rd_T23 t371 x36_2).f0), .int .i64 ((rd_T23 t371 x36_2).f1), .int .i64 ((rd_T23 t371 x36_2).f2), .int .i64 ((rd_T23 t371 x36_2).f3), .int .i64 ((rd_T23 t371 x36_2).f4), .int .i64 ((rd_T23 t371 x36_2).f5)] 23 (0, 0)) (by (with_reducible repeat (first | refine blk_drewN ?_ _ | refine blk_drew ?_ | refine blk_alloc ?_ _)); exact BK376.out)) : gb376 ≠ gb379)); have n8_ := Aside0.mk ((by rw [hg]; exact Nat.ne_of_gt (blk_lt (g := gb376) (o := .cells #[.int .i64 ((rd_T23 t371 x36_2).f0), .int .i64 ((rd_T23 t371 x36_2).f1), .int .i64 ((rd_T23 t371 x36_2).f2), .int .i64 ((rd_T23 t371 x36_2).f3), .int .i64 ((rd_T23 t371 x36_2).f4), .int .i64 ((rd_T23 t371 x36_2).f5)] 23 (0, 0)) (by (with_reducible repeat (first | refine blk_drewN ?_ _ | refine blk_drew ?_ | refine blk_alloc ?_ _)); exact BK376.out)) : gb379 ≠ gb376)); clear HO_6; clear HO_34; clear BK376; clear HB; have HO_6 := n0_; have HO_34 := n1_; have BK376 := n2_; have HB := n3_; have BK379 := n4_; have GW379 := n5_; have GE379 := n6_; have NB376_379 := n7_; have NB379_376 := n8_; clear n0_ n1_ n2_ n3_ n4_ n5_ n6_ n7_ n8_; clear hb hbox hg; have hnb55 := NB379_376.out; have hnc55 := NB376_379.out; have hcz56_0 : w54.cell? ⟨gb379, 0, none⟩ = some (.int .i64 0) := (blk_cell BK379.out 0).trans rfl; have hcz56_1 : w54.cell? ⟨gb379, 1, none⟩ = some (.int .i64 0) := (blk_cell BK379.out 1).trans rfl; have hcz56_2 : w54.cell? ⟨gb379, 2, none⟩ = some (.int .i64 0) := (blk_cell BK379.out 2).trans rfl; have hcz56_3 : w54.cell? ⟨gb379, 3, none⟩ = some (.int .i64 0) := (blk_cell BK379.out 3).trans rfl; have hcz56_4 : w54.cell? ⟨gb379, 4, none⟩ = some (.int .i64 0) := (blk_cell BK379.out 4).trans rfl; have hcz56_5 : w54.cell? ⟨gb379, 5, none⟩ = some (.int .i64 0) := (blk_cell BK379.out 5).trans rfl; have hfz56_0 := blk_frozen BK379.out 0; have hfz56_1 := blk_frozen BK379.out 1; have hfz56_2 := blk_frozen BK379.out 2; have hfz56_3 := blk_frozen BK379.out 3; have hfz56_4 := blk_frozen BK379.out 4; have hfz56_5 := blk_frozen BK379.out 5; have hcz57_0 : w54.cell? ⟨gb376, 0, none⟩ = some (.int .i64 ((rd_T23 t371 x36_2).f0)) := (blk_cell BK376.out 0).trans rfl; have hcz57_1 : w54.cell? ⟨gb376, 1, none⟩ = some (.int .i64 ((rd_T23 t371 x36_2).f1)) := (blk_cell BK376.out 1).trans rfl; have hcz57_2 : w54.cell? ⟨gb376, 2, none⟩ = some (.int .i64 ((rd_T23 t371 x36_2).f2)) := (blk_cell BK376.out 2).trans rfl; have hcz57_3 : w54.cell? ⟨gb376, 3, none⟩ = some (.int .i64 ((rd_T23 t371 x36_2).f3)) := (blk_cell BK376.out 3).trans rfl; have hcz57_4 : w54.cell? ⟨gb376, 4, none⟩ = some (.int .i64 ((rd_T23 t371 x36_2).f4)) := (blk_cell BK376.out 4).trans rfl; have hcz57_5 : w54.cell? ⟨gb376, 5, none⟩ = some (.int .i64 ((rd_T23 t371 x36_2).f5)) := (blk_cell BK376.out 5).trans rfl; have hfz57_0 := blk_frozen BK376.out 0; have hfz57_1 := blk_frozen BK376.out 1; have hfz57_2 := blk_frozen BK376.out 2; have hfz57_3 := blk_frozen BK376.out 3; have hfz57_4 := blk_frozen BK376.out 4; have hfz57_5 := blk_frozen BK376.out 5))
                                          go_ret
                                          exact ⟨by first | rfl | (simp [errW_none, errW_some] <;> rfl) | (simp [*, errW_none, errW_some] <;> rfl), by repeat (first | (with_reducible first | exact HB.out | apply below_alloc | apply pw_below_drewN | apply below_drew1 | refine below_set ?_ GE376.out | refine below_set ?_ GE379.out) | exact HB.out)⟩
                                        · rw [if_neg c52] at H
                                          have c52b0 : decide (((rd_T23 t371 x36_2).f5) ≤ ((rd_T23 t371 x36_2).f3)) = false := decide_eq_false c52
                                          clear c52
                                          by_cases c58 : ((rd_T23 t371 x36_2).f4) ≤ ((rd_T23 t371 x36_2).f3)
                                          · rw [if_pos c58] at H
                                            have c58b0 : decide (((rd_T23 t371 x36_2).f4) ≤ ((rd_T23 t371 x36_2).f3)) = true := decide_eq_true c58
                                            clear c58
                                            obtain rfl := Option.some.inj H
                                            have hcz59_0 : wc.cell? ⟨gb376, 0, none⟩ = some (.int .i64 ((rd_T23 t371 x36_2).f0)) := (blk_cell BK376.out 0).trans rfl
                                            have hcz59_1 : wc.cell? ⟨gb376, 1, none⟩ = some (.int .i64 ((rd_T23 t371 x36_2).f1)) := (blk_cell BK376.out 1).trans rfl
                                            have hcz59_2 : wc.cell? ⟨gb376, 2, none⟩ = some (.int .i64 ((rd_T23 t371 x36_2).f2)) := (blk_cell BK376.out 2).trans rfl
                                            have hcz59_3 : wc.cell? ⟨gb376, 3, none⟩ = some (.int .i64 ((rd_T23 t371 x36_2).f3)) := (blk_cell BK376.out 3).trans rfl
                                            have hcz59_4 : wc.cell? ⟨gb376, 4, none⟩ = some (.int .i64 ((rd_T23 t371 x36_2).f4)) := (blk_cell BK376.out 4).trans rfl
                                            have hcz59_5 : wc.cell? ⟨gb376, 5, none⟩ = some (.int .i64 ((rd_T23 t371 x36_2).f5)) := (blk_cell BK376.out 5).trans rfl
                                            have hfz59_0 := blk_frozen BK376.out 0
                                            have hfz59_1 := blk_frozen BK376.out 1
                                            have hfz59_2 := blk_frozen BK376.out 2
                                            have hfz59_3 := blk_frozen BK376.out 3
                                            have hfz59_4 := blk_frozen BK376.out 4
                                            have hfz59_5 := blk_frozen BK376.out 5
                                            have p378 : 0 ≤ (((rd_T23 t371 x36_2).f2) : Int) := of_decide_eq_true (by first | (with_reducible assumption) | assumption)
                                            have q378 : ((rd_T23 t371 x36_2).f2) < (t371.length : Int) := of_decide_eq_true (by first | (with_reducible assumption) | assumption)
                                            obtain ⟨ad378, e378, hx378_0, hx378_1, hx378_2, hx378_3, hx378_4, hx378_5⟩ := at_T23 (Kd.R_reads' HO_6.out).2.2 ((rd_T23 t371 x36_2).f2) p378 q378
                                            obtain rfl : ad375 = ad378 := (by injection e378)
                                            replace p378 := eq_true p378
                                            replace q378 := eq_true q378
                                            go_wp2_with (first | ((with_reducible refine gate_dst (N := 10) rfl ?_); refine box_event ?hg (N := 10) ?hd (cs := #[.int .i64 0, .int .i64 0, .int .i64 0, .int .i64 0, .int .i64 0, .int .i64 0]) (t := 23) ?hr ?_; (case hd => rfl); (case hg => rfl); (case hr => first | (go_simp; done) | (go_simp; rfl)); intro gb379 hg w60 hbox hb; have n0_ := Aside0.mk (Kd.R_below (Kd.R_elderB (by (with_reducible repeat (first | apply Kd.R_alloc | apply Kd.R_drewN | apply Kd.R_drew)); exact HO_6.out) gb379 (Nat.le_of_eq hg.symm)) hb); have n1_ := Aside0.mk (Kd.R_below (Kd.R_elderB (by (with_reducible repeat (first | apply Kd.R_alloc | apply Kd.R_drewN | apply Kd.R_drew)); exact HO_34.out) gb379 (Nat.le_of_eq hg.symm)) hb); have n2_ := Aside0.mk (blk_below (g := gb376) (o := .cells #[.int .i64 ((rd_T23 t371 x36_2).f0), .int .i64 ((rd_T23 t371 x36_2).f1), .int .i64 ((rd_T23 t371 x36_2).f2), .int .i64 ((rd_T23 t371 x36_2).f3), .int .i64 ((rd_T23 t371 x36_2).f4), .int .i64 ((rd_T23 t371 x36_2).f5)] 23 (0, 0)) (by (with_reducible repeat (first | refine blk_drewN ?_ _ | refine blk_drew ?_ | refine blk_alloc ?_ _)); exact BK376.out) hb); have n3_ := Aside0.mk (below_step (by repeat (first | (with_reducible first | exact HB.out | apply below_alloc | apply pw_below_drewN | apply below_drew1 | refine below_set ?_ GE376.out) | exact HB.out)) hb); have n4_ := Aside0.mk (hbox); have n5_ := Aside0.mk ((by rw [hg]; exact (below_size (by repeat (first | (with_reducible first | exact HB.out | apply below_alloc | apply pw_below_drewN | apply below_drew1 | refine below_set ?_ GE376.out) | exact HB.out))) : w.heap.size ≤ gb379)); have n6_ := Aside0.mk ((by rw [hg]; exact (below_size (by repeat (first | (with_reducible first | exact HB.out | apply below_alloc | apply pw_below_drewN | apply below_drew1 | refine below_set ?_ GE376.out) | exact HB.out))) : w.heap.size ≤ gb379)); have n7_ := Aside0.mk ((by rw [hg]; exact Nat.ne_of_lt (blk_lt (g := gb376) (o := .cells #[.int .i64 ((rd_T23 t371 x36_2).f0), .int .i64 ((rd_T23 t371 x36_2).f1), .int .i64 ((rd_T23 t371 x36_2).f2), .int .i64 ((rd_T23 t371 x36_2).f3), .int .i64 ((rd_T23 t371 x36_2).f4), .int .i64 ((rd_T23 t371 x36_2).f5)] 23 (0, 0)) (by (with_reducible repeat (first | refine blk_drewN ?_ _ | refine blk_drew ?_ | refine blk_alloc ?_ _)); exact BK376.out)) : gb376 ≠ gb379)); have n8_ := Aside0.mk ((by rw [hg]; exact Nat.ne_of_gt (blk_lt (g := gb376) (o := .cells #[.int .i64 ((rd_T23 t371 x36_2).f0), .int .i64 ((rd_T23 t371 x36_2).f1), .int .i64 ((rd_T23 t371 x36_2).f2), .int .i64 ((rd_T23 t371 x36_2).f3), .int .i64 ((rd_T23 t371 x36_2).f4), .int .i64 ((rd_T23 t371 x36_2).f5)] 23 (0, 0)) (by (with_reducible repeat (first | refine blk_drewN ?_ _ | refine blk_drew ?_ | refine blk_alloc ?_ _)); exact BK376.out)) : gb379 ≠ gb376)); clear HO_6; clear HO_34; clear BK376; clear HB; have HO_6 := n0_; have HO_34 := n1_; have BK376 := n2_; have HB := n3_; have BK379 := n4_; have GW379 := n5_; have GE379 := n6_; have NB376_379 := n7_; have NB379_376 := n8_; clear n0_ n1_ n2_ n3_ n4_ n5_ n6_ n7_ n8_; clear hb hbox hg; have hnb61 := NB379_376.out; have hnc61 := NB376_379.out; have hcz62_0 : w60.cell? ⟨gb379, 0, none⟩ = some (.int .i64 0) := (blk_cell BK379.out 0).trans rfl; have hcz62_1 : w60.cell? ⟨gb379, 1, none⟩ = some (.int .i64 0) := (blk_cell BK379.out 1).trans rfl; have hcz62_2 : w60.cell? ⟨gb379, 2, none⟩ = some (.int .i64 0) := (blk_cell BK379.out 2).trans rfl; have hcz62_3 : w60.cell? ⟨gb379, 3, none⟩ = some (.int .i64 0) := (blk_cell BK379.out 3).trans rfl; have hcz62_4 : w60.cell? ⟨gb379, 4, none⟩ = some (.int .i64 0) := (blk_cell BK379.out 4).trans rfl; have hcz62_5 : w60.cell? ⟨gb379, 5, none⟩ = some (.int .i64 0) := (blk_cell BK379.out 5).trans rfl; have hfz62_0 := blk_frozen BK379.out 0; have hfz62_1 := blk_frozen BK379.out 1; have hfz62_2 := blk_frozen BK379.out 2; have hfz62_3 := blk_frozen BK379.out 3; have hfz62_4 := blk_frozen BK379.out 4; have hfz62_5 := blk_frozen BK379.out 5; have hcz63_0 : w60.cell? ⟨gb376, 0, none⟩ = some (.int .i64 ((rd_T23 t371 x36_2).f0)) := (blk_cell BK376.out 0).trans rfl; have hcz63_1 : w60.cell? ⟨gb376, 1, none⟩ = some (.int .i64 ((rd_T23 t371 x36_2).f1)) := (blk_cell BK376.out 1).trans rfl; have hcz63_2 : w60.cell? ⟨gb376, 2, none⟩ = some (.int .i64 ((rd_T23 t371 x36_2).f2)) := (blk_cell BK376.out 2).trans rfl; have hcz63_3 : w60.cell? ⟨gb376, 3, none⟩ = some (.int .i64 ((rd_T23 t371 x36_2).f3)) := (blk_cell BK376.out 3).trans rfl; have hcz63_4 : w60.cell? ⟨gb376, 4, none⟩ = some (.int .i64 ((rd_T23 t371 x36_2).f4)) := (blk_cell BK376.out 4).trans rfl; have hcz63_5 : w60.cell? ⟨gb376, 5, none⟩ = some (.int .i64 ((rd_T23 t371 x36_2).f5)) := (blk_cell BK376.out 5).trans rfl; have hfz63_0 := blk_frozen BK376.out 0; have hfz63_1 := blk_frozen BK376.out 1; have hfz63_2 := blk_frozen BK376.out 2; have hfz63_3 := blk_frozen BK376.out 3; have hfz63_4 := blk_frozen BK376.out 4; have hfz63_5 := blk_frozen BK376.out 5))
                                            go_ret
                                            exact ⟨by first | rfl | (simp [errW_none, errW_some] <;> rfl) | (simp [*, errW_none, errW_some] <;> rfl), by repeat (first | (with_reducible first | exact HB.out | apply below_alloc | apply pw_below_drewN | apply below_drew1 | refine below_set ?_ GE376.out | refine below_set ?_ GE379.out) | exact HB.out)⟩
                                          · rw [if_neg c58] at H
                                            have c58b0 : decide (((rd_T23 t371 x36_2).f4) ≤ ((rd_T23 t371 x36_2).f3)) = false := decide_eq_false c58
                                            clear c58
                                            have H' := Aside0.mk H
                                            clear H
                                            have hcz64_0 : wc.cell? ⟨gb376, 0, none⟩ = some (.int .i64 ((rd_T23 t371 x36_2).f0)) := (blk_cell BK376.out 0).trans rfl
                                            have hcz64_1 : wc.cell? ⟨gb376, 1, none⟩ = some (.int .i64 ((rd_T23 t371 x36_2).f1)) := (blk_cell BK376.out 1).trans rfl
                                            have hcz64_2 : wc.cell? ⟨gb376, 2, none⟩ = some (.int .i64 ((rd_T23 t371 x36_2).f2)) := (blk_cell BK376.out 2).trans rfl
                                            have hcz64_3 : wc.cell? ⟨gb376, 3, none⟩ = some (.int .i64 ((rd_T23 t371 x36_2).f3)) := (blk_cell BK376.out 3).trans rfl
                                            have hcz64_4 : wc.cell? ⟨gb376, 4, none⟩ = some (.int .i64 ((rd_T23 t371 x36_2).f4)) := (blk_cell BK376.out 4).trans rfl
                                            have hcz64_5 : wc.cell? ⟨gb376, 5, none⟩ = some (.int .i64 ((rd_T23 t371 x36_2).f5)) := (blk_cell BK376.out 5).trans rfl
                                            have hfz64_0 := blk_frozen BK376.out 0
                                            have hfz64_1 := blk_frozen BK376.out 1
                                            have hfz64_2 := blk_frozen BK376.out 2
                                            have hfz64_3 := blk_frozen BK376.out 3
                                            have hfz64_4 := blk_frozen BK376.out 4
                                            have hfz64_5 := blk_frozen BK376.out 5
                                            have p378 : 0 ≤ (((rd_T23 t371 x36_2).f2) : Int) := of_decide_eq_true (by first | (with_reducible assumption) | assumption)
                                            have q378 : ((rd_T23 t371 x36_2).f2) < (t371.length : Int) := of_decide_eq_true (by first | (with_reducible assumption) | assumption)
                                            obtain ⟨ad378, e378, hx378_0, hx378_1, hx378_2, hx378_3, hx378_4, hx378_5⟩ := at_T23 (Kd.R_reads' HO_6.out).2.2 ((rd_T23 t371 x36_2).f2) p378 q378
                                            obtain rfl : ad375 = ad378 := (by injection e378)
                                            replace p378 := eq_true p378
                                            replace q378 := eq_true q378
                                            go_wp2_with (first | ((with_reducible refine gate_dst (N := 10) rfl ?_); refine box_event ?hg (N := 10) ?hd (cs := #[.int .i64 0, .int .i64 0, .int .i64 0, .int .i64 0, .int .i64 0, .int .i64 0]) (t := 23) ?hr ?_; (case hd => rfl); (case hg => rfl); (case hr => first | (go_simp; done) | (go_simp; rfl)); intro gb379 hg w65 hbox hb; have n0_ := Aside0.mk (Kd.R_below (Kd.R_elderB (by (with_reducible repeat (first | apply Kd.R_alloc | apply Kd.R_drewN | apply Kd.R_drew)); exact HO_6.out) gb379 (Nat.le_of_eq hg.symm)) hb); have n1_ := Aside0.mk (Kd.R_below (Kd.R_elderB (by (with_reducible repeat (first | apply Kd.R_alloc | apply Kd.R_drewN | apply Kd.R_drew)); exact HO_34.out) gb379 (Nat.le_of_eq hg.symm)) hb); have n2_ := Aside0.mk (blk_below (g := gb376) (o := .cells #[.int .i64 ((rd_T23 t371 x36_2).f0), .int .i64 ((rd_T23 t371 x36_2).f1), .int .i64 ((rd_T23 t371 x36_2).f2), .int .i64 ((rd_T23 t371 x36_2).f3), .int .i64 ((rd_T23 t371 x36_2).f4), .int .i64 ((rd_T23 t371 x36_2).f5)] 23 (0, 0)) (by (with_reducible repeat (first | refine blk_drewN ?_ _ | refine blk_drew ?_ | refine blk_alloc ?_ _)); exact BK376.out) hb); have n3_ := Aside0.mk (below_step (by repeat (first | (with_reducible first | exact HB.out | apply below_alloc | apply pw_below_drewN | apply below_drew1 | refine below_set ?_ GE376.out) | exact HB.out)) hb); have n4_ := Aside0.mk (hbox); have n5_ := Aside0.mk ((by rw [hg]; exact (below_size (by repeat (first | (with_reducible first | exact HB.out | apply below_alloc | apply pw_below_drewN | apply below_drew1 | refine below_set ?_ GE376.out) | exact HB.out))) : w.heap.size ≤ gb379)); have n6_ := Aside0.mk ((by rw [hg]; exact (below_size (by repeat (first | (with_reducible first | exact HB.out | apply below_alloc | apply pw_below_drewN | apply below_drew1 | refine below_set ?_ GE376.out) | exact HB.out))) : w.heap.size ≤ gb379)); have n7_ := Aside0.mk ((by rw [hg]; exact Nat.ne_of_lt (blk_lt (g := gb376) (o := .cells #[.int .i64 ((rd_T23 t371 x36_2).f0), .int .i64 ((rd_T23 t371 x36_2).f1), .int .i64 ((rd_T23 t371 x36_2).f2), .int .i64 ((rd_T23 t371 x36_2).f3), .int .i64 ((rd_T23 t371 x36_2).f4), .int .i64 ((rd_T23 t371 x36_2).f5)] 23 (0, 0)) (by (with_reducible repeat (first | refine blk_drewN ?_ _ | refine blk_drew ?_ | refine blk_alloc ?_ _)); exact BK376.out)) : gb376 ≠ gb379)); have n8_ := Aside0.mk ((by rw [hg]; exact Nat.ne_of_gt (blk_lt (g := gb376) (o := .cells #[.int .i64 ((rd_T23 t371 x36_2).f0), .int .i64 ((rd_T23 t371 x36_2).f1), .int .i64 ((rd_T23 t371 x36_2).f2), .int .i64 ((rd_T23 t371 x36_2).f3), .int .i64 ((rd_T23 t371 x36_2).f4), .int .i64 ((rd_T23 t371 x36_2).f5)] 23 (0, 0)) (by (with_reducible repeat (first | refine blk_drewN ?_ _ | refine blk_drew ?_ | refine blk_alloc ?_ _)); exact BK376.out)) : gb379 ≠ gb376)); clear HO_6; clear HO_34; clear BK376; clear HB; have HO_6 := n0_; have HO_34 := n1_; have BK376 := n2_; have HB := n3_; have BK379 := n4_; have GW379 := n5_; have GE379 := n6_; have NB376_379 := n7_; have NB379_376 := n8_; clear n0_ n1_ n2_ n3_ n4_ n5_ n6_ n7_ n8_; clear hb hbox hg; have hnb66 := NB379_376.out; have hnc66 := NB376_379.out; have hcz67_0 : w65.cell? ⟨gb379, 0, none⟩ = some (.int .i64 0) := (blk_cell BK379.out 0).trans rfl; have hcz67_1 : w65.cell? ⟨gb379, 1, none⟩ = some (.int .i64 0) := (blk_cell BK379.out 1).trans rfl; have hcz67_2 : w65.cell? ⟨gb379, 2, none⟩ = some (.int .i64 0) := (blk_cell BK379.out 2).trans rfl; have hcz67_3 : w65.cell? ⟨gb379, 3, none⟩ = some (.int .i64 0) := (blk_cell BK379.out 3).trans rfl; have hcz67_4 : w65.cell? ⟨gb379, 4, none⟩ = some (.int .i64 0) := (blk_cell BK379.out 4).trans rfl; have hcz67_5 : w65.cell? ⟨gb379, 5, none⟩ = some (.int .i64 0) := (blk_cell BK379.out 5).trans rfl; have hfz67_0 := blk_frozen BK379.out 0; have hfz67_1 := blk_frozen BK379.out 1; have hfz67_2 := blk_frozen BK379.out 2; have hfz67_3 := blk_frozen BK379.out 3; have hfz67_4 := blk_frozen BK379.out 4; have hfz67_5 := blk_frozen BK379.out 5; have hcz68_0 : w65.cell? ⟨gb376, 0, none⟩ = some (.int .i64 ((rd_T23 t371 x36_2).f0)) := (blk_cell BK376.out 0).trans rfl; have hcz68_1 : w65.cell? ⟨gb376, 1, none⟩ = some (.int .i64 ((rd_T23 t371 x36_2).f1)) := (blk_cell BK376.out 1).trans rfl; have hcz68_2 : w65.cell? ⟨gb376, 2, none⟩ = some (.int .i64 ((rd_T23 t371 x36_2).f2)) := (blk_cell BK376.out 2).trans rfl; have hcz68_3 : w65.cell? ⟨gb376, 3, none⟩ = some (.int .i64 ((rd_T23 t371 x36_2).f3)) := (blk_cell BK376.out 3).trans rfl; have hcz68_4 : w65.cell? ⟨gb376, 4, none⟩ = some (.int .i64 ((rd_T23 t371 x36_2).f4)) := (blk_cell BK376.out 4).trans rfl; have hcz68_5 : w65.cell? ⟨gb376, 5, none⟩ = some (.int .i64 ((rd_T23 t371 x36_2).f5)) := (blk_cell BK376.out 5).trans rfl; have hfz68_0 := blk_frozen BK376.out 0; have hfz68_1 := blk_frozen BK376.out 1; have hfz68_2 := blk_frozen BK376.out 2; have hfz68_3 := blk_frozen BK376.out 3; have hfz68_4 := blk_frozen BK376.out 4; have hfz68_5 := blk_frozen BK376.out 5))
                                            go_roundg kj15
                                            case measure => have := HJ5.out; have := HK2.out; have := HJ15.out; omega
                                            case rel => exact ⟨(wrap64 (x36_2 + 1)), (by first | rfl | (simp; done) | (simp [*]; done)), H', ⟨by have := HJ5.out; have := HK2.out; have := HJ15.out; omega⟩, ⟨by (with_reducible repeat (first | apply Kd.R_alloc | apply Kd.R_drewN | apply Kd.R_drew)); exact Kd.R_mono (Kd.R_far (p := ⟨gb379, 5, none⟩) (Kd.R_far (p := ⟨gb379, 4, none⟩) (Kd.R_far (p := ⟨gb379, 3, none⟩) (Kd.R_far (p := ⟨gb379, 2, none⟩) (Kd.R_far (p := ⟨gb379, 1, none⟩) (Kd.R_far (p := ⟨gb379, 0, none⟩) (Kd.R_mono HO_6.out (fun k_ hk => (⟨hk, hk.2⟩ : _ ∧ k_ ≠ gb379))) (fun _ hk => hk.2) (.int .i64 ((rd_T23 t371 ((rd_T23 t371 x36_2).f2)).f0))) (fun _ hk => hk.2) (.int .i64 ((rd_T23 t371 ((rd_T23 t371 x36_2).f2)).f1))) (fun _ hk => hk.2) (.int .i64 ((rd_T23 t371 ((rd_T23 t371 x36_2).f2)).f2))) (fun _ hk => hk.2) (.int .i64 ((rd_T23 t371 ((rd_T23 t371 x36_2).f2)).f3))) (fun _ hk => hk.2) (.int .i64 ((rd_T23 t371 ((rd_T23 t371 x36_2).f2)).f4))) (fun _ hk => hk.2) (.int .i64 ((rd_T23 t371 ((rd_T23 t371 x36_2).f2)).f5))) (fun _ hk => trivial)⟩, ⟨by (with_reducible repeat (first | apply Kd.R_alloc | apply Kd.R_drewN | apply Kd.R_drew)); exact Kd.R_mono (Kd.R_far (p := ⟨gb379, 5, none⟩) (Kd.R_far (p := ⟨gb379, 4, none⟩) (Kd.R_far (p := ⟨gb379, 3, none⟩) (Kd.R_far (p := ⟨gb379, 2, none⟩) (Kd.R_far (p := ⟨gb379, 1, none⟩) (Kd.R_far (p := ⟨gb379, 0, none⟩) (Kd.R_mono HO_34.out (fun k_ hk => (⟨hk, hk.2⟩ : _ ∧ k_ ≠ gb379))) (fun _ hk => hk.2) (.int .i64 ((rd_T23 t371 ((rd_T23 t371 x36_2).f2)).f0))) (fun _ hk => hk.2) (.int .i64 ((rd_T23 t371 ((rd_T23 t371 x36_2).f2)).f1))) (fun _ hk => hk.2) (.int .i64 ((rd_T23 t371 ((rd_T23 t371 x36_2).f2)).f2))) (fun _ hk => hk.2) (.int .i64 ((rd_T23 t371 ((rd_T23 t371 x36_2).f2)).f3))) (fun _ hk => hk.2) (.int .i64 ((rd_T23 t371 ((rd_T23 t371 x36_2).f2)).f4))) (fun _ hk => hk.2) (.int .i64 ((rd_T23 t371 ((rd_T23 t371 x36_2).f2)).f5))) (fun _ hk => trivial)⟩, ⟨by repeat (first | (with_reducible first | exact HB.out | apply below_alloc | apply pw_below_drewN | apply below_drew1 | refine below_set ?_ GE376.out | refine below_set ?_ GE379.out) | exact HB.out)⟩⟩
                                    · rw [if_neg c45] at H
                                      have c45b0 : (((rd_T23 t371 ((rd_T23 t371 x36_2).f2)).f1) == ((rd_T23 t371 x36_2).f1)) = false := beq_eq_false_iff_ne.mpr c45
                                      have c45b1 : (((rd_T23 t371 ((rd_T23 t371 x36_2).f2)).f1) != ((rd_T23 t371 x36_2).f1)) = true := bne_iff_ne.mpr c45
                                      by_cases c69 : ((rd_T23 t371 x36_2).f3) ≥ ((rd_T23 t371 x36_2).f5)
                                      · rw [if_pos c69] at H
                                        have c69b0 : decide (((rd_T23 t371 x36_2).f5) ≤ ((rd_T23 t371 x36_2).f3)) = true := decide_eq_true c69
                                        clear c69
                                        obtain rfl := Option.some.inj H
                                        have hcz70_0 : wc.cell? ⟨gb376, 0, none⟩ = some (.int .i64 ((rd_T23 t371 x36_2).f0)) := (blk_cell BK376.out 0).trans rfl
                                        have hcz70_1 : wc.cell? ⟨gb376, 1, none⟩ = some (.int .i64 ((rd_T23 t371 x36_2).f1)) := (blk_cell BK376.out 1).trans rfl
                                        have hcz70_2 : wc.cell? ⟨gb376, 2, none⟩ = some (.int .i64 ((rd_T23 t371 x36_2).f2)) := (blk_cell BK376.out 2).trans rfl
                                        have hcz70_3 : wc.cell? ⟨gb376, 3, none⟩ = some (.int .i64 ((rd_T23 t371 x36_2).f3)) := (blk_cell BK376.out 3).trans rfl
                                        have hcz70_4 : wc.cell? ⟨gb376, 4, none⟩ = some (.int .i64 ((rd_T23 t371 x36_2).f4)) := (blk_cell BK376.out 4).trans rfl
                                        have hcz70_5 : wc.cell? ⟨gb376, 5, none⟩ = some (.int .i64 ((rd_T23 t371 x36_2).f5)) := (blk_cell BK376.out 5).trans rfl
                                        have hfz70_0 := blk_frozen BK376.out 0
                                        have hfz70_1 := blk_frozen BK376.out 1
                                        have hfz70_2 := blk_frozen BK376.out 2
                                        have hfz70_3 := blk_frozen BK376.out 3
                                        have hfz70_4 := blk_frozen BK376.out 4
                                        have hfz70_5 := blk_frozen BK376.out 5
                                        have p378 : 0 ≤ (((rd_T23 t371 x36_2).f2) : Int) := of_decide_eq_true (by first | (with_reducible assumption) | assumption)
                                        have q378 : ((rd_T23 t371 x36_2).f2) < (t371.length : Int) := of_decide_eq_true (by first | (with_reducible assumption) | assumption)
                                        obtain ⟨ad378, e378, hx378_0, hx378_1, hx378_2, hx378_3, hx378_4, hx378_5⟩ := at_T23 (Kd.R_reads' HO_6.out).2.2 ((rd_T23 t371 x36_2).f2) p378 q378
                                        obtain rfl : ad375 = ad378 := (by injection e378)
                                        replace p378 := eq_true p378
                                        replace q378 := eq_true q378
                                        go_wp2_with (first | ((with_reducible refine gate_dst (N := 10) rfl ?_); refine box_event ?hg (N := 10) ?hd (cs := #[.int .i64 0, .int .i64 0, .int .i64 0, .int .i64 0, .int .i64 0, .int .i64 0]) (t := 23) ?hr ?_; (case hd => rfl); (case hg => rfl); (case hr => first | (go_simp; done) | (go_simp; rfl)); intro gb379 hg w71 hbox hb; have n0_ := Aside0.mk (Kd.R_below (Kd.R_elderB (by (with_reducible repeat (first | apply Kd.R_alloc | apply Kd.R_drewN | apply Kd.R_drew)); exact HO_6.out) gb379 (Nat.le_of_eq hg.symm)) hb); have n1_ := Aside0.mk (Kd.R_below (Kd.R_elderB (by (with_reducible repeat (first | apply Kd.R_alloc | apply Kd.R_drewN | apply Kd.R_drew)); exact HO_34.out) gb379 (Nat.le_of_eq hg.symm)) hb); have n2_ := Aside0.mk (blk_below (g := gb376) (o := .cells #[.int .i64 ((rd_T23 t371 x36_2).f0), .int .i64 ((rd_T23 t371 x36_2).f1), .int .i64 ((rd_T23 t371 x36_2).f2), .int .i64 ((rd_T23 t371 x36_2).f3), .int .i64 ((rd_T23 t371 x36_2).f4), .int .i64 ((rd_T23 t371 x36_2).f5)] 23 (0, 0)) (by (with_reducible repeat (first | refine blk_drewN ?_ _ | refine blk_drew ?_ | refine blk_alloc ?_ _)); exact BK376.out) hb); have n3_ := Aside0.mk (below_step (by repeat (first | (with_reducible first | exact HB.out | apply below_alloc | apply pw_below_drewN | apply below_drew1 | refine below_set ?_ GE376.out) | exact HB.out)) hb); have n4_ := Aside0.mk (hbox); have n5_ := Aside0.mk ((by rw [hg]; exact (below_size (by repeat (first | (with_reducible first | exact HB.out | apply below_alloc | apply pw_below_drewN | apply below_drew1 | refine below_set ?_ GE376.out) | exact HB.out))) : w.heap.size ≤ gb379)); have n6_ := Aside0.mk ((by rw [hg]; exact (below_size (by repeat (first | (with_reducible first | exact HB.out | apply below_alloc | apply pw_below_drewN | apply below_drew1 | refine below_set ?_ GE376.out) | exact HB.out))) : w.heap.size ≤ gb379)); have n7_ := Aside0.mk ((by rw [hg]; exact Nat.ne_of_lt (blk_lt (g := gb376) (o := .cells #[.int .i64 ((rd_T23 t371 x36_2).f0), .int .i64 ((rd_T23 t371 x36_2).f1), .int .i64 ((rd_T23 t371 x36_2).f2), .int .i64 ((rd_T23 t371 x36_2).f3), .int .i64 ((rd_T23 t371 x36_2).f4), .int .i64 ((rd_T23 t371 x36_2).f5)] 23 (0, 0)) (by (with_reducible repeat (first | refine blk_drewN ?_ _ | refine blk_drew ?_ | refine blk_alloc ?_ _)); exact BK376.out)) : gb376 ≠ gb379)); have n8_ := Aside0.mk ((by rw [hg]; exact Nat.ne_of_gt (blk_lt (g := gb376) (o := .cells #[.int .i64 ((rd_T23 t371 x36_2).f0), .int .i64 ((rd_T23 t371 x36_2).f1), .int .i64 ((rd_T23 t371 x36_2).f2), .int .i64 ((rd_T23 t371 x36_2).f3), .int .i64 ((rd_T23 t371 x36_2).f4), .int .i64 ((rd_T23 t371 x36_2).f5)] 23 (0, 0)) (by (with_reducible repeat (first | refine blk_drewN ?_ _ | refine blk_drew ?_ | refine blk_alloc ?_ _)); exact BK376.out)) : gb379 ≠ gb376)); clear HO_6; clear HO_34; clear BK376; clear HB; have HO_6 := n0_; have HO_34 := n1_; have BK376 := n2_; have HB := n3_; have BK379 := n4_; have GW379 := n5_; have GE379 := n6_; have NB376_379 := n7_; have NB379_376 := n8_; clear n0_ n1_ n2_ n3_ n4_ n5_ n6_ n7_ n8_; clear hb hbox hg; have hnb72 := NB379_376.out; have hnc72 := NB376_379.out; have hcz73_0 : w71.cell? ⟨gb379, 0, none⟩ = some (.int .i64 0) := (blk_cell BK379.out 0).trans rfl; have hcz73_1 : w71.cell? ⟨gb379, 1, none⟩ = some (.int .i64 0) := (blk_cell BK379.out 1).trans rfl; have hcz73_2 : w71.cell? ⟨gb379, 2, none⟩ = some (.int .i64 0) := (blk_cell BK379.out 2).trans rfl; have hcz73_3 : w71.cell? ⟨gb379, 3, none⟩ = some (.int .i64 0) := (blk_cell BK379.out 3).trans rfl; have hcz73_4 : w71.cell? ⟨gb379, 4, none⟩ = some (.int .i64 0) := (blk_cell BK379.out 4).trans rfl; have hcz73_5 : w71.cell? ⟨gb379, 5, none⟩ = some (.int .i64 0) := (blk_cell BK379.out 5).trans rfl; have hfz73_0 := blk_frozen BK379.out 0; have hfz73_1 := blk_frozen BK379.out 1; have hfz73_2 := blk_frozen BK379.out 2; have hfz73_3 := blk_frozen BK379.out 3; have hfz73_4 := blk_frozen BK379.out 4; have hfz73_5 := blk_frozen BK379.out 5; have hcz74_0 : w71.cell? ⟨gb376, 0, none⟩ = some (.int .i64 ((rd_T23 t371 x36_2).f0)) := (blk_cell BK376.out 0).trans rfl; have hcz74_1 : w71.cell? ⟨gb376, 1, none⟩ = some (.int .i64 ((rd_T23 t371 x36_2).f1)) := (blk_cell BK376.out 1).trans rfl; have hcz74_2 : w71.cell? ⟨gb376, 2, none⟩ = some (.int .i64 ((rd_T23 t371 x36_2).f2)) := (blk_cell BK376.out 2).trans rfl; have hcz74_3 : w71.cell? ⟨gb376, 3, none⟩ = some (.int .i64 ((rd_T23 t371 x36_2).f3)) := (blk_cell BK376.out 3).trans rfl; have hcz74_4 : w71.cell? ⟨gb376, 4, none⟩ = some (.int .i64 ((rd_T23 t371 x36_2).f4)) := (blk_cell BK376.out 4).trans rfl; have hcz74_5 : w71.cell? ⟨gb376, 5, none⟩ = some (.int .i64 ((rd_T23 t371 x36_2).f5)) := (blk_cell BK376.out 5).trans rfl; have hfz74_0 := blk_frozen BK376.out 0; have hfz74_1 := blk_frozen BK376.out 1; have hfz74_2 := blk_frozen BK376.out 2; have hfz74_3 := blk_frozen BK376.out 3; have hfz74_4 := blk_frozen BK376.out 4; have hfz74_5 := blk_frozen BK376.out 5))
                                        go_ret
                                        exact ⟨by first | rfl | (simp [errW_none, errW_some] <;> rfl) | (simp [*, errW_none, errW_some] <;> rfl), by repeat (first | (with_reducible first | exact HB.out | apply below_alloc | apply pw_below_drewN | apply below_drew1 | refine below_set ?_ GE376.out | refine below_set ?_ GE379.out) | exact HB.out)⟩
                                      · rw [if_neg c69] at H
                                        have c69b0 : decide (((rd_T23 t371 x36_2).f5) ≤ ((rd_T23 t371 x36_2).f3)) = false := decide_eq_false c69
                                        clear c69
                                        by_cases c75 : ((rd_T23 t371 x36_2).f4) ≤ ((rd_T23 t371 x36_2).f3)
                                        · rw [if_pos c75] at H
                                          have c75b0 : decide (((rd_T23 t371 x36_2).f4) ≤ ((rd_T23 t371 x36_2).f3)) = true := decide_eq_true c75
                                          clear c75
                                          obtain rfl := Option.some.inj H
                                          have hcz76_0 : wc.cell? ⟨gb376, 0, none⟩ = some (.int .i64 ((rd_T23 t371 x36_2).f0)) := (blk_cell BK376.out 0).trans rfl
                                          have hcz76_1 : wc.cell? ⟨gb376, 1, none⟩ = some (.int .i64 ((rd_T23 t371 x36_2).f1)) := (blk_cell BK376.out 1).trans rfl
                                          have hcz76_2 : wc.cell? ⟨gb376, 2, none⟩ = some (.int .i64 ((rd_T23 t371 x36_2).f2)) := (blk_cell BK376.out 2).trans rfl
                                          have hcz76_3 : wc.cell? ⟨gb376, 3, none⟩ = some (.int .i64 ((rd_T23 t371 x36_2).f3)) := (blk_cell BK376.out 3).trans rfl
                                          have hcz76_4 : wc.cell? ⟨gb376, 4, none⟩ = some (.int .i64 ((rd_T23 t371 x36_2).f4)) := (blk_cell BK376.out 4).trans rfl
                                          have hcz76_5 : wc.cell? ⟨gb376, 5, none⟩ = some (.int .i64 ((rd_T23 t371 x36_2).f5)) := (blk_cell BK376.out 5).trans rfl
                                          have hfz76_0 := blk_frozen BK376.out 0
                                          have hfz76_1 := blk_frozen BK376.out 1
                                          have hfz76_2 := blk_frozen BK376.out 2
                                          have hfz76_3 := blk_frozen BK376.out 3
                                          have hfz76_4 := blk_frozen BK376.out 4
                                          have hfz76_5 := blk_frozen BK376.out 5
                                          have p378 : 0 ≤ (((rd_T23 t371 x36_2).f2) : Int) := of_decide_eq_true (by first | (with_reducible assumption) | assumption)
                                          have q378 : ((rd_T23 t371 x36_2).f2) < (t371.length : Int) := of_decide_eq_true (by first | (with_reducible assumption) | assumption)
                                          obtain ⟨ad378, e378, hx378_0, hx378_1, hx378_2, hx378_3, hx378_4, hx378_5⟩ := at_T23 (Kd.R_reads' HO_6.out).2.2 ((rd_T23 t371 x36_2).f2) p378 q378
                                          obtain rfl : ad375 = ad378 := (by injection e378)
                                          replace p378 := eq_true p378
                                          replace q378 := eq_true q378
                                          go_wp2_with (first | ((with_reducible refine gate_dst (N := 10) rfl ?_); refine box_event ?hg (N := 10) ?hd (cs := #[.int .i64 0, .int .i64 0, .int .i64 0, .int .i64 0, .int .i64 0, .int .i64 0]) (t := 23) ?hr ?_; (case hd => rfl); (case hg => rfl); (case hr => first | (go_simp; done) | (go_simp; rfl)); intro gb379 hg w77 hbox hb; have n0_ := Aside0.mk (Kd.R_below (Kd.R_elderB (by (with_reducible repeat (first | apply Kd.R_alloc | apply Kd.R_drewN | apply Kd.R_drew)); exact HO_6.out) gb379 (Nat.le_of_eq hg.symm)) hb); have n1_ := Aside0.mk (Kd.R_below (Kd.R_elderB (by (with_reducible repeat (first | apply Kd.R_alloc | apply Kd.R_drewN | apply Kd.R_drew)); exact HO_34.out) gb379 (Nat.le_of_eq hg.symm)) hb); have n2_ := Aside0.mk (blk_below (g := gb376) (o := .cells #[.int .i64 ((rd_T23 t371 x36_2).f0), .int .i64 ((rd_T23 t371 x36_2).f1), .int .i64 ((rd_T23 t371 x36_2).f2), .int .i64 ((rd_T23 t371 x36_2).f3), .int .i64 ((rd_T23 t371 x36_2).f4), .int .i64 ((rd_T23 t371 x36_2).f5)] 23 (0, 0)) (by (with_reducible repeat (first | refine blk_drewN ?_ _ | refine blk_drew ?_ | refine blk_alloc ?_ _)); exact BK376.out) hb); have n3_ := Aside0.mk (below_step (by repeat (first | (with_reducible first | exact HB.out | apply below_alloc | apply pw_below_drewN | apply below_drew1 | refine below_set ?_ GE376.out) | exact HB.out)) hb); have n4_ := Aside0.mk (hbox); have n5_ := Aside0.mk ((by rw [hg]; exact (below_size (by repeat (first | (with_reducible first | exact HB.out | apply below_alloc | apply pw_below_drewN | apply below_drew1 | refine below_set ?_ GE376.out) | exact HB.out))) : w.heap.size ≤ gb379)); have n6_ := Aside0.mk ((by rw [hg]; exact (below_size (by repeat (first | (with_reducible first | exact HB.out | apply below_alloc | apply pw_below_drewN | apply below_drew1 | refine below_set ?_ GE376.out) | exact HB.out))) : w.heap.size ≤ gb379)); have n7_ := Aside0.mk ((by rw [hg]; exact Nat.ne_of_lt (blk_lt (g := gb376) (o := .cells #[.int .i64 ((rd_T23 t371 x36_2).f0), .int .i64 ((rd_T23 t371 x36_2).f1), .int .i64 ((rd_T23 t371 x36_2).f2), .int .i64 ((rd_T23 t371 x36_2).f3), .int .i64 ((rd_T23 t371 x36_2).f4), .int .i64 ((rd_T23 t371 x36_2).f5)] 23 (0, 0)) (by (with_reducible repeat (first | refine blk_drewN ?_ _ | refine blk_drew ?_ | refine blk_alloc ?_ _)); exact BK376.out)) : gb376 ≠ gb379)); have n8_ := Aside0.mk ((by rw [hg]; exact Nat.ne_of_gt (blk_lt (g := gb376) (o := .cells #[.int .i64 ((rd_T23 t371 x36_2).f0), .int .i64 ((rd_T23 t371 x36_2).f1), .int .i64 ((rd_T23 t371 x36_2).f2), .int .i64 ((rd_T23 t371 x36_2).f3), .int .i64 ((rd_T23 t371 x36_2).f4), .int .i64 ((rd_T23 t371 x36_2).f5)] 23 (0, 0)) (by (with_reducible repeat (first | refine blk_drewN ?_ _ | refine blk_drew ?_ | refine blk_alloc ?_ _)); exact BK376.out)) : gb379 ≠ gb376)); clear HO_6; clear HO_34; clear BK376; clear HB; have HO_6 := n0_; have HO_34 := n1_; have BK376 := n2_; have HB := n3_; have BK379 := n4_; have GW379 := n5_; have GE379 := n6_; have NB376_379 := n7_; have NB379_376 := n8_; clear n0_ n1_ n2_ n3_ n4_ n5_ n6_ n7_ n8_; clear hb hbox hg; have hnb78 := NB379_376.out; have hnc78 := NB376_379.out; have hcz79_0 : w77.cell? ⟨gb379, 0, none⟩ = some (.int .i64 0) := (blk_cell BK379.out 0).trans rfl; have hcz79_1 : w77.cell? ⟨gb379, 1, none⟩ = some (.int .i64 0) := (blk_cell BK379.out 1).trans rfl; have hcz79_2 : w77.cell? ⟨gb379, 2, none⟩ = some (.int .i64 0) := (blk_cell BK379.out 2).trans rfl; have hcz79_3 : w77.cell? ⟨gb379, 3, none⟩ = some (.int .i64 0) := (blk_cell BK379.out 3).trans rfl; have hcz79_4 : w77.cell? ⟨gb379, 4, none⟩ = some (.int .i64 0) := (blk_cell BK379.out 4).trans rfl; have hcz79_5 : w77.cell? ⟨gb379, 5, none⟩ = some (.int .i64 0) := (blk_cell BK379.out 5).trans rfl; have hfz79_0 := blk_frozen BK379.out 0; have hfz79_1 := blk_frozen BK379.out 1; have hfz79_2 := blk_frozen BK379.out 2; have hfz79_3 := blk_frozen BK379.out 3; have hfz79_4 := blk_frozen BK379.out 4; have hfz79_5 := blk_frozen BK379.out 5; have hcz80_0 : w77.cell? ⟨gb376, 0, none⟩ = some (.int .i64 ((rd_T23 t371 x36_2).f0)) := (blk_cell BK376.out 0).trans rfl; have hcz80_1 : w77.cell? ⟨gb376, 1, none⟩ = some (.int .i64 ((rd_T23 t371 x36_2).f1)) := (blk_cell BK376.out 1).trans rfl; have hcz80_2 : w77.cell? ⟨gb376, 2, none⟩ = some (.int .i64 ((rd_T23 t371 x36_2).f2)) := (blk_cell BK376.out 2).trans rfl; have hcz80_3 : w77.cell? ⟨gb376, 3, none⟩ = some (.int .i64 ((rd_T23 t371 x36_2).f3)) := (blk_cell BK376.out 3).trans rfl; have hcz80_4 : w77.cell? ⟨gb376, 4, none⟩ = some (.int .i64 ((rd_T23 t371 x36_2).f4)) := (blk_cell BK376.out 4).trans rfl; have hcz80_5 : w77.cell? ⟨gb376, 5, none⟩ = some (.int .i64 ((rd_T23 t371 x36_2).f5)) := (blk_cell BK376.out 5).trans rfl; have hfz80_0 := blk_frozen BK376.out 0; have hfz80_1 := blk_frozen BK376.out 1; have hfz80_2 := blk_frozen BK376.out 2; have hfz80_3 := blk_frozen BK376.out 3; have hfz80_4 := blk_frozen BK376.out 4; have hfz80_5 := blk_frozen BK376.out 5))
                                          go_ret
                                          exact ⟨by first | rfl | (simp [errW_none, errW_some] <;> rfl) | (simp [*, errW_none, errW_some] <;> rfl), by repeat (first | (with_reducible first | exact HB.out | apply below_alloc | apply pw_below_drewN | apply below_drew1 | refine below_set ?_ GE376.out | refine below_set ?_ GE379.out) | exact HB.out)⟩
                                        · rw [if_neg c75] at H
                                          have c75b0 : decide (((rd_T23 t371 x36_2).f4) ≤ ((rd_T23 t371 x36_2).f3)) = false := decide_eq_false c75
                                          clear c75
                                          have H' := Aside0.mk H
                                          clear H
                                          have hcz81_0 : wc.cell? ⟨gb376, 0, none⟩ = some (.int .i64 ((rd_T23 t371 x36_2).f0)) := (blk_cell BK376.out 0).trans rfl
                                          have hcz81_1 : wc.cell? ⟨gb376, 1, none⟩ = some (.int .i64 ((rd_T23 t371 x36_2).f1)) := (blk_cell BK376.out 1).trans rfl
                                          have hcz81_2 : wc.cell? ⟨gb376, 2, none⟩ = some (.int .i64 ((rd_T23 t371 x36_2).f2)) := (blk_cell BK376.out 2).trans rfl
                                          have hcz81_3 : wc.cell? ⟨gb376, 3, none⟩ = some (.int .i64 ((rd_T23 t371 x36_2).f3)) := (blk_cell BK376.out 3).trans rfl
                                          have hcz81_4 : wc.cell? ⟨gb376, 4, none⟩ = some (.int .i64 ((rd_T23 t371 x36_2).f4)) := (blk_cell BK376.out 4).trans rfl
                                          have hcz81_5 : wc.cell? ⟨gb376, 5, none⟩ = some (.int .i64 ((rd_T23 t371 x36_2).f5)) := (blk_cell BK376.out 5).trans rfl
                                          have hfz81_0 := blk_frozen BK376.out 0
                                          have hfz81_1 := blk_frozen BK376.out 1
                                          have hfz81_2 := blk_frozen BK376.out 2
                                          have hfz81_3 := blk_frozen BK376.out 3
                                          have hfz81_4 := blk_frozen BK376.out 4
                                          have hfz81_5 := blk_frozen BK376.out 5
                                          have p378 : 0 ≤ (((rd_T23 t371 x36_2).f2) : Int) := of_decide_eq_true (by first | (with_reducible assumption) | assumption)
                                          have q378 : ((rd_T23 t371 x36_2).f2) < (t371.length : Int) := of_decide_eq_true (by first | (with_reducible assumption) | assumption)
                                          obtain ⟨ad378, e378, hx378_0, hx378_1, hx378_2, hx378_3, hx378_4, hx378_5⟩ := at_T23 (Kd.R_reads' HO_6.out).2.2 ((rd_T23 t371 x36_2).f2) p378 q378
                                          obtain rfl : ad375 = ad378 := (by injection e378)
                                          replace p378 := eq_true p378
                                          replace q378 := eq_true q378
                                          go_wp2_with (first | ((with_reducible refine gate_dst (N := 10) rfl ?_); refine box_event ?hg (N := 10) ?hd (cs := #[.int .i64 0, .int .i64 0, .int .i64 0, .int .i64 0, .int .i64 0, .int .i64 0]) (t := 23) ?hr ?_; (case hd => rfl); (case hg => rfl); (case hr => first | (go_simp; done) | (go_simp; rfl)); intro gb379 hg w82 hbox hb; have n0_ := Aside0.mk (Kd.R_below (Kd.R_elderB (by (with_reducible repeat (first | apply Kd.R_alloc | apply Kd.R_drewN | apply Kd.R_drew)); exact HO_6.out) gb379 (Nat.le_of_eq hg.symm)) hb); have n1_ := Aside0.mk (Kd.R_below (Kd.R_elderB (by (with_reducible repeat (first | apply Kd.R_alloc | apply Kd.R_drewN | apply Kd.R_drew)); exact HO_34.out) gb379 (Nat.le_of_eq hg.symm)) hb); have n2_ := Aside0.mk (blk_below (g := gb376) (o := .cells #[.int .i64 ((rd_T23 t371 x36_2).f0), .int .i64 ((rd_T23 t371 x36_2).f1), .int .i64 ((rd_T23 t371 x36_2).f2), .int .i64 ((rd_T23 t371 x36_2).f3), .int .i64 ((rd_T23 t371 x36_2).f4), .int .i64 ((rd_T23 t371 x36_2).f5)] 23 (0, 0)) (by (with_reducible repeat (first | refine blk_drewN ?_ _ | refine blk_drew ?_ | refine blk_alloc ?_ _)); exact BK376.out) hb); have n3_ := Aside0.mk (below_step (by repeat (first | (with_reducible first | exact HB.out | apply below_alloc | apply pw_below_drewN | apply below_drew1 | refine below_set ?_ GE376.out) | exact HB.out)) hb); have n4_ := Aside0.mk (hbox); have n5_ := Aside0.mk ((by rw [hg]; exact (below_size (by repeat (first | (with_reducible first | exact HB.out | apply below_alloc | apply pw_below_drewN | apply below_drew1 | refine below_set ?_ GE376.out) | exact HB.out))) : w.heap.size ≤ gb379)); have n6_ := Aside0.mk ((by rw [hg]; exact (below_size (by repeat (first | (with_reducible first | exact HB.out | apply below_alloc | apply pw_below_drewN | apply below_drew1 | refine below_set ?_ GE376.out) | exact HB.out))) : w.heap.size ≤ gb379)); have n7_ := Aside0.mk ((by rw [hg]; exact Nat.ne_of_lt (blk_lt (g := gb376) (o := .cells #[.int .i64 ((rd_T23 t371 x36_2).f0), .int .i64 ((rd_T23 t371 x36_2).f1), .int .i64 ((rd_T23 t371 x36_2).f2), .int .i64 ((rd_T23 t371 x36_2).f3), .int .i64 ((rd_T23 t371 x36_2).f4), .int .i64 ((rd_T23 t371 x36_2).f5)] 23 (0, 0)) (by (with_reducible repeat (first | refine blk_drewN ?_ _ | refine blk_drew ?_ | refine blk_alloc ?_ _)); exact BK376.out)) : gb376 ≠ gb379)); have n8_ := Aside0.mk ((by rw [hg]; exact Nat.ne_of_gt (blk_lt (g := gb376) (o := .cells #[.int .i64 ((rd_T23 t371 x36_2).f0), .int .i64 ((rd_T23 t371 x36_2).f1), .int .i64 ((rd_T23 t371 x36_2).f2), .int .i64 ((rd_T23 t371 x36_2).f3), .int .i64 ((rd_T23 t371 x36_2).f4), .int .i64 ((rd_T23 t371 x36_2).f5)] 23 (0, 0)) (by (with_reducible repeat (first | refine blk_drewN ?_ _ | refine blk_drew ?_ | refine blk_alloc ?_ _)); exact BK376.out)) : gb379 ≠ gb376)); clear HO_6; clear HO_34; clear BK376; clear HB; have HO_6 := n0_; have HO_34 := n1_; have BK376 := n2_; have HB := n3_; have BK379 := n4_; have GW379 := n5_; have GE379 := n6_; have NB376_379 := n7_; have NB379_376 := n8_; clear n0_ n1_ n2_ n3_ n4_ n5_ n6_ n7_ n8_; clear hb hbox hg; have hnb83 := NB379_376.out; have hnc83 := NB376_379.out; have hcz84_0 : w82.cell? ⟨gb379, 0, none⟩ = some (.int .i64 0) := (blk_cell BK379.out 0).trans rfl; have hcz84_1 : w82.cell? ⟨gb379, 1, none⟩ = some (.int .i64 0) := (blk_cell BK379.out 1).trans rfl; have hcz84_2 : w82.cell? ⟨gb379, 2, none⟩ = some (.int .i64 0) := (blk_cell BK379.out 2).trans rfl; have hcz84_3 : w82.cell? ⟨gb379, 3, none⟩ = some (.int .i64 0) := (blk_cell BK379.out 3).trans rfl; have hcz84_4 : w82.cell? ⟨gb379, 4, none⟩ = some (.int .i64 0) := (blk_cell BK379.out 4).trans rfl; have hcz84_5 : w82.cell? ⟨gb379, 5, none⟩ = some (.int .i64 0) := (blk_cell BK379.out 5).trans rfl; have hfz84_0 := blk_frozen BK379.out 0; have hfz84_1 := blk_frozen BK379.out 1; have hfz84_2 := blk_frozen BK379.out 2; have hfz84_3 := blk_frozen BK379.out 3; have hfz84_4 := blk_frozen BK379.out 4; have hfz84_5 := blk_frozen BK379.out 5; have hcz85_0 : w82.cell? ⟨gb376, 0, none⟩ = some (.int .i64 ((rd_T23 t371 x36_2).f0)) := (blk_cell BK376.out 0).trans rfl; have hcz85_1 : w82.cell? ⟨gb376, 1, none⟩ = some (.int .i64 ((rd_T23 t371 x36_2).f1)) := (blk_cell BK376.out 1).trans rfl; have hcz85_2 : w82.cell? ⟨gb376, 2, none⟩ = some (.int .i64 ((rd_T23 t371 x36_2).f2)) := (blk_cell BK376.out 2).trans rfl; have hcz85_3 : w82.cell? ⟨gb376, 3, none⟩ = some (.int .i64 ((rd_T23 t371 x36_2).f3)) := (blk_cell BK376.out 3).trans rfl; have hcz85_4 : w82.cell? ⟨gb376, 4, none⟩ = some (.int .i64 ((rd_T23 t371 x36_2).f4)) := (blk_cell BK376.out 4).trans rfl; have hcz85_5 : w82.cell? ⟨gb376, 5, none⟩ = some (.int .i64 ((rd_T23 t371 x36_2).f5)) := (blk_cell BK376.out 5).trans rfl; have hfz85_0 := blk_frozen BK376.out 0; have hfz85_1 := blk_frozen BK376.out 1; have hfz85_2 := blk_frozen BK376.out 2; have hfz85_3 := blk_frozen BK376.out 3; have hfz85_4 := blk_frozen BK376.out 4; have hfz85_5 := blk_frozen BK376.out 5))
                                          go_roundg kj15
                                          case measure => have := HJ5.out; have := HK2.out; have := HJ15.out; omega
                                          case rel => exact ⟨(wrap64 (x36_2 + 1)), (by first | rfl | (simp; done) | (simp [*]; done)), H', ⟨by have := HJ5.out; have := HK2.out; have := HJ15.out; omega⟩, ⟨by (with_reducible repeat (first | apply Kd.R_alloc | apply Kd.R_drewN | apply Kd.R_drew)); exact Kd.R_mono (Kd.R_far (p := ⟨gb379, 5, none⟩) (Kd.R_far (p := ⟨gb379, 4, none⟩) (Kd.R_far (p := ⟨gb379, 3, none⟩) (Kd.R_far (p := ⟨gb379, 2, none⟩) (Kd.R_far (p := ⟨gb379, 1, none⟩) (Kd.R_far (p := ⟨gb379, 0, none⟩) (Kd.R_mono HO_6.out (fun k_ hk => (⟨hk, hk.2⟩ : _ ∧ k_ ≠ gb379))) (fun _ hk => hk.2) (.int .i64 ((rd_T23 t371 ((rd_T23 t371 x36_2).f2)).f0))) (fun _ hk => hk.2) (.int .i64 ((rd_T23 t371 ((rd_T23 t371 x36_2).f2)).f1))) (fun _ hk => hk.2) (.int .i64 ((rd_T23 t371 ((rd_T23 t371 x36_2).f2)).f2))) (fun _ hk => hk.2) (.int .i64 ((rd_T23 t371 ((rd_T23 t371 x36_2).f2)).f3))) (fun _ hk => hk.2) (.int .i64 ((rd_T23 t371 ((rd_T23 t371 x36_2).f2)).f4))) (fun _ hk => hk.2) (.int .i64 ((rd_T23 t371 ((rd_T23 t371 x36_2).f2)).f5))) (fun _ hk => trivial)⟩, ⟨by (with_reducible repeat (first | apply Kd.R_alloc | apply Kd.R_drewN | apply Kd.R_drew)); exact Kd.R_mono (Kd.R_far (p := ⟨gb379, 5, none⟩) (Kd.R_far (p := ⟨gb379, 4, none⟩) (Kd.R_far (p := ⟨gb379, 3, none⟩) (Kd.R_far (p := ⟨gb379, 2, none⟩) (Kd.R_far (p := ⟨gb379, 1, none⟩) (Kd.R_far (p := ⟨gb379, 0, none⟩) (Kd.R_mono HO_34.out (fun k_ hk => (⟨hk, hk.2⟩ : _ ∧ k_ ≠ gb379))) (fun _ hk => hk.2) (.int .i64 ((rd_T23 t371 ((rd_T23 t371 x36_2).f2)).f0))) (fun _ hk => hk.2) (.int .i64 ((rd_T23 t371 ((rd_T23 t371 x36_2).f2)).f1))) (fun _ hk => hk.2) (.int .i64 ((rd_T23 t371 ((rd_T23 t371 x36_2).f2)).f2))) (fun _ hk => hk.2) (.int .i64 ((rd_T23 t371 ((rd_T23 t371 x36_2).f2)).f3))) (fun _ hk => hk.2) (.int .i64 ((rd_T23 t371 ((rd_T23 t371 x36_2).f2)).f4))) (fun _ hk => hk.2) (.int .i64 ((rd_T23 t371 ((rd_T23 t371 x36_2).f2)).f5))) (fun _ hk => trivial)⟩, ⟨by repeat (first | (with_reducible first | exact HB.out | apply below_alloc | apply pw_below_drewN | apply below_drew1 | refine below_set ?_ GE376.out | refine below_set ?_ GE379.out) | exact HB.out)⟩⟩
                                · rw [if_neg c38] at H
                                  exact absurd H (by simp)
                              · rw [if_neg c37] at H
                                exact absurd H (by simp)
                    · rw [if_neg c15] at H
                      exact absurd H (by simp)
                  · rw [if_neg c14] at H
                    exact absurd H (by simp)
                · rw [if_neg c13] at H
                  have c13b0 : decide (x36_2 < (t371.length : Int)) = false := decide_eq_false c13
                  clear c13
                  obtain rfl := Option.some.inj H
                  go_wp2
                  go_ret
                  exact ⟨by first | rfl | (simp [errW_none, errW_some] <;> rfl) | (simp [*, errW_none, errW_some] <;> rfl), by repeat (first | (with_reducible first | exact HB.out | apply below_alloc | apply pw_below_drewN | apply below_drew1) | exact HB.out)⟩
          · rw [if_neg c11] at H
            have c11b0 : ((t371.length : Int) == (wrap64 (1 + (Int.tmod (wrap64 (a0)) 8)))) = false := beq_eq_false_iff_ne.mpr c11
            have c11b1 : ((t371.length : Int) != (wrap64 (1 + (Int.tmod (wrap64 (a0)) 8)))) = true := bne_iff_ne.mpr c11
            obtain rfl := Option.some.inj H
            obtain ⟨Ao86, co86, eo86⟩ := Kd.R_slice HO_6.out
            subst eo86
            go_wp2
            go_ret
            exact ⟨by first | rfl | (simp [errW_none, errW_some] <;> rfl) | (simp [*, errW_none, errW_some] <;> rfl), by repeat (first | (with_reducible first | exact HB.out | apply below_alloc | apply pw_below_drewN | apply below_drew1) | exact HB.out)⟩
  · replace c4 := Bool.eq_false_iff.mpr c4
    subst c4
    have H1 : (some false) = some r := by rw [if_neg (show ¬ (false = true) by decide)] at H; exact H
    clear H
    have H := H1
    clear H1
    obtain rfl := Option.some.inj H
    go_enter Try.func7, Try.ntmps7
    go_wp2_with (first | ((with_reducible refine gate_callee (f := 10) rfl ?_); refine goesL_ (some 11) rfl rfl Try.func10 (by kernel_rfl) rfl #[] rfl (by (try simp only [List.map_toArray, List.map_cons, List.map_nil]); first | done | rfl | (simp only [List.length_drop, List.length_take]; rfl)) ?_; (with_reducible refine (hopmeshlaw22_awake.calls k  false _ A3.out).mono ?_); rintro e w87 ⟨rfl, hb⟩; refine ⟨_, rfl, ?_⟩; have n0_ := Aside0.mk (below_step (by repeat (first | (with_reducible first | exact HB.out | apply below_alloc | apply pw_below_drewN | apply below_drew1) | exact HB.out)) hb); clear HB; have HB := n0_; clear n0_; (try clear hb); (try clear hb2); (try clear hk); (try clear hi)))
    go_ret
    exact ⟨by first | rfl | (simp [errW_none, errW_some] <;> rfl) | (simp [*, errW_none, errW_some] <;> rfl), by repeat (first | (with_reducible first | exact HB.out | apply below_alloc | apply pw_below_drewN | apply below_drew1) | exact HB.out)⟩

end Go.Proofs.Ytigobnphenhkjaa.Fns
