-- Written by the kit's print.py over this seat's translation (run by wip/gprint.py); a text of this claim.
import Derived.Test.YtigobnphenhkjaaSettlesDef
namespace Go.Proofs.Ytigobnphenhkjaa.Fns
open Go.RowKit Go.Proofs.YtigobnphenhkjaaW.PrintWords Go.Proofs.YtigobnphenhkjaaW.PrintLast Go.Proofs.YtigobnphenhkjaaW.PrintMore
attribute [local go_sem] max2_int min2_int max_two min_two max_three min_three max_four min_four   -- for this text's walks alone
set_option linter.unusedVariables false
set_option linter.unusedSimpArgs false
set_option maxHeartbeats 100000000 in
set_option maxRecDepth 100000 in
theorem hopmeshlaw22_RankSettles.calls (k : Nat) (A0 : Option Addr) (c0 : Nat) (l0 : List (S50)) (a1 : Int) (A2 : Option Addr) (c2 : Nat) (l2 : List Int) (r : Bool) (w : World) (hr0 : Kd.C k50 w A0 l0.length l0) (hc0 : l0.length ≤ c0) (hr2 : Kd.C (Kd.int .u8) w A2 l2.length l2) (hc2 : l2.length ≤ c2) (h : hopmeshlaw22_RankSettles.f k l0 a1 l2 = some r) :
    Calls Try.prog 9 #[.slice A0 l0.length c0, .int .u8 a1, .slice A2 l2.length c2] w fun e w' => e = .returned (.bool r) ∧ Below w.heap.size w w' := by
  have hu50 := Try.underlying50
  have hu23 := Try.underlying23
  have HR0 := Aside0.mk hr0
  have HC0 := Aside0.mk hc0
  clear hr0 hc0
  have HR2 := Aside0.mk hr2
  have HC2 := Aside0.mk hc2
  clear hr2 hc2
  have HB := Aside0.mk (Below.refl w.heap.size w)
  have H : ((hopmeshlaw22_awake.f k).bind fun t380 => (if t380 = true then ((rank_Play.f (wrap64 (1 + (Int.tmod (wrap64 (a1)) 8))) l0).bind fun bt381 => (if (l0.length : Int) > 40 then (hopmeshlaw22_RankSettles.j0 k l0 l2 (wrap64 (1 + (Int.tmod (wrap64 (a1)) 8))) bt381.2 true) else (if bt381.2 = 0 then (hopmeshlaw22_RankSettles.j0 k l0 l2 (wrap64 (1 + (Int.tmod (wrap64 (a1)) 8))) bt381.2 ((bt381.1.length : Int) != (wrap64 (1 + (Int.tmod (wrap64 (a1)) 8))))) else (hopmeshlaw22_RankSettles.j0 k l0 l2 (wrap64 (1 + (Int.tmod (wrap64 (a1)) 8))) bt381.2 true)))) else (some false))) = some r := h
  clear h
  replace H := Option.bind_eq_some_iff.mp H
  obtain ⟨t380, A40, H⟩ := H
  replace H : (if t380 = true then ((rank_Play.f (wrap64 (1 + (Int.tmod (wrap64 (a1)) 8))) l0).bind fun bt381 => (if (l0.length : Int) > 40 then (hopmeshlaw22_RankSettles.j0 k l0 l2 (wrap64 (1 + (Int.tmod (wrap64 (a1)) 8))) bt381.2 true) else (if bt381.2 = 0 then (hopmeshlaw22_RankSettles.j0 k l0 l2 (wrap64 (1 + (Int.tmod (wrap64 (a1)) 8))) bt381.2 ((bt381.1.length : Int) != (wrap64 (1 + (Int.tmod (wrap64 (a1)) 8))))) else (hopmeshlaw22_RankSettles.j0 k l0 l2 (wrap64 (1 + (Int.tmod (wrap64 (a1)) 8))) bt381.2 true)))) else (some false)) = some r := H
  have A4 := Aside0.mk A40
  clear A40
  by_cases c5 : t380 = true
  · subst c5
    have H1 : ((rank_Play.f (wrap64 (1 + (Int.tmod (wrap64 (a1)) 8))) l0).bind fun bt381 => (if (l0.length : Int) > 40 then (hopmeshlaw22_RankSettles.j0 k l0 l2 (wrap64 (1 + (Int.tmod (wrap64 (a1)) 8))) bt381.2 true) else (if bt381.2 = 0 then (hopmeshlaw22_RankSettles.j0 k l0 l2 (wrap64 (1 + (Int.tmod (wrap64 (a1)) 8))) bt381.2 ((bt381.1.length : Int) != (wrap64 (1 + (Int.tmod (wrap64 (a1)) 8))))) else (hopmeshlaw22_RankSettles.j0 k l0 l2 (wrap64 (1 + (Int.tmod (wrap64 (a1)) 8))) bt381.2 true)))) = some r := by rw [if_pos rfl] at H; exact H
    clear H
    have H := H1
    clear H1
    replace H := Option.bind_eq_some_iff.mp H
    obtain ⟨⟨t381, t382⟩, A60, H⟩ := H
    replace H : (if (l0.length : Int) > 40 then (hopmeshlaw22_RankSettles.j0 k l0 l2 (wrap64 (1 + (Int.tmod (wrap64 (a1)) 8))) t382 true) else (if t382 = 0 then (hopmeshlaw22_RankSettles.j0 k l0 l2 (wrap64 (1 + (Int.tmod (wrap64 (a1)) 8))) t382 ((t381.length : Int) != (wrap64 (1 + (Int.tmod (wrap64 (a1)) 8))))) else (hopmeshlaw22_RankSettles.j0 k l0 l2 (wrap64 (1 + (Int.tmod (wrap64 (a1)) 8))) t382 true))) = some r := H
    have A6 := Aside0.mk A60
    clear A60
    have HC7 := Aside0.mk H
    clear H
    go_enter Try.func9, Try.ntmps9
    go_upto_region 5 with (first | (go_at_call 10; (with_reducible refine (hopmeshlaw22_awake.calls k  true _ A4.out).mono ?_); rintro e w8 ⟨rfl, hb⟩; have n0_ := Aside0.mk (below_step (by repeat (first | (with_reducible first | exact HB.out | apply below_alloc | apply pw_below_drewN | apply below_drew1) | exact HB.out)) hb); clear HB; have HB := n0_; clear n0_; (try clear hb); (try clear hb2); (try clear hk); (try clear hi)) | (go_at_call 28; (with_reducible refine (rank_Play.calls (wrap64 (1 + (Int.tmod (wrap64 (a1)) 8))) _ _ l0 t381 t382 _ ?side1 ?side2 A6.out).mono ?_); (case side1 => repeat (first | exact (Kd.C_below HR0.out HB.out) | (with_reducible refine Kd.C_alloc ?_ _) | (with_reducible refine Kd.C_drewN ?_ _) | (with_reducible refine Kd.C_drew ?_))); (case side2 => exact HC0.out); rintro e w9 ⟨v383, rfl, ho0, hb⟩; have n0_ := Aside0.mk (Kd.R_lower ho0 (below_size (by repeat (first | (with_reducible first | exact HB.out | apply below_alloc | apply pw_below_drewN | apply below_drew1) | exact HB.out)))); have n1_ := Aside0.mk (below_step (by repeat (first | (with_reducible first | exact HB.out | apply below_alloc | apply pw_below_drewN | apply below_drew1) | exact HB.out)) hb); clear HB; have HO384 := n0_; have HB := n1_; clear n0_ n1_; (try clear hb); (try clear hb2); (try clear hk); (try clear hi); (try clear ho0)))
    repeat (go_quiet (first | (go_at_call 10; (with_reducible refine (hopmeshlaw22_awake.calls k  true _ A4.out).mono ?_); rintro e w8 ⟨rfl, hb⟩; have n0_ := Aside0.mk (below_step (by repeat (first | (with_reducible first | exact HB.out | apply below_alloc | apply pw_below_drewN | apply below_drew1) | exact HB.out)) hb); clear HB; have HB := n0_; clear n0_; (try clear hb); (try clear hb2); (try clear hk); (try clear hi)) | (go_at_call 28; (with_reducible refine (rank_Play.calls (wrap64 (1 + (Int.tmod (wrap64 (a1)) 8))) _ _ l0 t381 t382 _ ?side1 ?side2 A6.out).mono ?_); (case side1 => repeat (first | exact (Kd.C_below HR0.out HB.out) | (with_reducible refine Kd.C_alloc ?_ _) | (with_reducible refine Kd.C_drewN ?_ _) | (with_reducible refine Kd.C_drew ?_))); (case side2 => exact HC0.out); rintro e w9 ⟨v383, rfl, ho0, hb⟩; have n0_ := Aside0.mk (Kd.R_lower ho0 (below_size (by repeat (first | (with_reducible first | exact HB.out | apply below_alloc | apply pw_below_drewN | apply below_drew1) | exact HB.out)))); have n1_ := Aside0.mk (below_step (by repeat (first | (with_reducible first | exact HB.out | apply below_alloc | apply pw_below_drewN | apply below_drew1) | exact HB.out)) hb); clear HB; have HO384 := n0_; have HB := n1_; clear n0_ n1_; (try clear hb); (try clear hb2); (try clear hk); (try clear hi); (try clear ho0))); go_upto_region 5 with (first | (go_at_call 10; (with_reducible refine (hopmeshlaw22_awake.calls k  true _ A4.out).mono ?_); rintro e w8 ⟨rfl, hb⟩; have n0_ := Aside0.mk (below_step (by repeat (first | (with_reducible first | exact HB.out | apply below_alloc | apply pw_below_drewN | apply below_drew1) | exact HB.out)) hb); clear HB; have HB := n0_; clear n0_; (try clear hb); (try clear hb2); (try clear hk); (try clear hi)) | (go_at_call 28; (with_reducible refine (rank_Play.calls (wrap64 (1 + (Int.tmod (wrap64 (a1)) 8))) _ _ l0 t381 t382 _ ?side1 ?side2 A6.out).mono ?_); (case side1 => repeat (first | exact (Kd.C_below HR0.out HB.out) | (with_reducible refine Kd.C_alloc ?_ _) | (with_reducible refine Kd.C_drewN ?_ _) | (with_reducible refine Kd.C_drew ?_))); (case side2 => exact HC0.out); rintro e w9 ⟨v383, rfl, ho0, hb⟩; have n0_ := Aside0.mk (Kd.R_lower ho0 (below_size (by repeat (first | (with_reducible first | exact HB.out | apply below_alloc | apply pw_below_drewN | apply below_drew1) | exact HB.out)))); have n1_ := Aside0.mk (below_step (by repeat (first | (with_reducible first | exact HB.out | apply below_alloc | apply pw_below_drewN | apply below_drew1) | exact HB.out)) hb); clear HB; have HO384 := n0_; have HB := n1_; clear n0_ n1_; (try clear hb); (try clear hb2); (try clear hk); (try clear hi); (try clear ho0))))
    (try simp only [Act.put, List.setIfInBounds_toArray, List.set_cons_zero, List.set_cons_succ])
    go_cut [44] (fun v44 wc => ∃ (kq : Nat) (x44_6 : Bool), v44 = .bool x44_6 ∧ Aside0 (hopmeshlaw22_RankSettles.j0 kq l0 l2 (wrap64 (1 + (Int.tmod (wrap64 (a1)) 8))) t382 x44_6 = some r) ∧ Aside0 (kq ≤ k) ∧ Aside0 (Below w.heap.size w wc))
    case first =>
      have H := HC7.out
      clear HC7
      by_cases c10 : (l0.length : Int) > 40
      · rw [if_pos c10] at H
        have c10b0 : decide (40 < (l0.length : Int)) = true := decide_eq_true c10
        have c10b1 : decide (40 < l0.length) = true := decide_eq_true (by omega)
        clear c10
        (first | rw [c10b0] | (simp only [i64_w, i32_w]; rw [c10b0]) | skip)
        have H' := Aside0.mk H
        clear H
        go_wp2
        repeat (go_quiet (fail); try go_wp2)
        go_meet
        case rel => exact ⟨_, (true), (by first | rfl | (simp; done) | (simp [*]; done)), H', ⟨by first | omega | exact Nat.le_refl _⟩, ⟨by repeat (first | (with_reducible first | exact HB.out | apply below_alloc | apply pw_below_drewN | apply below_drew1) | exact HB.out)⟩⟩
      · rw [if_neg c10] at H
        have c10b0 : decide (40 < (l0.length : Int)) = false := decide_eq_false c10
        have c10b1 : decide (40 < l0.length) = false := decide_eq_false (by omega)
        clear c10
        (first | rw [c10b0] | (simp only [i64_w, i32_w]; rw [c10b0]) | skip)
        by_cases c11 : t382 = 0
        · rw [if_pos c11] at H
          have c11b0 : (t382 == 0) = true := beq_iff_eq.mpr c11
          have c11b1 : (t382 != 0) = false := bne_eq_false_iff_eq.mpr c11
          clear c11
          have H' := Aside0.mk H
          clear H
          obtain ⟨Ao12, co12, eo12⟩ := Kd.R_slice HO384.out
          subst eo12
          go_wp2
          repeat (go_quiet (fail); try go_wp2)
          go_meet
          case rel => exact ⟨_, (((t381.length : Int) != (wrap64 (1 + (Int.tmod (wrap64 (a1)) 8))))), (by first | rfl | (simp; done) | (simp [*]; done)), H', ⟨by first | omega | exact Nat.le_refl _⟩, ⟨by repeat (first | (with_reducible first | exact HB.out | apply below_alloc | apply pw_below_drewN | apply below_drew1) | exact HB.out)⟩⟩
        · rw [if_neg c11] at H
          have c11b0 : (t382 == 0) = false := beq_eq_false_iff_ne.mpr c11
          have c11b1 : (t382 != 0) = true := bne_iff_ne.mpr c11
          have H' := Aside0.mk H
          clear H
          go_wp2
          repeat (go_quiet (fail); try go_wp2)
          go_meet
          case rel => exact ⟨_, (true), (by first | rfl | (simp; done) | (simp [*]; done)), H', ⟨by first | omega | exact Nat.le_refl _⟩, ⟨by repeat (first | (with_reducible first | exact HB.out | apply below_alloc | apply pw_below_drewN | apply below_drew1) | exact HB.out)⟩⟩
    case rest =>
      clear HC7
      try clear c1
      try clear c2
      try clear p2
      try clear c5
      try clear p6
      try clear c9
      try clear c10
      try clear c10b0
      try clear c10b1
      try clear c11
      try clear c11b0
      try clear c11b1
      obtain ⟨kq, x44_6, rfl, HA, HJ6, HB⟩ := hcut
      cases kq with
      | zero => exact absurd HA.out (by simp [hopmeshlaw22_RankSettles.j0])
      | succ kj6 =>
        have H := HA.out
        clear HA
        simp only [hopmeshlaw22_RankSettles.j0] at H
        by_cases c13 : x44_6 = true
        · subst c13
          have H1 : (if (l0.length : Int) > 40 then (some true) else (some (t382 != 0))) = some r := by rw [if_pos rfl] at H; exact H
          clear H
          have H := H1
          clear H1
          by_cases c14 : (l0.length : Int) > 40
          · rw [if_pos c14] at H
            have c14b0 : decide (40 < (l0.length : Int)) = true := decide_eq_true c14
            have c14b1 : decide (40 < l0.length) = true := decide_eq_true (by omega)
            clear c14
            obtain rfl := Option.some.inj H
            go_wp2
            repeat (go_quiet (fail); try go_wp2)
            go_ret
            exact ⟨by first | rfl | (simp [errW_none, errW_some] <;> rfl) | (simp [*, errW_none, errW_some] <;> rfl), by repeat (first | (with_reducible first | exact HB.out | apply below_alloc | apply pw_below_drewN | apply below_drew1) | exact HB.out)⟩
          · rw [if_neg c14] at H
            have c14b0 : decide (40 < (l0.length : Int)) = false := decide_eq_false c14
            have c14b1 : decide (40 < l0.length) = false := decide_eq_false (by omega)
            clear c14
            obtain rfl := Option.some.inj H
            go_wp2
            repeat (go_quiet (fail); try go_wp2)
            go_ret
            exact ⟨by first | rfl | (simp [errW_none, errW_some] <;> rfl) | (simp [*, errW_none, errW_some] <;> rfl), by repeat (first | (with_reducible first | exact HB.out | apply below_alloc | apply pw_below_drewN | apply below_drew1) | exact HB.out)⟩
        · replace c13 := Bool.eq_false_iff.mpr c13
          subst c13
          have H1 : ((api_RankEvent.f l0).bind fun t385 => ((some (([(⟨5, 0, 0, 0⟩ : S50), (⟨1, 0, 0, 0⟩ : S50)] : List (S50)) : List (S50))).bind fun y388 => (if t385.length + y388.length < 4398046511104 then ((some (t385 ++ y388 : List (S50))).bind fun y391 => (hopmeshlaw22_RankSettles.l0 kj6 l2 (wrap64 (1 + (Int.tmod (wrap64 (a1)) 8))) y391 0 (y391.length : Int) 0)) else (none)))) = some r := by rw [if_neg (show ¬ (false = true) by decide)] at H; exact H
          clear H
          have H := H1
          clear H1
          replace H := Option.bind_eq_some_iff.mp H
          obtain ⟨t385, A150, H⟩ := H
          replace H : ((some (([(⟨5, 0, 0, 0⟩ : S50), (⟨1, 0, 0, 0⟩ : S50)] : List (S50)) : List (S50))).bind fun y388 => (if t385.length + y388.length < 4398046511104 then ((some (t385 ++ y388 : List (S50))).bind fun y391 => (hopmeshlaw22_RankSettles.l0 kj6 l2 (wrap64 (1 + (Int.tmod (wrap64 (a1)) 8))) y391 0 (y391.length : Int) 0)) else (none))) = some r := H
          have A15 := Aside0.mk A150
          clear A150
          obtain ⟨y388, hy388⟩ : ∃ y_ : List (S50), y_ = (([(⟨5, 0, 0, 0⟩ : S50), (⟨1, 0, 0, 0⟩ : S50)] : List (S50))) := ⟨_, rfl⟩
          replace H : (if t385.length + y388.length < 4398046511104 then ((some (t385 ++ y388 : List (S50))).bind fun y391 => (hopmeshlaw22_RankSettles.l0 kj6 l2 (wrap64 (1 + (Int.tmod (wrap64 (a1)) 8))) y391 0 (y391.length : Int) 0)) else (none)) = some r := by first | (rw [hy388]; with_reducible exact H) | (have H2_ := (Option.bind_some _ _).symm.trans H; rw [hy388]; with_reducible exact H2_) | (have H2_ := (Option.bind_some _ _).symm.trans H; with_reducible exact H2_) | with_reducible exact H | (rw [hy388]; exact H) | exact H
          have Ny388 := Aside0.mk hy388
          clear hy388
          by_cases c16 : t385.length + y388.length < 4398046511104
          · rw [if_pos c16] at H
            have LMc16 := Aside0.mk c16
            clear c16
            obtain ⟨y391, hy391⟩ : ∃ y_ : List (S50), y_ = (t385 ++ y388) := ⟨_, rfl⟩
            replace H : (hopmeshlaw22_RankSettles.l0 kj6 l2 (wrap64 (1 + (Int.tmod (wrap64 (a1)) 8))) y391 0 (y391.length : Int) 0) = some r := by first | (rw [hy391]; with_reducible exact H) | (have H2_ := (Option.bind_some _ _).symm.trans H; rw [hy391]; with_reducible exact H2_) | (have H2_ := (Option.bind_some _ _).symm.trans H; with_reducible exact H2_) | with_reducible exact H | (rw [hy391]; exact H) | exact H
            have Ny391 := Aside0.mk hy391
            clear hy391
            have H' := Aside0.mk H
            clear H
            go_wp2_with (first | (go_at_call 32; (with_reducible refine (api_RankEvent.calls _ _ l0 t385 _ ?side1 ?side2 A15.out).mono ?_); (case side1 => repeat (first | exact (Kd.C_below HR0.out HB.out) | (with_reducible refine Kd.C_alloc ?_ _) | (with_reducible refine Kd.C_drewN ?_ _) | (with_reducible refine Kd.C_drew ?_))); (case side2 => exact HC0.out); rintro e w17 ⟨v386, rfl, ho0, hb⟩; have n0_ := Aside0.mk (Kd.R_lower ho0 (below_size (by repeat (first | (with_reducible first | exact HB.out | apply below_alloc | apply pw_below_drewN | apply below_drew1) | exact HB.out)))); have n1_ := Aside0.mk (below_step (by repeat (first | (with_reducible first | exact HB.out | apply below_alloc | apply pw_below_drewN | apply below_drew1) | exact HB.out)) hb); clear HB; have HO387 := n0_; have HB := n1_; clear n0_ n1_; (try clear hb); (try clear hb2); (try clear hk); (try clear hi); (try clear ho0)) | ((with_reducible refine gate_dst (N := 56) rfl ?_); (try (refine gate_guard (by rfl) ?_; dsimp only)); refine Kd.R_lit k50 _ 50 ?hg (N := 56) ?hd (xs := ([(⟨5, 0, 0, 0⟩ : S50), (⟨1, 0, 0, 0⟩ : S50)] : List (S50))) (inner := [.int .i64 5, .int .i64 0, .int .i64 0, .int .i64 0, .int .i64 1, .int .i64 0, .int .i64 0, .int .i64 0]) (ok := fun _ => True) (okp := fun _ => True) ?hr ?hp (fun _ hk => hk) trivial (Below.refl _ _) (Nat.le_refl _) (by simp) ?_; (case hd => rfl); (case hg => rfl); (case hr => first | (go_simp; done) | (go_simp; rfl)); (case hp => exact (Reps.c4 (show Kd.M k50 _ _ _ (⟨5, 0, 0, 0⟩ : S50) [.int .i64 5, .int .i64 0, .int .i64 0, .int .i64 0] from (k50_mkM _ _ _ (⟨5, 0, 0, 0⟩ : S50) )) (Reps.c4 (show Kd.M k50 _ _ _ (⟨1, 0, 0, 0⟩ : S50) [.int .i64 1, .int .i64 0, .int .i64 0, .int .i64 0] from (k50_mkM _ _ _ (⟨1, 0, 0, 0⟩ : S50) )) (Reps.none _ _)))); intro v389 w18 ho19 hb hg_ hnew_; clear hg_ hnew_; (first | rw [← Ny388.out] at ho19 | (simp only [Int.reduceToNat] at ho19; rw [← Ny388.out] at ho19)); have n0_ := Aside0.mk (Kd.R_elder' (by (with_reducible repeat (first | apply Kd.R_alloc | apply Kd.R_drewN | apply Kd.R_drew)); exact HO387.out) (Kd.R_base ho19) hb); have n1_ := Aside0.mk (Kd.R_lower (Kd.R_new' ho19 (Kd.R_lt (by (with_reducible repeat (first | apply Kd.R_alloc | apply Kd.R_drewN | apply Kd.R_drew)); exact HO387.out))) (below_size (by repeat (first | (with_reducible first | exact HB.out | apply below_alloc | apply pw_below_drewN | apply below_drew1) | exact HB.out)))); have n2_ := Aside0.mk (below_step (by repeat (first | (with_reducible first | exact HB.out | apply below_alloc | apply pw_below_drewN | apply below_drew1) | exact HB.out)) hb); clear HO387; clear HB; have HO387 := n0_; have HO390 := n1_; have HB := n2_; clear n0_ n1_ n2_; clear hb ho19; obtain ⟨Ao21, co21, eo21⟩ := Kd.R_slice HO390.out; subst eo21) | ((with_reducible refine gate_builtin (b := .append) (xs := #[.tmp 53, .tmp 56]) rfl ?_); (try (refine gate_guard (by rfl) ?_; dsimp only)); at_builtin; refine Kd.R_append_rows k50 (w0 := w) w.heap.size rfl (.tmp 53) (.tmp 56) 39 50 (.agg #[(.int .i64 0), (.int .i64 0), (.int .i64 0), (.int .i64 0)]) 32 rfl Try.underlying39 info50 rfl (by decide) (by omega) v386 t385 y388 _ _ _ (fun k_ => some k_ ≠ (.slice Ao21 y388.length co21 : Value).ownBlock) (fun _ => False) rfl rfl ?aO ?aR (fun _ _ h => h) (fun _ h => h.elim) ?aF ?aB ?aS ?aL ?_; (case aR => repeat (first | exact (Kd.R_reads' HO390.out).2.2 | (with_reducible refine Kd.C_alloc ?_ _) | (with_reducible refine Kd.C_drewN ?_ _) | (with_reducible refine Kd.C_drew ?_))); (case aB => exact (by repeat (first | (with_reducible first | exact HB.out | apply below_alloc | apply pw_below_drewN | apply below_drew1) | exact HB.out))); (case aF => exact (fun k_ hk => Kd.fresh' (Kd.R_lt (by (with_reducible repeat (first | apply Kd.R_alloc | apply Kd.R_drewN | apply Kd.R_drew)); exact HO390.out)) k_ hk)); (case aO => exact (by (with_reducible repeat (first | apply Kd.R_alloc | apply Kd.R_drewN | apply Kd.R_drew)); exact Kd.R_mono HO387.out (fun _ hk => hk.2))); (case aS => exact (below_size (by repeat (first | (with_reducible first | exact HB.out | apply below_alloc | apply pw_below_drewN | apply below_drew1) | exact HB.out)))); (case aL => have := LMc16.out; omega); intro v392 w20 ho hb hg hat; rw [← Ny391.out] at ho; have n0_ := Aside0.mk (Kd.R_after (ok := (fun _ => True)) (by (with_reducible repeat (first | apply Kd.R_alloc | apply Kd.R_drewN | apply Kd.R_drew)); exact HO390.out) hg hat); have n1_ := Aside0.mk (hb); have n2_ := Aside0.mk (ho); clear HO390; clear HB; clear HO387; have HO390 := n0_; have HB := n1_; have HO393 := n2_; clear n0_ n1_ n2_; clear ho hb hg hat; obtain ⟨Ao22, co22, eo22⟩ := Kd.R_slice HO393.out; subst eo22))
            repeat (go_quiet (first | (go_at_call 32; (with_reducible refine (api_RankEvent.calls _ _ l0 t385 _ ?side1 ?side2 A15.out).mono ?_); (case side1 => repeat (first | exact (Kd.C_below HR0.out HB.out) | (with_reducible refine Kd.C_alloc ?_ _) | (with_reducible refine Kd.C_drewN ?_ _) | (with_reducible refine Kd.C_drew ?_))); (case side2 => exact HC0.out); rintro e w17 ⟨v386, rfl, ho0, hb⟩; have n0_ := Aside0.mk (Kd.R_lower ho0 (below_size (by repeat (first | (with_reducible first | exact HB.out | apply below_alloc | apply pw_below_drewN | apply below_drew1) | exact HB.out)))); have n1_ := Aside0.mk (below_step (by repeat (first | (with_reducible first | exact HB.out | apply below_alloc | apply pw_below_drewN | apply below_drew1) | exact HB.out)) hb); clear HB; have HO387 := n0_; have HB := n1_; clear n0_ n1_; (try clear hb); (try clear hb2); (try clear hk); (try clear hi); (try clear ho0)) | ((with_reducible refine gate_dst (N := 56) rfl ?_); (try (refine gate_guard (by rfl) ?_; dsimp only)); refine Kd.R_lit k50 _ 50 ?hg (N := 56) ?hd (xs := ([(⟨5, 0, 0, 0⟩ : S50), (⟨1, 0, 0, 0⟩ : S50)] : List (S50))) (inner := [.int .i64 5, .int .i64 0, .int .i64 0, .int .i64 0, .int .i64 1, .int .i64 0, .int .i64 0, .int .i64 0]) (ok := fun _ => True) (okp := fun _ => True) ?hr ?hp (fun _ hk => hk) trivial (Below.refl _ _) (Nat.le_refl _) (by simp) ?_; (case hd => rfl); (case hg => rfl); (case hr => first | (go_simp; done) | (go_simp; rfl)); (case hp => exact (Reps.c4 (show Kd.M k50 _ _ _ (⟨5, 0, 0, 0⟩ : S50) [.int .i64 5, .int .i64 0, .int .i64 0, .int .i64 0] from (k50_mkM _ _ _ (⟨5, 0, 0, 0⟩ : S50) )) (Reps.c4 (show Kd.M k50 _ _ _ (⟨1, 0, 0, 0⟩ : S50) [.int .i64 1, .int .i64 0, .int .i64 0, .int .i64 0] from (k50_mkM _ _ _ (⟨1, 0, 0, 0⟩ : S50) )) (Reps.none _ _)))); intro v389 w18 ho19 hb hg_ hnew_; clear hg_ hnew_; (first | rw [← Ny388.out] at ho19 | (simp only [Int.reduceToNat] at ho19; rw [← Ny388.out] at ho19)); have n0_ := Aside0.mk (Kd.R_elder' (by (with_reducible repeat (first | apply Kd.R_alloc | apply Kd.R_drewN | apply Kd.R_drew)); exact HO387.out) (Kd.R_base ho19) hb); have n1_ := Aside0.mk (Kd.R_lower (Kd.R_new' ho19 (Kd.R_lt (by (with_reducible repeat (first | apply Kd.R_alloc | apply Kd.R_drewN | apply Kd.R_drew)); exact HO387.out))) (below_size (by repeat (first | (with_reducible first | exact HB.out | apply below_alloc | apply pw_below_drewN | apply below_drew1) | exact HB.out)))); have n2_ := Aside0.mk (below_step (by repeat (first | (with_reducible first | exact HB.out | apply below_alloc | apply pw_below_drewN | apply below_drew1) | exact HB.out)) hb); clear HO387; clear HB; have HO387 := n0_; have HO390 := n1_; have HB := n2_; clear n0_ n1_ n2_; clear hb ho19; obtain ⟨Ao21, co21, eo21⟩ := Kd.R_slice HO390.out; subst eo21) | ((with_reducible refine gate_builtin (b := .append) (xs := #[.tmp 53, .tmp 56]) rfl ?_); (try (refine gate_guard (by rfl) ?_; dsimp only)); at_builtin; refine Kd.R_append_rows k50 (w0 := w) w.heap.size rfl (.tmp 53) (.tmp 56) 39 50 (.agg #[(.int .i64 0), (.int .i64 0), (.int .i64 0), (.int .i64 0)]) 32 rfl Try.underlying39 info50 rfl (by decide) (by omega) v386 t385 y388 _ _ _ (fun k_ => some k_ ≠ (.slice Ao21 y388.length co21 : Value).ownBlock) (fun _ => False) rfl rfl ?aO ?aR (fun _ _ h => h) (fun _ h => h.elim) ?aF ?aB ?aS ?aL ?_; (case aR => repeat (first | exact (Kd.R_reads' HO390.out).2.2 | (with_reducible refine Kd.C_alloc ?_ _) | (with_reducible refine Kd.C_drewN ?_ _) | (with_reducible refine Kd.C_drew ?_))); (case aB => exact (by repeat (first | (with_reducible first | exact HB.out | apply below_alloc | apply pw_below_drewN | apply below_drew1) | exact HB.out))); (case aF => exact (fun k_ hk => Kd.fresh' (Kd.R_lt (by (with_reducible repeat (first | apply Kd.R_alloc | apply Kd.R_drewN | apply Kd.R_drew)); exact HO390.out)) k_ hk)); (case aO => exact (by (with_reducible repeat (first | apply Kd.R_alloc | apply Kd.R_drewN | apply Kd.R_drew)); exact Kd.R_mono HO387.out (fun _ hk => hk.2))); (case aS => exact (below_size (by repeat (first | (with_reducible first | exact HB.out | apply below_alloc | apply pw_below_drewN | apply below_drew1) | exact HB.out)))); (case aL => have := LMc16.out; omega); intro v392 w20 ho hb hg hat; rw [← Ny391.out] at ho; have n0_ := Aside0.mk (Kd.R_after (ok := (fun _ => True)) (by (with_reducible repeat (first | apply Kd.R_alloc | apply Kd.R_drewN | apply Kd.R_drew)); exact HO390.out) hg hat); have n1_ := Aside0.mk (hb); have n2_ := Aside0.mk (ho); clear HO390; clear HB; clear HO387; have HO390 := n0_; have HB := n1_; have HO393 := n2_; clear n0_ n1_ n2_; clear ho hb hg hat; obtain ⟨Ao22, co22, eo22⟩ := Kd.R_slice HO393.out; subst eo22)); try go_wp2_with (first | (go_at_call 32; (with_reducible refine (api_RankEvent.calls _ _ l0 t385 _ ?side1 ?side2 A15.out).mono ?_); (case side1 => repeat (first | exact (Kd.C_below HR0.out HB.out) | (with_reducible refine Kd.C_alloc ?_ _) | (with_reducible refine Kd.C_drewN ?_ _) | (with_reducible refine Kd.C_drew ?_))); (case side2 => exact HC0.out); rintro e w17 ⟨v386, rfl, ho0, hb⟩; have n0_ := Aside0.mk (Kd.R_lower ho0 (below_size (by repeat (first | (with_reducible first | exact HB.out | apply below_alloc | apply pw_below_drewN | apply below_drew1) | exact HB.out)))); have n1_ := Aside0.mk (below_step (by repeat (first | (with_reducible first | exact HB.out | apply below_alloc | apply pw_below_drewN | apply below_drew1) | exact HB.out)) hb); clear HB; have HO387 := n0_; have HB := n1_; clear n0_ n1_; (try clear hb); (try clear hb2); (try clear hk); (try clear hi); (try clear ho0)) | ((with_reducible refine gate_dst (N := 56) rfl ?_); (try (refine gate_guard (by rfl) ?_; dsimp only)); refine Kd.R_lit k50 _ 50 ?hg (N := 56) ?hd (xs := ([(⟨5, 0, 0, 0⟩ : S50), (⟨1, 0, 0, 0⟩ : S50)] : List (S50))) (inner := [.int .i64 5, .int .i64 0, .int .i64 0, .int .i64 0, .int .i64 1, .int .i64 0, .int .i64 0, .int .i64 0]) (ok := fun _ => True) (okp := fun _ => True) ?hr ?hp (fun _ hk => hk) trivial (Below.refl _ _) (Nat.le_refl _) (by simp) ?_; (case hd => rfl); (case hg => rfl); (case hr => first | (go_simp; done) | (go_simp; rfl)); (case hp => exact (Reps.c4 (show Kd.M k50 _ _ _ (⟨5, 0, 0, 0⟩ : S50) [.int .i64 5, .int .i64 0, .int .i64 0, .int .i64 0] from (k50_mkM _ _ _ (⟨5, 0, 0, 0⟩ : S50) )) (Reps.c4 (show Kd.M k50 _ _ _ (⟨1, 0, 0, 0⟩ : S50) [.int .i64 1, .int .i64 0, .int .i64 0, .int .i64 0] from (k50_mkM _ _ _ (⟨1, 0, 0, 0⟩ : S50) )) (Reps.none _ _)))); intro v389 w18 ho19 hb hg_ hnew_; clear hg_ hnew_; (first | rw [← Ny388.out] at ho19 | (simp only [Int.reduceToNat] at ho19; rw [← Ny388.out] at ho19)); have n0_ := Aside0.mk (Kd.R_elder' (by (with_reducible repeat (first | apply Kd.R_alloc | apply Kd.R_drewN | apply Kd.R_drew)); exact HO387.out) (Kd.R_base ho19) hb); have n1_ := Aside0.mk (Kd.R_lower (Kd.R_new' ho19 (Kd.R_lt (by (with_reducible repeat (first | apply Kd.R_alloc | apply Kd.R_drewN | apply Kd.R_drew)); exact HO387.out))) (below_size (by repeat (first | (with_reducible first | exact HB.out | apply below_alloc | apply pw_below_drewN | apply below_drew1) | exact HB.out)))); have n2_ := Aside0.mk (below_step (by repeat (first | (with_reducible first | exact HB.out | apply below_alloc | apply pw_below_drewN | apply below_drew1) | exact HB.out)) hb); clear HO387; clear HB; have HO387 := n0_; have HO390 := n1_; have HB := n2_; clear n0_ n1_ n2_; clear hb ho19; obtain ⟨Ao21, co21, eo21⟩ := Kd.R_slice HO390.out; subst eo21) | ((with_reducible refine gate_builtin (b := .append) (xs := #[.tmp 53, .tmp 56]) rfl ?_); (try (refine gate_guard (by rfl) ?_; dsimp only)); at_builtin; refine Kd.R_append_rows k50 (w0 := w) w.heap.size rfl (.tmp 53) (.tmp 56) 39 50 (.agg #[(.int .i64 0), (.int .i64 0), (.int .i64 0), (.int .i64 0)]) 32 rfl Try.underlying39 info50 rfl (by decide) (by omega) v386 t385 y388 _ _ _ (fun k_ => some k_ ≠ (.slice Ao21 y388.length co21 : Value).ownBlock) (fun _ => False) rfl rfl ?aO ?aR (fun _ _ h => h) (fun _ h => h.elim) ?aF ?aB ?aS ?aL ?_; (case aR => repeat (first | exact (Kd.R_reads' HO390.out).2.2 | (with_reducible refine Kd.C_alloc ?_ _) | (with_reducible refine Kd.C_drewN ?_ _) | (with_reducible refine Kd.C_drew ?_))); (case aB => exact (by repeat (first | (with_reducible first | exact HB.out | apply below_alloc | apply pw_below_drewN | apply below_drew1) | exact HB.out))); (case aF => exact (fun k_ hk => Kd.fresh' (Kd.R_lt (by (with_reducible repeat (first | apply Kd.R_alloc | apply Kd.R_drewN | apply Kd.R_drew)); exact HO390.out)) k_ hk)); (case aO => exact (by (with_reducible repeat (first | apply Kd.R_alloc | apply Kd.R_drewN | apply Kd.R_drew)); exact Kd.R_mono HO387.out (fun _ hk => hk.2))); (case aS => exact (below_size (by repeat (first | (with_reducible first | exact HB.out | apply below_alloc | apply pw_below_drewN | apply below_drew1) | exact HB.out)))); (case aL => have := LMc16.out; omega); intro v392 w20 ho hb hg hat; rw [← Ny391.out] at ho; have n0_ := Aside0.mk (Kd.R_after (ok := (fun _ => True)) (by (with_reducible repeat (first | apply Kd.R_alloc | apply Kd.R_drewN | apply Kd.R_drew)); exact HO390.out) hg hat); have n1_ := Aside0.mk (hb); have n2_ := Aside0.mk (ho); clear HO390; clear HB; clear HO387; have HO390 := n0_; have HB := n1_; have HO393 := n2_; clear n0_ n1_ n2_; clear ho hb hg hat; obtain ⟨Ao22, co22, eo22⟩ := Kd.R_slice HO393.out; subst eo22)))
            go_loopg [11, 60] kj6 (fun kq v11 v60 w' => ∃ (x11_2 : Int) (x60_2 : Int), v11 = .int .i64 x11_2 ∧ v60 = .int .i64 x60_2 ∧ Aside0 (hopmeshlaw22_RankSettles.l0 kq l2 (wrap64 (1 + (Int.tmod (wrap64 (a1)) 8))) y391 x11_2 (y391.length : Int) x60_2 = some r) ∧ Aside0 (kq ≤ kj6) ∧ Aside0 (Kd.R k50 50 w' w.heap.size (fun _ => True) (.slice Ao22 y391.length co22) y391) ∧ Aside0 (Below w.heap.size w w'))
            case atStart => exact ⟨(0), (0), (by first | rfl | (simp; done) | (simp [*]; done)), (by first | rfl | (simp; done) | (simp [*]; done)), H', ⟨Nat.le_refl _⟩, ⟨by (with_reducible repeat (first | apply Kd.R_alloc | apply Kd.R_drewN | apply Kd.R_drew)); exact Kd.R_mono HO393.out (fun _ hk => trivial)⟩, ⟨by repeat (first | (with_reducible first | exact HB.out | apply below_alloc | apply pw_below_drewN | apply below_drew1) | exact HB.out)⟩⟩
            case round =>
              clear H'
              try clear c1
              try clear c2
              try clear p2
              try clear c4
              try clear c5
              try clear p6
              try clear c9
              try clear c10
              try clear c10b0
              try clear c10b1
              try clear c11
              try clear c11b0
              try clear c11b1
              try clear c13
              try clear c14
              try clear c14b0
              try clear c14b1
              try clear c16
              try clear p2
              try clear p6
              obtain ⟨x11_2, x60_2, rfl, rfl, HA, HK2, HO_10, HB⟩ := hrel
              cases gk with
              | zero => exact absurd HA.out (by simp [hopmeshlaw22_RankSettles.l0])
              | succ k2 =>
                have H := HA.out
                clear HA
                simp only [hopmeshlaw22_RankSettles.l0] at H
                by_cases c23 : x60_2 < (y391.length : Int)
                · rw [if_pos c23] at H
                  have c23b0 : decide (x60_2 < (y391.length : Int)) = true := decide_eq_true c23
                  clear c23
                  by_cases c24 : 0 ≤ x60_2
                  · rw [if_pos c24] at H
                    have c24b0 : decide (0 ≤ x60_2) = true := decide_eq_true c24
                    clear c24
                    by_cases c25 : x60_2 < (y391.length : Int)
                    · rw [if_pos c25] at H
                      have c25b0 : decide (x60_2 < (y391.length : Int)) = true := decide_eq_true c25
                      clear c25
                      by_cases c26 : ((rd_T50 y391 x60_2).f0) = 1
                      · rw [if_pos c26] at H
                        have c26b0 : (((rd_T50 y391 x60_2).f0) == 1) = true := beq_iff_eq.mpr c26
                        have c26b1 : (((rd_T50 y391 x60_2).f0) != 1) = false := bne_eq_false_iff_eq.mpr c26
                        clear c26
                        have c27b0 := eq_true (of_decide_eq_true (by first | (with_reducible assumption) | assumption) : 0 ≤ x60_2)
                        by_cases c28 : x60_2 ≤ (y391.length : Int)
                        · rw [if_pos c28] at H
                          have c28b0 := eq_true c28
                          have c28b1 : decide (x60_2 ≤ (y391.length : Int)) = true := decide_eq_true c28
                          clear c28
                          obtain ⟨y395, hy395⟩ : ∃ y_ : List (S50), y_ = (y391.take (x60_2 : Int).toNat) := ⟨_, rfl⟩
                          replace H : ((rank_Play.f (wrap64 (1 + (Int.tmod (wrap64 (a1)) 8))) y395).bind fun bt399 => (if bt399.2 = 0 then (hopmeshlaw22_RankSettles.j2 k2 l2 (wrap64 (1 + (Int.tmod (wrap64 (a1)) 8))) y391 x11_2 x60_2 bt399.1 (y391.length : Int) x60_2 ((bt399.1.length : Int) != (wrap64 (1 + (Int.tmod (wrap64 (a1)) 8))))) else (hopmeshlaw22_RankSettles.j2 k2 l2 (wrap64 (1 + (Int.tmod (wrap64 (a1)) 8))) y391 x11_2 x60_2 bt399.1 (y391.length : Int) x60_2 true))) = some r := by first | (rw [hy395]; with_reducible exact H) | (have H2_ := (Option.bind_some _ _).symm.trans H; rw [hy395]; with_reducible exact H2_) | (have H2_ := (Option.bind_some _ _).symm.trans H; with_reducible exact H2_) | with_reducible exact H | (rw [hy395]; exact H) | exact H
                          have Ny395 := Aside0.mk hy395
                          clear hy395
                          replace H := Option.bind_eq_some_iff.mp H
                          obtain ⟨⟨t399, t400⟩, A290, H⟩ := H
                          replace H : (if t400 = 0 then (hopmeshlaw22_RankSettles.j2 k2 l2 (wrap64 (1 + (Int.tmod (wrap64 (a1)) 8))) y391 x11_2 x60_2 t399 (y391.length : Int) x60_2 ((t399.length : Int) != (wrap64 (1 + (Int.tmod (wrap64 (a1)) 8))))) else (hopmeshlaw22_RankSettles.j2 k2 l2 (wrap64 (1 + (Int.tmod (wrap64 (a1)) 8))) y391 x11_2 x60_2 t399 (y391.length : Int) x60_2 true)) = some r := H
                          have A29 := Aside0.mk A290
                          clear A290
                          have HC30 := Aside0.mk H
                          clear H
                          have p394 : 0 ≤ (x60_2 : Int) := of_decide_eq_true (by first | (with_reducible assumption) | assumption)
                          have q394 : x60_2 < (y391.length : Int) := of_decide_eq_true (by first | (with_reducible assumption) | assumption)
                          obtain ⟨ad394, e394, hx394_0, hx394_1, hx394_2, hx394_3⟩ := at_T50 (Kd.R_reads' HO_10.out).2.2 x60_2 p394 q394
                          cases e394
                          replace p394 := eq_true p394
                          replace q394 := eq_true q394
                          have q31 : (x60_2 : Int) ≤ ((y391.length : Int) : Int) := of_decide_eq_true (by first | (with_reducible assumption) | assumption)
                          obtain ⟨i031, hi031, _, hsz31, _⟩ := info_parts info50
                          have hroom31 : y391.length ≤ co22 := (Kd.R_reads' HO_10.out).2.1
                          have hC31 : Kd.C k50 _ (some ad394) y391.length y391 := (Kd.R_reads' HO_10.out).2.2
                          have hcut31 := cut_to (P := Try.prog) 39 50 .i64 Try.underlying39 hi031 (some ad394) y391.length co22 x60_2 (of_decide_eq_true (by first | (with_reducible assumption) | assumption)) q31 hroom31
                          have hr31 := Kd.C_take (m := (x60_2 : Int).toNat) hC31 (by omega)
                          have hy31 : y395.length = (x60_2 : Int).toNat := (by rw [Ny395.out, List.length_take]; omega)
                          rw [← Ny395.out] at hr31
                          rw [← hy31] at hcut31
                          have HR398 := Aside0.mk hr31
                          have HC398 := Aside0.mk (show y395.length ≤ co22 from by omega)
                          clear hr31 hC31 hroom31 hi031 hsz31
                          have KY31 := Aside0.mk hy31
                          clear hy31
                          have KL31 := Aside0.mk (show (x60_2 : Int).toNat ≤ y391.length from by omega)
                          replace q31 := eq_true q31
                          go_upto_region 14 with (first | (go_at_call 28; (with_reducible refine (rank_Play.calls (wrap64 (1 + (Int.tmod (wrap64 (a1)) 8))) _ _ y395 t399 t400 _ ?side1 ?side2 A29.out).mono ?_); (case side1 => repeat (first | exact (by repeat (first | (with_reducible exact HR398.out) | (with_reducible refine Kd.C_alloc ?_ _) | (with_reducible refine Kd.C_drewN ?_ _) | (with_reducible refine Kd.C_drew ?_) | exact HR398.out)) | (with_reducible refine Kd.C_alloc ?_ _) | (with_reducible refine Kd.C_drewN ?_ _) | (with_reducible refine Kd.C_drew ?_))); (case side2 => exact HC398.out); rintro e w32 ⟨v401, rfl, ho0, hb⟩; have n0_ := Aside0.mk (Kd.R_below (by (with_reducible repeat (first | apply Kd.R_alloc | apply Kd.R_drewN | apply Kd.R_drew)); exact HO_10.out) hb); have n1_ := Aside0.mk (Kd.R_lower ho0 (below_size (by repeat (first | (with_reducible first | exact HB.out | apply below_alloc | apply pw_below_drewN | apply below_drew1) | exact HB.out)))); have n2_ := Aside0.mk (Kd.C_below (by repeat (first | (with_reducible exact HR398.out) | (with_reducible refine Kd.C_alloc ?_ _) | (with_reducible refine Kd.C_drewN ?_ _) | (with_reducible refine Kd.C_drew ?_) | exact HR398.out)) hb); have n3_ := Aside0.mk (below_step (by repeat (first | (with_reducible first | exact HB.out | apply below_alloc | apply pw_below_drewN | apply below_drew1) | exact HB.out)) hb); clear HO_10; clear HR398; clear HB; have HO_10 := n0_; have HO402 := n1_; have HR398 := n2_; have HB := n3_; clear n0_ n1_ n2_ n3_; (try clear hb); (try clear hb2); (try clear hk); (try clear hi); (try clear ho0)))
                          repeat (go_quiet (first | (go_at_call 28; (with_reducible refine (rank_Play.calls (wrap64 (1 + (Int.tmod (wrap64 (a1)) 8))) _ _ y395 t399 t400 _ ?side1 ?side2 A29.out).mono ?_); (case side1 => repeat (first | exact (by repeat (first | (with_reducible exact HR398.out) | (with_reducible refine Kd.C_alloc ?_ _) | (with_reducible refine Kd.C_drewN ?_ _) | (with_reducible refine Kd.C_drew ?_) | exact HR398.out)) | (with_reducible refine Kd.C_alloc ?_ _) | (with_reducible refine Kd.C_drewN ?_ _) | (with_reducible refine Kd.C_drew ?_))); (case side2 => exact HC398.out); rintro e w32 ⟨v401, rfl, ho0, hb⟩; have n0_ := Aside0.mk (Kd.R_below (by (with_reducible repeat (first | apply Kd.R_alloc | apply Kd.R_drewN | apply Kd.R_drew)); exact HO_10.out) hb); have n1_ := Aside0.mk (Kd.R_lower ho0 (below_size (by repeat (first | (with_reducible first | exact HB.out | apply below_alloc | apply pw_below_drewN | apply below_drew1) | exact HB.out)))); have n2_ := Aside0.mk (Kd.C_below (by repeat (first | (with_reducible exact HR398.out) | (with_reducible refine Kd.C_alloc ?_ _) | (with_reducible refine Kd.C_drewN ?_ _) | (with_reducible refine Kd.C_drew ?_) | exact HR398.out)) hb); have n3_ := Aside0.mk (below_step (by repeat (first | (with_reducible first | exact HB.out | apply below_alloc | apply pw_below_drewN | apply below_drew1) | exact HB.out)) hb); clear HO_10; clear HR398; clear HB; have HO_10 := n0_; have HO402 := n1_; have HR398 := n2_; have HB := n3_; clear n0_ n1_ n2_ n3_; (try clear hb); (try clear hb2); (try clear hk); (try clear hi); (try clear ho0))); go_upto_region 14 with (first | (go_at_call 28; (with_reducible refine (rank_Play.calls (wrap64 (1 + (Int.tmod (wrap64 (a1)) 8))) _ _ y395 t399 t400 _ ?side1 ?side2 A29.out).mono ?_); (case side1 => repeat (first | exact (by repeat (first | (with_reducible exact HR398.out) | (with_reducible refine Kd.C_alloc ?_ _) | (with_reducible refine Kd.C_drewN ?_ _) | (with_reducible refine Kd.C_drew ?_) | exact HR398.out)) | (with_reducible refine Kd.C_alloc ?_ _) | (with_reducible refine Kd.C_drewN ?_ _) | (with_reducible refine Kd.C_drew ?_))); (case side2 => exact HC398.out); rintro e w32 ⟨v401, rfl, ho0, hb⟩; have n0_ := Aside0.mk (Kd.R_below (by (with_reducible repeat (first | apply Kd.R_alloc | apply Kd.R_drewN | apply Kd.R_drew)); exact HO_10.out) hb); have n1_ := Aside0.mk (Kd.R_lower ho0 (below_size (by repeat (first | (with_reducible first | exact HB.out | apply below_alloc | apply pw_below_drewN | apply below_drew1) | exact HB.out)))); have n2_ := Aside0.mk (Kd.C_below (by repeat (first | (with_reducible exact HR398.out) | (with_reducible refine Kd.C_alloc ?_ _) | (with_reducible refine Kd.C_drewN ?_ _) | (with_reducible refine Kd.C_drew ?_) | exact HR398.out)) hb); have n3_ := Aside0.mk (below_step (by repeat (first | (with_reducible first | exact HB.out | apply below_alloc | apply pw_below_drewN | apply below_drew1) | exact HB.out)) hb); clear HO_10; clear HR398; clear HB; have HO_10 := n0_; have HO402 := n1_; have HR398 := n2_; have HB := n3_; clear n0_ n1_ n2_ n3_; (try clear hb); (try clear hb2); (try clear hk); (try clear hi); (try clear ho0))))
                          (try simp only [Act.put, List.setIfInBounds_toArray, List.set_cons_zero, List.set_cons_succ])
                          go_cut [84] (fun v84 wc => ∃ (kq : Nat) (x84_29 : Bool), v84 = .bool x84_29 ∧ Aside0 (hopmeshlaw22_RankSettles.j2 kq l2 (wrap64 (1 + (Int.tmod (wrap64 (a1)) 8))) y391 x11_2 x60_2 t399 (y391.length : Int) x60_2 x84_29 = some r) ∧ Aside0 (kq ≤ k2) ∧ Aside0 (Kd.R k50 50 wc w.heap.size (fun _ => True) (.slice (some ad394) y391.length co22) y391) ∧ Aside0 (Kd.R k23 23 wc w.heap.size (fun _ => True) v401 t399) ∧ Aside0 (Kd.C k50 wc (some ad394) y395.length y395) ∧ Aside0 (Below w.heap.size w wc))
                          case first =>
                            have H := HC30.out
                            clear HC30
                            by_cases c33 : t400 = 0
                            · rw [if_pos c33] at H
                              have c33b0 : (t400 == 0) = true := beq_iff_eq.mpr c33
                              have c33b1 : (t400 != 0) = false := bne_eq_false_iff_eq.mpr c33
                              clear c33
                              (first | rw [c33b0] | (simp only [i64_w, i32_w]; rw [c33b0]) | skip)
                              have H' := Aside0.mk H
                              clear H
                              obtain ⟨Ao34, co34, eo34⟩ := Kd.R_slice HO402.out
                              subst eo34
                              go_wp2
                              repeat (go_quiet (fail); try go_wp2)
                              go_meet
                              case rel => exact ⟨_, (((t399.length : Int) != (wrap64 (1 + (Int.tmod (wrap64 (a1)) 8))))), (by first | rfl | (simp; done) | (simp [*]; done)), H', ⟨by have := HJ6.out; have := HK2.out; first | omega | exact Nat.le_refl _⟩, ⟨by (with_reducible repeat (first | apply Kd.R_alloc | apply Kd.R_drewN | apply Kd.R_drew)); exact HO_10.out⟩, ⟨by (with_reducible repeat (first | apply Kd.R_alloc | apply Kd.R_drewN | apply Kd.R_drew)); exact HO402.out⟩, ⟨by repeat (first | (with_reducible exact HR398.out) | (with_reducible refine Kd.C_alloc ?_ _) | (with_reducible refine Kd.C_drewN ?_ _) | (with_reducible refine Kd.C_drew ?_) | exact HR398.out)⟩, ⟨by repeat (first | (with_reducible first | exact HB.out | apply below_alloc | apply pw_below_drewN | apply below_drew1) | exact HB.out)⟩⟩
                            · rw [if_neg c33] at H
                              have c33b0 : (t400 == 0) = false := beq_eq_false_iff_ne.mpr c33
                              have c33b1 : (t400 != 0) = true := bne_iff_ne.mpr c33
                              (first | rw [c33b0] | (simp only [i64_w, i32_w]; rw [c33b0]) | skip)
                              have H' := Aside0.mk H
                              clear H
                              go_wp2
                              repeat (go_quiet (fail); try go_wp2)
                              go_meet
                              case rel => exact ⟨_, (true), (by first | rfl | (simp; done) | (simp [*]; done)), H', ⟨by have := HJ6.out; have := HK2.out; first | omega | exact Nat.le_refl _⟩, ⟨by (with_reducible repeat (first | apply Kd.R_alloc | apply Kd.R_drewN | apply Kd.R_drew)); exact HO_10.out⟩, ⟨by (with_reducible repeat (first | apply Kd.R_alloc | apply Kd.R_drewN | apply Kd.R_drew)); exact HO402.out⟩, ⟨by repeat (first | (with_reducible exact HR398.out) | (with_reducible refine Kd.C_alloc ?_ _) | (with_reducible refine Kd.C_drewN ?_ _) | (with_reducible refine Kd.C_drew ?_) | exact HR398.out)⟩, ⟨by repeat (first | (with_reducible first | exact HB.out | apply below_alloc | apply pw_below_drewN | apply below_drew1) | exact HB.out)⟩⟩
                          case rest =>
                            clear HC30
                            try clear c1
                            try clear c2
                            try clear p2
                            try clear c3
                            try clear p3
                            try clear q3
                            try clear hx3
                            try clear c4
                            try clear c5
                            try clear p6
                            try clear c9
                            try clear c10
                            try clear c10b0
                            try clear c10b1
                            try clear c11
                            try clear c11b0
                            try clear c11b1
                            try clear c13
                            try clear c14
                            try clear c14b0
                            try clear c14b1
                            try clear c16
                            try clear c23
                            try clear c23b0
                            try clear c24
                            try clear c24b0
                            try clear c25
                            try clear c25b0
                            try clear c26
                            try clear c26b0
                            try clear c26b1
                            try clear c27
                            try clear c27b0
                            try clear c28
                            try clear c28b0
                            try clear c28b1
                            try clear q31
                            try clear c33
                            try clear c33b0
                            try clear c33b1
                            try clear hx394_0
                            try clear hx394_1
                            try clear hx394_2
                            try clear hx394_3
                            try clear p2
                            try clear p394
                            try clear p6
                            try clear q31
                            try clear q394
                            obtain ⟨kq, x84_29, rfl, HA, HJ29, HO_10, HO_13, HR398, HB⟩ := hcut
                            cases kq with
                            | zero => exact absurd HA.out (by simp [hopmeshlaw22_RankSettles.j2])
                            | succ kj29 =>
                              have H := HA.out
                              clear HA
                              simp only [hopmeshlaw22_RankSettles.j2] at H
                              by_cases c35 : x84_29 = true
                              · subst c35
                                have H1 : (some false) = some r := by rw [if_pos rfl] at H; exact H
                                clear H
                                have H := H1
                                clear H1
                                obtain rfl := Option.some.inj H
                                go_wp2
                                repeat (go_quiet (fail); try go_wp2)
                                go_ret
                                exact ⟨by first | rfl | (simp [errW_none, errW_some] <;> rfl) | (simp [*, errW_none, errW_some] <;> rfl), by repeat (first | (with_reducible first | exact HB.out | apply below_alloc | apply pw_below_drewN | apply below_drew1) | exact HB.out)⟩
                              · replace c35 := Bool.eq_false_iff.mpr c35
                                subst c35
                                have H1 : (if 0 ≤ x60_2 then (if x60_2 < (y391.length : Int) then (if 0 ≤ ((rd_T50 y391 x60_2).f1) then (if ((rd_T50 y391 x60_2).f1) < (t399.length : Int) then (if ((rd_T23 t399 ((rd_T50 y391 x60_2).f1)).f4) = 65535 then (hopmeshlaw22_RankSettles.l0 kj29 l2 (wrap64 (1 + (Int.tmod (wrap64 (a1)) 8))) y391 x11_2 (y391.length : Int) (wrap64 (x60_2 + 1))) else (hopmeshlaw22_RankSettles.l0 kj29 l2 (wrap64 (1 + (Int.tmod (wrap64 (a1)) 8))) y391 (wrap64 (x11_2 + 1)) (y391.length : Int) (wrap64 (x60_2 + 1)))) else (none)) else (none)) else (none)) else (none)) = some r := by rw [if_neg (show ¬ (false = true) by decide)] at H; exact H
                                clear H
                                have H := H1
                                clear H1
                                by_cases c36 : 0 ≤ x60_2
                                · rw [if_pos c36] at H
                                  have c36b0 : decide (0 ≤ x60_2) = true := decide_eq_true c36
                                  clear c36
                                  by_cases c37 : x60_2 < (y391.length : Int)
                                  · rw [if_pos c37] at H
                                    have c37b0 : decide (x60_2 < (y391.length : Int)) = true := decide_eq_true c37
                                    clear c37
                                    by_cases c38 : 0 ≤ ((rd_T50 y391 x60_2).f1)
                                    · rw [if_pos c38] at H
                                      have c38b0 : decide (0 ≤ ((rd_T50 y391 x60_2).f1)) = true := decide_eq_true c38
                                      clear c38
                                      by_cases c39 : ((rd_T50 y391 x60_2).f1) < (t399.length : Int)
                                      · rw [if_pos c39] at H
                                        have c39b0 : decide (((rd_T50 y391 x60_2).f1) < (t399.length : Int)) = true := decide_eq_true c39
                                        clear c39
                                        by_cases c40 : ((rd_T23 t399 ((rd_T50 y391 x60_2).f1)).f4) = 65535
                                        · rw [if_pos c40] at H
                                          have c40b0 : (((rd_T23 t399 ((rd_T50 y391 x60_2).f1)).f4) == 65535) = true := beq_iff_eq.mpr c40
                                          have c40b1 : (((rd_T23 t399 ((rd_T50 y391 x60_2).f1)).f4) != 65535) = false := bne_eq_false_iff_eq.mpr c40
                                          clear c40
                                          have H' := Aside0.mk H
                                          clear H
                                          have p403 : 0 ≤ (x60_2 : Int) := of_decide_eq_true (by first | (with_reducible assumption) | assumption)
                                          have q403 : x60_2 < (y391.length : Int) := of_decide_eq_true (by first | (with_reducible assumption) | assumption)
                                          obtain ⟨ad403, e403, hx403_0, hx403_1, hx403_2, hx403_3⟩ := at_T50 (Kd.R_reads' HO_10.out).2.2 x60_2 p403 q403
                                          obtain rfl : ad394 = ad403 := (by injection e403)
                                          replace p403 := eq_true p403
                                          replace q403 := eq_true q403
                                          obtain ⟨Ao41, co41, eo41⟩ := Kd.R_slice HO_13.out
                                          subst eo41
                                          have p404 : 0 ≤ (((rd_T50 y391 x60_2).f1) : Int) := of_decide_eq_true (by first | (with_reducible assumption) | assumption)
                                          have q404 : ((rd_T50 y391 x60_2).f1) < (t399.length : Int) := of_decide_eq_true (by first | (with_reducible assumption) | assumption)
                                          obtain ⟨ad404, e404, hx404_0, hx404_1, hx404_2, hx404_3, hx404_4, hx404_5⟩ := at_T23 (Kd.R_reads' HO_13.out).2.2 ((rd_T50 y391 x60_2).f1) p404 q404
                                          cases e404
                                          replace p404 := eq_true p404
                                          replace q404 := eq_true q404
                                          go_wp2
                                          repeat (go_quiet (fail); try go_wp2)
                                          go_roundg kj29
                                          case measure => have := HJ6.out; have := HK2.out; have := HJ29.out; omega
                                          case rel => exact ⟨(x11_2), (wrap64 (x60_2 + 1)), (by first | rfl | (simp; done) | (simp [*]; done)), (by first | rfl | (simp; done) | (simp [*]; done)), H', ⟨by have := HJ6.out; have := HK2.out; have := HJ29.out; omega⟩, ⟨by (with_reducible repeat (first | apply Kd.R_alloc | apply Kd.R_drewN | apply Kd.R_drew)); exact HO_10.out⟩, ⟨by repeat (first | (with_reducible first | exact HB.out | apply below_alloc | apply pw_below_drewN | apply below_drew1) | exact HB.out)⟩⟩
                                        · rw [if_neg c40] at H
                                          have c40b0 : (((rd_T23 t399 ((rd_T50 y391 x60_2).f1)).f4) == 65535) = false := beq_eq_false_iff_ne.mpr c40
                                          have c40b1 : (((rd_T23 t399 ((rd_T50 y391 x60_2).f1)).f4) != 65535) = true := bne_iff_ne.mpr c40
                                          have H' := Aside0.mk H
                                          clear H
                                          have p403 : 0 ≤ (x60_2 : Int) := of_decide_eq_true (by first | (with_reducible assumption) | assumption)
                                          have q403 : x60_2 < (y391.length : Int) := of_decide_eq_true (by first | (with_reducible assumption) | assumption)
                                          obtain ⟨ad403, e403, hx403_0, hx403_1, hx403_2, hx403_3⟩ := at_T50 (Kd.R_reads' HO_10.out).2.2 x60_2 p403 q403
                                          obtain rfl : ad394 = ad403 := (by injection e403)
                                          replace p403 := eq_true p403
                                          replace q403 := eq_true q403
                                          obtain ⟨Ao42, co42, eo42⟩ := Kd.R_slice HO_13.out
                                          subst eo42
                                          have p404 : 0 ≤ (((rd_T50 y391 x60_2).f1) : Int) := of_decide_eq_true (by first | (with_reducible assumption) | assumption)
                                          have q404 : ((rd_T50 y391 x60_2).f1) < (t399.length : Int) := of_decide_eq_true (by first | (with_reducible assumption) | assumption)
                                          obtain ⟨ad404, e404, hx404_0, hx404_1, hx404_2, hx404_3, hx404_4, hx404_5⟩ := at_T23 (Kd.R_reads' HO_13.out).2.2 ((rd_T50 y391 x60_2).f1) p404 q404
                                          cases e404
                                          replace p404 := eq_true p404
                                          replace q404 := eq_true q404
                                          go_wp2
                                          repeat (go_quiet (fail); try go_wp2)
                                          go_roundg kj29
                                          case measure => have := HJ6.out; have := HK2.out; have := HJ29.out; omega
                                          case rel => exact ⟨(wrap64 (x11_2 + 1)), (wrap64 (x60_2 + 1)), (by first | rfl | (simp; done) | (simp [*]; done)), (by first | rfl | (simp; done) | (simp [*]; done)), H', ⟨by have := HJ6.out; have := HK2.out; have := HJ29.out; omega⟩, ⟨by (with_reducible repeat (first | apply Kd.R_alloc | apply Kd.R_drewN | apply Kd.R_drew)); exact HO_10.out⟩, ⟨by repeat (first | (with_reducible first | exact HB.out | apply below_alloc | apply pw_below_drewN | apply below_drew1) | exact HB.out)⟩⟩
                                      · rw [if_neg c39] at H
                                        exact absurd H (by simp)
                                    · rw [if_neg c38] at H
                                      exact absurd H (by simp)
                                  · rw [if_neg c37] at H
                                    exact absurd H (by simp)
                                · rw [if_neg c36] at H
                                  exact absurd H (by simp)
                        · rw [if_neg c28] at H
                          exact absurd H (by simp)
                      · rw [if_neg c26] at H
                        have c26b0 : (((rd_T50 y391 x60_2).f0) == 1) = false := beq_eq_false_iff_ne.mpr c26
                        have c26b1 : (((rd_T50 y391 x60_2).f0) != 1) = true := bne_iff_ne.mpr c26
                        have H' := Aside0.mk H
                        clear H
                        have p394 : 0 ≤ (x60_2 : Int) := of_decide_eq_true (by first | (with_reducible assumption) | assumption)
                        have q394 : x60_2 < (y391.length : Int) := of_decide_eq_true (by first | (with_reducible assumption) | assumption)
                        obtain ⟨ad394, e394, hx394_0, hx394_1, hx394_2, hx394_3⟩ := at_T50 (Kd.R_reads' HO_10.out).2.2 x60_2 p394 q394
                        cases e394
                        replace p394 := eq_true p394
                        replace q394 := eq_true q394
                        go_wp2
                        repeat (go_quiet (fail); try go_wp2)
                        go_roundg k2
                        case measure => have := HJ6.out; have := HK2.out; omega
                        case rel => exact ⟨(x11_2), (wrap64 (x60_2 + 1)), (by first | rfl | (simp; done) | (simp [*]; done)), (by first | rfl | (simp; done) | (simp [*]; done)), H', ⟨by have := HJ6.out; have := HK2.out; omega⟩, ⟨by (with_reducible repeat (first | apply Kd.R_alloc | apply Kd.R_drewN | apply Kd.R_drew)); exact HO_10.out⟩, ⟨by repeat (first | (with_reducible first | exact HB.out | apply below_alloc | apply pw_below_drewN | apply below_drew1) | exact HB.out)⟩⟩
                    · rw [if_neg c25] at H
                      exact absurd H (by simp)
                  · rw [if_neg c24] at H
                    exact absurd H (by simp)
                · rw [if_neg c23] at H
                  have c23b0 : decide (x60_2 < (y391.length : Int)) = false := decide_eq_false c23
                  clear c23
                  obtain ⟨y405, hy405⟩ : ∃ y_ : List Int, y_ = (([0] : List Int)) := ⟨_, rfl⟩
                  replace H : (hopmeshlaw22_RankSettles.l1 k2 l2 (wrap64 (1 + (Int.tmod (wrap64 (a1)) 8))) y391 x11_2 y405 1) = some r := by first | (rw [hy405]; with_reducible exact H) | (have H2_ := (Option.bind_some _ _).symm.trans H; rw [hy405]; with_reducible exact H2_) | (have H2_ := (Option.bind_some _ _).symm.trans H; with_reducible exact H2_) | with_reducible exact H | (rw [hy405]; exact H) | exact H
                  have Ny405 := Aside0.mk hy405
                  clear hy405
                  have H' := Aside0.mk H
                  clear H
                  go_wp2_with (first | ((with_reducible refine gate_dst (N := 98) rfl ?_); (try (refine gate_guard (by rfl) ?_; dsimp only)); refine Kd.R_lit (Kd.int .i64) _ 3 ?hg (N := 98) ?hd (xs := ([0] : List Int)) (inner := [.int .i64 0]) (ok := fun _ => True) (okp := fun _ => True) ?hr ?hp (fun _ hk => hk) trivial (Below.refl _ _) (Nat.le_refl _) (by simp) ?_; (case hd => rfl); (case hg => rfl); (case hr => first | (go_simp; done) | (go_simp; rfl)); (case hp => exact (Reps.one (show Kd.M (Kd.int .i64) _ _ _ 0 [.int .i64 0] from rfl) (Reps.none _ _))); intro v406 w43 ho44 hb hg_ hnew_; clear hg_ hnew_; (first | rw [← Ny405.out] at ho44 | (simp only [Int.reduceToNat] at ho44; rw [← Ny405.out] at ho44)); have n0_ := Aside0.mk (Kd.R_below (by (with_reducible repeat (first | apply Kd.R_alloc | apply Kd.R_drewN | apply Kd.R_drew)); exact HO_10.out) hb); have n1_ := Aside0.mk (Kd.R_lower ho44 (below_size (by repeat (first | (with_reducible first | exact HB.out | apply below_alloc | apply pw_below_drewN | apply below_drew1) | exact HB.out)))); have n2_ := Aside0.mk (below_step (by repeat (first | (with_reducible first | exact HB.out | apply below_alloc | apply pw_below_drewN | apply below_drew1) | exact HB.out)) hb); clear HO_10; clear HB; have HO_10 := n0_; have HO407 := n1_; have HB := n2_; clear n0_ n1_ n2_; clear hb ho44))
                  repeat (go_quiet (first | ((with_reducible refine gate_dst (N := 98) rfl ?_); (try (refine gate_guard (by rfl) ?_; dsimp only)); refine Kd.R_lit (Kd.int .i64) _ 3 ?hg (N := 98) ?hd (xs := ([0] : List Int)) (inner := [.int .i64 0]) (ok := fun _ => True) (okp := fun _ => True) ?hr ?hp (fun _ hk => hk) trivial (Below.refl _ _) (Nat.le_refl _) (by simp) ?_; (case hd => rfl); (case hg => rfl); (case hr => first | (go_simp; done) | (go_simp; rfl)); (case hp => exact (Reps.one (show Kd.M (Kd.int .i64) _ _ _ 0 [.int .i64 0] from rfl) (Reps.none _ _))); intro v406 w43 ho44 hb hg_ hnew_; clear hg_ hnew_; (first | rw [← Ny405.out] at ho44 | (simp only [Int.reduceToNat] at ho44; rw [← Ny405.out] at ho44)); have n0_ := Aside0.mk (Kd.R_below (by (with_reducible repeat (first | apply Kd.R_alloc | apply Kd.R_drewN | apply Kd.R_drew)); exact HO_10.out) hb); have n1_ := Aside0.mk (Kd.R_lower ho44 (below_size (by repeat (first | (with_reducible first | exact HB.out | apply below_alloc | apply pw_below_drewN | apply below_drew1) | exact HB.out)))); have n2_ := Aside0.mk (below_step (by repeat (first | (with_reducible first | exact HB.out | apply below_alloc | apply pw_below_drewN | apply below_drew1) | exact HB.out)) hb); clear HO_10; clear HB; have HO_10 := n0_; have HO407 := n1_; have HB := n2_; clear n0_ n1_ n2_; clear hb ho44)); try go_wp2_with (first | ((with_reducible refine gate_dst (N := 98) rfl ?_); (try (refine gate_guard (by rfl) ?_; dsimp only)); refine Kd.R_lit (Kd.int .i64) _ 3 ?hg (N := 98) ?hd (xs := ([0] : List Int)) (inner := [.int .i64 0]) (ok := fun _ => True) (okp := fun _ => True) ?hr ?hp (fun _ hk => hk) trivial (Below.refl _ _) (Nat.le_refl _) (by simp) ?_; (case hd => rfl); (case hg => rfl); (case hr => first | (go_simp; done) | (go_simp; rfl)); (case hp => exact (Reps.one (show Kd.M (Kd.int .i64) _ _ _ 0 [.int .i64 0] from rfl) (Reps.none _ _))); intro v406 w43 ho44 hb hg_ hnew_; clear hg_ hnew_; (first | rw [← Ny405.out] at ho44 | (simp only [Int.reduceToNat] at ho44; rw [← Ny405.out] at ho44)); have n0_ := Aside0.mk (Kd.R_below (by (with_reducible repeat (first | apply Kd.R_alloc | apply Kd.R_drewN | apply Kd.R_drew)); exact HO_10.out) hb); have n1_ := Aside0.mk (Kd.R_lower ho44 (below_size (by repeat (first | (with_reducible first | exact HB.out | apply below_alloc | apply pw_below_drewN | apply below_drew1) | exact HB.out)))); have n2_ := Aside0.mk (below_step (by repeat (first | (with_reducible first | exact HB.out | apply below_alloc | apply pw_below_drewN | apply below_drew1) | exact HB.out)) hb); clear HO_10; clear HB; have HO_10 := n0_; have HO407 := n1_; have HB := n2_; clear n0_ n1_ n2_; clear hb ho44)))
                  go_loopg [10, 11, 15, 16] k2 (fun kq v10 v11 v15 v16 w' => ∃ (x10_3 : List (S50)) (x11_3 : Int) (x15_3 : List Int) (x16_3 : Int), v11 = .int .i64 x11_3 ∧ v16 = .int .i64 x16_3 ∧ Aside0 (hopmeshlaw22_RankSettles.l1 kq l2 (wrap64 (1 + (Int.tmod (wrap64 (a1)) 8))) x10_3 x11_3 x15_3 x16_3 = some r) ∧ Aside0 (kq ≤ k2) ∧ Aside0 (Kd.R k50 50 w' w.heap.size (fun _ => True) v10 x10_3) ∧ Aside0 (Kd.R (Kd.int .i64) 3 w' w.heap.size (fun _ => True) v15 x15_3) ∧ Aside0 (Below w.heap.size w w'))
                  case atStart => exact ⟨(y391), (x11_2), (y405), (1), (by first | rfl | (simp; done) | (simp [*]; done)), (by first | rfl | (simp; done) | (simp [*]; done)), H', ⟨Nat.le_refl _⟩, ⟨by (with_reducible repeat (first | apply Kd.R_alloc | apply Kd.R_drewN | apply Kd.R_drew)); exact HO_10.out⟩, ⟨by (with_reducible repeat (first | apply Kd.R_alloc | apply Kd.R_drewN | apply Kd.R_drew)); exact HO407.out⟩, ⟨by repeat (first | (with_reducible first | exact HB.out | apply below_alloc | apply pw_below_drewN | apply below_drew1) | exact HB.out)⟩⟩
                  case round =>
                    clear H'
                    try clear c1
                    try clear c2
                    try clear p2
                    try clear c3
                    try clear p3
                    try clear q3
                    try clear hx3
                    try clear c4
                    try clear p4
                    try clear q4
                    try clear hx4
                    try clear c5
                    try clear p6
                    try clear c9
                    try clear c10
                    try clear c10b0
                    try clear c10b1
                    try clear c11
                    try clear c11b0
                    try clear c11b1
                    try clear c13
                    try clear c14
                    try clear c14b0
                    try clear c14b1
                    try clear c16
                    try clear c23
                    try clear c23b0
                    try clear c24
                    try clear c24b0
                    try clear c25
                    try clear c25b0
                    try clear c26
                    try clear c26b0
                    try clear c26b1
                    try clear c27
                    try clear c27b0
                    try clear c28
                    try clear c28b0
                    try clear c28b1
                    try clear q31
                    try clear c33
                    try clear c33b0
                    try clear c33b1
                    try clear c35
                    try clear c36
                    try clear c36b0
                    try clear c37
                    try clear c37b0
                    try clear c38
                    try clear c38b0
                    try clear c39
                    try clear c39b0
                    try clear p39
                    try clear q39
                    try clear hx39
                    try clear c40
                    try clear c40b0
                    try clear c40b1
                    try clear p40
                    try clear q40
                    try clear hx40
                    try clear hx394_0
                    try clear hx394_1
                    try clear hx394_2
                    try clear hx394_3
                    try clear hx403_0
                    try clear hx403_1
                    try clear hx403_2
                    try clear hx403_3
                    try clear hx404_0
                    try clear hx404_1
                    try clear hx404_2
                    try clear hx404_3
                    try clear hx404_4
                    try clear hx404_5
                    try clear p2
                    try clear p3
                    try clear p394
                    try clear p403
                    try clear p404
                    try clear p6
                    try clear q3
                    try clear q31
                    try clear q394
                    try clear q403
                    try clear q404
                    obtain ⟨x10_3, x11_3, x15_3, x16_3, rfl, rfl, HA, HK3, HO_10, HO_15, HB⟩ := hrel
                    cases gk with
                    | zero => exact absurd HA.out (by simp [hopmeshlaw22_RankSettles.l1])
                    | succ k3 =>
                      have H := HA.out
                      clear HA
                      simp only [hopmeshlaw22_RankSettles.l1] at H
                      by_cases c45 : x16_3 < (wrap64 (1 + (Int.tmod (wrap64 (a1)) 8)))
                      · rw [if_pos c45] at H
                        have c45b0 : decide (x16_3 < (wrap64 (1 + (Int.tmod (wrap64 (a1)) 8)))) = true := decide_eq_true c45
                        clear c45
                        by_cases c46 : (wrap64 (x16_3 - 1)) < (l2.length : Int)
                        · rw [if_pos c46] at H
                          have c46b0 : decide ((wrap64 (x16_3 - 1)) < (l2.length : Int)) = true := decide_eq_true c46
                          clear c46
                          obtain ⟨ji47, hji47⟩ : ∃ j_ : Int, (wrap64 (x16_3 - 1)) = j_ := ⟨_, rfl⟩
                          replace H : (if 0 ≤ (ji47) then (if (ji47) < (x15_3.length : Int) then (if x15_3.length < 17592186044416 then ((some (([(⟨2, x16_3, wrap64 (x11_3 - 1), wrap64 (1 + (wrap64 (rd l2 (ji47))))⟩ : S50), (⟨1, x16_3, 0, 0⟩ : S50)] : List (S50)) : List (S50))).bind fun y413 => (if x10_3.length + y413.length < 4398046511104 then (hopmeshlaw22_RankSettles.l1 k3 l2 (wrap64 (1 + (Int.tmod (wrap64 (a1)) 8))) (x10_3 ++ y413) (wrap64 (x11_3 + 1)) (x15_3 ++ [wrap64 ((rd x15_3 (ji47)) + (wrap64 (1 + (wrap64 (rd l2 (ji47))))))]) (wrap64 (x16_3 + 1))) else (none))) else (none)) else (none)) else (none)) = some r := by first | (rw [hji47] at H; exact H) | (simp only [hji47] at H ⊢; exact H)
                          (try rw [hji47] at c46b0)
                          have hji47w : (IntKind.i64.wrap (x16_3 - 1)) = ji47 := (i64_w _).trans hji47
                          by_cases c48 : 0 ≤ (ji47)
                          · rw [if_pos c48] at H
                            have c48b0 : decide (0 ≤ (ji47)) = true := decide_eq_true c48
                            clear c48
                            by_cases c49 : (ji47) < (x15_3.length : Int)
                            · rw [if_pos c49] at H
                              have c49b0 : decide ((ji47) < (x15_3.length : Int)) = true := decide_eq_true c49
                              clear c49
                              by_cases c50 : x15_3.length < 17592186044416
                              · rw [if_pos c50] at H
                                have LMc50 := Aside0.mk c50
                                clear c50
                                obtain ⟨y410, hy410⟩ : ∃ y_ : List Int, y_ = (x15_3 ++ [wrap64 ((rd x15_3 (ji47)) + (wrap64 (1 + (wrap64 (rd l2 (ji47))))))]) := ⟨_, rfl⟩
                                replace H : ((some (([(⟨2, x16_3, wrap64 (x11_3 - 1), wrap64 (1 + (wrap64 (rd l2 (ji47))))⟩ : S50), (⟨1, x16_3, 0, 0⟩ : S50)] : List (S50)) : List (S50))).bind fun y413 => (if x10_3.length + y413.length < 4398046511104 then (hopmeshlaw22_RankSettles.l1 k3 l2 (wrap64 (1 + (Int.tmod (wrap64 (a1)) 8))) (x10_3 ++ y413) (wrap64 (x11_3 + 1)) y410 (wrap64 (x16_3 + 1))) else (none))) = some r := by first | (rw [hy410]; with_reducible exact H) | (have H2_ := (Option.bind_some _ _).symm.trans H; rw [hy410]; with_reducible exact H2_) | (have H2_ := (Option.bind_some _ _).symm.trans H; with_reducible exact H2_) | with_reducible exact H | (rw [hy410]; exact H) | exact H
                                have Ny410 := Aside0.mk hy410
                                clear hy410
                                obtain ⟨y413, hy413⟩ : ∃ y_ : List (S50), y_ = (([(⟨2, x16_3, wrap64 (x11_3 - 1), wrap64 (1 + (wrap64 (rd l2 (ji47))))⟩ : S50), (⟨1, x16_3, 0, 0⟩ : S50)] : List (S50))) := ⟨_, rfl⟩
                                replace H : (if x10_3.length + y413.length < 4398046511104 then (hopmeshlaw22_RankSettles.l1 k3 l2 (wrap64 (1 + (Int.tmod (wrap64 (a1)) 8))) (x10_3 ++ y413) (wrap64 (x11_3 + 1)) y410 (wrap64 (x16_3 + 1))) else (none)) = some r := by first | (rw [hy413]; with_reducible exact H) | (have H2_ := (Option.bind_some _ _).symm.trans H; rw [hy413]; with_reducible exact H2_) | (have H2_ := (Option.bind_some _ _).symm.trans H; with_reducible exact H2_) | with_reducible exact H | (rw [hy413]; exact H) | exact H
                                have Ny413 := Aside0.mk hy413
                                clear hy413
                                by_cases c51 : x10_3.length + y413.length < 4398046511104
                                · rw [if_pos c51] at H
                                  have LMc51 := Aside0.mk c51
                                  clear c51
                                  obtain ⟨y416, hy416⟩ : ∃ y_ : List (S50), y_ = (x10_3 ++ y413) := ⟨_, rfl⟩
                                  replace H : (hopmeshlaw22_RankSettles.l1 k3 l2 (wrap64 (1 + (Int.tmod (wrap64 (a1)) 8))) y416 (wrap64 (x11_3 + 1)) y410 (wrap64 (x16_3 + 1))) = some r := by first | (rw [hy416]; with_reducible exact H) | (have H2_ := (Option.bind_some _ _).symm.trans H; rw [hy416]; with_reducible exact H2_) | (have H2_ := (Option.bind_some _ _).symm.trans H; with_reducible exact H2_) | with_reducible exact H | (rw [hy416]; exact H) | exact H
                                  have Ny416 := Aside0.mk hy416
                                  clear hy416
                                  have H' := Aside0.mk H
                                  clear H
                                  have p408 : 0 ≤ ((ji47) : Int) := of_decide_eq_true (by first | (with_reducible assumption) | assumption)
                                  have q408 : (ji47) < (l2.length : Int) := of_decide_eq_true (by first | (with_reducible assumption) | assumption)
                                  obtain ⟨ad408, e408, hx408_0⟩ := Kd.at_int HR2.out (ji47) p408 q408
                                  cases e408
                                  replace hx408_0 := (HB.out.cell (World.block_lt_of_cell? w _ hx408_0)).trans hx408_0
                                  replace p408 := eq_true p408
                                  replace q408 := eq_true q408
                                  obtain ⟨Ao52, co52, eo52⟩ := Kd.R_slice HO_15.out
                                  subst eo52
                                  have p409 : 0 ≤ ((ji47) : Int) := of_decide_eq_true (by first | (with_reducible assumption) | assumption)
                                  have q409 : (ji47) < (x15_3.length : Int) := of_decide_eq_true (by first | (with_reducible assumption) | assumption)
                                  obtain ⟨ad409, e409, hx409_0⟩ := Kd.at_int (Kd.R_reads' HO_15.out).2.2 (ji47) p409 q409
                                  cases e409
                                  replace p409 := eq_true p409
                                  replace q409 := eq_true q409
                                  go_wp2_with (first | ((with_reducible refine gate_builtin (b := .append) (xs := #[.tmp 117, .tmp 125]) rfl ?_); (try (refine gate_guard (by rfl) ?_; dsimp only)); at_builtin; refine Kd.R_append (Kd.int .i64) (w0 := w) w.heap.size rfl (.tmp 117) (.tmp 125) 43 3 (.int .i64 0) 8 rfl Try.underlying43 info3 rfl (by decide) (by omega) (.slice (some ad409) x15_3.length co52) x15_3 (wrap64 ((rd x15_3 (ji47)) + (wrap64 (1 + (wrap64 (rd l2 (ji47))))))) [.int .i64 (wrap64 ((rd x15_3 (ji47)) + (wrap64 (1 + (wrap64 (rd l2 (ji47)))))))] (fun _ => True) (fun _ => False) rfl rfl ?aP (fun _ hk => hk.elim) ?aF ?aO ?aB ?aS ?aL ?_; (case aP => exact rfl); (case aB => exact (by repeat (first | (with_reducible first | exact HB.out | apply below_alloc | apply pw_below_drewN | apply below_drew1) | exact HB.out))); (case aF => exact (fun _ _ => trivial)); (case aO => exact (by (with_reducible repeat (first | apply Kd.R_alloc | apply Kd.R_drewN | apply Kd.R_drew)); exact HO_15.out)); (case aS => exact (below_size (by repeat (first | (with_reducible first | exact HB.out | apply below_alloc | apply pw_below_drewN | apply below_drew1) | exact HB.out)))); (case aL => have := LMc50.out; omega); intro v411 w53 ho hb hg hat; rw [← Ny410.out] at ho; have n0_ := Aside0.mk (Kd.R_over' (by (with_reducible repeat (first | apply Kd.R_alloc | apply Kd.R_drewN | apply Kd.R_drew)); exact HO_10.out) (Kd.R_typed (by (with_reducible repeat (first | apply Kd.R_alloc | apply Kd.R_drewN | apply Kd.R_drew)); exact HO_15.out)) (by decide) hg); have n1_ := Aside0.mk (hb); have n2_ := Aside0.mk (ho); clear HO_10; clear HB; clear HO_15; have HO_10 := n0_; have HB := n1_; have HO412 := n2_; clear n0_ n1_ n2_; clear ho hb hg hat) | ((with_reducible refine gate_dst (N := 135) rfl ?_); (try (refine gate_guard (by rfl) ?_; dsimp only)); refine Kd.R_lit k50 _ 50 ?hg (N := 135) ?hd (xs := ([(⟨2, x16_3, wrap64 (x11_3 - 1), wrap64 (1 + (wrap64 (rd l2 (ji47))))⟩ : S50), (⟨1, x16_3, 0, 0⟩ : S50)] : List (S50))) (inner := [.int .i64 2, .int .i64 x16_3, .int .i64 (wrap64 (x11_3 - 1)), .int .i64 (wrap64 (1 + (wrap64 (rd l2 (ji47))))), .int .i64 1, .int .i64 x16_3, .int .i64 0, .int .i64 0]) (ok := fun _ => True) (okp := fun _ => True) ?hr ?hp (fun _ hk => hk) trivial (Below.refl _ _) (Nat.le_refl _) (by simp) ?_; (case hd => rfl); (case hg => rfl); (case hr => first | (go_simp; done) | (go_simp; rfl)); (case hp => exact (Reps.c4 (show Kd.M k50 _ _ _ (⟨2, x16_3, wrap64 (x11_3 - 1), wrap64 (1 + (wrap64 (rd l2 (ji47))))⟩ : S50) [.int .i64 2, .int .i64 x16_3, .int .i64 (wrap64 (x11_3 - 1)), .int .i64 (wrap64 (1 + (wrap64 (rd l2 (ji47)))))] from (k50_mkM _ _ _ (⟨2, x16_3, wrap64 (x11_3 - 1), wrap64 (1 + (wrap64 (rd l2 (ji47))))⟩ : S50) )) (Reps.c4 (show Kd.M k50 _ _ _ (⟨1, x16_3, 0, 0⟩ : S50) [.int .i64 1, .int .i64 x16_3, .int .i64 0, .int .i64 0] from (k50_mkM _ _ _ (⟨1, x16_3, 0, 0⟩ : S50) )) (Reps.none _ _)))); intro v414 w54 ho55 hb hg_ hnew_; clear hg_ hnew_; (first | rw [← Ny413.out] at ho55 | (simp only [Int.reduceToNat] at ho55; rw [← Ny413.out] at ho55)); have n0_ := Aside0.mk (Kd.R_elder' (by (with_reducible repeat (first | apply Kd.R_alloc | apply Kd.R_drewN | apply Kd.R_drew)); exact HO_10.out) (Kd.R_base ho55) hb); have n1_ := Aside0.mk (Kd.R_below (by (with_reducible repeat (first | apply Kd.R_alloc | apply Kd.R_drewN | apply Kd.R_drew)); exact HO412.out) hb); have n2_ := Aside0.mk (Kd.R_lower (Kd.R_new' ho55 (Kd.R_lt (by (with_reducible repeat (first | apply Kd.R_alloc | apply Kd.R_drewN | apply Kd.R_drew)); exact HO_10.out))) (below_size (by repeat (first | (with_reducible first | exact HB.out | apply below_alloc | apply pw_below_drewN | apply below_drew1) | exact HB.out)))); have n3_ := Aside0.mk (below_step (by repeat (first | (with_reducible first | exact HB.out | apply below_alloc | apply pw_below_drewN | apply below_drew1) | exact HB.out)) hb); clear HO_10; clear HO412; clear HB; have HO_10 := n0_; have HO412 := n1_; have HO415 := n2_; have HB := n3_; clear n0_ n1_ n2_ n3_; clear hb ho55; obtain ⟨Ao57, co57, eo57⟩ := Kd.R_slice HO415.out; subst eo57) | ((with_reducible refine gate_builtin (b := .append) (xs := #[.tmp 127, .tmp 135]) rfl ?_); (try (refine gate_guard (by rfl) ?_; dsimp only)); at_builtin; refine Kd.R_append_rows k50 (w0 := w) w.heap.size rfl (.tmp 127) (.tmp 135) 39 50 (.agg #[(.int .i64 0), (.int .i64 0), (.int .i64 0), (.int .i64 0)]) 32 rfl Try.underlying39 info50 rfl (by decide) (by omega) u10 x10_3 y413 _ _ _ (fun k_ => some k_ ≠ (.slice Ao57 y413.length co57 : Value).ownBlock) (fun _ => False) rfl rfl ?aO ?aR (fun _ _ h => h) (fun _ h => h.elim) ?aF ?aB ?aS ?aL ?_; (case aR => repeat (first | exact (Kd.R_reads' HO415.out).2.2 | (with_reducible refine Kd.C_alloc ?_ _) | (with_reducible refine Kd.C_drewN ?_ _) | (with_reducible refine Kd.C_drew ?_))); (case aB => exact (by repeat (first | (with_reducible first | exact HB.out | apply below_alloc | apply pw_below_drewN | apply below_drew1) | exact HB.out))); (case aF => exact (fun k_ hk => Kd.fresh' (Kd.R_lt (by (with_reducible repeat (first | apply Kd.R_alloc | apply Kd.R_drewN | apply Kd.R_drew)); exact HO415.out)) k_ hk)); (case aO => exact (by (with_reducible repeat (first | apply Kd.R_alloc | apply Kd.R_drewN | apply Kd.R_drew)); exact Kd.R_mono HO_10.out (fun _ hk => hk.2))); (case aS => exact (below_size (by repeat (first | (with_reducible first | exact HB.out | apply below_alloc | apply pw_below_drewN | apply below_drew1) | exact HB.out)))); (case aL => have := LMc51.out; omega); intro v417 w56 ho hb hg hat; rw [← Ny416.out] at ho; have n0_ := Aside0.mk (Kd.R_over' (by (with_reducible repeat (first | apply Kd.R_alloc | apply Kd.R_drewN | apply Kd.R_drew)); exact HO412.out) (Kd.R_typed (by (with_reducible repeat (first | apply Kd.R_alloc | apply Kd.R_drewN | apply Kd.R_drew)); exact HO_10.out)) (by decide) hg); have n1_ := Aside0.mk (Kd.R_after (ok := (fun _ => True)) (by (with_reducible repeat (first | apply Kd.R_alloc | apply Kd.R_drewN | apply Kd.R_drew)); exact HO415.out) hg hat); have n2_ := Aside0.mk (hb); have n3_ := Aside0.mk (ho); clear HO412; clear HO415; clear HB; clear HO_10; have HO412 := n0_; have HO415 := n1_; have HB := n2_; have HO418 := n3_; clear n0_ n1_ n2_ n3_; clear ho hb hg hat))
                                  repeat (go_quiet (first | ((with_reducible refine gate_builtin (b := .append) (xs := #[.tmp 117, .tmp 125]) rfl ?_); (try (refine gate_guard (by rfl) ?_; dsimp only)); at_builtin; refine Kd.R_append (Kd.int .i64) (w0 := w) w.heap.size rfl (.tmp 117) (.tmp 125) 43 3 (.int .i64 0) 8 rfl Try.underlying43 info3 rfl (by decide) (by omega) (.slice (some ad409) x15_3.length co52) x15_3 (wrap64 ((rd x15_3 (ji47)) + (wrap64 (1 + (wrap64 (rd l2 (ji47))))))) [.int .i64 (wrap64 ((rd x15_3 (ji47)) + (wrap64 (1 + (wrap64 (rd l2 (ji47)))))))] (fun _ => True) (fun _ => False) rfl rfl ?aP (fun _ hk => hk.elim) ?aF ?aO ?aB ?aS ?aL ?_; (case aP => exact rfl); (case aB => exact (by repeat (first | (with_reducible first | exact HB.out | apply below_alloc | apply pw_below_drewN | apply below_drew1) | exact HB.out))); (case aF => exact (fun _ _ => trivial)); (case aO => exact (by (with_reducible repeat (first | apply Kd.R_alloc | apply Kd.R_drewN | apply Kd.R_drew)); exact HO_15.out)); (case aS => exact (below_size (by repeat (first | (with_reducible first | exact HB.out | apply below_alloc | apply pw_below_drewN | apply below_drew1) | exact HB.out)))); (case aL => have := LMc50.out; omega); intro v411 w53 ho hb hg hat; rw [← Ny410.out] at ho; have n0_ := Aside0.mk (Kd.R_over' (by (with_reducible repeat (first | apply Kd.R_alloc | apply Kd.R_drewN | apply Kd.R_drew)); exact HO_10.out) (Kd.R_typed (by (with_reducible repeat (first | apply Kd.R_alloc | apply Kd.R_drewN | apply Kd.R_drew)); exact HO_15.out)) (by decide) hg); have n1_ := Aside0.mk (hb); have n2_ := Aside0.mk (ho); clear HO_10; clear HB; clear HO_15; have HO_10 := n0_; have HB := n1_; have HO412 := n2_; clear n0_ n1_ n2_; clear ho hb hg hat) | ((with_reducible refine gate_dst (N := 135) rfl ?_); (try (refine gate_guard (by rfl) ?_; dsimp only)); refine Kd.R_lit k50 _ 50 ?hg (N := 135) ?hd (xs := ([(⟨2, x16_3, wrap64 (x11_3 - 1), wrap64 (1 + (wrap64 (rd l2 (ji47))))⟩ : S50), (⟨1, x16_3, 0, 0⟩ : S50)] : List (S50))) (inner := [.int .i64 2, .int .i64 x16_3, .int .i64 (wrap64 (x11_3 - 1)), .int .i64 (wrap64 (1 + (wrap64 (rd l2 (ji47))))), .int .i64 1, .int .i64 x16_3, .int .i64 0, .int .i64 0]) (ok := fun _ => True) (okp := fun _ => True) ?hr ?hp (fun _ hk => hk) trivial (Below.refl _ _) (Nat.le_refl _) (by simp) ?_; (case hd => rfl); (case hg => rfl); (case hr => first | (go_simp; done) | (go_simp; rfl)); (case hp => exact (Reps.c4 (show Kd.M k50 _ _ _ (⟨2, x16_3, wrap64 (x11_3 - 1), wrap64 (1 + (wrap64 (rd l2 (ji47))))⟩ : S50) [.int .i64 2, .int .i64 x16_3, .int .i64 (wrap64 (x11_3 - 1)), .int .i64 (wrap64 (1 + (wrap64 (rd l2 (ji47)))))] from (k50_mkM _ _ _ (⟨2, x16_3, wrap64 (x11_3 - 1), wrap64 (1 + (wrap64 (rd l2 (ji47))))⟩ : S50) )) (Reps.c4 (show Kd.M k50 _ _ _ (⟨1, x16_3, 0, 0⟩ : S50) [.int .i64 1, .int .i64 x16_3, .int .i64 0, .int .i64 0] from (k50_mkM _ _ _ (⟨1, x16_3, 0, 0⟩ : S50) )) (Reps.none _ _)))); intro v414 w54 ho55 hb hg_ hnew_; clear hg_ hnew_; (first | rw [← Ny413.out] at ho55 | (simp only [Int.reduceToNat] at ho55; rw [← Ny413.out] at ho55)); have n0_ := Aside0.mk (Kd.R_elder' (by (with_reducible repeat (first | apply Kd.R_alloc | apply Kd.R_drewN | apply Kd.R_drew)); exact HO_10.out) (Kd.R_base ho55) hb); have n1_ := Aside0.mk (Kd.R_below (by (with_reducible repeat (first | apply Kd.R_alloc | apply Kd.R_drewN | apply Kd.R_drew)); exact HO412.out) hb); have n2_ := Aside0.mk (Kd.R_lower (Kd.R_new' ho55 (Kd.R_lt (by (with_reducible repeat (first | apply Kd.R_alloc | apply Kd.R_drewN | apply Kd.R_drew)); exact HO_10.out))) (below_size (by repeat (first | (with_reducible first | exact HB.out | apply below_alloc | apply pw_below_drewN | apply below_drew1) | exact HB.out)))); have n3_ := Aside0.mk (below_step (by repeat (first | (with_reducible first | exact HB.out | apply below_alloc | apply pw_below_drewN | apply below_drew1) | exact HB.out)) hb); clear HO_10; clear HO412; clear HB; have HO_10 := n0_; have HO412 := n1_; have HO415 := n2_; have HB := n3_; clear n0_ n1_ n2_ n3_; clear hb ho55; obtain ⟨Ao57, co57, eo57⟩ := Kd.R_slice HO415.out; subst eo57) | ((with_reducible refine gate_builtin (b := .append) (xs := #[.tmp 127, .tmp 135]) rfl ?_); (try (refine gate_guard (by rfl) ?_; dsimp only)); at_builtin; refine Kd.R_append_rows k50 (w0 := w) w.heap.size rfl (.tmp 127) (.tmp 135) 39 50 (.agg #[(.int .i64 0), (.int .i64 0), (.int .i64 0), (.int .i64 0)]) 32 rfl Try.underlying39 info50 rfl (by decide) (by omega) u10 x10_3 y413 _ _ _ (fun k_ => some k_ ≠ (.slice Ao57 y413.length co57 : Value).ownBlock) (fun _ => False) rfl rfl ?aO ?aR (fun _ _ h => h) (fun _ h => h.elim) ?aF ?aB ?aS ?aL ?_; (case aR => repeat (first | exact (Kd.R_reads' HO415.out).2.2 | (with_reducible refine Kd.C_alloc ?_ _) | (with_reducible refine Kd.C_drewN ?_ _) | (with_reducible refine Kd.C_drew ?_))); (case aB => exact (by repeat (first | (with_reducible first | exact HB.out | apply below_alloc | apply pw_below_drewN | apply below_drew1) | exact HB.out))); (case aF => exact (fun k_ hk => Kd.fresh' (Kd.R_lt (by (with_reducible repeat (first | apply Kd.R_alloc | apply Kd.R_drewN | apply Kd.R_drew)); exact HO415.out)) k_ hk)); (case aO => exact (by (with_reducible repeat (first | apply Kd.R_alloc | apply Kd.R_drewN | apply Kd.R_drew)); exact Kd.R_mono HO_10.out (fun _ hk => hk.2))); (case aS => exact (below_size (by repeat (first | (with_reducible first | exact HB.out | apply below_alloc | apply pw_below_drewN | apply below_drew1) | exact HB.out)))); (case aL => have := LMc51.out; omega); intro v417 w56 ho hb hg hat; rw [← Ny416.out] at ho; have n0_ := Aside0.mk (Kd.R_over' (by (with_reducible repeat (first | apply Kd.R_alloc | apply Kd.R_drewN | apply Kd.R_drew)); exact HO412.out) (Kd.R_typed (by (with_reducible repeat (first | apply Kd.R_alloc | apply Kd.R_drewN | apply Kd.R_drew)); exact HO_10.out)) (by decide) hg); have n1_ := Aside0.mk (Kd.R_after (ok := (fun _ => True)) (by (with_reducible repeat (first | apply Kd.R_alloc | apply Kd.R_drewN | apply Kd.R_drew)); exact HO415.out) hg hat); have n2_ := Aside0.mk (hb); have n3_ := Aside0.mk (ho); clear HO412; clear HO415; clear HB; clear HO_10; have HO412 := n0_; have HO415 := n1_; have HB := n2_; have HO418 := n3_; clear n0_ n1_ n2_ n3_; clear ho hb hg hat)); try go_wp2_with (first | ((with_reducible refine gate_builtin (b := .append) (xs := #[.tmp 117, .tmp 125]) rfl ?_); (try (refine gate_guard (by rfl) ?_; dsimp only)); at_builtin; refine Kd.R_append (Kd.int .i64) (w0 := w) w.heap.size rfl (.tmp 117) (.tmp 125) 43 3 (.int .i64 0) 8 rfl Try.underlying43 info3 rfl (by decide) (by omega) (.slice (some ad409) x15_3.length co52) x15_3 (wrap64 ((rd x15_3 (ji47)) + (wrap64 (1 + (wrap64 (rd l2 (ji47))))))) [.int .i64 (wrap64 ((rd x15_3 (ji47)) + (wrap64 (1 + (wrap64 (rd l2 (ji47)))))))] (fun _ => True) (fun _ => False) rfl rfl ?aP (fun _ hk => hk.elim) ?aF ?aO ?aB ?aS ?aL ?_; (case aP => exact rfl); (case aB => exact (by repeat (first | (with_reducible first | exact HB.out | apply below_alloc | apply pw_below_drewN | apply below_drew1) | exact HB.out))); (case aF => exact (fun _ _ => trivial)); (case aO => exact (by (with_reducible repeat (first | apply Kd.R_alloc | apply Kd.R_drewN | apply Kd.R_drew)); exact HO_15.out)); (case aS => exact (below_size (by repeat (first | (with_reducible first | exact HB.out | apply below_alloc | apply pw_below_drewN | apply below_drew1) | exact HB.out)))); (case aL => have := LMc50.out; omega); intro v411 w53 ho hb hg hat; rw [← Ny410.out] at ho; have n0_ := Aside0.mk (Kd.R_over' (by (with_reducible repeat (first | apply Kd.R_alloc | apply Kd.R_drewN | apply Kd.R_drew)); exact HO_10.out) (Kd.R_typed (by (with_reducible repeat (first | apply Kd.R_alloc | apply Kd.R_drewN | apply Kd.R_drew)); exact HO_15.out)) (by decide) hg); have n1_ := Aside0.mk (hb); have n2_ := Aside0.mk (ho); clear HO_10; clear HB; clear HO_15; have HO_10 := n0_; have HB := n1_; have HO412 := n2_; clear n0_ n1_ n2_; clear ho hb hg hat) | ((with_reducible refine gate_dst (N := 135) rfl ?_); (try (refine gate_guard (by rfl) ?_; dsimp only)); refine Kd.R_lit k50 _ 50 ?hg (N := 135) ?hd (xs := ([(⟨2, x16_3, wrap64 (x11_3 - 1), wrap64 (1 + (wrap64 (rd l2 (ji47))))⟩ : S50), (⟨1, x16_3, 0, 0⟩ : S50)] : List (S50))) (inner := [.int .i64 2, .int .i64 x16_3, .int .i64 (wrap64 (x11_3 - 1)), .int .i64 (wrap64 (1 + (wrap64 (rd l2 (ji47))))), .int .i64 1, .int .i64 x16_3, .int .i64 0, .int .i64 0]) (ok := fun _ => True) (okp := fun _ => True) ?hr ?hp (fun _ hk => hk) trivial (Below.refl _ _) (Nat.le_refl _) (by simp) ?_; (case hd => rfl); (case hg => rfl); (case hr => first | (go_simp; done) | (go_simp; rfl)); (case hp => exact (Reps.c4 (show Kd.M k50 _ _ _ (⟨2, x16_3, wrap64 (x11_3 - 1), wrap64 (1 + (wrap64 (rd l2 (ji47))))⟩ : S50) [.int .i64 2, .int .i64 x16_3, .int .i64 (wrap64 (x11_3 - 1)), .int .i64 (wrap64 (1 + (wrap64 (rd l2 (ji47)))))] from (k50_mkM _ _ _ (⟨2, x16_3, wrap64 (x11_3 - 1), wrap64 (1 + (wrap64 (rd l2 (ji47))))⟩ : S50) )) (Reps.c4 (show Kd.M k50 _ _ _ (⟨1, x16_3, 0, 0⟩ : S50) [.int .i64 1, .int .i64 x16_3, .int .i64 0, .int .i64 0] from (k50_mkM _ _ _ (⟨1, x16_3, 0, 0⟩ : S50) )) (Reps.none _ _)))); intro v414 w54 ho55 hb hg_ hnew_; clear hg_ hnew_; (first | rw [← Ny413.out] at ho55 | (simp only [Int.reduceToNat] at ho55; rw [← Ny413.out] at ho55)); have n0_ := Aside0.mk (Kd.R_elder' (by (with_reducible repeat (first | apply Kd.R_alloc | apply Kd.R_drewN | apply Kd.R_drew)); exact HO_10.out) (Kd.R_base ho55) hb); have n1_ := Aside0.mk (Kd.R_below (by (with_reducible repeat (first | apply Kd.R_alloc | apply Kd.R_drewN | apply Kd.R_drew)); exact HO412.out) hb); have n2_ := Aside0.mk (Kd.R_lower (Kd.R_new' ho55 (Kd.R_lt (by (with_reducible repeat (first | apply Kd.R_alloc | apply Kd.R_drewN | apply Kd.R_drew)); exact HO_10.out))) (below_size (by repeat (first | (with_reducible first | exact HB.out | apply below_alloc | apply pw_below_drewN | apply below_drew1) | exact HB.out)))); have n3_ := Aside0.mk (below_step (by repeat (first | (with_reducible first | exact HB.out | apply below_alloc | apply pw_below_drewN | apply below_drew1) | exact HB.out)) hb); clear HO_10; clear HO412; clear HB; have HO_10 := n0_; have HO412 := n1_; have HO415 := n2_; have HB := n3_; clear n0_ n1_ n2_ n3_; clear hb ho55; obtain ⟨Ao57, co57, eo57⟩ := Kd.R_slice HO415.out; subst eo57) | ((with_reducible refine gate_builtin (b := .append) (xs := #[.tmp 127, .tmp 135]) rfl ?_); (try (refine gate_guard (by rfl) ?_; dsimp only)); at_builtin; refine Kd.R_append_rows k50 (w0 := w) w.heap.size rfl (.tmp 127) (.tmp 135) 39 50 (.agg #[(.int .i64 0), (.int .i64 0), (.int .i64 0), (.int .i64 0)]) 32 rfl Try.underlying39 info50 rfl (by decide) (by omega) u10 x10_3 y413 _ _ _ (fun k_ => some k_ ≠ (.slice Ao57 y413.length co57 : Value).ownBlock) (fun _ => False) rfl rfl ?aO ?aR (fun _ _ h => h) (fun _ h => h.elim) ?aF ?aB ?aS ?aL ?_; (case aR => repeat (first | exact (Kd.R_reads' HO415.out).2.2 | (with_reducible refine Kd.C_alloc ?_ _) | (with_reducible refine Kd.C_drewN ?_ _) | (with_reducible refine Kd.C_drew ?_))); (case aB => exact (by repeat (first | (with_reducible first | exact HB.out | apply below_alloc | apply pw_below_drewN | apply below_drew1) | exact HB.out))); (case aF => exact (fun k_ hk => Kd.fresh' (Kd.R_lt (by (with_reducible repeat (first | apply Kd.R_alloc | apply Kd.R_drewN | apply Kd.R_drew)); exact HO415.out)) k_ hk)); (case aO => exact (by (with_reducible repeat (first | apply Kd.R_alloc | apply Kd.R_drewN | apply Kd.R_drew)); exact Kd.R_mono HO_10.out (fun _ hk => hk.2))); (case aS => exact (below_size (by repeat (first | (with_reducible first | exact HB.out | apply below_alloc | apply pw_below_drewN | apply below_drew1) | exact HB.out)))); (case aL => have := LMc51.out; omega); intro v417 w56 ho hb hg hat; rw [← Ny416.out] at ho; have n0_ := Aside0.mk (Kd.R_over' (by (with_reducible repeat (first | apply Kd.R_alloc | apply Kd.R_drewN | apply Kd.R_drew)); exact HO412.out) (Kd.R_typed (by (with_reducible repeat (first | apply Kd.R_alloc | apply Kd.R_drewN | apply Kd.R_drew)); exact HO_10.out)) (by decide) hg); have n1_ := Aside0.mk (Kd.R_after (ok := (fun _ => True)) (by (with_reducible repeat (first | apply Kd.R_alloc | apply Kd.R_drewN | apply Kd.R_drew)); exact HO415.out) hg hat); have n2_ := Aside0.mk (hb); have n3_ := Aside0.mk (ho); clear HO412; clear HO415; clear HB; clear HO_10; have HO412 := n0_; have HO415 := n1_; have HB := n2_; have HO418 := n3_; clear n0_ n1_ n2_ n3_; clear ho hb hg hat)))
                                  go_roundg k3
                                  case measure => have := HJ6.out; have := HK2.out; have := HK3.out; omega
                                  case rel => exact ⟨(y416), (wrap64 (x11_3 + 1)), (y410), (wrap64 (x16_3 + 1)), (by first | rfl | (simp; done) | (simp [*]; done)), (by first | rfl | (simp; done) | (simp [*]; done)), H', ⟨by have := HJ6.out; have := HK2.out; have := HK3.out; omega⟩, ⟨by (with_reducible repeat (first | apply Kd.R_alloc | apply Kd.R_drewN | apply Kd.R_drew)); exact Kd.R_mono HO418.out (fun _ hk => trivial)⟩, ⟨by (with_reducible repeat (first | apply Kd.R_alloc | apply Kd.R_drewN | apply Kd.R_drew)); exact HO412.out⟩, ⟨by repeat (first | (with_reducible first | exact HB.out | apply below_alloc | apply pw_below_drewN | apply below_drew1) | exact HB.out)⟩⟩
                                · rw [if_neg c51] at H
                                  exact absurd H (by simp)
                              · rw [if_neg c50] at H
                                exact absurd H (by simp)
                            · rw [if_neg c49] at H
                              exact absurd H (by simp)
                          · rw [if_neg c48] at H
                            exact absurd H (by simp)
                        · rw [if_neg c46] at H
                          have c46b0 : decide ((wrap64 (x16_3 - 1)) < (l2.length : Int)) = false := decide_eq_false c46
                          clear c46
                          obtain ⟨ji58, hji58⟩ : ∃ j_ : Int, (wrap64 (x16_3 - 1)) = j_ := ⟨_, rfl⟩
                          replace H : (if 0 ≤ (ji58) then (if (ji58) < (x15_3.length : Int) then (if x15_3.length < 17592186044416 then ((some (([(⟨2, x16_3, wrap64 (x11_3 - 1), 1⟩ : S50), (⟨1, x16_3, 0, 0⟩ : S50)] : List (S50)) : List (S50))).bind fun y423 => (if x10_3.length + y423.length < 4398046511104 then (hopmeshlaw22_RankSettles.l1 k3 l2 (wrap64 (1 + (Int.tmod (wrap64 (a1)) 8))) (x10_3 ++ y423) (wrap64 (x11_3 + 1)) (x15_3 ++ [wrap64 ((rd x15_3 (ji58)) + 1)]) (wrap64 (x16_3 + 1))) else (none))) else (none)) else (none)) else (none)) = some r := by first | (rw [hji58] at H; exact H) | (simp only [hji58] at H ⊢; exact H)
                          (try rw [hji58] at c46b0)
                          have hji58w : (IntKind.i64.wrap (x16_3 - 1)) = ji58 := (i64_w _).trans hji58
                          by_cases c59 : 0 ≤ (ji58)
                          · rw [if_pos c59] at H
                            have c59b0 : decide (0 ≤ (ji58)) = true := decide_eq_true c59
                            clear c59
                            by_cases c60 : (ji58) < (x15_3.length : Int)
                            · rw [if_pos c60] at H
                              have c60b0 : decide ((ji58) < (x15_3.length : Int)) = true := decide_eq_true c60
                              clear c60
                              by_cases c61 : x15_3.length < 17592186044416
                              · rw [if_pos c61] at H
                                have LMc61 := Aside0.mk c61
                                clear c61
                                obtain ⟨y420, hy420⟩ : ∃ y_ : List Int, y_ = (x15_3 ++ [wrap64 ((rd x15_3 (ji58)) + 1)]) := ⟨_, rfl⟩
                                replace H : ((some (([(⟨2, x16_3, wrap64 (x11_3 - 1), 1⟩ : S50), (⟨1, x16_3, 0, 0⟩ : S50)] : List (S50)) : List (S50))).bind fun y423 => (if x10_3.length + y423.length < 4398046511104 then (hopmeshlaw22_RankSettles.l1 k3 l2 (wrap64 (1 + (Int.tmod (wrap64 (a1)) 8))) (x10_3 ++ y423) (wrap64 (x11_3 + 1)) y420 (wrap64 (x16_3 + 1))) else (none))) = some r := by first | (rw [hy420]; with_reducible exact H) | (have H2_ := (Option.bind_some _ _).symm.trans H; rw [hy420]; with_reducible exact H2_) | (have H2_ := (Option.bind_some _ _).symm.trans H; with_reducible exact H2_) | with_reducible exact H | (rw [hy420]; exact H) | exact H
                                have Ny420 := Aside0.mk hy420
                                clear hy420
                                obtain ⟨y423, hy423⟩ : ∃ y_ : List (S50), y_ = (([(⟨2, x16_3, wrap64 (x11_3 - 1), 1⟩ : S50), (⟨1, x16_3, 0, 0⟩ : S50)] : List (S50))) := ⟨_, rfl⟩
                                replace H : (if x10_3.length + y423.length < 4398046511104 then (hopmeshlaw22_RankSettles.l1 k3 l2 (wrap64 (1 + (Int.tmod (wrap64 (a1)) 8))) (x10_3 ++ y423) (wrap64 (x11_3 + 1)) y420 (wrap64 (x16_3 + 1))) else (none)) = some r := by first | (rw [hy423]; with_reducible exact H) | (have H2_ := (Option.bind_some _ _).symm.trans H; rw [hy423]; with_reducible exact H2_) | (have H2_ := (Option.bind_some _ _).symm.trans H; with_reducible exact H2_) | with_reducible exact H | (rw [hy423]; exact H) | exact H
                                have Ny423 := Aside0.mk hy423
                                clear hy423
                                by_cases c62 : x10_3.length + y423.length < 4398046511104
                                · rw [if_pos c62] at H
                                  have LMc62 := Aside0.mk c62
                                  clear c62
                                  obtain ⟨y426, hy426⟩ : ∃ y_ : List (S50), y_ = (x10_3 ++ y423) := ⟨_, rfl⟩
                                  replace H : (hopmeshlaw22_RankSettles.l1 k3 l2 (wrap64 (1 + (Int.tmod (wrap64 (a1)) 8))) y426 (wrap64 (x11_3 + 1)) y420 (wrap64 (x16_3 + 1))) = some r := by first | (rw [hy426]; with_reducible exact H) | (have H2_ := (Option.bind_some _ _).symm.trans H; rw [hy426]; with_reducible exact H2_) | (have H2_ := (Option.bind_some _ _).symm.trans H; with_reducible exact H2_) | with_reducible exact H | (rw [hy426]; exact H) | exact H
                                  have Ny426 := Aside0.mk hy426
                                  clear hy426
                                  have H' := Aside0.mk H
                                  clear H
                                  obtain ⟨Ao63, co63, eo63⟩ := Kd.R_slice HO_15.out
                                  subst eo63
                                  have p419 : 0 ≤ ((ji58) : Int) := of_decide_eq_true (by first | (with_reducible assumption) | assumption)
                                  have q419 : (ji58) < (x15_3.length : Int) := of_decide_eq_true (by first | (with_reducible assumption) | assumption)
                                  obtain ⟨ad419, e419, hx419_0⟩ := Kd.at_int (Kd.R_reads' HO_15.out).2.2 (ji58) p419 q419
                                  cases e419
                                  replace p419 := eq_true p419
                                  replace q419 := eq_true q419
                                  go_wp2_with (first | ((with_reducible refine gate_builtin (b := .append) (xs := #[.tmp 117, .tmp 125]) rfl ?_); (try (refine gate_guard (by rfl) ?_; dsimp only)); at_builtin; refine Kd.R_append (Kd.int .i64) (w0 := w) w.heap.size rfl (.tmp 117) (.tmp 125) 43 3 (.int .i64 0) 8 rfl Try.underlying43 info3 rfl (by decide) (by omega) (.slice (some ad419) x15_3.length co63) x15_3 (wrap64 ((rd x15_3 (ji58)) + 1)) [.int .i64 (wrap64 ((rd x15_3 (ji58)) + 1))] (fun _ => True) (fun _ => False) rfl rfl ?aP (fun _ hk => hk.elim) ?aF ?aO ?aB ?aS ?aL ?_; (case aP => exact rfl); (case aB => exact (by repeat (first | (with_reducible first | exact HB.out | apply below_alloc | apply pw_below_drewN | apply below_drew1) | exact HB.out))); (case aF => exact (fun _ _ => trivial)); (case aO => exact (by (with_reducible repeat (first | apply Kd.R_alloc | apply Kd.R_drewN | apply Kd.R_drew)); exact HO_15.out)); (case aS => exact (below_size (by repeat (first | (with_reducible first | exact HB.out | apply below_alloc | apply pw_below_drewN | apply below_drew1) | exact HB.out)))); (case aL => have := LMc61.out; omega); intro v421 w64 ho hb hg hat; rw [← Ny420.out] at ho; have n0_ := Aside0.mk (Kd.R_over' (by (with_reducible repeat (first | apply Kd.R_alloc | apply Kd.R_drewN | apply Kd.R_drew)); exact HO_10.out) (Kd.R_typed (by (with_reducible repeat (first | apply Kd.R_alloc | apply Kd.R_drewN | apply Kd.R_drew)); exact HO_15.out)) (by decide) hg); have n1_ := Aside0.mk (hb); have n2_ := Aside0.mk (ho); clear HO_10; clear HB; clear HO_15; have HO_10 := n0_; have HB := n1_; have HO422 := n2_; clear n0_ n1_ n2_; clear ho hb hg hat) | ((with_reducible refine gate_dst (N := 135) rfl ?_); (try (refine gate_guard (by rfl) ?_; dsimp only)); refine Kd.R_lit k50 _ 50 ?hg (N := 135) ?hd (xs := ([(⟨2, x16_3, wrap64 (x11_3 - 1), 1⟩ : S50), (⟨1, x16_3, 0, 0⟩ : S50)] : List (S50))) (inner := [.int .i64 2, .int .i64 x16_3, .int .i64 (wrap64 (x11_3 - 1)), .int .i64 1, .int .i64 1, .int .i64 x16_3, .int .i64 0, .int .i64 0]) (ok := fun _ => True) (okp := fun _ => True) ?hr ?hp (fun _ hk => hk) trivial (Below.refl _ _) (Nat.le_refl _) (by simp) ?_; (case hd => rfl); (case hg => rfl); (case hr => first | (go_simp; done) | (go_simp; rfl)); (case hp => exact (Reps.c4 (show Kd.M k50 _ _ _ (⟨2, x16_3, wrap64 (x11_3 - 1), 1⟩ : S50) [.int .i64 2, .int .i64 x16_3, .int .i64 (wrap64 (x11_3 - 1)), .int .i64 1] from (k50_mkM _ _ _ (⟨2, x16_3, wrap64 (x11_3 - 1), 1⟩ : S50) )) (Reps.c4 (show Kd.M k50 _ _ _ (⟨1, x16_3, 0, 0⟩ : S50) [.int .i64 1, .int .i64 x16_3, .int .i64 0, .int .i64 0] from (k50_mkM _ _ _ (⟨1, x16_3, 0, 0⟩ : S50) )) (Reps.none _ _)))); intro v424 w65 ho66 hb hg_ hnew_; clear hg_ hnew_; (first | rw [← Ny423.out] at ho66 | (simp only [Int.reduceToNat] at ho66; rw [← Ny423.out] at ho66)); have n0_ := Aside0.mk (Kd.R_elder' (by (with_reducible repeat (first | apply Kd.R_alloc | apply Kd.R_drewN | apply Kd.R_drew)); exact HO_10.out) (Kd.R_base ho66) hb); have n1_ := Aside0.mk (Kd.R_below (by (with_reducible repeat (first | apply Kd.R_alloc | apply Kd.R_drewN | apply Kd.R_drew)); exact HO422.out) hb); have n2_ := Aside0.mk (Kd.R_lower (Kd.R_new' ho66 (Kd.R_lt (by (with_reducible repeat (first | apply Kd.R_alloc | apply Kd.R_drewN | apply Kd.R_drew)); exact HO_10.out))) (below_size (by repeat (first | (with_reducible first | exact HB.out | apply below_alloc | apply pw_below_drewN | apply below_drew1) | exact HB.out)))); have n3_ := Aside0.mk (below_step (by repeat (first | (with_reducible first | exact HB.out | apply below_alloc | apply pw_below_drewN | apply below_drew1) | exact HB.out)) hb); clear HO_10; clear HO422; clear HB; have HO_10 := n0_; have HO422 := n1_; have HO425 := n2_; have HB := n3_; clear n0_ n1_ n2_ n3_; clear hb ho66; obtain ⟨Ao68, co68, eo68⟩ := Kd.R_slice HO425.out; subst eo68) | ((with_reducible refine gate_builtin (b := .append) (xs := #[.tmp 127, .tmp 135]) rfl ?_); (try (refine gate_guard (by rfl) ?_; dsimp only)); at_builtin; refine Kd.R_append_rows k50 (w0 := w) w.heap.size rfl (.tmp 127) (.tmp 135) 39 50 (.agg #[(.int .i64 0), (.int .i64 0), (.int .i64 0), (.int .i64 0)]) 32 rfl Try.underlying39 info50 rfl (by decide) (by omega) u10 x10_3 y423 _ _ _ (fun k_ => some k_ ≠ (.slice Ao68 y423.length co68 : Value).ownBlock) (fun _ => False) rfl rfl ?aO ?aR (fun _ _ h => h) (fun _ h => h.elim) ?aF ?aB ?aS ?aL ?_; (case aR => repeat (first | exact (Kd.R_reads' HO425.out).2.2 | (with_reducible refine Kd.C_alloc ?_ _) | (with_reducible refine Kd.C_drewN ?_ _) | (with_reducible refine Kd.C_drew ?_))); (case aB => exact (by repeat (first | (with_reducible first | exact HB.out | apply below_alloc | apply pw_below_drewN | apply below_drew1) | exact HB.out))); (case aF => exact (fun k_ hk => Kd.fresh' (Kd.R_lt (by (with_reducible repeat (first | apply Kd.R_alloc | apply Kd.R_drewN | apply Kd.R_drew)); exact HO425.out)) k_ hk)); (case aO => exact (by (with_reducible repeat (first | apply Kd.R_alloc | apply Kd.R_drewN | apply Kd.R_drew)); exact Kd.R_mono HO_10.out (fun _ hk => hk.2))); (case aS => exact (below_size (by repeat (first | (with_reducible first | exact HB.out | apply below_alloc | apply pw_below_drewN | apply below_drew1) | exact HB.out)))); (case aL => have := LMc62.out; omega); intro v427 w67 ho hb hg hat; rw [← Ny426.out] at ho; have n0_ := Aside0.mk (Kd.R_over' (by (with_reducible repeat (first | apply Kd.R_alloc | apply Kd.R_drewN | apply Kd.R_drew)); exact HO422.out) (Kd.R_typed (by (with_reducible repeat (first | apply Kd.R_alloc | apply Kd.R_drewN | apply Kd.R_drew)); exact HO_10.out)) (by decide) hg); have n1_ := Aside0.mk (Kd.R_after (ok := (fun _ => True)) (by (with_reducible repeat (first | apply Kd.R_alloc | apply Kd.R_drewN | apply Kd.R_drew)); exact HO425.out) hg hat); have n2_ := Aside0.mk (hb); have n3_ := Aside0.mk (ho); clear HO422; clear HO425; clear HB; clear HO_10; have HO422 := n0_; have HO425 := n1_; have HB := n2_; have HO428 := n3_; clear n0_ n1_ n2_ n3_; clear ho hb hg hat))
                                  repeat (go_quiet (first | ((with_reducible refine gate_builtin (b := .append) (xs := #[.tmp 117, .tmp 125]) rfl ?_); (try (refine gate_guard (by rfl) ?_; dsimp only)); at_builtin; refine Kd.R_append (Kd.int .i64) (w0 := w) w.heap.size rfl (.tmp 117) (.tmp 125) 43 3 (.int .i64 0) 8 rfl Try.underlying43 info3 rfl (by decide) (by omega) (.slice (some ad419) x15_3.length co63) x15_3 (wrap64 ((rd x15_3 (ji58)) + 1)) [.int .i64 (wrap64 ((rd x15_3 (ji58)) + 1))] (fun _ => True) (fun _ => False) rfl rfl ?aP (fun _ hk => hk.elim) ?aF ?aO ?aB ?aS ?aL ?_; (case aP => exact rfl); (case aB => exact (by repeat (first | (with_reducible first | exact HB.out | apply below_alloc | apply pw_below_drewN | apply below_drew1) | exact HB.out))); (case aF => exact (fun _ _ => trivial)); (case aO => exact (by (with_reducible repeat (first | apply Kd.R_alloc | apply Kd.R_drewN | apply Kd.R_drew)); exact HO_15.out)); (case aS => exact (below_size (by repeat (first | (with_reducible first | exact HB.out | apply below_alloc | apply pw_below_drewN | apply below_drew1) | exact HB.out)))); (case aL => have := LMc61.out; omega); intro v421 w64 ho hb hg hat; rw [← Ny420.out] at ho; have n0_ := Aside0.mk (Kd.R_over' (by (with_reducible repeat (first | apply Kd.R_alloc | apply Kd.R_drewN | apply Kd.R_drew)); exact HO_10.out) (Kd.R_typed (by (with_reducible repeat (first | apply Kd.R_alloc | apply Kd.R_drewN | apply Kd.R_drew)); exact HO_15.out)) (by decide) hg); have n1_ := Aside0.mk (hb); have n2_ := Aside0.mk (ho); clear HO_10; clear HB; clear HO_15; have HO_10 := n0_; have HB := n1_; have HO422 := n2_; clear n0_ n1_ n2_; clear ho hb hg hat) | ((with_reducible refine gate_dst (N := 135) rfl ?_); (try (refine gate_guard (by rfl) ?_; dsimp only)); refine Kd.R_lit k50 _ 50 ?hg (N := 135) ?hd (xs := ([(⟨2, x16_3, wrap64 (x11_3 - 1), 1⟩ : S50), (⟨1, x16_3, 0, 0⟩ : S50)] : List (S50))) (inner := [.int .i64 2, .int .i64 x16_3, .int .i64 (wrap64 (x11_3 - 1)), .int .i64 1, .int .i64 1, .int .i64 x16_3, .int .i64 0, .int .i64 0]) (ok := fun _ => True) (okp := fun _ => True) ?hr ?hp (fun _ hk => hk) trivial (Below.refl _ _) (Nat.le_refl _) (by simp) ?_; (case hd => rfl); (case hg => rfl); (case hr => first | (go_simp; done) | (go_simp; rfl)); (case hp => exact (Reps.c4 (show Kd.M k50 _ _ _ (⟨2, x16_3, wrap64 (x11_3 - 1), 1⟩ : S50) [.int .i64 2, .int .i64 x16_3, .int .i64 (wrap64 (x11_3 - 1)), .int .i64 1] from (k50_mkM _ _ _ (⟨2, x16_3, wrap64 (x11_3 - 1), 1⟩ : S50) )) (Reps.c4 (show Kd.M k50 _ _ _ (⟨1, x16_3, 0, 0⟩ : S50) [.int .i64 1, .int .i64 x16_3, .int .i64 0, .int .i64 0] from (k50_mkM _ _ _ (⟨1, x16_3, 0, 0⟩ : S50) )) (Reps.none _ _)))); intro v424 w65 ho66 hb hg_ hnew_; clear hg_ hnew_; (first | rw [← Ny423.out] at ho66 | (simp only [Int.reduceToNat] at ho66; rw [← Ny423.out] at ho66)); have n0_ := Aside0.mk (Kd.R_elder' (by (with_reducible repeat (first | apply Kd.R_alloc | apply Kd.R_drewN | apply Kd.R_drew)); exact HO_10.out) (Kd.R_base ho66) hb); have n1_ := Aside0.mk (Kd.R_below (by (with_reducible repeat (first | apply Kd.R_alloc | apply Kd.R_drewN | apply Kd.R_drew)); exact HO422.out) hb); have n2_ := Aside0.mk (Kd.R_lower (Kd.R_new' ho66 (Kd.R_lt (by (with_reducible repeat (first | apply Kd.R_alloc | apply Kd.R_drewN | apply Kd.R_drew)); exact HO_10.out))) (below_size (by repeat (first | (with_reducible first | exact HB.out | apply below_alloc | apply pw_below_drewN | apply below_drew1) | exact HB.out)))); have n3_ := Aside0.mk (below_step (by repeat (first | (with_reducible first | exact HB.out | apply below_alloc | apply pw_below_drewN | apply below_drew1) | exact HB.out)) hb); clear HO_10; clear HO422; clear HB; have HO_10 := n0_; have HO422 := n1_; have HO425 := n2_; have HB := n3_; clear n0_ n1_ n2_ n3_; clear hb ho66; obtain ⟨Ao68, co68, eo68⟩ := Kd.R_slice HO425.out; subst eo68) | ((with_reducible refine gate_builtin (b := .append) (xs := #[.tmp 127, .tmp 135]) rfl ?_); (try (refine gate_guard (by rfl) ?_; dsimp only)); at_builtin; refine Kd.R_append_rows k50 (w0 := w) w.heap.size rfl (.tmp 127) (.tmp 135) 39 50 (.agg #[(.int .i64 0), (.int .i64 0), (.int .i64 0), (.int .i64 0)]) 32 rfl Try.underlying39 info50 rfl (by decide) (by omega) u10 x10_3 y423 _ _ _ (fun k_ => some k_ ≠ (.slice Ao68 y423.length co68 : Value).ownBlock) (fun _ => False) rfl rfl ?aO ?aR (fun _ _ h => h) (fun _ h => h.elim) ?aF ?aB ?aS ?aL ?_; (case aR => repeat (first | exact (Kd.R_reads' HO425.out).2.2 | (with_reducible refine Kd.C_alloc ?_ _) | (with_reducible refine Kd.C_drewN ?_ _) | (with_reducible refine Kd.C_drew ?_))); (case aB => exact (by repeat (first | (with_reducible first | exact HB.out | apply below_alloc | apply pw_below_drewN | apply below_drew1) | exact HB.out))); (case aF => exact (fun k_ hk => Kd.fresh' (Kd.R_lt (by (with_reducible repeat (first | apply Kd.R_alloc | apply Kd.R_drewN | apply Kd.R_drew)); exact HO425.out)) k_ hk)); (case aO => exact (by (with_reducible repeat (first | apply Kd.R_alloc | apply Kd.R_drewN | apply Kd.R_drew)); exact Kd.R_mono HO_10.out (fun _ hk => hk.2))); (case aS => exact (below_size (by repeat (first | (with_reducible first | exact HB.out | apply below_alloc | apply pw_below_drewN | apply below_drew1) | exact HB.out)))); (case aL => have := LMc62.out; omega); intro v427 w67 ho hb hg hat; rw [← Ny426.out] at ho; have n0_ := Aside0.mk (Kd.R_over' (by (with_reducible repeat (first | apply Kd.R_alloc | apply Kd.R_drewN | apply Kd.R_drew)); exact HO422.out) (Kd.R_typed (by (with_reducible repeat (first | apply Kd.R_alloc | apply Kd.R_drewN | apply Kd.R_drew)); exact HO_10.out)) (by decide) hg); have n1_ := Aside0.mk (Kd.R_after (ok := (fun _ => True)) (by (with_reducible repeat (first | apply Kd.R_alloc | apply Kd.R_drewN | apply Kd.R_drew)); exact HO425.out) hg hat); have n2_ := Aside0.mk (hb); have n3_ := Aside0.mk (ho); clear HO422; clear HO425; clear HB; clear HO_10; have HO422 := n0_; have HO425 := n1_; have HB := n2_; have HO428 := n3_; clear n0_ n1_ n2_ n3_; clear ho hb hg hat)); try go_wp2_with (first | ((with_reducible refine gate_builtin (b := .append) (xs := #[.tmp 117, .tmp 125]) rfl ?_); (try (refine gate_guard (by rfl) ?_; dsimp only)); at_builtin; refine Kd.R_append (Kd.int .i64) (w0 := w) w.heap.size rfl (.tmp 117) (.tmp 125) 43 3 (.int .i64 0) 8 rfl Try.underlying43 info3 rfl (by decide) (by omega) (.slice (some ad419) x15_3.length co63) x15_3 (wrap64 ((rd x15_3 (ji58)) + 1)) [.int .i64 (wrap64 ((rd x15_3 (ji58)) + 1))] (fun _ => True) (fun _ => False) rfl rfl ?aP (fun _ hk => hk.elim) ?aF ?aO ?aB ?aS ?aL ?_; (case aP => exact rfl); (case aB => exact (by repeat (first | (with_reducible first | exact HB.out | apply below_alloc | apply pw_below_drewN | apply below_drew1) | exact HB.out))); (case aF => exact (fun _ _ => trivial)); (case aO => exact (by (with_reducible repeat (first | apply Kd.R_alloc | apply Kd.R_drewN | apply Kd.R_drew)); exact HO_15.out)); (case aS => exact (below_size (by repeat (first | (with_reducible first | exact HB.out | apply below_alloc | apply pw_below_drewN | apply below_drew1) | exact HB.out)))); (case aL => have := LMc61.out; omega); intro v421 w64 ho hb hg hat; rw [← Ny420.out] at ho; have n0_ := Aside0.mk (Kd.R_over' (by (with_reducible repeat (first | apply Kd.R_alloc | apply Kd.R_drewN | apply Kd.R_drew)); exact HO_10.out) (Kd.R_typed (by (with_reducible repeat (first | apply Kd.R_alloc | apply Kd.R_drewN | apply Kd.R_drew)); exact HO_15.out)) (by decide) hg); have n1_ := Aside0.mk (hb); have n2_ := Aside0.mk (ho); clear HO_10; clear HB; clear HO_15; have HO_10 := n0_; have HB := n1_; have HO422 := n2_; clear n0_ n1_ n2_; clear ho hb hg hat) | ((with_reducible refine gate_dst (N := 135) rfl ?_); (try (refine gate_guard (by rfl) ?_; dsimp only)); refine Kd.R_lit k50 _ 50 ?hg (N := 135) ?hd (xs := ([(⟨2, x16_3, wrap64 (x11_3 - 1), 1⟩ : S50), (⟨1, x16_3, 0, 0⟩ : S50)] : List (S50))) (inner := [.int .i64 2, .int .i64 x16_3, .int .i64 (wrap64 (x11_3 - 1)), .int .i64 1, .int .i64 1, .int .i64 x16_3, .int .i64 0, .int .i64 0]) (ok := fun _ => True) (okp := fun _ => True) ?hr ?hp (fun _ hk => hk) trivial (Below.refl _ _) (Nat.le_refl _) (by simp) ?_; (case hd => rfl); (case hg => rfl); (case hr => first | (go_simp; done) | (go_simp; rfl)); (case hp => exact (Reps.c4 (show Kd.M k50 _ _ _ (⟨2, x16_3, wrap64 (x11_3 - 1), 1⟩ : S50) [.int .i64 2, .int .i64 x16_3, .int .i64 (wrap64 (x11_3 - 1)), .int .i64 1] from (k50_mkM _ _ _ (⟨2, x16_3, wrap64 (x11_3 - 1), 1⟩ : S50) )) (Reps.c4 (show Kd.M k50 _ _ _ (⟨1, x16_3, 0, 0⟩ : S50) [.int .i64 1, .int .i64 x16_3, .int .i64 0, .int .i64 0] from (k50_mkM _ _ _ (⟨1, x16_3, 0, 0⟩ : S50) )) (Reps.none _ _)))); intro v424 w65 ho66 hb hg_ hnew_; clear hg_ hnew_; (first | rw [← Ny423.out] at ho66 | (simp only [Int.reduceToNat] at ho66; rw [← Ny423.out] at ho66)); have n0_ := Aside0.mk (Kd.R_elder' (by (with_reducible repeat (first | apply Kd.R_alloc | apply Kd.R_drewN | apply Kd.R_drew)); exact HO_10.out) (Kd.R_base ho66) hb); have n1_ := Aside0.mk (Kd.R_below (by (with_reducible repeat (first | apply Kd.R_alloc | apply Kd.R_drewN | apply Kd.R_drew)); exact HO422.out) hb); have n2_ := Aside0.mk (Kd.R_lower (Kd.R_new' ho66 (Kd.R_lt (by (with_reducible repeat (first | apply Kd.R_alloc | apply Kd.R_drewN | apply Kd.R_drew)); exact HO_10.out))) (below_size (by repeat (first | (with_reducible first | exact HB.out | apply below_alloc | apply pw_below_drewN | apply below_drew1) | exact HB.out)))); have n3_ := Aside0.mk (below_step (by repeat (first | (with_reducible first | exact HB.out | apply below_alloc | apply pw_below_drewN | apply below_drew1) | exact HB.out)) hb); clear HO_10; clear HO422; clear HB; have HO_10 := n0_; have HO422 := n1_; have HO425 := n2_; have HB := n3_; clear n0_ n1_ n2_ n3_; clear hb ho66; obtain ⟨Ao68, co68, eo68⟩ := Kd.R_slice HO425.out; subst eo68) | ((with_reducible refine gate_builtin (b := .append) (xs := #[.tmp 127, .tmp 135]) rfl ?_); (try (refine gate_guard (by rfl) ?_; dsimp only)); at_builtin; refine Kd.R_append_rows k50 (w0 := w) w.heap.size rfl (.tmp 127) (.tmp 135) 39 50 (.agg #[(.int .i64 0), (.int .i64 0), (.int .i64 0), (.int .i64 0)]) 32 rfl Try.underlying39 info50 rfl (by decide) (by omega) u10 x10_3 y423 _ _ _ (fun k_ => some k_ ≠ (.slice Ao68 y423.length co68 : Value).ownBlock) (fun _ => False) rfl rfl ?aO ?aR (fun _ _ h => h) (fun _ h => h.elim) ?aF ?aB ?aS ?aL ?_; (case aR => repeat (first | exact (Kd.R_reads' HO425.out).2.2 | (with_reducible refine Kd.C_alloc ?_ _) | (with_reducible refine Kd.C_drewN ?_ _) | (with_reducible refine Kd.C_drew ?_))); (case aB => exact (by repeat (first | (with_reducible first | exact HB.out | apply below_alloc | apply pw_below_drewN | apply below_drew1) | exact HB.out))); (case aF => exact (fun k_ hk => Kd.fresh' (Kd.R_lt (by (with_reducible repeat (first | apply Kd.R_alloc | apply Kd.R_drewN | apply Kd.R_drew)); exact HO425.out)) k_ hk)); (case aO => exact (by (with_reducible repeat (first | apply Kd.R_alloc | apply Kd.R_drewN | apply Kd.R_drew)); exact Kd.R_mono HO_10.out (fun _ hk => hk.2))); (case aS => exact (below_size (by repeat (first | (with_reducible first | exact HB.out | apply below_alloc | apply pw_below_drewN | apply below_drew1) | exact HB.out)))); (case aL => have := LMc62.out; omega); intro v427 w67 ho hb hg hat; rw [← Ny426.out] at ho; have n0_ := Aside0.mk (Kd.R_over' (by (with_reducible repeat (first | apply Kd.R_alloc | apply Kd.R_drewN | apply Kd.R_drew)); exact HO422.out) (Kd.R_typed (by (with_reducible repeat (first | apply Kd.R_alloc | apply Kd.R_drewN | apply Kd.R_drew)); exact HO_10.out)) (by decide) hg); have n1_ := Aside0.mk (Kd.R_after (ok := (fun _ => True)) (by (with_reducible repeat (first | apply Kd.R_alloc | apply Kd.R_drewN | apply Kd.R_drew)); exact HO425.out) hg hat); have n2_ := Aside0.mk (hb); have n3_ := Aside0.mk (ho); clear HO422; clear HO425; clear HB; clear HO_10; have HO422 := n0_; have HO425 := n1_; have HB := n2_; have HO428 := n3_; clear n0_ n1_ n2_ n3_; clear ho hb hg hat)))
                                  go_roundg k3
                                  case measure => have := HJ6.out; have := HK2.out; have := HK3.out; omega
                                  case rel => exact ⟨(y426), (wrap64 (x11_3 + 1)), (y420), (wrap64 (x16_3 + 1)), (by first | rfl | (simp; done) | (simp [*]; done)), (by first | rfl | (simp; done) | (simp [*]; done)), H', ⟨by have := HJ6.out; have := HK2.out; have := HK3.out; omega⟩, ⟨by (with_reducible repeat (first | apply Kd.R_alloc | apply Kd.R_drewN | apply Kd.R_drew)); exact Kd.R_mono HO428.out (fun _ hk => trivial)⟩, ⟨by (with_reducible repeat (first | apply Kd.R_alloc | apply Kd.R_drewN | apply Kd.R_drew)); exact HO422.out⟩, ⟨by repeat (first | (with_reducible first | exact HB.out | apply below_alloc | apply pw_below_drewN | apply below_drew1) | exact HB.out)⟩⟩
                                · rw [if_neg c62] at H
                                  exact absurd H (by simp)
                              · rw [if_neg c61] at H
                                exact absurd H (by simp)
                            · rw [if_neg c60] at H
                              exact absurd H (by simp)
                          · rw [if_neg c59] at H
                            exact absurd H (by simp)
                      · rw [if_neg c45] at H
                        have c45b0 : decide (x16_3 < (wrap64 (1 + (Int.tmod (wrap64 (a1)) 8)))) = false := decide_eq_false c45
                        clear c45
                        replace H := Option.bind_eq_some_iff.mp H
                        obtain ⟨⟨t429, t430⟩, A690, H⟩ := H
                        replace H : (if t430 = 0 then (hopmeshlaw22_RankSettles.j4 k3 t429 x15_3 ((t429.length : Int) != (wrap64 (1 + (Int.tmod (wrap64 (a1)) 8))))) else (hopmeshlaw22_RankSettles.j4 k3 t429 x15_3 true)) = some r := H
                        have A69 := Aside0.mk A690
                        clear A690
                        have HC70 := Aside0.mk H
                        clear H
                        obtain ⟨Ao71, co71, eo71⟩ := Kd.R_slice HO_10.out
                        subst eo71
                        go_upto_region 30 with (first | (go_at_call 28; (with_reducible refine (rank_Play.calls (wrap64 (1 + (Int.tmod (wrap64 (a1)) 8))) _ _ x10_3 t429 t430 _ ?side1 ?side2 A69.out).mono ?_); (case side1 => repeat (first | exact (Kd.R_reads' HO_10.out).2.2 | (with_reducible refine Kd.C_alloc ?_ _) | (with_reducible refine Kd.C_drewN ?_ _) | (with_reducible refine Kd.C_drew ?_))); (case side2 => exact (Kd.R_reads' HO_10.out).2.1); rintro e w72 ⟨v431, rfl, ho0, hb⟩; have n0_ := Aside0.mk (Kd.R_below (by (with_reducible repeat (first | apply Kd.R_alloc | apply Kd.R_drewN | apply Kd.R_drew)); exact HO_10.out) hb); have n1_ := Aside0.mk (Kd.R_below (by (with_reducible repeat (first | apply Kd.R_alloc | apply Kd.R_drewN | apply Kd.R_drew)); exact HO_15.out) hb); have n2_ := Aside0.mk (Kd.R_lower ho0 (below_size (by repeat (first | (with_reducible first | exact HB.out | apply below_alloc | apply pw_below_drewN | apply below_drew1) | exact HB.out)))); have n3_ := Aside0.mk (below_step (by repeat (first | (with_reducible first | exact HB.out | apply below_alloc | apply pw_below_drewN | apply below_drew1) | exact HB.out)) hb); clear HO_10; clear HO_15; clear HB; have HO_10 := n0_; have HO_15 := n1_; have HO432 := n2_; have HB := n3_; clear n0_ n1_ n2_ n3_; (try clear hb); (try clear hb2); (try clear hk); (try clear hi); (try clear ho0)))
                        repeat (go_quiet (first | (go_at_call 28; (with_reducible refine (rank_Play.calls (wrap64 (1 + (Int.tmod (wrap64 (a1)) 8))) _ _ x10_3 t429 t430 _ ?side1 ?side2 A69.out).mono ?_); (case side1 => repeat (first | exact (Kd.R_reads' HO_10.out).2.2 | (with_reducible refine Kd.C_alloc ?_ _) | (with_reducible refine Kd.C_drewN ?_ _) | (with_reducible refine Kd.C_drew ?_))); (case side2 => exact (Kd.R_reads' HO_10.out).2.1); rintro e w72 ⟨v431, rfl, ho0, hb⟩; have n0_ := Aside0.mk (Kd.R_below (by (with_reducible repeat (first | apply Kd.R_alloc | apply Kd.R_drewN | apply Kd.R_drew)); exact HO_10.out) hb); have n1_ := Aside0.mk (Kd.R_below (by (with_reducible repeat (first | apply Kd.R_alloc | apply Kd.R_drewN | apply Kd.R_drew)); exact HO_15.out) hb); have n2_ := Aside0.mk (Kd.R_lower ho0 (below_size (by repeat (first | (with_reducible first | exact HB.out | apply below_alloc | apply pw_below_drewN | apply below_drew1) | exact HB.out)))); have n3_ := Aside0.mk (below_step (by repeat (first | (with_reducible first | exact HB.out | apply below_alloc | apply pw_below_drewN | apply below_drew1) | exact HB.out)) hb); clear HO_10; clear HO_15; clear HB; have HO_10 := n0_; have HO_15 := n1_; have HO432 := n2_; have HB := n3_; clear n0_ n1_ n2_ n3_; (try clear hb); (try clear hb2); (try clear hk); (try clear hi); (try clear ho0))); go_upto_region 30 with (first | (go_at_call 28; (with_reducible refine (rank_Play.calls (wrap64 (1 + (Int.tmod (wrap64 (a1)) 8))) _ _ x10_3 t429 t430 _ ?side1 ?side2 A69.out).mono ?_); (case side1 => repeat (first | exact (Kd.R_reads' HO_10.out).2.2 | (with_reducible refine Kd.C_alloc ?_ _) | (with_reducible refine Kd.C_drewN ?_ _) | (with_reducible refine Kd.C_drew ?_))); (case side2 => exact (Kd.R_reads' HO_10.out).2.1); rintro e w72 ⟨v431, rfl, ho0, hb⟩; have n0_ := Aside0.mk (Kd.R_below (by (with_reducible repeat (first | apply Kd.R_alloc | apply Kd.R_drewN | apply Kd.R_drew)); exact HO_10.out) hb); have n1_ := Aside0.mk (Kd.R_below (by (with_reducible repeat (first | apply Kd.R_alloc | apply Kd.R_drewN | apply Kd.R_drew)); exact HO_15.out) hb); have n2_ := Aside0.mk (Kd.R_lower ho0 (below_size (by repeat (first | (with_reducible first | exact HB.out | apply below_alloc | apply pw_below_drewN | apply below_drew1) | exact HB.out)))); have n3_ := Aside0.mk (below_step (by repeat (first | (with_reducible first | exact HB.out | apply below_alloc | apply pw_below_drewN | apply below_drew1) | exact HB.out)) hb); clear HO_10; clear HO_15; clear HB; have HO_10 := n0_; have HO_15 := n1_; have HO432 := n2_; have HB := n3_; clear n0_ n1_ n2_ n3_; (try clear hb); (try clear hb2); (try clear hk); (try clear hi); (try clear ho0))))
                        (try simp only [Act.put, List.setIfInBounds_toArray, List.set_cons_zero, List.set_cons_succ])
                        go_cut [152] (fun v152 wc => ∃ (kq : Nat) (x152_69 : Bool), v152 = .bool x152_69 ∧ Aside0 (hopmeshlaw22_RankSettles.j4 kq t429 x15_3 x152_69 = some r) ∧ Aside0 (kq ≤ k3) ∧ Aside0 (Kd.R k23 23 wc w.heap.size (fun _ => True) v431 t429) ∧ Aside0 (Kd.R (Kd.int .i64) 3 wc w.heap.size (fun _ => True) u15 x15_3) ∧ Aside0 (Below w.heap.size w wc))
                        case first =>
                          have H := HC70.out
                          clear HC70
                          by_cases c73 : t430 = 0
                          · rw [if_pos c73] at H
                            have c73b0 : (t430 == 0) = true := beq_iff_eq.mpr c73
                            have c73b1 : (t430 != 0) = false := bne_eq_false_iff_eq.mpr c73
                            clear c73
                            (first | rw [c73b0] | (simp only [i64_w, i32_w]; rw [c73b0]) | skip)
                            have H' := Aside0.mk H
                            clear H
                            obtain ⟨Ao74, co74, eo74⟩ := Kd.R_slice HO432.out
                            subst eo74
                            go_wp2
                            repeat (go_quiet (fail); try go_wp2)
                            go_meet
                            case rel => exact ⟨_, (((t429.length : Int) != (wrap64 (1 + (Int.tmod (wrap64 (a1)) 8))))), (by first | rfl | (simp; done) | (simp [*]; done)), H', ⟨by have := HJ6.out; have := HK2.out; have := HK3.out; first | omega | exact Nat.le_refl _⟩, ⟨by (with_reducible repeat (first | apply Kd.R_alloc | apply Kd.R_drewN | apply Kd.R_drew)); exact HO432.out⟩, ⟨by (with_reducible repeat (first | apply Kd.R_alloc | apply Kd.R_drewN | apply Kd.R_drew)); exact HO_15.out⟩, ⟨by repeat (first | (with_reducible first | exact HB.out | apply below_alloc | apply pw_below_drewN | apply below_drew1) | exact HB.out)⟩⟩
                          · rw [if_neg c73] at H
                            have c73b0 : (t430 == 0) = false := beq_eq_false_iff_ne.mpr c73
                            have c73b1 : (t430 != 0) = true := bne_iff_ne.mpr c73
                            (first | rw [c73b0] | (simp only [i64_w, i32_w]; rw [c73b0]) | skip)
                            have H' := Aside0.mk H
                            clear H
                            go_wp2
                            repeat (go_quiet (fail); try go_wp2)
                            go_meet
                            case rel => exact ⟨_, (true), (by first | rfl | (simp; done) | (simp [*]; done)), H', ⟨by have := HJ6.out; have := HK2.out; have := HK3.out; first | omega | exact Nat.le_refl _⟩, ⟨by (with_reducible repeat (first | apply Kd.R_alloc | apply Kd.R_drewN | apply Kd.R_drew)); exact HO432.out⟩, ⟨by (with_reducible repeat (first | apply Kd.R_alloc | apply Kd.R_drewN | apply Kd.R_drew)); exact HO_15.out⟩, ⟨by repeat (first | (with_reducible first | exact HB.out | apply below_alloc | apply pw_below_drewN | apply below_drew1) | exact HB.out)⟩⟩
                        case rest =>
                          clear HC70
                          try clear c1
                          try clear c2
                          try clear p2
                          try clear c3
                          try clear p3
                          try clear q3
                          try clear hx3
                          try clear c4
                          try clear p4
                          try clear q4
                          try clear hx4
                          try clear c5
                          try clear c6
                          try clear p6
                          try clear c7
                          try clear c9
                          try clear c10
                          try clear c10b0
                          try clear c10b1
                          try clear c11
                          try clear c11b0
                          try clear c11b1
                          try clear c13
                          try clear c14
                          try clear c14b0
                          try clear c14b1
                          try clear c16
                          try clear c23
                          try clear c23b0
                          try clear c24
                          try clear c24b0
                          try clear c25
                          try clear c25b0
                          try clear c26
                          try clear c26b0
                          try clear c26b1
                          try clear c27
                          try clear c27b0
                          try clear c28
                          try clear c28b0
                          try clear c28b1
                          try clear q31
                          try clear c33
                          try clear c33b0
                          try clear c33b1
                          try clear c35
                          try clear c36
                          try clear c36b0
                          try clear c37
                          try clear c37b0
                          try clear c38
                          try clear c38b0
                          try clear c39
                          try clear c39b0
                          try clear p39
                          try clear q39
                          try clear hx39
                          try clear c40
                          try clear c40b0
                          try clear c40b1
                          try clear p40
                          try clear q40
                          try clear hx40
                          try clear p41
                          try clear q41
                          try clear hx41
                          try clear c45
                          try clear c45b0
                          try clear c46
                          try clear c46b0
                          try clear c48
                          try clear c48b0
                          try clear c49
                          try clear c49b0
                          try clear c50
                          try clear c51
                          try clear c59
                          try clear c59b0
                          try clear c60
                          try clear c60b0
                          try clear c61
                          try clear c62
                          try clear p64
                          try clear c73
                          try clear c73b0
                          try clear c73b1
                          try clear hx394_0
                          try clear hx394_1
                          try clear hx394_2
                          try clear hx394_3
                          try clear hx403_0
                          try clear hx403_1
                          try clear hx403_2
                          try clear hx403_3
                          try clear hx404_0
                          try clear hx404_1
                          try clear hx404_2
                          try clear hx404_3
                          try clear hx404_4
                          try clear hx404_5
                          try clear hx408_0
                          try clear hx409_0
                          try clear hx419_0
                          try clear p2
                          try clear p3
                          try clear p39
                          try clear p394
                          try clear p4
                          try clear p40
                          try clear p403
                          try clear p404
                          try clear p408
                          try clear p409
                          try clear p419
                          try clear p6
                          try clear q3
                          try clear q31
                          try clear q39
                          try clear q394
                          try clear q4
                          try clear q40
                          try clear q403
                          try clear q404
                          try clear q408
                          try clear q409
                          try clear q419
                          obtain ⟨kq, x152_69, rfl, HA, HJ69, HO_8, HO_15, HB⟩ := hcut
                          cases kq with
                          | zero => exact absurd HA.out (by simp [hopmeshlaw22_RankSettles.j4])
                          | succ kj69 =>
                            have H := HA.out
                            clear HA
                            simp only [hopmeshlaw22_RankSettles.j4] at H
                            by_cases c75 : x152_69 = true
                            · subst c75
                              have H1 : (some false) = some r := by rw [if_pos rfl] at H; exact H
                              clear H
                              have H := H1
                              clear H1
                              obtain rfl := Option.some.inj H
                              go_wp2
                              repeat (go_quiet (fail); try go_wp2)
                              go_ret
                              exact ⟨by first | rfl | (simp [errW_none, errW_some] <;> rfl) | (simp [*, errW_none, errW_some] <;> rfl), by repeat (first | (with_reducible first | exact HB.out | apply below_alloc | apply pw_below_drewN | apply below_drew1) | exact HB.out)⟩
                            · replace c75 := Bool.eq_false_iff.mpr c75
                              subst c75
                              have H1 : (hopmeshlaw22_RankSettles.l2 kj69 x15_3 t429 (t429.length : Int) 0) = some r := by rw [if_neg (show ¬ (false = true) by decide)] at H; exact H
                              clear H
                              have H := H1
                              clear H1
                              have H' := Aside0.mk H
                              clear H
                              obtain ⟨Ao76, co76, eo76⟩ := Kd.R_slice HO_8.out
                              subst eo76
                              go_wp2
                              repeat (go_quiet (fail); try go_wp2)
                              go_loopg [155] kj69 (fun kq v155 w' => ∃ (x155_5 : Int), v155 = .int .i64 x155_5 ∧ Aside0 (hopmeshlaw22_RankSettles.l2 kq x15_3 t429 (t429.length : Int) x155_5 = some r) ∧ Aside0 (kq ≤ kj69) ∧ Aside0 (Kd.R (Kd.int .i64) 3 w' w.heap.size (fun _ => True) u15 x15_3) ∧ Aside0 (Kd.R k23 23 w' w.heap.size (fun _ => True) (.slice Ao76 t429.length co76) t429) ∧ Aside0 (Below w.heap.size w w'))
                              case atStart => exact ⟨(0), (by first | rfl | (simp; done) | (simp [*]; done)), H', ⟨Nat.le_refl _⟩, ⟨by (with_reducible repeat (first | apply Kd.R_alloc | apply Kd.R_drewN | apply Kd.R_drew)); exact HO_15.out⟩, ⟨by (with_reducible repeat (first | apply Kd.R_alloc | apply Kd.R_drewN | apply Kd.R_drew)); exact HO_8.out⟩, ⟨by repeat (first | (with_reducible first | exact HB.out | apply below_alloc | apply pw_below_drewN | apply below_drew1) | exact HB.out)⟩⟩
                              case round =>
                                clear H'
                                try clear c1
                                try clear c2
                                try clear p2
                                try clear c3
                                try clear p3
                                try clear q3
                                try clear hx3
                                try clear c4
                                try clear p4
                                try clear q4
                                try clear hx4
                                try clear c5
                                try clear c6
                                try clear p6
                                try clear c7
                                try clear c9
                                try clear c10
                                try clear c10b0
                                try clear c10b1
                                try clear c11
                                try clear c11b0
                                try clear c11b1
                                try clear c13
                                try clear c14
                                try clear c14b0
                                try clear c14b1
                                try clear c16
                                try clear c23
                                try clear c23b0
                                try clear c24
                                try clear c24b0
                                try clear c25
                                try clear c25b0
                                try clear c26
                                try clear c26b0
                                try clear c26b1
                                try clear c27
                                try clear c27b0
                                try clear c28
                                try clear c28b0
                                try clear c28b1
                                try clear q31
                                try clear c33
                                try clear c33b0
                                try clear c33b1
                                try clear c35
                                try clear c36
                                try clear c36b0
                                try clear c37
                                try clear c37b0
                                try clear c38
                                try clear c38b0
                                try clear c39
                                try clear c39b0
                                try clear p39
                                try clear q39
                                try clear hx39
                                try clear c40
                                try clear c40b0
                                try clear c40b1
                                try clear p40
                                try clear q40
                                try clear hx40
                                try clear p41
                                try clear q41
                                try clear hx41
                                try clear c45
                                try clear c45b0
                                try clear c46
                                try clear c46b0
                                try clear c48
                                try clear c48b0
                                try clear c49
                                try clear c49b0
                                try clear c50
                                try clear c51
                                try clear c59
                                try clear c59b0
                                try clear c60
                                try clear c60b0
                                try clear c61
                                try clear c62
                                try clear p64
                                try clear c73
                                try clear c73b0
                                try clear c73b1
                                try clear c75
                                try clear hx394_0
                                try clear hx394_1
                                try clear hx394_2
                                try clear hx394_3
                                try clear hx403_0
                                try clear hx403_1
                                try clear hx403_2
                                try clear hx403_3
                                try clear hx404_0
                                try clear hx404_1
                                try clear hx404_2
                                try clear hx404_3
                                try clear hx404_4
                                try clear hx404_5
                                try clear hx408_0
                                try clear hx409_0
                                try clear hx419_0
                                try clear p2
                                try clear p3
                                try clear p39
                                try clear p394
                                try clear p4
                                try clear p40
                                try clear p403
                                try clear p404
                                try clear p408
                                try clear p409
                                try clear p41
                                try clear p419
                                try clear p6
                                try clear p64
                                try clear q3
                                try clear q31
                                try clear q39
                                try clear q394
                                try clear q4
                                try clear q40
                                try clear q403
                                try clear q404
                                try clear q408
                                try clear q409
                                try clear q41
                                try clear q419
                                obtain ⟨x155_5, rfl, HA, HK5, HO_15, HO_153, HB⟩ := hrel
                                cases gk with
                                | zero => exact absurd HA.out (by simp [hopmeshlaw22_RankSettles.l2])
                                | succ k5 =>
                                  have H := HA.out
                                  clear HA
                                  simp only [hopmeshlaw22_RankSettles.l2] at H
                                  by_cases c77 : x155_5 < (t429.length : Int)
                                  · rw [if_pos c77] at H
                                    have c77b0 : decide (x155_5 < (t429.length : Int)) = true := decide_eq_true c77
                                    clear c77
                                    by_cases c78 : 0 ≤ x155_5
                                    · rw [if_pos c78] at H
                                      have c78b0 : decide (0 ≤ x155_5) = true := decide_eq_true c78
                                      clear c78
                                      by_cases c79 : x155_5 < (t429.length : Int)
                                      · rw [if_pos c79] at H
                                        have c79b0 : decide (x155_5 < (t429.length : Int)) = true := decide_eq_true c79
                                        clear c79
                                        by_cases c80 : x155_5 < (x15_3.length : Int)
                                        · rw [if_pos c80] at H
                                          have c80b0 : decide (x155_5 < (x15_3.length : Int)) = true := decide_eq_true c80
                                          clear c80
                                          by_cases c81 : ((rd_T23 t429 x155_5).f4) = (rd x15_3 x155_5)
                                          · rw [if_pos c81] at H
                                            have c81b0 : (((rd_T23 t429 x155_5).f4) == (rd x15_3 x155_5)) = true := beq_iff_eq.mpr c81
                                            have c81b1 : (((rd_T23 t429 x155_5).f4) != (rd x15_3 x155_5)) = false := bne_eq_false_iff_eq.mpr c81
                                            clear c81
                                            by_cases c82 : ((rd_T23 t429 x155_5).f2) = (wrap64 (x155_5 - 1))
                                            · rw [if_pos c82] at H
                                              have c82b0 : (((rd_T23 t429 x155_5).f2) == (wrap64 (x155_5 - 1))) = true := beq_iff_eq.mpr c82
                                              have c82b1 : (((rd_T23 t429 x155_5).f2) != (wrap64 (x155_5 - 1))) = false := bne_eq_false_iff_eq.mpr c82
                                              clear c82
                                              have H' := Aside0.mk H
                                              clear H
                                              have p433 : 0 ≤ (x155_5 : Int) := of_decide_eq_true (by first | (with_reducible assumption) | assumption)
                                              have q433 : x155_5 < (t429.length : Int) := of_decide_eq_true (by first | (with_reducible assumption) | assumption)
                                              obtain ⟨ad433, e433, hx433_0, hx433_1, hx433_2, hx433_3, hx433_4, hx433_5⟩ := at_T23 (Kd.R_reads' HO_153.out).2.2 x155_5 p433 q433
                                              cases e433
                                              replace p433 := eq_true p433
                                              replace q433 := eq_true q433
                                              go_wp2_with (first | ((with_reducible refine gate_dst (N := 19) rfl ?_); (try (refine gate_guard (by rfl) ?_; dsimp only)); refine box_event ?hg (N := 19) ?hd (cs := #[.int .i64 0, .int .i64 0, .int .i64 0, .int .i64 0, .int .i64 0, .int .i64 0]) (t := 23) ?hr ?_; (case hd => rfl); (case hg => rfl); (case hr => first | (go_simp; done) | (go_simp; rfl)); intro gb434 hg w83 hbox hb; have n0_ := Aside0.mk (Kd.R_below (by (with_reducible repeat (first | apply Kd.R_alloc | apply Kd.R_drewN | apply Kd.R_drew)); exact HO_15.out) hb); have n1_ := Aside0.mk (Kd.R_below (Kd.R_elderB (by (with_reducible repeat (first | apply Kd.R_alloc | apply Kd.R_drewN | apply Kd.R_drew)); exact HO_153.out) gb434 (Nat.le_of_eq hg.symm)) hb); have n2_ := Aside0.mk (below_step (by repeat (first | (with_reducible first | exact HB.out | apply below_alloc | apply pw_below_drewN | apply below_drew1) | exact HB.out)) hb); have n3_ := Aside0.mk (hbox); have n4_ := Aside0.mk ((by rw [hg]; exact (below_size (by repeat (first | (with_reducible first | exact HB.out | apply below_alloc | apply pw_below_drewN | apply below_drew1) | exact HB.out))) : w.heap.size ≤ gb434)); have n5_ := Aside0.mk ((by rw [hg]; exact (below_size (by repeat (first | (with_reducible first | exact HB.out | apply below_alloc | apply pw_below_drewN | apply below_drew1) | exact HB.out))) : w.heap.size ≤ gb434)); clear HO_15; clear HO_153; clear HB; have HO_15 := n0_; have HO_153 := n1_; have HB := n2_; have BK434 := n3_; have GW434 := n4_; have GE434 := n5_; clear n0_ n1_ n2_ n3_ n4_ n5_; clear hb hbox hg; have hcz84_0 : w83.cell? ⟨gb434, 0, none⟩ = some (.int .i64 0) := (blk_cell BK434.out 0).trans rfl; have hcz84_1 : w83.cell? ⟨gb434, 1, none⟩ = some (.int .i64 0) := (blk_cell BK434.out 1).trans rfl; have hcz84_2 : w83.cell? ⟨gb434, 2, none⟩ = some (.int .i64 0) := (blk_cell BK434.out 2).trans rfl; have hcz84_3 : w83.cell? ⟨gb434, 3, none⟩ = some (.int .i64 0) := (blk_cell BK434.out 3).trans rfl; have hcz84_4 : w83.cell? ⟨gb434, 4, none⟩ = some (.int .i64 0) := (blk_cell BK434.out 4).trans rfl; have hcz84_5 : w83.cell? ⟨gb434, 5, none⟩ = some (.int .i64 0) := (blk_cell BK434.out 5).trans rfl; have hfz84_0 := blk_frozen BK434.out 0; have hfz84_1 := blk_frozen BK434.out 1; have hfz84_2 := blk_frozen BK434.out 2; have hfz84_3 := blk_frozen BK434.out 3; have hfz84_4 := blk_frozen BK434.out 4; have hfz84_5 := blk_frozen BK434.out 5; obtain ⟨Ao85, co85, eo85⟩ := Kd.R_slice HO_15.out; subst eo85; have p435 : 0 ≤ (x155_5 : Int) := of_decide_eq_true (by first | (with_reducible assumption) | assumption); have q435 : x155_5 < (x15_3.length : Int) := of_decide_eq_true (by first | (with_reducible assumption) | assumption); obtain ⟨ad435, e435, hx435_0⟩ := Kd.at_int (Kd.R_reads' HO_15.out).2.2 x155_5 p435 q435; cases e435; have hn435_0 : ad435.block ≠ gb434 := Kd.own_blk (Kd.R_ne HO_15.out BK434.out (by decide)); have hn435_1 : ad435.block ≠ gb434 := Kd.own_blk (Kd.R_ne HO_15.out BK434.out (by decide)); have hn435_2 : ad435.block ≠ gb434 := Kd.own_blk (Kd.R_ne HO_15.out BK434.out (by decide)); have hn435_3 : ad435.block ≠ gb434 := Kd.own_blk (Kd.R_ne HO_15.out BK434.out (by decide)); have hn435_4 : ad435.block ≠ gb434 := Kd.own_blk (Kd.R_ne HO_15.out BK434.out (by decide)); have hn435_5 : ad435.block ≠ gb434 := Kd.own_blk (Kd.R_ne HO_15.out BK434.out (by decide)); replace hx435_0 := (cell_far (p := ⟨gb434, 0, none⟩) (by first | (rw [add_block]; exact hn435_0) | (show (Addr.add _ _).block ≠ _; rw [add_block]; exact hn435_0) | exact hn435_0) (.int .i64 ((rd_T23 t429 x155_5).f0))).trans hx435_0; replace hx435_0 := (cell_far (p := ⟨gb434, 1, none⟩) (by first | (rw [add_block]; exact hn435_1) | (show (Addr.add _ _).block ≠ _; rw [add_block]; exact hn435_1) | exact hn435_1) (.int .i64 ((rd_T23 t429 x155_5).f1))).trans hx435_0; replace hx435_0 := (cell_far (p := ⟨gb434, 2, none⟩) (by first | (rw [add_block]; exact hn435_2) | (show (Addr.add _ _).block ≠ _; rw [add_block]; exact hn435_2) | exact hn435_2) (.int .i64 ((rd_T23 t429 x155_5).f2))).trans hx435_0; replace hx435_0 := (cell_far (p := ⟨gb434, 3, none⟩) (by first | (rw [add_block]; exact hn435_3) | (show (Addr.add _ _).block ≠ _; rw [add_block]; exact hn435_3) | exact hn435_3) (.int .i64 ((rd_T23 t429 x155_5).f3))).trans hx435_0; replace hx435_0 := (cell_far (p := ⟨gb434, 4, none⟩) (by first | (rw [add_block]; exact hn435_4) | (show (Addr.add _ _).block ≠ _; rw [add_block]; exact hn435_4) | exact hn435_4) (.int .i64 ((rd_T23 t429 x155_5).f4))).trans hx435_0; replace hx435_0 := (cell_far (p := ⟨gb434, 5, none⟩) (by first | (rw [add_block]; exact hn435_5) | (show (Addr.add _ _).block ≠ _; rw [add_block]; exact hn435_5) | exact hn435_5) (.int .i64 ((rd_T23 t429 x155_5).f5))).trans hx435_0; (try have hy435_0 := fun (n_ : Nat) => (show ((((((((w83.drewN n_).setCell ⟨gb434, 0, none⟩ (.int .i64 ((rd_T23 t429 x155_5).f0))).setCell ⟨gb434, 1, none⟩ (.int .i64 ((rd_T23 t429 x155_5).f1))).setCell ⟨gb434, 2, none⟩ (.int .i64 ((rd_T23 t429 x155_5).f2))).setCell ⟨gb434, 3, none⟩ (.int .i64 ((rd_T23 t429 x155_5).f3))).setCell ⟨gb434, 4, none⟩ (.int .i64 ((rd_T23 t429 x155_5).f4))).setCell ⟨gb434, 5, none⟩ (.int .i64 ((rd_T23 t429 x155_5).f5)))).cell? _ = some _ from hx435_0)); clear hn435_0; clear hn435_1; clear hn435_2; clear hn435_3; clear hn435_4; clear hn435_5; replace p435 := eq_true p435; replace q435 := eq_true q435))
                                              repeat (go_quiet (first | ((with_reducible refine gate_dst (N := 19) rfl ?_); (try (refine gate_guard (by rfl) ?_; dsimp only)); refine box_event ?hg (N := 19) ?hd (cs := #[.int .i64 0, .int .i64 0, .int .i64 0, .int .i64 0, .int .i64 0, .int .i64 0]) (t := 23) ?hr ?_; (case hd => rfl); (case hg => rfl); (case hr => first | (go_simp; done) | (go_simp; rfl)); intro gb434 hg w83 hbox hb; have n0_ := Aside0.mk (Kd.R_below (by (with_reducible repeat (first | apply Kd.R_alloc | apply Kd.R_drewN | apply Kd.R_drew)); exact HO_15.out) hb); have n1_ := Aside0.mk (Kd.R_below (Kd.R_elderB (by (with_reducible repeat (first | apply Kd.R_alloc | apply Kd.R_drewN | apply Kd.R_drew)); exact HO_153.out) gb434 (Nat.le_of_eq hg.symm)) hb); have n2_ := Aside0.mk (below_step (by repeat (first | (with_reducible first | exact HB.out | apply below_alloc | apply pw_below_drewN | apply below_drew1) | exact HB.out)) hb); have n3_ := Aside0.mk (hbox); have n4_ := Aside0.mk ((by rw [hg]; exact (below_size (by repeat (first | (with_reducible first | exact HB.out | apply below_alloc | apply pw_below_drewN | apply below_drew1) | exact HB.out))) : w.heap.size ≤ gb434)); have n5_ := Aside0.mk ((by rw [hg]; exact (below_size (by repeat (first | (with_reducible first | exact HB.out | apply below_alloc | apply pw_below_drewN | apply below_drew1) | exact HB.out))) : w.heap.size ≤ gb434)); clear HO_15; clear HO_153; clear HB; have HO_15 := n0_; have HO_153 := n1_; have HB := n2_; have BK434 := n3_; have GW434 := n4_; have GE434 := n5_; clear n0_ n1_ n2_ n3_ n4_ n5_; clear hb hbox hg; have hcz84_0 : w83.cell? ⟨gb434, 0, none⟩ = some (.int .i64 0) := (blk_cell BK434.out 0).trans rfl; have hcz84_1 : w83.cell? ⟨gb434, 1, none⟩ = some (.int .i64 0) := (blk_cell BK434.out 1).trans rfl; have hcz84_2 : w83.cell? ⟨gb434, 2, none⟩ = some (.int .i64 0) := (blk_cell BK434.out 2).trans rfl; have hcz84_3 : w83.cell? ⟨gb434, 3, none⟩ = some (.int .i64 0) := (blk_cell BK434.out 3).trans rfl; have hcz84_4 : w83.cell? ⟨gb434, 4, none⟩ = some (.int .i64 0) := (blk_cell BK434.out 4).trans rfl; have hcz84_5 : w83.cell? ⟨gb434, 5, none⟩ = some (.int .i64 0) := (blk_cell BK434.out 5).trans rfl; have hfz84_0 := blk_frozen BK434.out 0; have hfz84_1 := blk_frozen BK434.out 1; have hfz84_2 := blk_frozen BK434.out 2; have hfz84_3 := blk_frozen BK434.out 3; have hfz84_4 := blk_frozen BK434.out 4; have hfz84_5 := blk_frozen BK434.out 5; obtain ⟨Ao85, co85, eo85⟩ := Kd.R_slice HO_15.out; subst eo85; have p435 : 0 ≤ (x155_5 : Int) := of_decide_eq_true (by first | (with_reducible assumption) | assumption); have q435 : x155_5 < (x15_3.length : Int) := of_decide_eq_true (by first | (with_reducible assumption) | assumption); obtain ⟨ad435, e435, hx435_0⟩ := Kd.at_int (Kd.R_reads' HO_15.out).2.2 x155_5 p435 q435; cases e435; have hn435_0 : ad435.block ≠ gb434 := Kd.own_blk (Kd.R_ne HO_15.out BK434.out (by decide)); have hn435_1 : ad435.block ≠ gb434 := Kd.own_blk (Kd.R_ne HO_15.out BK434.out (by decide)); have hn435_2 : ad435.block ≠ gb434 := Kd.own_blk (Kd.R_ne HO_15.out BK434.out (by decide)); have hn435_3 : ad435.block ≠ gb434 := Kd.own_blk (Kd.R_ne HO_15.out BK434.out (by decide)); have hn435_4 : ad435.block ≠ gb434 := Kd.own_blk (Kd.R_ne HO_15.out BK434.out (by decide)); have hn435_5 : ad435.block ≠ gb434 := Kd.own_blk (Kd.R_ne HO_15.out BK434.out (by decide)); replace hx435_0 := (cell_far (p := ⟨gb434, 0, none⟩) (by first | (rw [add_block]; exact hn435_0) | (show (Addr.add _ _).block ≠ _; rw [add_block]; exact hn435_0) | exact hn435_0) (.int .i64 ((rd_T23 t429 x155_5).f0))).trans hx435_0; replace hx435_0 := (cell_far (p := ⟨gb434, 1, none⟩) (by first | (rw [add_block]; exact hn435_1) | (show (Addr.add _ _).block ≠ _; rw [add_block]; exact hn435_1) | exact hn435_1) (.int .i64 ((rd_T23 t429 x155_5).f1))).trans hx435_0; replace hx435_0 := (cell_far (p := ⟨gb434, 2, none⟩) (by first | (rw [add_block]; exact hn435_2) | (show (Addr.add _ _).block ≠ _; rw [add_block]; exact hn435_2) | exact hn435_2) (.int .i64 ((rd_T23 t429 x155_5).f2))).trans hx435_0; replace hx435_0 := (cell_far (p := ⟨gb434, 3, none⟩) (by first | (rw [add_block]; exact hn435_3) | (show (Addr.add _ _).block ≠ _; rw [add_block]; exact hn435_3) | exact hn435_3) (.int .i64 ((rd_T23 t429 x155_5).f3))).trans hx435_0; replace hx435_0 := (cell_far (p := ⟨gb434, 4, none⟩) (by first | (rw [add_block]; exact hn435_4) | (show (Addr.add _ _).block ≠ _; rw [add_block]; exact hn435_4) | exact hn435_4) (.int .i64 ((rd_T23 t429 x155_5).f4))).trans hx435_0; replace hx435_0 := (cell_far (p := ⟨gb434, 5, none⟩) (by first | (rw [add_block]; exact hn435_5) | (show (Addr.add _ _).block ≠ _; rw [add_block]; exact hn435_5) | exact hn435_5) (.int .i64 ((rd_T23 t429 x155_5).f5))).trans hx435_0; (try have hy435_0 := fun (n_ : Nat) => (show ((((((((w83.drewN n_).setCell ⟨gb434, 0, none⟩ (.int .i64 ((rd_T23 t429 x155_5).f0))).setCell ⟨gb434, 1, none⟩ (.int .i64 ((rd_T23 t429 x155_5).f1))).setCell ⟨gb434, 2, none⟩ (.int .i64 ((rd_T23 t429 x155_5).f2))).setCell ⟨gb434, 3, none⟩ (.int .i64 ((rd_T23 t429 x155_5).f3))).setCell ⟨gb434, 4, none⟩ (.int .i64 ((rd_T23 t429 x155_5).f4))).setCell ⟨gb434, 5, none⟩ (.int .i64 ((rd_T23 t429 x155_5).f5)))).cell? _ = some _ from hx435_0)); clear hn435_0; clear hn435_1; clear hn435_2; clear hn435_3; clear hn435_4; clear hn435_5; replace p435 := eq_true p435; replace q435 := eq_true q435)); try go_wp2_with (first | ((with_reducible refine gate_dst (N := 19) rfl ?_); (try (refine gate_guard (by rfl) ?_; dsimp only)); refine box_event ?hg (N := 19) ?hd (cs := #[.int .i64 0, .int .i64 0, .int .i64 0, .int .i64 0, .int .i64 0, .int .i64 0]) (t := 23) ?hr ?_; (case hd => rfl); (case hg => rfl); (case hr => first | (go_simp; done) | (go_simp; rfl)); intro gb434 hg w83 hbox hb; have n0_ := Aside0.mk (Kd.R_below (by (with_reducible repeat (first | apply Kd.R_alloc | apply Kd.R_drewN | apply Kd.R_drew)); exact HO_15.out) hb); have n1_ := Aside0.mk (Kd.R_below (Kd.R_elderB (by (with_reducible repeat (first | apply Kd.R_alloc | apply Kd.R_drewN | apply Kd.R_drew)); exact HO_153.out) gb434 (Nat.le_of_eq hg.symm)) hb); have n2_ := Aside0.mk (below_step (by repeat (first | (with_reducible first | exact HB.out | apply below_alloc | apply pw_below_drewN | apply below_drew1) | exact HB.out)) hb); have n3_ := Aside0.mk (hbox); have n4_ := Aside0.mk ((by rw [hg]; exact (below_size (by repeat (first | (with_reducible first | exact HB.out | apply below_alloc | apply pw_below_drewN | apply below_drew1) | exact HB.out))) : w.heap.size ≤ gb434)); have n5_ := Aside0.mk ((by rw [hg]; exact (below_size (by repeat (first | (with_reducible first | exact HB.out | apply below_alloc | apply pw_below_drewN | apply below_drew1) | exact HB.out))) : w.heap.size ≤ gb434)); clear HO_15; clear HO_153; clear HB; have HO_15 := n0_; have HO_153 := n1_; have HB := n2_; have BK434 := n3_; have GW434 := n4_; have GE434 := n5_; clear n0_ n1_ n2_ n3_ n4_ n5_; clear hb hbox hg; have hcz84_0 : w83.cell? ⟨gb434, 0, none⟩ = some (.int .i64 0) := (blk_cell BK434.out 0).trans rfl; have hcz84_1 : w83.cell? ⟨gb434, 1, none⟩ = some (.int .i64 0) := (blk_cell BK434.out 1).trans rfl; have hcz84_2 : w83.cell? ⟨gb434, 2, none⟩ = some (.int .i64 0) := (blk_cell BK434.out 2).trans rfl; have hcz84_3 : w83.cell? ⟨gb434, 3, none⟩ = some (.int .i64 0) := (blk_cell BK434.out 3).trans rfl; have hcz84_4 : w83.cell? ⟨gb434, 4, none⟩ = some (.int .i64 0) := (blk_cell BK434.out 4).trans rfl; have hcz84_5 : w83.cell? ⟨gb434, 5, none⟩ = some (.int .i64 0) := (blk_cell BK434.out 5).trans rfl; have hfz84_0 := blk_frozen BK434.out 0; have hfz84_1 := blk_frozen BK434.out 1; have hfz84_2 := blk_frozen BK434.out 2; have hfz84_3 := blk_frozen BK434.out 3; have hfz84_4 := blk_frozen BK434.out 4; have hfz84_5 := blk_frozen BK434.out 5; obtain ⟨Ao85, co85, eo85⟩ := Kd.R_slice HO_15.out; subst eo85; have p435 : 0 ≤ (x155_5 : Int) := of_decide_eq_true (by first | (with_reducible assumption) | assumption); have q435 : x155_5 < (x15_3.length : Int) := of_decide_eq_true (by first | (with_reducible assumption) | assumption); obtain ⟨ad435, e435, hx435_0⟩ := Kd.at_int (Kd.R_reads' HO_15.out).2.2 x155_5 p435 q435; cases e435; have hn435_0 : ad435.block ≠ gb434 := Kd.own_blk (Kd.R_ne HO_15.out BK434.out (by decide)); have hn435_1 : ad435.block ≠ gb434 := Kd.own_blk (Kd.R_ne HO_15.out BK434.out (by decide)); have hn435_2 : ad435.block ≠ gb434 := Kd.own_blk (Kd.R_ne HO_15.out BK434.out (by decide)); have hn435_3 : ad435.block ≠ gb434 := Kd.own_blk (Kd.R_ne HO_15.out BK434.out (by decide)); have hn435_4 : ad435.block ≠ gb434 := Kd.own_blk (Kd.R_ne HO_15.out BK434.out (by decide)); have hn435_5 : ad435.block ≠ gb434 := Kd.own_blk (Kd.R_ne HO_15.out BK434.out (by decide)); replace hx435_0 := (cell_far (p := ⟨gb434, 0, none⟩) (by first | (rw [add_block]; exact hn435_0) | (show (Addr.add _ _).block ≠ _; rw [add_block]; exact hn435_0) | exact hn435_0) (.int .i64 ((rd_T23 t429 x155_5).f0))).trans hx435_0; replace hx435_0 := (cell_far (p := ⟨gb434, 1, none⟩) (by first | (rw [add_block]; exact hn435_1) | (show (Addr.add _ _).block ≠ _; rw [add_block]; exact hn435_1) | exact hn435_1) (.int .i64 ((rd_T23 t429 x155_5).f1))).trans hx435_0; replace hx435_0 := (cell_far (p := ⟨gb434, 2, none⟩) (by first | (rw [add_block]; exact hn435_2) | (show (Addr.add _ _).block ≠ _; rw [add_block]; exact hn435_2) | exact hn435_2) (.int .i64 ((rd_T23 t429 x155_5).f2))).trans hx435_0; replace hx435_0 := (cell_far (p := ⟨gb434, 3, none⟩) (by first | (rw [add_block]; exact hn435_3) | (show (Addr.add _ _).block ≠ _; rw [add_block]; exact hn435_3) | exact hn435_3) (.int .i64 ((rd_T23 t429 x155_5).f3))).trans hx435_0; replace hx435_0 := (cell_far (p := ⟨gb434, 4, none⟩) (by first | (rw [add_block]; exact hn435_4) | (show (Addr.add _ _).block ≠ _; rw [add_block]; exact hn435_4) | exact hn435_4) (.int .i64 ((rd_T23 t429 x155_5).f4))).trans hx435_0; replace hx435_0 := (cell_far (p := ⟨gb434, 5, none⟩) (by first | (rw [add_block]; exact hn435_5) | (show (Addr.add _ _).block ≠ _; rw [add_block]; exact hn435_5) | exact hn435_5) (.int .i64 ((rd_T23 t429 x155_5).f5))).trans hx435_0; (try have hy435_0 := fun (n_ : Nat) => (show ((((((((w83.drewN n_).setCell ⟨gb434, 0, none⟩ (.int .i64 ((rd_T23 t429 x155_5).f0))).setCell ⟨gb434, 1, none⟩ (.int .i64 ((rd_T23 t429 x155_5).f1))).setCell ⟨gb434, 2, none⟩ (.int .i64 ((rd_T23 t429 x155_5).f2))).setCell ⟨gb434, 3, none⟩ (.int .i64 ((rd_T23 t429 x155_5).f3))).setCell ⟨gb434, 4, none⟩ (.int .i64 ((rd_T23 t429 x155_5).f4))).setCell ⟨gb434, 5, none⟩ (.int .i64 ((rd_T23 t429 x155_5).f5)))).cell? _ = some _ from hx435_0)); clear hn435_0; clear hn435_1; clear hn435_2; clear hn435_3; clear hn435_4; clear hn435_5; replace p435 := eq_true p435; replace q435 := eq_true q435)))
                                              go_roundg k5
                                              case measure => have := HJ6.out; have := HK2.out; have := HK3.out; have := HJ69.out; have := HK5.out; omega
                                              case rel => exact ⟨(wrap64 (x155_5 + 1)), (by first | rfl | (simp; done) | (simp [*]; done)), H', ⟨by have := HJ6.out; have := HK2.out; have := HK3.out; have := HJ69.out; have := HK5.out; omega⟩, ⟨by (with_reducible repeat (first | apply Kd.R_alloc | apply Kd.R_drewN | apply Kd.R_drew)); exact Kd.R_mono (Kd.R_far (p := ⟨gb434, 5, none⟩) (Kd.R_far (p := ⟨gb434, 4, none⟩) (Kd.R_far (p := ⟨gb434, 3, none⟩) (Kd.R_far (p := ⟨gb434, 2, none⟩) (Kd.R_far (p := ⟨gb434, 1, none⟩) (Kd.R_far (p := ⟨gb434, 0, none⟩) (Kd.R_types HO_15.out BK434.out (by decide)) (fun _ hk => hk.2) (.int .i64 ((rd_T23 t429 x155_5).f0))) (fun _ hk => hk.2) (.int .i64 ((rd_T23 t429 x155_5).f1))) (fun _ hk => hk.2) (.int .i64 ((rd_T23 t429 x155_5).f2))) (fun _ hk => hk.2) (.int .i64 ((rd_T23 t429 x155_5).f3))) (fun _ hk => hk.2) (.int .i64 ((rd_T23 t429 x155_5).f4))) (fun _ hk => hk.2) (.int .i64 ((rd_T23 t429 x155_5).f5))) (fun _ hk => trivial)⟩, ⟨by (with_reducible repeat (first | apply Kd.R_alloc | apply Kd.R_drewN | apply Kd.R_drew)); exact Kd.R_mono (Kd.R_far (p := ⟨gb434, 5, none⟩) (Kd.R_far (p := ⟨gb434, 4, none⟩) (Kd.R_far (p := ⟨gb434, 3, none⟩) (Kd.R_far (p := ⟨gb434, 2, none⟩) (Kd.R_far (p := ⟨gb434, 1, none⟩) (Kd.R_far (p := ⟨gb434, 0, none⟩) (Kd.R_mono HO_153.out (fun k_ hk => (⟨hk, hk.2⟩ : _ ∧ k_ ≠ gb434))) (fun _ hk => hk.2) (.int .i64 ((rd_T23 t429 x155_5).f0))) (fun _ hk => hk.2) (.int .i64 ((rd_T23 t429 x155_5).f1))) (fun _ hk => hk.2) (.int .i64 ((rd_T23 t429 x155_5).f2))) (fun _ hk => hk.2) (.int .i64 ((rd_T23 t429 x155_5).f3))) (fun _ hk => hk.2) (.int .i64 ((rd_T23 t429 x155_5).f4))) (fun _ hk => hk.2) (.int .i64 ((rd_T23 t429 x155_5).f5))) (fun _ hk => trivial)⟩, ⟨by repeat (first | (with_reducible first | exact HB.out | apply below_alloc | apply pw_below_drewN | apply below_drew1 | refine below_set ?_ GE434.out) | exact HB.out)⟩⟩
                                            · rw [if_neg c82] at H
                                              have c82b0 : (((rd_T23 t429 x155_5).f2) == (wrap64 (x155_5 - 1))) = false := beq_eq_false_iff_ne.mpr c82
                                              have c82b1 : (((rd_T23 t429 x155_5).f2) != (wrap64 (x155_5 - 1))) = true := bne_iff_ne.mpr c82
                                              obtain rfl := Option.some.inj H
                                              have p433 : 0 ≤ (x155_5 : Int) := of_decide_eq_true (by first | (with_reducible assumption) | assumption)
                                              have q433 : x155_5 < (t429.length : Int) := of_decide_eq_true (by first | (with_reducible assumption) | assumption)
                                              obtain ⟨ad433, e433, hx433_0, hx433_1, hx433_2, hx433_3, hx433_4, hx433_5⟩ := at_T23 (Kd.R_reads' HO_153.out).2.2 x155_5 p433 q433
                                              cases e433
                                              replace p433 := eq_true p433
                                              replace q433 := eq_true q433
                                              go_wp2_with (first | ((with_reducible refine gate_dst (N := 19) rfl ?_); (try (refine gate_guard (by rfl) ?_; dsimp only)); refine box_event ?hg (N := 19) ?hd (cs := #[.int .i64 0, .int .i64 0, .int .i64 0, .int .i64 0, .int .i64 0, .int .i64 0]) (t := 23) ?hr ?_; (case hd => rfl); (case hg => rfl); (case hr => first | (go_simp; done) | (go_simp; rfl)); intro gb434 hg w86 hbox hb; have n0_ := Aside0.mk (Kd.R_below (by (with_reducible repeat (first | apply Kd.R_alloc | apply Kd.R_drewN | apply Kd.R_drew)); exact HO_15.out) hb); have n1_ := Aside0.mk (Kd.R_below (Kd.R_elderB (by (with_reducible repeat (first | apply Kd.R_alloc | apply Kd.R_drewN | apply Kd.R_drew)); exact HO_153.out) gb434 (Nat.le_of_eq hg.symm)) hb); have n2_ := Aside0.mk (below_step (by repeat (first | (with_reducible first | exact HB.out | apply below_alloc | apply pw_below_drewN | apply below_drew1) | exact HB.out)) hb); have n3_ := Aside0.mk (hbox); have n4_ := Aside0.mk ((by rw [hg]; exact (below_size (by repeat (first | (with_reducible first | exact HB.out | apply below_alloc | apply pw_below_drewN | apply below_drew1) | exact HB.out))) : w.heap.size ≤ gb434)); have n5_ := Aside0.mk ((by rw [hg]; exact (below_size (by repeat (first | (with_reducible first | exact HB.out | apply below_alloc | apply pw_below_drewN | apply below_drew1) | exact HB.out))) : w.heap.size ≤ gb434)); clear HO_15; clear HO_153; clear HB; have HO_15 := n0_; have HO_153 := n1_; have HB := n2_; have BK434 := n3_; have GW434 := n4_; have GE434 := n5_; clear n0_ n1_ n2_ n3_ n4_ n5_; clear hb hbox hg; have hcz87_0 : w86.cell? ⟨gb434, 0, none⟩ = some (.int .i64 0) := (blk_cell BK434.out 0).trans rfl; have hcz87_1 : w86.cell? ⟨gb434, 1, none⟩ = some (.int .i64 0) := (blk_cell BK434.out 1).trans rfl; have hcz87_2 : w86.cell? ⟨gb434, 2, none⟩ = some (.int .i64 0) := (blk_cell BK434.out 2).trans rfl; have hcz87_3 : w86.cell? ⟨gb434, 3, none⟩ = some (.int .i64 0) := (blk_cell BK434.out 3).trans rfl; have hcz87_4 : w86.cell? ⟨gb434, 4, none⟩ = some (.int .i64 0) := (blk_cell BK434.out 4).trans rfl; have hcz87_5 : w86.cell? ⟨gb434, 5, none⟩ = some (.int .i64 0) := (blk_cell BK434.out 5).trans rfl; have hfz87_0 := blk_frozen BK434.out 0; have hfz87_1 := blk_frozen BK434.out 1; have hfz87_2 := blk_frozen BK434.out 2; have hfz87_3 := blk_frozen BK434.out 3; have hfz87_4 := blk_frozen BK434.out 4; have hfz87_5 := blk_frozen BK434.out 5; obtain ⟨Ao88, co88, eo88⟩ := Kd.R_slice HO_15.out; subst eo88; have p435 : 0 ≤ (x155_5 : Int) := of_decide_eq_true (by first | (with_reducible assumption) | assumption); have q435 : x155_5 < (x15_3.length : Int) := of_decide_eq_true (by first | (with_reducible assumption) | assumption); obtain ⟨ad435, e435, hx435_0⟩ := Kd.at_int (Kd.R_reads' HO_15.out).2.2 x155_5 p435 q435; cases e435; have hn435_0 : ad435.block ≠ gb434 := Kd.own_blk (Kd.R_ne HO_15.out BK434.out (by decide)); have hn435_1 : ad435.block ≠ gb434 := Kd.own_blk (Kd.R_ne HO_15.out BK434.out (by decide)); have hn435_2 : ad435.block ≠ gb434 := Kd.own_blk (Kd.R_ne HO_15.out BK434.out (by decide)); have hn435_3 : ad435.block ≠ gb434 := Kd.own_blk (Kd.R_ne HO_15.out BK434.out (by decide)); have hn435_4 : ad435.block ≠ gb434 := Kd.own_blk (Kd.R_ne HO_15.out BK434.out (by decide)); have hn435_5 : ad435.block ≠ gb434 := Kd.own_blk (Kd.R_ne HO_15.out BK434.out (by decide)); replace hx435_0 := (cell_far (p := ⟨gb434, 0, none⟩) (by first | (rw [add_block]; exact hn435_0) | (show (Addr.add _ _).block ≠ _; rw [add_block]; exact hn435_0) | exact hn435_0) (.int .i64 ((rd_T23 t429 x155_5).f0))).trans hx435_0; replace hx435_0 := (cell_far (p := ⟨gb434, 1, none⟩) (by first | (rw [add_block]; exact hn435_1) | (show (Addr.add _ _).block ≠ _; rw [add_block]; exact hn435_1) | exact hn435_1) (.int .i64 ((rd_T23 t429 x155_5).f1))).trans hx435_0; replace hx435_0 := (cell_far (p := ⟨gb434, 2, none⟩) (by first | (rw [add_block]; exact hn435_2) | (show (Addr.add _ _).block ≠ _; rw [add_block]; exact hn435_2) | exact hn435_2) (.int .i64 ((rd_T23 t429 x155_5).f2))).trans hx435_0; replace hx435_0 := (cell_far (p := ⟨gb434, 3, none⟩) (by first | (rw [add_block]; exact hn435_3) | (show (Addr.add _ _).block ≠ _; rw [add_block]; exact hn435_3) | exact hn435_3) (.int .i64 ((rd_T23 t429 x155_5).f3))).trans hx435_0; replace hx435_0 := (cell_far (p := ⟨gb434, 4, none⟩) (by first | (rw [add_block]; exact hn435_4) | (show (Addr.add _ _).block ≠ _; rw [add_block]; exact hn435_4) | exact hn435_4) (.int .i64 ((rd_T23 t429 x155_5).f4))).trans hx435_0; replace hx435_0 := (cell_far (p := ⟨gb434, 5, none⟩) (by first | (rw [add_block]; exact hn435_5) | (show (Addr.add _ _).block ≠ _; rw [add_block]; exact hn435_5) | exact hn435_5) (.int .i64 ((rd_T23 t429 x155_5).f5))).trans hx435_0; (try have hy435_0 := fun (n_ : Nat) => (show ((((((((w86.drewN n_).setCell ⟨gb434, 0, none⟩ (.int .i64 ((rd_T23 t429 x155_5).f0))).setCell ⟨gb434, 1, none⟩ (.int .i64 ((rd_T23 t429 x155_5).f1))).setCell ⟨gb434, 2, none⟩ (.int .i64 ((rd_T23 t429 x155_5).f2))).setCell ⟨gb434, 3, none⟩ (.int .i64 ((rd_T23 t429 x155_5).f3))).setCell ⟨gb434, 4, none⟩ (.int .i64 ((rd_T23 t429 x155_5).f4))).setCell ⟨gb434, 5, none⟩ (.int .i64 ((rd_T23 t429 x155_5).f5)))).cell? _ = some _ from hx435_0)); clear hn435_0; clear hn435_1; clear hn435_2; clear hn435_3; clear hn435_4; clear hn435_5; replace p435 := eq_true p435; replace q435 := eq_true q435))
                                              repeat (go_quiet (first | ((with_reducible refine gate_dst (N := 19) rfl ?_); (try (refine gate_guard (by rfl) ?_; dsimp only)); refine box_event ?hg (N := 19) ?hd (cs := #[.int .i64 0, .int .i64 0, .int .i64 0, .int .i64 0, .int .i64 0, .int .i64 0]) (t := 23) ?hr ?_; (case hd => rfl); (case hg => rfl); (case hr => first | (go_simp; done) | (go_simp; rfl)); intro gb434 hg w86 hbox hb; have n0_ := Aside0.mk (Kd.R_below (by (with_reducible repeat (first | apply Kd.R_alloc | apply Kd.R_drewN | apply Kd.R_drew)); exact HO_15.out) hb); have n1_ := Aside0.mk (Kd.R_below (Kd.R_elderB (by (with_reducible repeat (first | apply Kd.R_alloc | apply Kd.R_drewN | apply Kd.R_drew)); exact HO_153.out) gb434 (Nat.le_of_eq hg.symm)) hb); have n2_ := Aside0.mk (below_step (by repeat (first | (with_reducible first | exact HB.out | apply below_alloc | apply pw_below_drewN | apply below_drew1) | exact HB.out)) hb); have n3_ := Aside0.mk (hbox); have n4_ := Aside0.mk ((by rw [hg]; exact (below_size (by repeat (first | (with_reducible first | exact HB.out | apply below_alloc | apply pw_below_drewN | apply below_drew1) | exact HB.out))) : w.heap.size ≤ gb434)); have n5_ := Aside0.mk ((by rw [hg]; exact (below_size (by repeat (first | (with_reducible first | exact HB.out | apply below_alloc | apply pw_below_drewN | apply below_drew1) | exact HB.out))) : w.heap.size ≤ gb434)); clear HO_15; clear HO_153; clear HB; have HO_15 := n0_; have HO_153 := n1_; have HB := n2_; have BK434 := n3_; have GW434 := n4_; have GE434 := n5_; clear n0_ n1_ n2_ n3_ n4_ n5_; clear hb hbox hg; have hcz87_0 : w86.cell? ⟨gb434, 0, none⟩ = some (.int .i64 0) := (blk_cell BK434.out 0).trans rfl; have hcz87_1 : w86.cell? ⟨gb434, 1, none⟩ = some (.int .i64 0) := (blk_cell BK434.out 1).trans rfl; have hcz87_2 : w86.cell? ⟨gb434, 2, none⟩ = some (.int .i64 0) := (blk_cell BK434.out 2).trans rfl; have hcz87_3 : w86.cell? ⟨gb434, 3, none⟩ = some (.int .i64 0) := (blk_cell BK434.out 3).trans rfl; have hcz87_4 : w86.cell? ⟨gb434, 4, none⟩ = some (.int .i64 0) := (blk_cell BK434.out 4).trans rfl; have hcz87_5 : w86.cell? ⟨gb434, 5, none⟩ = some (.int .i64 0) := (blk_cell BK434.out 5).trans rfl; have hfz87_0 := blk_frozen BK434.out 0; have hfz87_1 := blk_frozen BK434.out 1; have hfz87_2 := blk_frozen BK434.out 2; have hfz87_3 := blk_frozen BK434.out 3; have hfz87_4 := blk_frozen BK434.out 4; have hfz87_5 := blk_frozen BK434.out 5; obtain ⟨Ao88, co88, eo88⟩ := Kd.R_slice HO_15.out; subst eo88; have p435 : 0 ≤ (x155_5 : Int) := of_decide_eq_true (by first | (with_reducible assumption) | assumption); have q435 : x155_5 < (x15_3.length : Int) := of_decide_eq_true (by first | (with_reducible assumption) | assumption); obtain ⟨ad435, e435, hx435_0⟩ := Kd.at_int (Kd.R_reads' HO_15.out).2.2 x155_5 p435 q435; cases e435; have hn435_0 : ad435.block ≠ gb434 := Kd.own_blk (Kd.R_ne HO_15.out BK434.out (by decide)); have hn435_1 : ad435.block ≠ gb434 := Kd.own_blk (Kd.R_ne HO_15.out BK434.out (by decide)); have hn435_2 : ad435.block ≠ gb434 := Kd.own_blk (Kd.R_ne HO_15.out BK434.out (by decide)); have hn435_3 : ad435.block ≠ gb434 := Kd.own_blk (Kd.R_ne HO_15.out BK434.out (by decide)); have hn435_4 : ad435.block ≠ gb434 := Kd.own_blk (Kd.R_ne HO_15.out BK434.out (by decide)); have hn435_5 : ad435.block ≠ gb434 := Kd.own_blk (Kd.R_ne HO_15.out BK434.out (by decide)); replace hx435_0 := (cell_far (p := ⟨gb434, 0, none⟩) (by first | (rw [add_block]; exact hn435_0) | (show (Addr.add _ _).block ≠ _; rw [add_block]; exact hn435_0) | exact hn435_0) (.int .i64 ((rd_T23 t429 x155_5).f0))).trans hx435_0; replace hx435_0 := (cell_far (p := ⟨gb434, 1, none⟩) (by first | (rw [add_block]; exact hn435_1) | (show (Addr.add _ _).block ≠ _; rw [add_block]; exact hn435_1) | exact hn435_1) (.int .i64 ((rd_T23 t429 x155_5).f1))).trans hx435_0; replace hx435_0 := (cell_far (p := ⟨gb434, 2, none⟩) (by first | (rw [add_block]; exact hn435_2) | (show (Addr.add _ _).block ≠ _; rw [add_block]; exact hn435_2) | exact hn435_2) (.int .i64 ((rd_T23 t429 x155_5).f2))).trans hx435_0; replace hx435_0 := (cell_far (p := ⟨gb434, 3, none⟩) (by first | (rw [add_block]; exact hn435_3) | (show (Addr.add _ _).block ≠ _; rw [add_block]; exact hn435_3) | exact hn435_3) (.int .i64 ((rd_T23 t429 x155_5).f3))).trans hx435_0; replace hx435_0 := (cell_far (p := ⟨gb434, 4, none⟩) (by first | (rw [add_block]; exact hn435_4) | (show (Addr.add _ _).block ≠ _; rw [add_block]; exact hn435_4) | exact hn435_4) (.int .i64 ((rd_T23 t429 x155_5).f4))).trans hx435_0; replace hx435_0 := (cell_far (p := ⟨gb434, 5, none⟩) (by first | (rw [add_block]; exact hn435_5) | (show (Addr.add _ _).block ≠ _; rw [add_block]; exact hn435_5) | exact hn435_5) (.int .i64 ((rd_T23 t429 x155_5).f5))).trans hx435_0; (try have hy435_0 := fun (n_ : Nat) => (show ((((((((w86.drewN n_).setCell ⟨gb434, 0, none⟩ (.int .i64 ((rd_T23 t429 x155_5).f0))).setCell ⟨gb434, 1, none⟩ (.int .i64 ((rd_T23 t429 x155_5).f1))).setCell ⟨gb434, 2, none⟩ (.int .i64 ((rd_T23 t429 x155_5).f2))).setCell ⟨gb434, 3, none⟩ (.int .i64 ((rd_T23 t429 x155_5).f3))).setCell ⟨gb434, 4, none⟩ (.int .i64 ((rd_T23 t429 x155_5).f4))).setCell ⟨gb434, 5, none⟩ (.int .i64 ((rd_T23 t429 x155_5).f5)))).cell? _ = some _ from hx435_0)); clear hn435_0; clear hn435_1; clear hn435_2; clear hn435_3; clear hn435_4; clear hn435_5; replace p435 := eq_true p435; replace q435 := eq_true q435)); try go_wp2_with (first | ((with_reducible refine gate_dst (N := 19) rfl ?_); (try (refine gate_guard (by rfl) ?_; dsimp only)); refine box_event ?hg (N := 19) ?hd (cs := #[.int .i64 0, .int .i64 0, .int .i64 0, .int .i64 0, .int .i64 0, .int .i64 0]) (t := 23) ?hr ?_; (case hd => rfl); (case hg => rfl); (case hr => first | (go_simp; done) | (go_simp; rfl)); intro gb434 hg w86 hbox hb; have n0_ := Aside0.mk (Kd.R_below (by (with_reducible repeat (first | apply Kd.R_alloc | apply Kd.R_drewN | apply Kd.R_drew)); exact HO_15.out) hb); have n1_ := Aside0.mk (Kd.R_below (Kd.R_elderB (by (with_reducible repeat (first | apply Kd.R_alloc | apply Kd.R_drewN | apply Kd.R_drew)); exact HO_153.out) gb434 (Nat.le_of_eq hg.symm)) hb); have n2_ := Aside0.mk (below_step (by repeat (first | (with_reducible first | exact HB.out | apply below_alloc | apply pw_below_drewN | apply below_drew1) | exact HB.out)) hb); have n3_ := Aside0.mk (hbox); have n4_ := Aside0.mk ((by rw [hg]; exact (below_size (by repeat (first | (with_reducible first | exact HB.out | apply below_alloc | apply pw_below_drewN | apply below_drew1) | exact HB.out))) : w.heap.size ≤ gb434)); have n5_ := Aside0.mk ((by rw [hg]; exact (below_size (by repeat (first | (with_reducible first | exact HB.out | apply below_alloc | apply pw_below_drewN | apply below_drew1) | exact HB.out))) : w.heap.size ≤ gb434)); clear HO_15; clear HO_153; clear HB; have HO_15 := n0_; have HO_153 := n1_; have HB := n2_; have BK434 := n3_; have GW434 := n4_; have GE434 := n5_; clear n0_ n1_ n2_ n3_ n4_ n5_; clear hb hbox hg; have hcz87_0 : w86.cell? ⟨gb434, 0, none⟩ = some (.int .i64 0) := (blk_cell BK434.out 0).trans rfl; have hcz87_1 : w86.cell? ⟨gb434, 1, none⟩ = some (.int .i64 0) := (blk_cell BK434.out 1).trans rfl; have hcz87_2 : w86.cell? ⟨gb434, 2, none⟩ = some (.int .i64 0) := (blk_cell BK434.out 2).trans rfl; have hcz87_3 : w86.cell? ⟨gb434, 3, none⟩ = some (.int .i64 0) := (blk_cell BK434.out 3).trans rfl; have hcz87_4 : w86.cell? ⟨gb434, 4, none⟩ = some (.int .i64 0) := (blk_cell BK434.out 4).trans rfl; have hcz87_5 : w86.cell? ⟨gb434, 5, none⟩ = some (.int .i64 0) := (blk_cell BK434.out 5).trans rfl; have hfz87_0 := blk_frozen BK434.out 0; have hfz87_1 := blk_frozen BK434.out 1; have hfz87_2 := blk_frozen BK434.out 2; have hfz87_3 := blk_frozen BK434.out 3; have hfz87_4 := blk_frozen BK434.out 4; have hfz87_5 := blk_frozen BK434.out 5; obtain ⟨Ao88, co88, eo88⟩ := Kd.R_slice HO_15.out; subst eo88; have p435 : 0 ≤ (x155_5 : Int) := of_decide_eq_true (by first | (with_reducible assumption) | assumption); have q435 : x155_5 < (x15_3.length : Int) := of_decide_eq_true (by first | (with_reducible assumption) | assumption); obtain ⟨ad435, e435, hx435_0⟩ := Kd.at_int (Kd.R_reads' HO_15.out).2.2 x155_5 p435 q435; cases e435; have hn435_0 : ad435.block ≠ gb434 := Kd.own_blk (Kd.R_ne HO_15.out BK434.out (by decide)); have hn435_1 : ad435.block ≠ gb434 := Kd.own_blk (Kd.R_ne HO_15.out BK434.out (by decide)); have hn435_2 : ad435.block ≠ gb434 := Kd.own_blk (Kd.R_ne HO_15.out BK434.out (by decide)); have hn435_3 : ad435.block ≠ gb434 := Kd.own_blk (Kd.R_ne HO_15.out BK434.out (by decide)); have hn435_4 : ad435.block ≠ gb434 := Kd.own_blk (Kd.R_ne HO_15.out BK434.out (by decide)); have hn435_5 : ad435.block ≠ gb434 := Kd.own_blk (Kd.R_ne HO_15.out BK434.out (by decide)); replace hx435_0 := (cell_far (p := ⟨gb434, 0, none⟩) (by first | (rw [add_block]; exact hn435_0) | (show (Addr.add _ _).block ≠ _; rw [add_block]; exact hn435_0) | exact hn435_0) (.int .i64 ((rd_T23 t429 x155_5).f0))).trans hx435_0; replace hx435_0 := (cell_far (p := ⟨gb434, 1, none⟩) (by first | (rw [add_block]; exact hn435_1) | (show (Addr.add _ _).block ≠ _; rw [add_block]; exact hn435_1) | exact hn435_1) (.int .i64 ((rd_T23 t429 x155_5).f1))).trans hx435_0; replace hx435_0 := (cell_far (p := ⟨gb434, 2, none⟩) (by first | (rw [add_block]; exact hn435_2) | (show (Addr.add _ _).block ≠ _; rw [add_block]; exact hn435_2) | exact hn435_2) (.int .i64 ((rd_T23 t429 x155_5).f2))).trans hx435_0; replace hx435_0 := (cell_far (p := ⟨gb434, 3, none⟩) (by first | (rw [add_block]; exact hn435_3) | (show (Addr.add _ _).block ≠ _; rw [add_block]; exact hn435_3) | exact hn435_3) (.int .i64 ((rd_T23 t429 x155_5).f3))).trans hx435_0; replace hx435_0 := (cell_far (p := ⟨gb434, 4, none⟩) (by first | (rw [add_block]; exact hn435_4) | (show (Addr.add _ _).block ≠ _; rw [add_block]; exact hn435_4) | exact hn435_4) (.int .i64 ((rd_T23 t429 x155_5).f4))).trans hx435_0; replace hx435_0 := (cell_far (p := ⟨gb434, 5, none⟩) (by first | (rw [add_block]; exact hn435_5) | (show (Addr.add _ _).block ≠ _; rw [add_block]; exact hn435_5) | exact hn435_5) (.int .i64 ((rd_T23 t429 x155_5).f5))).trans hx435_0; (try have hy435_0 := fun (n_ : Nat) => (show ((((((((w86.drewN n_).setCell ⟨gb434, 0, none⟩ (.int .i64 ((rd_T23 t429 x155_5).f0))).setCell ⟨gb434, 1, none⟩ (.int .i64 ((rd_T23 t429 x155_5).f1))).setCell ⟨gb434, 2, none⟩ (.int .i64 ((rd_T23 t429 x155_5).f2))).setCell ⟨gb434, 3, none⟩ (.int .i64 ((rd_T23 t429 x155_5).f3))).setCell ⟨gb434, 4, none⟩ (.int .i64 ((rd_T23 t429 x155_5).f4))).setCell ⟨gb434, 5, none⟩ (.int .i64 ((rd_T23 t429 x155_5).f5)))).cell? _ = some _ from hx435_0)); clear hn435_0; clear hn435_1; clear hn435_2; clear hn435_3; clear hn435_4; clear hn435_5; replace p435 := eq_true p435; replace q435 := eq_true q435)))
                                              go_ret
                                              exact ⟨by first | rfl | (simp [errW_none, errW_some] <;> rfl) | (simp [*, errW_none, errW_some] <;> rfl), by repeat (first | (with_reducible first | exact HB.out | apply below_alloc | apply pw_below_drewN | apply below_drew1 | refine below_set ?_ GE434.out) | exact HB.out)⟩
                                          · rw [if_neg c81] at H
                                            have c81b0 : (((rd_T23 t429 x155_5).f4) == (rd x15_3 x155_5)) = false := beq_eq_false_iff_ne.mpr c81
                                            have c81b1 : (((rd_T23 t429 x155_5).f4) != (rd x15_3 x155_5)) = true := bne_iff_ne.mpr c81
                                            obtain rfl := Option.some.inj H
                                            have p433 : 0 ≤ (x155_5 : Int) := of_decide_eq_true (by first | (with_reducible assumption) | assumption)
                                            have q433 : x155_5 < (t429.length : Int) := of_decide_eq_true (by first | (with_reducible assumption) | assumption)
                                            obtain ⟨ad433, e433, hx433_0, hx433_1, hx433_2, hx433_3, hx433_4, hx433_5⟩ := at_T23 (Kd.R_reads' HO_153.out).2.2 x155_5 p433 q433
                                            cases e433
                                            replace p433 := eq_true p433
                                            replace q433 := eq_true q433
                                            go_wp2_with (first | ((with_reducible refine gate_dst (N := 19) rfl ?_); (try (refine gate_guard (by rfl) ?_; dsimp only)); refine box_event ?hg (N := 19) ?hd (cs := #[.int .i64 0, .int .i64 0, .int .i64 0, .int .i64 0, .int .i64 0, .int .i64 0]) (t := 23) ?hr ?_; (case hd => rfl); (case hg => rfl); (case hr => first | (go_simp; done) | (go_simp; rfl)); intro gb434 hg w89 hbox hb; have n0_ := Aside0.mk (Kd.R_below (by (with_reducible repeat (first | apply Kd.R_alloc | apply Kd.R_drewN | apply Kd.R_drew)); exact HO_15.out) hb); have n1_ := Aside0.mk (Kd.R_below (Kd.R_elderB (by (with_reducible repeat (first | apply Kd.R_alloc | apply Kd.R_drewN | apply Kd.R_drew)); exact HO_153.out) gb434 (Nat.le_of_eq hg.symm)) hb); have n2_ := Aside0.mk (below_step (by repeat (first | (with_reducible first | exact HB.out | apply below_alloc | apply pw_below_drewN | apply below_drew1) | exact HB.out)) hb); have n3_ := Aside0.mk (hbox); have n4_ := Aside0.mk ((by rw [hg]; exact (below_size (by repeat (first | (with_reducible first | exact HB.out | apply below_alloc | apply pw_below_drewN | apply below_drew1) | exact HB.out))) : w.heap.size ≤ gb434)); have n5_ := Aside0.mk ((by rw [hg]; exact (below_size (by repeat (first | (with_reducible first | exact HB.out | apply below_alloc | apply pw_below_drewN | apply below_drew1) | exact HB.out))) : w.heap.size ≤ gb434)); clear HO_15; clear HO_153; clear HB; have HO_15 := n0_; have HO_153 := n1_; have HB := n2_; have BK434 := n3_; have GW434 := n4_; have GE434 := n5_; clear n0_ n1_ n2_ n3_ n4_ n5_; clear hb hbox hg; have hcz90_0 : w89.cell? ⟨gb434, 0, none⟩ = some (.int .i64 0) := (blk_cell BK434.out 0).trans rfl; have hcz90_1 : w89.cell? ⟨gb434, 1, none⟩ = some (.int .i64 0) := (blk_cell BK434.out 1).trans rfl; have hcz90_2 : w89.cell? ⟨gb434, 2, none⟩ = some (.int .i64 0) := (blk_cell BK434.out 2).trans rfl; have hcz90_3 : w89.cell? ⟨gb434, 3, none⟩ = some (.int .i64 0) := (blk_cell BK434.out 3).trans rfl; have hcz90_4 : w89.cell? ⟨gb434, 4, none⟩ = some (.int .i64 0) := (blk_cell BK434.out 4).trans rfl; have hcz90_5 : w89.cell? ⟨gb434, 5, none⟩ = some (.int .i64 0) := (blk_cell BK434.out 5).trans rfl; have hfz90_0 := blk_frozen BK434.out 0; have hfz90_1 := blk_frozen BK434.out 1; have hfz90_2 := blk_frozen BK434.out 2; have hfz90_3 := blk_frozen BK434.out 3; have hfz90_4 := blk_frozen BK434.out 4; have hfz90_5 := blk_frozen BK434.out 5; obtain ⟨Ao91, co91, eo91⟩ := Kd.R_slice HO_15.out; subst eo91; have p435 : 0 ≤ (x155_5 : Int) := of_decide_eq_true (by first | (with_reducible assumption) | assumption); have q435 : x155_5 < (x15_3.length : Int) := of_decide_eq_true (by first | (with_reducible assumption) | assumption); obtain ⟨ad435, e435, hx435_0⟩ := Kd.at_int (Kd.R_reads' HO_15.out).2.2 x155_5 p435 q435; cases e435; have hn435_0 : ad435.block ≠ gb434 := Kd.own_blk (Kd.R_ne HO_15.out BK434.out (by decide)); have hn435_1 : ad435.block ≠ gb434 := Kd.own_blk (Kd.R_ne HO_15.out BK434.out (by decide)); have hn435_2 : ad435.block ≠ gb434 := Kd.own_blk (Kd.R_ne HO_15.out BK434.out (by decide)); have hn435_3 : ad435.block ≠ gb434 := Kd.own_blk (Kd.R_ne HO_15.out BK434.out (by decide)); have hn435_4 : ad435.block ≠ gb434 := Kd.own_blk (Kd.R_ne HO_15.out BK434.out (by decide)); have hn435_5 : ad435.block ≠ gb434 := Kd.own_blk (Kd.R_ne HO_15.out BK434.out (by decide)); replace hx435_0 := (cell_far (p := ⟨gb434, 0, none⟩) (by first | (rw [add_block]; exact hn435_0) | (show (Addr.add _ _).block ≠ _; rw [add_block]; exact hn435_0) | exact hn435_0) (.int .i64 ((rd_T23 t429 x155_5).f0))).trans hx435_0; replace hx435_0 := (cell_far (p := ⟨gb434, 1, none⟩) (by first | (rw [add_block]; exact hn435_1) | (show (Addr.add _ _).block ≠ _; rw [add_block]; exact hn435_1) | exact hn435_1) (.int .i64 ((rd_T23 t429 x155_5).f1))).trans hx435_0; replace hx435_0 := (cell_far (p := ⟨gb434, 2, none⟩) (by first | (rw [add_block]; exact hn435_2) | (show (Addr.add _ _).block ≠ _; rw [add_block]; exact hn435_2) | exact hn435_2) (.int .i64 ((rd_T23 t429 x155_5).f2))).trans hx435_0; replace hx435_0 := (cell_far (p := ⟨gb434, 3, none⟩) (by first | (rw [add_block]; exact hn435_3) | (show (Addr.add _ _).block ≠ _; rw [add_block]; exact hn435_3) | exact hn435_3) (.int .i64 ((rd_T23 t429 x155_5).f3))).trans hx435_0; replace hx435_0 := (cell_far (p := ⟨gb434, 4, none⟩) (by first | (rw [add_block]; exact hn435_4) | (show (Addr.add _ _).block ≠ _; rw [add_block]; exact hn435_4) | exact hn435_4) (.int .i64 ((rd_T23 t429 x155_5).f4))).trans hx435_0; replace hx435_0 := (cell_far (p := ⟨gb434, 5, none⟩) (by first | (rw [add_block]; exact hn435_5) | (show (Addr.add _ _).block ≠ _; rw [add_block]; exact hn435_5) | exact hn435_5) (.int .i64 ((rd_T23 t429 x155_5).f5))).trans hx435_0; (try have hy435_0 := fun (n_ : Nat) => (show ((((((((w89.drewN n_).setCell ⟨gb434, 0, none⟩ (.int .i64 ((rd_T23 t429 x155_5).f0))).setCell ⟨gb434, 1, none⟩ (.int .i64 ((rd_T23 t429 x155_5).f1))).setCell ⟨gb434, 2, none⟩ (.int .i64 ((rd_T23 t429 x155_5).f2))).setCell ⟨gb434, 3, none⟩ (.int .i64 ((rd_T23 t429 x155_5).f3))).setCell ⟨gb434, 4, none⟩ (.int .i64 ((rd_T23 t429 x155_5).f4))).setCell ⟨gb434, 5, none⟩ (.int .i64 ((rd_T23 t429 x155_5).f5)))).cell? _ = some _ from hx435_0)); clear hn435_0; clear hn435_1; clear hn435_2; clear hn435_3; clear hn435_4; clear hn435_5; replace p435 := eq_true p435; replace q435 := eq_true q435))
                                            repeat (go_quiet (first | ((with_reducible refine gate_dst (N := 19) rfl ?_); (try (refine gate_guard (by rfl) ?_; dsimp only)); refine box_event ?hg (N := 19) ?hd (cs := #[.int .i64 0, .int .i64 0, .int .i64 0, .int .i64 0, .int .i64 0, .int .i64 0]) (t := 23) ?hr ?_; (case hd => rfl); (case hg => rfl); (case hr => first | (go_simp; done) | (go_simp; rfl)); intro gb434 hg w89 hbox hb; have n0_ := Aside0.mk (Kd.R_below (by (with_reducible repeat (first | apply Kd.R_alloc | apply Kd.R_drewN | apply Kd.R_drew)); exact HO_15.out) hb); have n1_ := Aside0.mk (Kd.R_below (Kd.R_elderB (by (with_reducible repeat (first | apply Kd.R_alloc | apply Kd.R_drewN | apply Kd.R_drew)); exact HO_153.out) gb434 (Nat.le_of_eq hg.symm)) hb); have n2_ := Aside0.mk (below_step (by repeat (first | (with_reducible first | exact HB.out | apply below_alloc | apply pw_below_drewN | apply below_drew1) | exact HB.out)) hb); have n3_ := Aside0.mk (hbox); have n4_ := Aside0.mk ((by rw [hg]; exact (below_size (by repeat (first | (with_reducible first | exact HB.out | apply below_alloc | apply pw_below_drewN | apply below_drew1) | exact HB.out))) : w.heap.size ≤ gb434)); have n5_ := Aside0.mk ((by rw [hg]; exact (below_size (by repeat (first | (with_reducible first | exact HB.out | apply below_alloc | apply pw_below_drewN | apply below_drew1) | exact HB.out))) : w.heap.size ≤ gb434)); clear HO_15; clear HO_153; clear HB; have HO_15 := n0_; have HO_153 := n1_; have HB := n2_; have BK434 := n3_; have GW434 := n4_; have GE434 := n5_; clear n0_ n1_ n2_ n3_ n4_ n5_; clear hb hbox hg; have hcz90_0 : w89.cell? ⟨gb434, 0, none⟩ = some (.int .i64 0) := (blk_cell BK434.out 0).trans rfl; have hcz90_1 : w89.cell? ⟨gb434, 1, none⟩ = some (.int .i64 0) := (blk_cell BK434.out 1).trans rfl; have hcz90_2 : w89.cell? ⟨gb434, 2, none⟩ = some (.int .i64 0) := (blk_cell BK434.out 2).trans rfl; have hcz90_3 : w89.cell? ⟨gb434, 3, none⟩ = some (.int .i64 0) := (blk_cell BK434.out 3).trans rfl; have hcz90_4 : w89.cell? ⟨gb434, 4, none⟩ = some (.int .i64 0) := (blk_cell BK434.out 4).trans rfl; have hcz90_5 : w89.cell? ⟨gb434, 5, none⟩ = some (.int .i64 0) := (blk_cell BK434.out 5).trans rfl; have hfz90_0 := blk_frozen BK434.out 0; have hfz90_1 := blk_frozen BK434.out 1; have hfz90_2 := blk_frozen BK434.out 2; have hfz90_3 := blk_frozen BK434.out 3; have hfz90_4 := blk_frozen BK434.out 4; have hfz90_5 := blk_frozen BK434.out 5; obtain ⟨Ao91, co91, eo91⟩ := Kd.R_slice HO_15.out; subst eo91; have p435 : 0 ≤ (x155_5 : Int) := of_decide_eq_true (by first | (with_reducible assumption) | assumption); have q435 : x155_5 < (x15_3.length : Int) := of_decide_eq_true (by first | (with_reducible assumption) | assumption); obtain ⟨ad435, e435, hx435_0⟩ := Kd.at_int (Kd.R_reads' HO_15.out).2.2 x155_5 p435 q435; cases e435; have hn435_0 : ad435.block ≠ gb434 := Kd.own_blk (Kd.R_ne HO_15.out BK434.out (by decide)); have hn435_1 : ad435.block ≠ gb434 := Kd.own_blk (Kd.R_ne HO_15.out BK434.out (by decide)); have hn435_2 : ad435.block ≠ gb434 := Kd.own_blk (Kd.R_ne HO_15.out BK434.out (by decide)); have hn435_3 : ad435.block ≠ gb434 := Kd.own_blk (Kd.R_ne HO_15.out BK434.out (by decide)); have hn435_4 : ad435.block ≠ gb434 := Kd.own_blk (Kd.R_ne HO_15.out BK434.out (by decide)); have hn435_5 : ad435.block ≠ gb434 := Kd.own_blk (Kd.R_ne HO_15.out BK434.out (by decide)); replace hx435_0 := (cell_far (p := ⟨gb434, 0, none⟩) (by first | (rw [add_block]; exact hn435_0) | (show (Addr.add _ _).block ≠ _; rw [add_block]; exact hn435_0) | exact hn435_0) (.int .i64 ((rd_T23 t429 x155_5).f0))).trans hx435_0; replace hx435_0 := (cell_far (p := ⟨gb434, 1, none⟩) (by first | (rw [add_block]; exact hn435_1) | (show (Addr.add _ _).block ≠ _; rw [add_block]; exact hn435_1) | exact hn435_1) (.int .i64 ((rd_T23 t429 x155_5).f1))).trans hx435_0; replace hx435_0 := (cell_far (p := ⟨gb434, 2, none⟩) (by first | (rw [add_block]; exact hn435_2) | (show (Addr.add _ _).block ≠ _; rw [add_block]; exact hn435_2) | exact hn435_2) (.int .i64 ((rd_T23 t429 x155_5).f2))).trans hx435_0; replace hx435_0 := (cell_far (p := ⟨gb434, 3, none⟩) (by first | (rw [add_block]; exact hn435_3) | (show (Addr.add _ _).block ≠ _; rw [add_block]; exact hn435_3) | exact hn435_3) (.int .i64 ((rd_T23 t429 x155_5).f3))).trans hx435_0; replace hx435_0 := (cell_far (p := ⟨gb434, 4, none⟩) (by first | (rw [add_block]; exact hn435_4) | (show (Addr.add _ _).block ≠ _; rw [add_block]; exact hn435_4) | exact hn435_4) (.int .i64 ((rd_T23 t429 x155_5).f4))).trans hx435_0; replace hx435_0 := (cell_far (p := ⟨gb434, 5, none⟩) (by first | (rw [add_block]; exact hn435_5) | (show (Addr.add _ _).block ≠ _; rw [add_block]; exact hn435_5) | exact hn435_5) (.int .i64 ((rd_T23 t429 x155_5).f5))).trans hx435_0; (try have hy435_0 := fun (n_ : Nat) => (show ((((((((w89.drewN n_).setCell ⟨gb434, 0, none⟩ (.int .i64 ((rd_T23 t429 x155_5).f0))).setCell ⟨gb434, 1, none⟩ (.int .i64 ((rd_T23 t429 x155_5).f1))).setCell ⟨gb434, 2, none⟩ (.int .i64 ((rd_T23 t429 x155_5).f2))).setCell ⟨gb434, 3, none⟩ (.int .i64 ((rd_T23 t429 x155_5).f3))).setCell ⟨gb434, 4, none⟩ (.int .i64 ((rd_T23 t429 x155_5).f4))).setCell ⟨gb434, 5, none⟩ (.int .i64 ((rd_T23 t429 x155_5).f5)))).cell? _ = some _ from hx435_0)); clear hn435_0; clear hn435_1; clear hn435_2; clear hn435_3; clear hn435_4; clear hn435_5; replace p435 := eq_true p435; replace q435 := eq_true q435)); try go_wp2_with (first | ((with_reducible refine gate_dst (N := 19) rfl ?_); (try (refine gate_guard (by rfl) ?_; dsimp only)); refine box_event ?hg (N := 19) ?hd (cs := #[.int .i64 0, .int .i64 0, .int .i64 0, .int .i64 0, .int .i64 0, .int .i64 0]) (t := 23) ?hr ?_; (case hd => rfl); (case hg => rfl); (case hr => first | (go_simp; done) | (go_simp; rfl)); intro gb434 hg w89 hbox hb; have n0_ := Aside0.mk (Kd.R_below (by (with_reducible repeat (first | apply Kd.R_alloc | apply Kd.R_drewN | apply Kd.R_drew)); exact HO_15.out) hb); have n1_ := Aside0.mk (Kd.R_below (Kd.R_elderB (by (with_reducible repeat (first | apply Kd.R_alloc | apply Kd.R_drewN | apply Kd.R_drew)); exact HO_153.out) gb434 (Nat.le_of_eq hg.symm)) hb); have n2_ := Aside0.mk (below_step (by repeat (first | (with_reducible first | exact HB.out | apply below_alloc | apply pw_below_drewN | apply below_drew1) | exact HB.out)) hb); have n3_ := Aside0.mk (hbox); have n4_ := Aside0.mk ((by rw [hg]; exact (below_size (by repeat (first | (with_reducible first | exact HB.out | apply below_alloc | apply pw_below_drewN | apply below_drew1) | exact HB.out))) : w.heap.size ≤ gb434)); have n5_ := Aside0.mk ((by rw [hg]; exact (below_size (by repeat (first | (with_reducible first | exact HB.out | apply below_alloc | apply pw_below_drewN | apply below_drew1) | exact HB.out))) : w.heap.size ≤ gb434)); clear HO_15; clear HO_153; clear HB; have HO_15 := n0_; have HO_153 := n1_; have HB := n2_; have BK434 := n3_; have GW434 := n4_; have GE434 := n5_; clear n0_ n1_ n2_ n3_ n4_ n5_; clear hb hbox hg; have hcz90_0 : w89.cell? ⟨gb434, 0, none⟩ = some (.int .i64 0) := (blk_cell BK434.out 0).trans rfl; have hcz90_1 : w89.cell? ⟨gb434, 1, none⟩ = some (.int .i64 0) := (blk_cell BK434.out 1).trans rfl; have hcz90_2 : w89.cell? ⟨gb434, 2, none⟩ = some (.int .i64 0) := (blk_cell BK434.out 2).trans rfl; have hcz90_3 : w89.cell? ⟨gb434, 3, none⟩ = some (.int .i64 0) := (blk_cell BK434.out 3).trans rfl; have hcz90_4 : w89.cell? ⟨gb434, 4, none⟩ = some (.int .i64 0) := (blk_cell BK434.out 4).trans rfl; have hcz90_5 : w89.cell? ⟨gb434, 5, none⟩ = some (.int .i64 0) := (blk_cell BK434.out 5).trans rfl; have hfz90_0 := blk_frozen BK434.out 0; have hfz90_1 := blk_frozen BK434.out 1; have hfz90_2 := blk_frozen BK434.out 2; have hfz90_3 := blk_frozen BK434.out 3; have hfz90_4 := blk_frozen BK434.out 4; have hfz90_5 := blk_frozen BK434.out 5; obtain ⟨Ao91, co91, eo91⟩ := Kd.R_slice HO_15.out; subst eo91; have p435 : 0 ≤ (x155_5 : Int) := of_decide_eq_true (by first | (with_reducible assumption) | assumption); have q435 : x155_5 < (x15_3.length : Int) := of_decide_eq_true (by first | (with_reducible assumption) | assumption); obtain ⟨ad435, e435, hx435_0⟩ := Kd.at_int (Kd.R_reads' HO_15.out).2.2 x155_5 p435 q435; cases e435; have hn435_0 : ad435.block ≠ gb434 := Kd.own_blk (Kd.R_ne HO_15.out BK434.out (by decide)); have hn435_1 : ad435.block ≠ gb434 := Kd.own_blk (Kd.R_ne HO_15.out BK434.out (by decide)); have hn435_2 : ad435.block ≠ gb434 := Kd.own_blk (Kd.R_ne HO_15.out BK434.out (by decide)); have hn435_3 : ad435.block ≠ gb434 := Kd.own_blk (Kd.R_ne HO_15.out BK434.out (by decide)); have hn435_4 : ad435.block ≠ gb434 := Kd.own_blk (Kd.R_ne HO_15.out BK434.out (by decide)); have hn435_5 : ad435.block ≠ gb434 := Kd.own_blk (Kd.R_ne HO_15.out BK434.out (by decide)); replace hx435_0 := (cell_far (p := ⟨gb434, 0, none⟩) (by first | (rw [add_block]; exact hn435_0) | (show (Addr.add _ _).block ≠ _; rw [add_block]; exact hn435_0) | exact hn435_0) (.int .i64 ((rd_T23 t429 x155_5).f0))).trans hx435_0; replace hx435_0 := (cell_far (p := ⟨gb434, 1, none⟩) (by first | (rw [add_block]; exact hn435_1) | (show (Addr.add _ _).block ≠ _; rw [add_block]; exact hn435_1) | exact hn435_1) (.int .i64 ((rd_T23 t429 x155_5).f1))).trans hx435_0; replace hx435_0 := (cell_far (p := ⟨gb434, 2, none⟩) (by first | (rw [add_block]; exact hn435_2) | (show (Addr.add _ _).block ≠ _; rw [add_block]; exact hn435_2) | exact hn435_2) (.int .i64 ((rd_T23 t429 x155_5).f2))).trans hx435_0; replace hx435_0 := (cell_far (p := ⟨gb434, 3, none⟩) (by first | (rw [add_block]; exact hn435_3) | (show (Addr.add _ _).block ≠ _; rw [add_block]; exact hn435_3) | exact hn435_3) (.int .i64 ((rd_T23 t429 x155_5).f3))).trans hx435_0; replace hx435_0 := (cell_far (p := ⟨gb434, 4, none⟩) (by first | (rw [add_block]; exact hn435_4) | (show (Addr.add _ _).block ≠ _; rw [add_block]; exact hn435_4) | exact hn435_4) (.int .i64 ((rd_T23 t429 x155_5).f4))).trans hx435_0; replace hx435_0 := (cell_far (p := ⟨gb434, 5, none⟩) (by first | (rw [add_block]; exact hn435_5) | (show (Addr.add _ _).block ≠ _; rw [add_block]; exact hn435_5) | exact hn435_5) (.int .i64 ((rd_T23 t429 x155_5).f5))).trans hx435_0; (try have hy435_0 := fun (n_ : Nat) => (show ((((((((w89.drewN n_).setCell ⟨gb434, 0, none⟩ (.int .i64 ((rd_T23 t429 x155_5).f0))).setCell ⟨gb434, 1, none⟩ (.int .i64 ((rd_T23 t429 x155_5).f1))).setCell ⟨gb434, 2, none⟩ (.int .i64 ((rd_T23 t429 x155_5).f2))).setCell ⟨gb434, 3, none⟩ (.int .i64 ((rd_T23 t429 x155_5).f3))).setCell ⟨gb434, 4, none⟩ (.int .i64 ((rd_T23 t429 x155_5).f4))).setCell ⟨gb434, 5, none⟩ (.int .i64 ((rd_T23 t429 x155_5).f5)))).cell? _ = some _ from hx435_0)); clear hn435_0; clear hn435_1; clear hn435_2; clear hn435_3; clear hn435_4; clear hn435_5; replace p435 := eq_true p435; replace q435 := eq_true q435)))
                                            go_ret
                                            exact ⟨by first | rfl | (simp [errW_none, errW_some] <;> rfl) | (simp [*, errW_none, errW_some] <;> rfl), by repeat (first | (with_reducible first | exact HB.out | apply below_alloc | apply pw_below_drewN | apply below_drew1 | refine below_set ?_ GE434.out) | exact HB.out)⟩
                                        · rw [if_neg c80] at H
                                          exact absurd H (by simp)
                                      · rw [if_neg c79] at H
                                        exact absurd H (by simp)
                                    · rw [if_neg c78] at H
                                      exact absurd H (by simp)
                                  · rw [if_neg c77] at H
                                    have c77b0 : decide (x155_5 < (t429.length : Int)) = false := decide_eq_false c77
                                    clear c77
                                    obtain rfl := Option.some.inj H
                                    go_wp2
                                    repeat (go_quiet (fail); try go_wp2)
                                    go_ret
                                    exact ⟨by first | rfl | (simp [errW_none, errW_some] <;> rfl) | (simp [*, errW_none, errW_some] <;> rfl), by repeat (first | (with_reducible first | exact HB.out | apply below_alloc | apply pw_below_drewN | apply below_drew1) | exact HB.out)⟩
          · rw [if_neg c16] at H
            exact absurd H (by simp)
  · replace c5 := Bool.eq_false_iff.mpr c5
    subst c5
    have H1 : (some false) = some r := by rw [if_neg (show ¬ (false = true) by decide)] at H; exact H
    clear H
    have H := H1
    clear H1
    obtain rfl := Option.some.inj H
    go_enter Try.func9, Try.ntmps9
    go_wp2_with (first | (go_at_call 10; (with_reducible refine (hopmeshlaw22_awake.calls k  false _ A4.out).mono ?_); rintro e w92 ⟨rfl, hb⟩; have n0_ := Aside0.mk (below_step (by repeat (first | (with_reducible first | exact HB.out | apply below_alloc | apply pw_below_drewN | apply below_drew1) | exact HB.out)) hb); clear HB; have HB := n0_; clear n0_; (try clear hb); (try clear hb2); (try clear hk); (try clear hi)))
    repeat (go_quiet (first | (go_at_call 10; (with_reducible refine (hopmeshlaw22_awake.calls k  false _ A4.out).mono ?_); rintro e w92 ⟨rfl, hb⟩; have n0_ := Aside0.mk (below_step (by repeat (first | (with_reducible first | exact HB.out | apply below_alloc | apply pw_below_drewN | apply below_drew1) | exact HB.out)) hb); clear HB; have HB := n0_; clear n0_; (try clear hb); (try clear hb2); (try clear hk); (try clear hi))); try go_wp2_with (first | (go_at_call 10; (with_reducible refine (hopmeshlaw22_awake.calls k  false _ A4.out).mono ?_); rintro e w92 ⟨rfl, hb⟩; have n0_ := Aside0.mk (below_step (by repeat (first | (with_reducible first | exact HB.out | apply below_alloc | apply pw_below_drewN | apply below_drew1) | exact HB.out)) hb); clear HB; have HB := n0_; clear n0_; (try clear hb); (try clear hb2); (try clear hk); (try clear hi))))
    go_ret
    exact ⟨by first | rfl | (simp [errW_none, errW_some] <;> rfl) | (simp [*, errW_none, errW_some] <;> rfl), by repeat (first | (with_reducible first | exact HB.out | apply below_alloc | apply pw_below_drewN | apply below_drew1) | exact HB.out)⟩

end Go.Proofs.Ytigobnphenhkjaa.Fns
