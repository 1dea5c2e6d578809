-- Written by the kit's print.py over this seat's translation (run by wip/gprint.py); a text of this claim.
import Derived.Test.YtokapofgbcbajaaFx0
namespace Go.Proofs.Ytokapofgbcbajaa.Fns
open Go.RowKit Go.Proofs.YtokapofgbcbajaaW.PrintWords Go.Proofs.YtokapofgbcbajaaW.PrintLast Go.Proofs.YtokapofgbcbajaaW.PrintMore
attribute [local go_sem] max2_int min2_int max_two min_two max_three min_three max_four min_four   -- for this text's walks alone
set_option linter.unusedVariables false
set_option linter.unusedSimpArgs false

/-! ### hopmeshref15_Split: function 12 -/
mutual
def hopmeshref15_Split.j0 : Nat → Int → ByteArray → Int → Bool → Option ((List (S23)) × Int)
  | 0, _, _, _, _ => none
  | k + 1, x0, x1, x2, x24 => if x24 = true then (some (([] : List (S23)), 2)) else (if x1.toList = ([] : List UInt8) then (some (([] : List (S23)), 14)) else (if x2 = 0 then (none) else (if (x1.size : Int) > 4095 then (hopmeshref15_Split.j1 k x0 x1 x2 (wrap64 (Int.tdiv (wrap64 ((wrap64 ((x1.size : Int) + x2)) - 1)) x2)) true) else (hopmeshref15_Split.j1 k x0 x1 x2 (wrap64 (Int.tdiv (wrap64 ((wrap64 ((x1.size : Int) + x2)) - 1)) x2)) (decide ((wrap64 (Int.tdiv (wrap64 ((wrap64 ((x1.size : Int) + x2)) - 1)) x2)) > 32))))))
def hopmeshref15_Split.j1 : Nat → Int → ByteArray → Int → Int → Bool → Option ((List (S23)) × Int)
  | 0, _, _, _, _, _ => none
  | k + 1, x0, x1, x2, x8, x40 => if x40 = true then (some (([] : List (S23)), 8)) else (hopmeshref15_Split.l0 k x0 x1 x2 x8 (([] : List (S23))) 0)
def hopmeshref15_Split.l0 : Nat → Int → ByteArray → Int → Int → List (S23) → Int → Option ((List (S23)) × Int)
  | 0, _, _, _, _, _, _ => none
  | k + 1, x0, x1, x2, x8, x9, x10 => if x10 < x8 then (if 0 ≤ (wrap64 (x10 * x2)) then (if (wrap64 (x10 * x2)) ≤ (mn (wrap64 ((wrap64 (x10 + 1)) * x2)) (x1.size : Int)) then (if (mn (wrap64 ((wrap64 (x10 + 1)) * x2)) (x1.size : Int)) ≤ (x1.size : Int) then (if x9.length < 2932031007402 then (hopmeshref15_Split.l0 k x0 x1 x2 x8 (x9 ++ [(⟨x0, x10, x8, (x1.size : Int), x1.extract ((wrap64 (x10 * x2)) : Int).toNat ((mn (wrap64 ((wrap64 (x10 + 1)) * x2)) (x1.size : Int)) : Int).toNat⟩ : S23)]) (wrap64 (x10 + 1))) else (none)) else (none)) else (none)) else (none)) else (some (x9, 0))
end
def hopmeshref15_Split.f (k : Nat) (a0 : Int) (a1 : ByteArray) (a2 : Int) : Option ((List (S23)) × Int) := if a0 < 0 then (hopmeshref15_Split.j0 k a0 a1 a2 true) else (if a0 > 255 then (hopmeshref15_Split.j0 k a0 a1 a2 true) else (if a2 < 1 then (hopmeshref15_Split.j0 k a0 a1 a2 true) else (hopmeshref15_Split.j0 k a0 a1 a2 (decide (a2 > 120)))))
theorem hopmeshref15_Split.mono_l : ∀ k, (∀ y0 y1 y2 y3, LeO (hopmeshref15_Split.j0 k y0 y1 y2 y3) (hopmeshref15_Split.j0 (k + 1) y0 y1 y2 y3)) ∧ (∀ y0 y1 y2 y3 y4, LeO (hopmeshref15_Split.j1 k y0 y1 y2 y3 y4) (hopmeshref15_Split.j1 (k + 1) y0 y1 y2 y3 y4)) ∧ (∀ y0 y1 y2 y3 y4 y5, LeO (hopmeshref15_Split.l0 k y0 y1 y2 y3 y4 y5) (hopmeshref15_Split.l0 (k + 1) y0 y1 y2 y3 y4 y5))
  | 0 => ⟨fun _ _ _ _ r h => by simp [hopmeshref15_Split.j0] at h, fun _ _ _ _ _ r h => by simp [hopmeshref15_Split.j1] at h, fun _ _ _ _ _ _ r h => by simp [hopmeshref15_Split.l0] at h⟩
  | k + 1 => by
    obtain ⟨ih0, ih1, ih2⟩ := hopmeshref15_Split.mono_l k
    refine ⟨?_, ?_, ?_⟩
    · intro y0 y1 y2 y3
      unfold hopmeshref15_Split.j0
      repeat' first
      | (with_reducible exact ih0 _ _ _ _)
      | (with_reducible exact ih1 _ _ _ _ _)
      | (with_reducible exact ih2 _ _ _ _ _ _)
      | (with_reducible exact LeO.refl _)
      | (with_reducible exact LeO.none _)
      | (with_reducible refine LeO.ite ?_ ?_)
      | (with_reducible refine LeO.bind ?_ (fun _ => ?_))
      | exact ih0 _ _ _ _
      | exact ih1 _ _ _ _ _
      | exact ih2 _ _ _ _ _ _
      | exact LeO.none _
      | refine LeO.ite ?_ ?_
      | refine LeO.bind ?_ (fun _ => ?_)
    · intro y0 y1 y2 y3 y4
      unfold hopmeshref15_Split.j1
      repeat' first
      | (with_reducible exact ih0 _ _ _ _)
      | (with_reducible exact ih1 _ _ _ _ _)
      | (with_reducible exact ih2 _ _ _ _ _ _)
      | (with_reducible exact LeO.refl _)
      | (with_reducible exact LeO.none _)
      | (with_reducible refine LeO.ite ?_ ?_)
      | (with_reducible refine LeO.bind ?_ (fun _ => ?_))
      | exact ih0 _ _ _ _
      | exact ih1 _ _ _ _ _
      | exact ih2 _ _ _ _ _ _
      | exact LeO.none _
      | refine LeO.ite ?_ ?_
      | refine LeO.bind ?_ (fun _ => ?_)
    · intro y0 y1 y2 y3 y4 y5
      unfold hopmeshref15_Split.l0
      repeat' first
      | (with_reducible exact ih0 _ _ _ _)
      | (with_reducible exact ih1 _ _ _ _ _)
      | (with_reducible exact ih2 _ _ _ _ _ _)
      | (with_reducible exact LeO.refl _)
      | (with_reducible exact LeO.none _)
      | (with_reducible refine LeO.ite ?_ ?_)
      | (with_reducible refine LeO.bind ?_ (fun _ => ?_))
      | exact ih0 _ _ _ _
      | exact ih1 _ _ _ _ _
      | exact ih2 _ _ _ _ _ _
      | exact LeO.none _
      | refine LeO.ite ?_ ?_
      | refine LeO.bind ?_ (fun _ => ?_)
theorem hopmeshref15_Split.mono : ∀ a0 a1 a2 k, LeO (hopmeshref15_Split.f k a0 a1 a2) (hopmeshref15_Split.f (k + 1) a0 a1 a2) := by
  intro a0 a1 a2 k
  obtain ⟨ih0, ih1, ih2⟩ := hopmeshref15_Split.mono_l k
  unfold hopmeshref15_Split.f
  repeat' first
      | (with_reducible exact ih0 _ _ _ _)
      | (with_reducible exact ih1 _ _ _ _ _)
      | (with_reducible exact ih2 _ _ _ _ _ _)
      | (with_reducible exact LeO.refl _)
      | (with_reducible exact LeO.none _)
      | (with_reducible refine LeO.ite ?_ ?_)
      | (with_reducible refine LeO.bind ?_ (fun _ => ?_))
      | exact ih0 _ _ _ _
      | exact ih1 _ _ _ _ _
      | exact ih2 _ _ _ _ _ _
      | exact LeO.none _
      | refine LeO.ite ?_ ?_
      | refine LeO.bind ?_ (fun _ => ?_)
set_option maxHeartbeats 8000000 in
set_option maxRecDepth 100000 in
theorem hopmeshref15_Split.calls (k : Nat) (a0 : Int) (a1 : ByteArray) (a2 : Int) (r1 : List (S23)) (r2 : Int) (w : World) (h : hopmeshref15_Split.f k a0 a1 a2 = some (r1, r2)) :
    Calls Try.prog 12 #[.int .i64 a0, .string a1, .int .i64 a2] w fun e w' => ∃ v0_ : Value, e = .returned (.tuple #[v0_, .int .i64 r2]) ∧ Kd.R k23 23 w' w.heap.size (fun _ => True) v0_ r1 ∧ Below w.heap.size w w' := by
  have hu23 := Try.underlying23
  have HB := Aside0.mk (Below.refl w.heap.size w)
  have H : (if a0 < 0 then (hopmeshref15_Split.j0 k a0 a1 a2 true) else (if a0 > 255 then (hopmeshref15_Split.j0 k a0 a1 a2 true) else (if a2 < 1 then (hopmeshref15_Split.j0 k a0 a1 a2 true) else (hopmeshref15_Split.j0 k a0 a1 a2 (decide (a2 > 120)))))) = some (r1, r2) := h
  clear h
  have HC4 := Aside0.mk H
  clear H
  go_enter Try.func12, Try.ntmps12
  go_upto_region 1 with (fail)
  go_cut [24] (fun v24 wc => ∃ (kq : Nat) (x24_3 : Bool), v24 = .bool x24_3 ∧ Aside0 (hopmeshref15_Split.j0 kq a0 a1 a2 x24_3 = some (r1, r2)) ∧ Aside0 (kq ≤ k) ∧ Aside0 (Below w.heap.size w wc))
  case first =>
    have H := HC4.out
    clear HC4
    by_cases c5 : a0 < 0
    · rw [if_pos c5] at H
      have c5b0 : decide (a0 < 0) = true := decide_eq_true c5
      clear c5
      (first | rw [c5b0] | (simp only [i64_w, i32_w]; rw [c5b0]) | skip)
      have H' := Aside0.mk H
      clear H
      go_wp2
      go_meet
      case rel => exact ⟨_, (true), (by first | rfl | (simp; done) | (simp [*]; done)), H', ⟨by first | omega | exact Nat.le_refl _⟩, ⟨by repeat (first | (with_reducible first | exact HB.out | apply below_alloc | apply pw_below_drewN | apply below_drew1) | exact HB.out)⟩⟩
    · rw [if_neg c5] at H
      have c5b0 : decide (a0 < 0) = false := decide_eq_false c5
      clear c5
      (first | rw [c5b0] | (simp only [i64_w, i32_w]; rw [c5b0]) | skip)
      by_cases c6 : a0 > 255
      · rw [if_pos c6] at H
        have c6b0 : decide (255 < a0) = true := decide_eq_true c6
        clear c6
        have H' := Aside0.mk H
        clear H
        go_wp2
        go_meet
        case rel => exact ⟨_, (true), (by first | rfl | (simp; done) | (simp [*]; done)), H', ⟨by first | omega | exact Nat.le_refl _⟩, ⟨by repeat (first | (with_reducible first | exact HB.out | apply below_alloc | apply pw_below_drewN | apply below_drew1) | exact HB.out)⟩⟩
      · rw [if_neg c6] at H
        have c6b0 : decide (255 < a0) = false := decide_eq_false c6
        clear c6
        by_cases c7 : a2 < 1
        · rw [if_pos c7] at H
          have c7b0 : decide (a2 < 1) = true := decide_eq_true c7
          clear c7
          have H' := Aside0.mk H
          clear H
          go_wp2
          go_meet
          case rel => exact ⟨_, (true), (by first | rfl | (simp; done) | (simp [*]; done)), H', ⟨by first | omega | exact Nat.le_refl _⟩, ⟨by repeat (first | (with_reducible first | exact HB.out | apply below_alloc | apply pw_below_drewN | apply below_drew1) | exact HB.out)⟩⟩
        · rw [if_neg c7] at H
          have c7b0 : decide (a2 < 1) = false := decide_eq_false c7
          clear c7
          have H' := Aside0.mk H
          clear H
          go_wp2
          go_meet
          case rel => exact ⟨_, (decide (a2 > 120)), (by first | rfl | (simp; done) | (simp [*]; done)), H', ⟨by first | omega | exact Nat.le_refl _⟩, ⟨by repeat (first | (with_reducible first | exact HB.out | apply below_alloc | apply pw_below_drewN | apply below_drew1) | exact HB.out)⟩⟩
  case rest =>
    clear HC4
    try clear c1
    try clear p2
    try clear c5
    try clear c5b0
    try clear c6
    try clear c6b0
    try clear c7
    try clear c7b0
    obtain ⟨kq, x24_3, rfl, HA, HJ3, HB⟩ := hcut
    cases kq with
    | zero => exact absurd HA.out (by simp [hopmeshref15_Split.j0])
    | succ kj3 =>
      have H := HA.out
      clear HA
      simp only [hopmeshref15_Split.j0] at H
      by_cases c8 : x24_3 = true
      · subst c8
        have H1 : (some (([] : List (S23)), 2)) = some (r1, r2) := by rw [if_pos rfl] at H; exact H
        clear H
        have H := H1
        clear H1
        simp only [Option.some.injEq, Prod.mk.injEq] at H
        obtain ⟨rfl, rfl⟩ := H
        go_wp2
        go_ret2
        exact ⟨_, by first | rfl | (simp [errW_none, errW_some] <;> rfl) | (simp [*, errW_none, errW_some] <;> rfl), by first | exact Kd.R_nil _ _ _ _ _ | exact Kd.N_nil _ _ _ _ _ | exact Kd.V_nil _ _ _ _ _ | exact Kd.Q_nil _ _ _ _ _ | exact Kd.S_nil _ _ _ _ _, by repeat (first | (with_reducible first | exact HB.out | apply below_alloc | apply pw_below_drewN | apply below_drew1) | exact HB.out)⟩
      · replace c8 := Bool.eq_false_iff.mpr c8
        subst c8
        have H1 : (if a1.toList = ([] : List UInt8) then (some (([] : List (S23)), 14)) else (if a2 = 0 then (none) else (if (a1.size : Int) > 4095 then (hopmeshref15_Split.j1 kj3 a0 a1 a2 (wrap64 (Int.tdiv (wrap64 ((wrap64 ((a1.size : Int) + a2)) - 1)) a2)) true) else (hopmeshref15_Split.j1 kj3 a0 a1 a2 (wrap64 (Int.tdiv (wrap64 ((wrap64 ((a1.size : Int) + a2)) - 1)) a2)) (decide ((wrap64 (Int.tdiv (wrap64 ((wrap64 ((a1.size : Int) + a2)) - 1)) a2)) > 32)))))) = some (r1, r2) := by rw [if_neg (show ¬ (false = true) by decide)] at H; exact H
        clear H
        have H := H1
        clear H1
        by_cases c9 : a1.toList = ([] : List UInt8)
        · rw [if_pos c9] at H
          have c9b0 : (a1.toList == ([] : List UInt8)) = true := beq_iff_eq.mpr c9
          have c9b1 : (a1.toList != ([] : List UInt8)) = false := bne_eq_false_iff_eq.mpr c9
          clear c9
          simp only [Option.some.injEq, Prod.mk.injEq] at H
          obtain ⟨rfl, rfl⟩ := H
          go_wp2
          go_ret2
          exact ⟨_, by first | rfl | (simp [errW_none, errW_some] <;> rfl) | (simp [*, errW_none, errW_some] <;> rfl), by first | exact Kd.R_nil _ _ _ _ _ | exact Kd.N_nil _ _ _ _ _ | exact Kd.V_nil _ _ _ _ _ | exact Kd.Q_nil _ _ _ _ _ | exact Kd.S_nil _ _ _ _ _, by repeat (first | (with_reducible first | exact HB.out | apply below_alloc | apply pw_below_drewN | apply below_drew1) | exact HB.out)⟩
        · rw [if_neg c9] at H
          have c9b0 : (a1.toList == ([] : List UInt8)) = false := beq_eq_false_iff_ne.mpr c9
          have c9b1 : (a1.toList != ([] : List UInt8)) = true := bne_iff_ne.mpr c9
          by_cases c10 : a2 = 0
          · rw [if_pos c10] at H
            exact absurd H (by simp)
          · rw [if_neg c10] at H
            have c10b0 : (a2 == 0) = false := beq_eq_false_iff_ne.mpr c10
            have c10b1 : (a2 != 0) = true := bne_iff_ne.mpr c10
            have HC11 := Aside0.mk H
            clear H
            go_upto_region 6 with (fail)
            go_cut [40] (fun v40 wc => ∃ (kq : Nat) (x40_10 : Bool), v40 = .bool x40_10 ∧ Aside0 (hopmeshref15_Split.j1 kq a0 a1 a2 (wrap64 (Int.tdiv (wrap64 ((wrap64 ((a1.size : Int) + a2)) - 1)) a2)) x40_10 = some (r1, r2)) ∧ Aside0 (kq ≤ kj3) ∧ Aside0 (Below w.heap.size w wc))
            case first =>
              have H := HC11.out
              clear HC11
              by_cases c12 : (a1.size : Int) > 4095
              · rw [if_pos c12] at H
                have c12b0 : decide (4095 < (a1.size : Int)) = true := decide_eq_true c12
                have c12b1 : decide (4095 < a1.size) = true := decide_eq_true (by omega)
                clear c12
                (first | rw [c12b0] | (simp only [i64_w, i32_w]; rw [c12b0]) | skip)
                have H' := Aside0.mk H
                clear H
                go_wp2
                go_meet
                case rel => exact ⟨_, (true), (by first | rfl | (simp; done) | (simp [*]; done)), H', ⟨by have := HJ3.out; first | omega | exact Nat.le_refl _⟩, ⟨by repeat (first | (with_reducible first | exact HB.out | apply below_alloc | apply pw_below_drewN | apply below_drew1) | exact HB.out)⟩⟩
              · rw [if_neg c12] at H
                have c12b0 : decide (4095 < (a1.size : Int)) = false := decide_eq_false c12
                have c12b1 : decide (4095 < a1.size) = false := decide_eq_false (by omega)
                clear c12
                (first | rw [c12b0] | (simp only [i64_w, i32_w]; rw [c12b0]) | skip)
                have H' := Aside0.mk H
                clear H
                go_wp2
                go_meet
                case rel => exact ⟨_, (decide ((wrap64 (Int.tdiv (wrap64 ((wrap64 ((a1.size : Int) + a2)) - 1)) a2)) > 32)), (by first | rfl | (simp; done) | (simp [*]; done)), H', ⟨by have := HJ3.out; first | omega | exact Nat.le_refl _⟩, ⟨by repeat (first | (with_reducible first | exact HB.out | apply below_alloc | apply pw_below_drewN | apply below_drew1) | exact HB.out)⟩⟩
            case rest =>
              clear HC11
              try clear c1
              try clear p2
              try clear c5
              try clear c5b0
              try clear c6
              try clear c6b0
              try clear p6
              try clear c7
              try clear c7b0
              try clear c8
              try clear c9
              try clear c9b0
              try clear c9b1
              try clear c10
              try clear c10b0
              try clear c10b1
              try clear c12
              try clear c12b0
              try clear c12b1
              try clear p2
              obtain ⟨kq, x40_10, rfl, HA, HJ10, HB⟩ := hcut
              cases kq with
              | zero => exact absurd HA.out (by simp [hopmeshref15_Split.j1])
              | succ kj10 =>
                have H := HA.out
                clear HA
                simp only [hopmeshref15_Split.j1] at H
                by_cases c13 : x40_10 = true
                · subst c13
                  have H1 : (some (([] : List (S23)), 8)) = some (r1, r2) := by rw [if_pos rfl] at H; exact H
                  clear H
                  have H := H1
                  clear H1
                  simp only [Option.some.injEq, Prod.mk.injEq] at H
                  obtain ⟨rfl, rfl⟩ := H
                  go_wp2
                  go_ret2
                  exact ⟨_, by first | rfl | (simp [errW_none, errW_some] <;> rfl) | (simp [*, errW_none, errW_some] <;> rfl), by first | exact Kd.R_nil _ _ _ _ _ | exact Kd.N_nil _ _ _ _ _ | exact Kd.V_nil _ _ _ _ _ | exact Kd.Q_nil _ _ _ _ _ | exact Kd.S_nil _ _ _ _ _, by repeat (first | (with_reducible first | exact HB.out | apply below_alloc | apply pw_below_drewN | apply below_drew1) | exact HB.out)⟩
                · replace c13 := Bool.eq_false_iff.mpr c13
                  subst c13
                  have H1 : (hopmeshref15_Split.l0 kj10 a0 a1 a2 (wrap64 (Int.tdiv (wrap64 ((wrap64 ((a1.size : Int) + a2)) - 1)) a2)) (([] : List (S23))) 0) = some (r1, r2) := by rw [if_neg (show ¬ (false = true) by decide)] at H; exact H
                  clear H
                  have H := H1
                  clear H1
                  obtain ⟨y104, hy104⟩ : ∃ y_ : List (S23), y_ = (([] : List (S23))) := ⟨_, rfl⟩
                  replace H : (hopmeshref15_Split.l0 kj10 a0 a1 a2 (wrap64 (Int.tdiv (wrap64 ((wrap64 ((a1.size : Int) + a2)) - 1)) a2)) y104 0) = some (r1, r2) := by first | (rw [hy104]; with_reducible exact H) | (have H2_ := (Option.bind_some _ _).symm.trans H; rw [hy104]; with_reducible exact H2_) | (have H2_ := (Option.bind_some _ _).symm.trans H; with_reducible exact H2_) | with_reducible exact H | (rw [hy104]; exact H) | exact H
                  have Ny104 := Aside0.mk hy104
                  clear hy104
                  have H' := Aside0.mk H
                  clear H
                  go_wp2_with (first | ((with_reducible refine gate_dst (N := 41) rfl ?_); refine Kd.R_lit k23 _ 23 ?hg (N := 41) ?hd (xs := ([] : List (S23))) (inner := []) (ok := fun _ => True) (okp := fun _ => True) ?hr ?hp (fun _ hk => hk) trivial (Below.refl _ _) (Nat.le_refl _) (by simp) ?_; (case hd => rfl); (case hg => rfl); (case hr => first | (go_simp; done) | (go_simp; rfl)); (case hp => exact (Reps.none _ _)); intro v105 w14 ho15 hb hg_ hnew_; clear hg_ hnew_; (first | rw [← Ny104.out] at ho15 | (simp only [Int.reduceToNat] at ho15; rw [← Ny104.out] at ho15)); have n0_ := Aside0.mk (Kd.R_lower ho15 (below_size (by repeat (first | (with_reducible first | exact HB.out | apply below_alloc | apply pw_below_drewN | apply below_drew1) | exact HB.out)))); have n1_ := Aside0.mk (below_step (by repeat (first | (with_reducible first | exact HB.out | apply below_alloc | apply pw_below_drewN | apply below_drew1) | exact HB.out)) hb); clear HB; have HO106 := n0_; have HB := n1_; clear n0_ n1_; clear hb ho15))
                  go_loopg [9, 10] kj10 (fun kq v9 v10 w' => ∃ (x9_3 : List (S23)) (x10_3 : Int), v10 = .int .i64 x10_3 ∧ Aside0 (hopmeshref15_Split.l0 kq a0 a1 a2 (wrap64 (Int.tdiv (wrap64 ((wrap64 ((a1.size : Int) + a2)) - 1)) a2)) x9_3 x10_3 = some (r1, r2)) ∧ Aside0 (kq ≤ kj10) ∧ Aside0 (Kd.R k23 23 w' w.heap.size (fun _ => True) v9 x9_3) ∧ Aside0 (Below w.heap.size w w'))
                  case atStart => exact ⟨(y104), (0), (by first | rfl | (simp; done) | (simp [*]; done)), H', ⟨Nat.le_refl _⟩, ⟨by (with_reducible repeat (first | apply Kd.R_alloc | apply Kd.R_drewN | apply Kd.R_drew)); exact HO106.out⟩, ⟨by repeat (first | (with_reducible first | exact HB.out | apply below_alloc | apply pw_below_drewN | apply below_drew1) | exact HB.out)⟩⟩
                  case round =>
                    clear H'
                    try clear c1
                    try clear p2
                    try clear c5
                    try clear c5b0
                    try clear c6
                    try clear c6b0
                    try clear p6
                    try clear c7
                    try clear c7b0
                    try clear c8
                    try clear c9
                    try clear c9b0
                    try clear c9b1
                    try clear c10
                    try clear c10b0
                    try clear c10b1
                    try clear c12
                    try clear c12b0
                    try clear c12b1
                    try clear c13
                    try clear p2
                    try clear p6
                    obtain ⟨x9_3, x10_3, rfl, HA, HK3, HO_9, HB⟩ := hrel
                    cases gk with
                    | zero => exact absurd HA.out (by simp [hopmeshref15_Split.l0])
                    | succ k3 =>
                      have H := HA.out
                      clear HA
                      simp only [hopmeshref15_Split.l0] at H
                      by_cases c16 : x10_3 < (wrap64 (Int.tdiv (wrap64 ((wrap64 ((a1.size : Int) + a2)) - 1)) a2))
                      · rw [if_pos c16] at H
                        have c16b0 : decide (x10_3 < (wrap64 (Int.tdiv (wrap64 ((wrap64 ((a1.size : Int) + a2)) - 1)) a2))) = true := decide_eq_true c16
                        clear c16
                        obtain ⟨ji17, hji17⟩ : ∃ j_ : Int, (mn (wrap64 ((wrap64 (x10_3 + 1)) * a2)) (a1.size : Int)) = j_ := ⟨_, rfl⟩
                        replace H : (if 0 ≤ (wrap64 (x10_3 * a2)) then (if (wrap64 (x10_3 * a2)) ≤ (ji17) then (if (ji17) ≤ (a1.size : Int) then (if x9_3.length < 2932031007402 then (hopmeshref15_Split.l0 k3 a0 a1 a2 (wrap64 (Int.tdiv (wrap64 ((wrap64 ((a1.size : Int) + a2)) - 1)) a2)) (x9_3 ++ [(⟨a0, x10_3, (wrap64 (Int.tdiv (wrap64 ((wrap64 ((a1.size : Int) + a2)) - 1)) a2)), (a1.size : Int), a1.extract ((wrap64 (x10_3 * a2)) : Int).toNat ((ji17) : Int).toNat⟩ : S23)]) (wrap64 (x10_3 + 1))) else (none)) else (none)) else (none)) else (none)) = some (r1, r2) := by first | (rw [hji17] at H; exact H) | (simp only [hji17] at H ⊢; exact H)
                        have hji17_ : (if (a1.size : Int) < (wrap64 ((wrap64 (x10_3 + 1)) * a2)) then (a1.size : Int) else (wrap64 ((wrap64 (x10_3 + 1)) * a2))) = ji17 := hji17
                        obtain ⟨ji18, hji18⟩ : ∃ j_ : Int, (wrap64 (x10_3 * a2)) = j_ := ⟨_, rfl⟩
                        replace H : (if 0 ≤ (ji18) then (if (ji18) ≤ (ji17) then (if (ji17) ≤ (a1.size : Int) then (if x9_3.length < 2932031007402 then (hopmeshref15_Split.l0 k3 a0 a1 a2 (wrap64 (Int.tdiv (wrap64 ((wrap64 ((a1.size : Int) + a2)) - 1)) a2)) (x9_3 ++ [(⟨a0, x10_3, (wrap64 (Int.tdiv (wrap64 ((wrap64 ((a1.size : Int) + a2)) - 1)) a2)), (a1.size : Int), a1.extract ((ji18) : Int).toNat ((ji17) : Int).toNat⟩ : S23)]) (wrap64 (x10_3 + 1))) else (none)) else (none)) else (none)) else (none)) = some (r1, r2) := by first | (rw [hji18] at H; exact H) | (simp only [hji18] at H ⊢; exact H)
                        have hji18w : (IntKind.i64.wrap (x10_3 * a2)) = ji18 := (i64_w _).trans hji18
                        by_cases c19 : 0 ≤ (ji18)
                        · rw [if_pos c19] at H
                          have c19b0 := eq_true c19
                          have c19b1 : decide (0 ≤ (ji18)) = true := decide_eq_true c19
                          clear c19
                          by_cases c20 : (ji18) ≤ (ji17)
                          · rw [if_pos c20] at H
                            have c20b0 := eq_true c20
                            have c20b1 : decide ((ji18) ≤ (ji17)) = true := decide_eq_true c20
                            clear c20
                            by_cases c21 : (ji17) ≤ (a1.size : Int)
                            · rw [if_pos c21] at H
                              have c21b0 := eq_true c21
                              have c21b1 : decide ((ji17) ≤ (a1.size : Int)) = true := decide_eq_true c21
                              clear c21
                              by_cases c22 : x9_3.length < 2932031007402
                              · rw [if_pos c22] at H
                                have LMc22 := Aside0.mk c22
                                clear c22
                                obtain ⟨y107, hy107⟩ : ∃ y_ : List (S23), y_ = (x9_3 ++ [(⟨a0, x10_3, (wrap64 (Int.tdiv (wrap64 ((wrap64 ((a1.size : Int) + a2)) - 1)) a2)), (a1.size : Int), a1.extract ((ji18) : Int).toNat ((ji17) : Int).toNat⟩ : S23)]) := ⟨_, rfl⟩
                                replace H : (hopmeshref15_Split.l0 k3 a0 a1 a2 (wrap64 (Int.tdiv (wrap64 ((wrap64 ((a1.size : Int) + a2)) - 1)) a2)) y107 (wrap64 (x10_3 + 1))) = some (r1, r2) := by first | (rw [hy107]; with_reducible exact H) | (have H2_ := (Option.bind_some _ _).symm.trans H; rw [hy107]; with_reducible exact H2_) | (have H2_ := (Option.bind_some _ _).symm.trans H; with_reducible exact H2_) | with_reducible exact H | (rw [hy107]; exact H) | exact H
                                have Ny107 := Aside0.mk hy107
                                clear hy107
                                have H' := Aside0.mk H
                                clear H
                                go_wp2_with (first | ((with_reducible refine gate_builtin (b := .append) (xs := #[.tmp 47, .tmp 66]) rfl ?_); at_builtin; refine Kd.R_append k23 (w0 := w) w.heap.size rfl (.tmp 47) (.tmp 66) 26 23 (.agg #[(.int .i64 0), (.int .i64 0), (.int .i64 0), (.int .i64 0), (.string ⟨#[]⟩)]) 48 rfl Try.underlying26 info23 rfl (by decide) (by omega) u9 x9_3 (⟨a0, x10_3, (wrap64 (Int.tdiv (wrap64 ((wrap64 ((a1.size : Int) + a2)) - 1)) a2)), (a1.size : Int), a1.extract ((ji18) : Int).toNat ((ji17) : Int).toNat⟩ : S23) [.int .i64 a0, .int .i64 x10_3, .int .i64 (wrap64 (Int.tdiv (wrap64 ((wrap64 ((a1.size : Int) + a2)) - 1)) a2)), .int .i64 (a1.size : Int), .string (a1.extract ((ji18) : Int).toNat ((ji17) : Int).toNat)] (fun _ => True) (fun _ => False) rfl rfl ?aP (fun _ hk => hk.elim) ?aF ?aO ?aB ?aS ?aL ?_; (case aP => exact k23_mkM _ _ _ (⟨a0, x10_3, (wrap64 (Int.tdiv (wrap64 ((wrap64 ((a1.size : Int) + a2)) - 1)) a2)), (a1.size : Int), a1.extract ((ji18) : Int).toNat ((ji17) : Int).toNat⟩ : S23)); (case aB => exact (by repeat (first | (with_reducible first | exact HB.out | apply below_alloc | apply pw_below_drewN | apply below_drew1) | exact HB.out))); (case aF => exact (fun _ _ => trivial)); (case aO => exact (by (with_reducible repeat (first | apply Kd.R_alloc | apply Kd.R_drewN | apply Kd.R_drew)); exact HO_9.out)); (case aS => exact (below_size (by repeat (first | (with_reducible first | exact HB.out | apply below_alloc | apply pw_below_drewN | apply below_drew1) | exact HB.out)))); (case aL => have := LMc22.out; omega); intro v108 w23 ho hb hg hat; rw [← Ny107.out] at ho; have n0_ := Aside0.mk (hb); have n1_ := Aside0.mk (ho); clear HB; clear HO_9; have HB := n0_; have HO109 := n1_; clear n0_ n1_; clear ho hb hg hat))
                                go_roundg k3
                                case measure => have := HJ3.out; have := HJ10.out; have := HK3.out; omega
                                case rel => exact ⟨(y107), (wrap64 (x10_3 + 1)), (by first | rfl | (simp; done) | (simp [*]; done)), H', ⟨by have := HJ3.out; have := HJ10.out; have := HK3.out; omega⟩, ⟨by (with_reducible repeat (first | apply Kd.R_alloc | apply Kd.R_drewN | apply Kd.R_drew)); exact HO109.out⟩, ⟨by repeat (first | (with_reducible first | exact HB.out | apply below_alloc | apply pw_below_drewN | apply below_drew1) | exact HB.out)⟩⟩
                              · rw [if_neg c22] at H
                                exact absurd H (by simp)
                            · rw [if_neg c21] at H
                              exact absurd H (by simp)
                          · rw [if_neg c20] at H
                            exact absurd H (by simp)
                        · rw [if_neg c19] at H
                          exact absurd H (by simp)
                      · rw [if_neg c16] at H
                        have c16b0 : decide (x10_3 < (wrap64 (Int.tdiv (wrap64 ((wrap64 ((a1.size : Int) + a2)) - 1)) a2))) = false := decide_eq_false c16
                        clear c16
                        simp only [Option.some.injEq, Prod.mk.injEq] at H
                        obtain ⟨rfl, rfl⟩ := H
                        go_wp2
                        go_ret2
                        exact ⟨_, by first | rfl | (simp [errW_none, errW_some] <;> rfl) | (simp [*, errW_none, errW_some] <;> rfl), by (with_reducible repeat (first | apply Kd.R_alloc | apply Kd.R_drewN | apply Kd.R_drew)); exact HO_9.out, by repeat (first | (with_reducible first | exact HB.out | apply below_alloc | apply pw_below_drewN | apply below_drew1) | exact HB.out)⟩

end Go.Proofs.Ytokapofgbcbajaa.Fns
