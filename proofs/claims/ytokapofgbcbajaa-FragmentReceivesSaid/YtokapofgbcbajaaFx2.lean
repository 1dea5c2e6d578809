-- Written by the kit's print.py over this seat's translation (run by wip/gprint.py); a text of this claim.
import Derived.Test.YtokapofgbcbajaaFx0
namespace Go.Proofs.Ytokapofgbcbajaa.Fns
open Go.RowKit Go.Proofs.YtokapofgbcbajaaW.PrintWords Go.Proofs.YtokapofgbcbajaaW.PrintLast Go.Proofs.YtokapofgbcbajaaW.PrintMore
attribute [local go_sem] max2_int min2_int max_two min_two max_three min_three max_four min_four   -- for this text's walks alone
set_option linter.unusedVariables false
set_option linter.unusedSimpArgs false

/-! ### fragment_Split: function 11 -/
mutual
def fragment_Split.j0 : Nat → Int → ByteArray → Int → Bool → Option ((List (S23)) × Int)
  | 0, _, _, _, _ => none
  | k + 1, x0, x1, x2, x24 => if x24 = true then (some (([] : List (S23)), 2)) else (if x2 = 0 then (none) else (if x1.toList = ([] : List UInt8) then (some (([] : List (S23)), 14)) else (if (x1.size : Int) > 4095 then (some (([] : List (S23)), 8)) else (if (wrap64 (Int.tdiv (wrap64 ((wrap64 ((x1.size : Int) + x2)) - 1)) x2)) > 32 then (some (([] : List (S23)), 8)) else (fragment_Split.l0 k x0 x1 x2 (wrap64 (Int.tdiv (wrap64 ((wrap64 ((x1.size : Int) + x2)) - 1)) x2)) ([] : List (S23)) (wrap64 (Int.tdiv (wrap64 ((wrap64 ((x1.size : Int) + x2)) - 1)) x2)) 0)))))
def fragment_Split.l0 : Nat → Int → ByteArray → Int → Int → List (S23) → Int → Int → Option ((List (S23)) × Int)
  | 0, _, _, _, _, _, _, _ => none
  | k + 1, x0, x1, x2, x8, x9, x43, x44 => if x44 < x43 then (if 0 ≤ (wrap64 (x44 * x2)) then (if (wrap64 (x44 * x2)) ≤ (mn (wrap64 ((wrap64 (x44 + 1)) * x2)) (x1.size : Int)) then (if (mn (wrap64 ((wrap64 (x44 + 1)) * x2)) (x1.size : Int)) ≤ (x1.size : Int) then (if x9.length < 2932031007402 then (fragment_Split.l0 k x0 x1 x2 x8 (x9 ++ [(⟨x0, x44, x8, (x1.size : Int), x1.extract ((wrap64 (x44 * x2)) : Int).toNat ((mn (wrap64 ((wrap64 (x44 + 1)) * x2)) (x1.size : Int)) : Int).toNat⟩ : S23)]) x43 (wrap64 (x44 + 1))) else (none)) else (none)) else (none)) else (none)) else (some (x9, 0))
end
def fragment_Split.f (k : Nat) (a0 : Int) (a1 : ByteArray) (a2 : Int) : Option ((List (S23)) × Int) := if a0 < 0 then (fragment_Split.j0 k a0 a1 a2 true) else (if a0 > 255 then (fragment_Split.j0 k a0 a1 a2 true) else (if a2 < 1 then (fragment_Split.j0 k a0 a1 a2 true) else (fragment_Split.j0 k a0 a1 a2 (decide (a2 > 120)))))
theorem fragment_Split.mono_l : ∀ k, (∀ y0 y1 y2 y3, LeO (fragment_Split.j0 k y0 y1 y2 y3) (fragment_Split.j0 (k + 1) y0 y1 y2 y3)) ∧ (∀ y0 y1 y2 y3 y4 y5 y6, LeO (fragment_Split.l0 k y0 y1 y2 y3 y4 y5 y6) (fragment_Split.l0 (k + 1) y0 y1 y2 y3 y4 y5 y6))
  | 0 => ⟨fun _ _ _ _ r h => by simp [fragment_Split.j0] at h, fun _ _ _ _ _ _ _ r h => by simp [fragment_Split.l0] at h⟩
  | k + 1 => by
    obtain ⟨ih0, ih1⟩ := fragment_Split.mono_l k
    refine ⟨?_, ?_⟩
    · intro y0 y1 y2 y3
      unfold fragment_Split.j0
      repeat' first
      | (with_reducible exact ih0 _ _ _ _)
      | (with_reducible exact ih1 _ _ _ _ _ _ _)
      | (with_reducible exact LeO.refl _)
      | (with_reducible exact LeO.none _)
      | (with_reducible refine LeO.ite ?_ ?_)
      | (with_reducible refine LeO.bind ?_ (fun _ => ?_))
      | exact ih0 _ _ _ _
      | exact ih1 _ _ _ _ _ _ _
      | exact LeO.none _
      | refine LeO.ite ?_ ?_
      | refine LeO.bind ?_ (fun _ => ?_)
    · intro y0 y1 y2 y3 y4 y5 y6
      unfold fragment_Split.l0
      repeat' first
      | (with_reducible exact ih0 _ _ _ _)
      | (with_reducible exact ih1 _ _ _ _ _ _ _)
      | (with_reducible exact LeO.refl _)
      | (with_reducible exact LeO.none _)
      | (with_reducible refine LeO.ite ?_ ?_)
      | (with_reducible refine LeO.bind ?_ (fun _ => ?_))
      | exact ih0 _ _ _ _
      | exact ih1 _ _ _ _ _ _ _
      | exact LeO.none _
      | refine LeO.ite ?_ ?_
      | refine LeO.bind ?_ (fun _ => ?_)
theorem fragment_Split.mono : ∀ a0 a1 a2 k, LeO (fragment_Split.f k a0 a1 a2) (fragment_Split.f (k + 1) a0 a1 a2) := by
  intro a0 a1 a2 k
  obtain ⟨ih0, ih1⟩ := fragment_Split.mono_l k
  unfold fragment_Split.f
  repeat' first
      | (with_reducible exact ih0 _ _ _ _)
      | (with_reducible exact ih1 _ _ _ _ _ _ _)
      | (with_reducible exact LeO.refl _)
      | (with_reducible exact LeO.none _)
      | (with_reducible refine LeO.ite ?_ ?_)
      | (with_reducible refine LeO.bind ?_ (fun _ => ?_))
      | exact ih0 _ _ _ _
      | exact ih1 _ _ _ _ _ _ _
      | exact LeO.none _
      | refine LeO.ite ?_ ?_
      | refine LeO.bind ?_ (fun _ => ?_)
set_option maxHeartbeats 8000000 in
set_option maxRecDepth 100000 in
theorem fragment_Split.calls (k : Nat) (a0 : Int) (a1 : ByteArray) (a2 : Int) (r1 : List (S23)) (r2 : Int) (w : World) (h : fragment_Split.f k a0 a1 a2 = some (r1, r2)) :
    Calls Try.prog 11 #[.int .i64 a0, .string a1, .int .i64 a2] w fun e w' => ∃ v0_ : Value, e = .returned (.tuple #[v0_, .int .i64 r2]) ∧ Kd.R k23 23 w' w.heap.size (fun _ => True) v0_ r1 ∧ Below w.heap.size w w' := by
  have hu23 := Try.underlying23
  have HB := Aside0.mk (Below.refl w.heap.size w)
  have H : (if a0 < 0 then (fragment_Split.j0 k a0 a1 a2 true) else (if a0 > 255 then (fragment_Split.j0 k a0 a1 a2 true) else (if a2 < 1 then (fragment_Split.j0 k a0 a1 a2 true) else (fragment_Split.j0 k a0 a1 a2 (decide (a2 > 120)))))) = some (r1, r2) := h
  clear h
  have HC4 := Aside0.mk H
  clear H
  go_enter Try.func11, Try.ntmps11
  go_upto_region 1 with (fail)
  go_cut [24] (fun v24 wc => ∃ (kq : Nat) (x24_3 : Bool), v24 = .bool x24_3 ∧ Aside0 (fragment_Split.j0 kq a0 a1 a2 x24_3 = some (r1, r2)) ∧ Aside0 (kq ≤ k) ∧ Aside0 (Below w.heap.size w wc))
  case first =>
    have H := HC4.out
    clear HC4
    by_cases c5 : a0 < 0
    · rw [if_pos c5] at H
      have c5b0 : decide (a0 < 0) = true := decide_eq_true c5
      clear c5
      (first | rw [c5b0] | (simp only [i64_w, i32_w]; rw [c5b0]) | skip)
      have H' := Aside0.mk H
      clear H
      go_wp2
      go_meet
      case rel => exact ⟨_, (true), (by first | rfl | (simp; done) | (simp [*]; done)), H', ⟨by first | omega | exact Nat.le_refl _⟩, ⟨by repeat (first | (with_reducible first | exact HB.out | apply below_alloc | apply pw_below_drewN | apply below_drew1) | exact HB.out)⟩⟩
    · rw [if_neg c5] at H
      have c5b0 : decide (a0 < 0) = false := decide_eq_false c5
      clear c5
      (first | rw [c5b0] | (simp only [i64_w, i32_w]; rw [c5b0]) | skip)
      by_cases c6 : a0 > 255
      · rw [if_pos c6] at H
        have c6b0 : decide (255 < a0) = true := decide_eq_true c6
        clear c6
        have H' := Aside0.mk H
        clear H
        go_wp2
        go_meet
        case rel => exact ⟨_, (true), (by first | rfl | (simp; done) | (simp [*]; done)), H', ⟨by first | omega | exact Nat.le_refl _⟩, ⟨by repeat (first | (with_reducible first | exact HB.out | apply below_alloc | apply pw_below_drewN | apply below_drew1) | exact HB.out)⟩⟩
      · rw [if_neg c6] at H
        have c6b0 : decide (255 < a0) = false := decide_eq_false c6
        clear c6
        by_cases c7 : a2 < 1
        · rw [if_pos c7] at H
          have c7b0 : decide (a2 < 1) = true := decide_eq_true c7
          clear c7
          have H' := Aside0.mk H
          clear H
          go_wp2
          go_meet
          case rel => exact ⟨_, (true), (by first | rfl | (simp; done) | (simp [*]; done)), H', ⟨by first | omega | exact Nat.le_refl _⟩, ⟨by repeat (first | (with_reducible first | exact HB.out | apply below_alloc | apply pw_below_drewN | apply below_drew1) | exact HB.out)⟩⟩
        · rw [if_neg c7] at H
          have c7b0 : decide (a2 < 1) = false := decide_eq_false c7
          clear c7
          have H' := Aside0.mk H
          clear H
          go_wp2
          go_meet
          case rel => exact ⟨_, (decide (a2 > 120)), (by first | rfl | (simp; done) | (simp [*]; done)), H', ⟨by first | omega | exact Nat.le_refl _⟩, ⟨by repeat (first | (with_reducible first | exact HB.out | apply below_alloc | apply pw_below_drewN | apply below_drew1) | exact HB.out)⟩⟩
  case rest =>
    clear HC4
    try clear c1
    try clear p2
    try clear c5
    try clear c5b0
    try clear c6
    try clear c6b0
    try clear c7
    try clear c7b0
    obtain ⟨kq, x24_3, rfl, HA, HJ3, HB⟩ := hcut
    cases kq with
    | zero => exact absurd HA.out (by simp [fragment_Split.j0])
    | succ kj3 =>
      have H := HA.out
      clear HA
      simp only [fragment_Split.j0] at H
      by_cases c8 : x24_3 = true
      · subst c8
        have H1 : (some (([] : List (S23)), 2)) = some (r1, r2) := by rw [if_pos rfl] at H; exact H
        clear H
        have H := H1
        clear H1
        simp only [Option.some.injEq, Prod.mk.injEq] at H
        obtain ⟨rfl, rfl⟩ := H
        go_wp2
        go_ret2
        exact ⟨_, by first | rfl | (simp [errW_none, errW_some] <;> rfl) | (simp [*, errW_none, errW_some] <;> rfl), by first | exact Kd.R_nil _ _ _ _ _ | exact Kd.N_nil _ _ _ _ _ | exact Kd.V_nil _ _ _ _ _ | exact Kd.Q_nil _ _ _ _ _ | exact Kd.S_nil _ _ _ _ _, by repeat (first | (with_reducible first | exact HB.out | apply below_alloc | apply pw_below_drewN | apply below_drew1) | exact HB.out)⟩
      · replace c8 := Bool.eq_false_iff.mpr c8
        subst c8
        have H1 : (if a2 = 0 then (none) else (if a1.toList = ([] : List UInt8) then (some (([] : List (S23)), 14)) else (if (a1.size : Int) > 4095 then (some (([] : List (S23)), 8)) else (if (wrap64 (Int.tdiv (wrap64 ((wrap64 ((a1.size : Int) + a2)) - 1)) a2)) > 32 then (some (([] : List (S23)), 8)) else (fragment_Split.l0 kj3 a0 a1 a2 (wrap64 (Int.tdiv (wrap64 ((wrap64 ((a1.size : Int) + a2)) - 1)) a2)) ([] : List (S23)) (wrap64 (Int.tdiv (wrap64 ((wrap64 ((a1.size : Int) + a2)) - 1)) a2)) 0))))) = some (r1, r2) := by rw [if_neg (show ¬ (false = true) by decide)] at H; exact H
        clear H
        have H := H1
        clear H1
        by_cases c9 : a2 = 0
        · rw [if_pos c9] at H
          exact absurd H (by simp)
        · rw [if_neg c9] at H
          have c9b0 : (a2 == 0) = false := beq_eq_false_iff_ne.mpr c9
          have c9b1 : (a2 != 0) = true := bne_iff_ne.mpr c9
          by_cases c10 : a1.toList = ([] : List UInt8)
          · rw [if_pos c10] at H
            have c10b0 : (a1.toList == ([] : List UInt8)) = true := beq_iff_eq.mpr c10
            have c10b1 : (a1.toList != ([] : List UInt8)) = false := bne_eq_false_iff_eq.mpr c10
            clear c10
            simp only [Option.some.injEq, Prod.mk.injEq] at H
            obtain ⟨rfl, rfl⟩ := H
            go_wp2
            go_ret2
            exact ⟨_, by first | rfl | (simp [errW_none, errW_some] <;> rfl) | (simp [*, errW_none, errW_some] <;> rfl), by first | exact Kd.R_nil _ _ _ _ _ | exact Kd.N_nil _ _ _ _ _ | exact Kd.V_nil _ _ _ _ _ | exact Kd.Q_nil _ _ _ _ _ | exact Kd.S_nil _ _ _ _ _, by repeat (first | (with_reducible first | exact HB.out | apply below_alloc | apply pw_below_drewN | apply below_drew1) | exact HB.out)⟩
          · rw [if_neg c10] at H
            have c10b0 : (a1.toList == ([] : List UInt8)) = false := beq_eq_false_iff_ne.mpr c10
            have c10b1 : (a1.toList != ([] : List UInt8)) = true := bne_iff_ne.mpr c10
            by_cases c11 : (a1.size : Int) > 4095
            · rw [if_pos c11] at H
              have c11b0 : decide (4095 < (a1.size : Int)) = true := decide_eq_true c11
              have c11b1 : decide (4095 < a1.size) = true := decide_eq_true (by omega)
              clear c11
              simp only [Option.some.injEq, Prod.mk.injEq] at H
              obtain ⟨rfl, rfl⟩ := H
              go_wp2
              go_ret2
              exact ⟨_, by first | rfl | (simp [errW_none, errW_some] <;> rfl) | (simp [*, errW_none, errW_some] <;> rfl), by first | exact Kd.R_nil _ _ _ _ _ | exact Kd.N_nil _ _ _ _ _ | exact Kd.V_nil _ _ _ _ _ | exact Kd.Q_nil _ _ _ _ _ | exact Kd.S_nil _ _ _ _ _, by repeat (first | (with_reducible first | exact HB.out | apply below_alloc | apply pw_below_drewN | apply below_drew1) | exact HB.out)⟩
            · rw [if_neg c11] at H
              have c11b0 : decide (4095 < (a1.size : Int)) = false := decide_eq_false c11
              have c11b1 : decide (4095 < a1.size) = false := decide_eq_false (by omega)
              clear c11
              by_cases c12 : (wrap64 (Int.tdiv (wrap64 ((wrap64 ((a1.size : Int) + a2)) - 1)) a2)) > 32
              · rw [if_pos c12] at H
                have c12b0 : decide (32 < (wrap64 (Int.tdiv (wrap64 ((wrap64 ((a1.size : Int) + a2)) - 1)) a2))) = true := decide_eq_true c12
                clear c12
                simp only [Option.some.injEq, Prod.mk.injEq] at H
                obtain ⟨rfl, rfl⟩ := H
                go_wp2
                go_ret2
                exact ⟨_, by first | rfl | (simp [errW_none, errW_some] <;> rfl) | (simp [*, errW_none, errW_some] <;> rfl), by first | exact Kd.R_nil _ _ _ _ _ | exact Kd.N_nil _ _ _ _ _ | exact Kd.V_nil _ _ _ _ _ | exact Kd.Q_nil _ _ _ _ _ | exact Kd.S_nil _ _ _ _ _, by repeat (first | (with_reducible first | exact HB.out | apply below_alloc | apply pw_below_drewN | apply below_drew1) | exact HB.out)⟩
              · rw [if_neg c12] at H
                have c12b0 : decide (32 < (wrap64 (Int.tdiv (wrap64 ((wrap64 ((a1.size : Int) + a2)) - 1)) a2))) = false := decide_eq_false c12
                clear c12
                have H' := Aside0.mk H
                clear H
                go_wp2
                go_loopg [9, 44] kj3 (fun kq v9 v44 w' => ∃ (x9_2 : List (S23)) (x44_2 : Int), v44 = .int .i64 x44_2 ∧ Aside0 (fragment_Split.l0 kq a0 a1 a2 (wrap64 (Int.tdiv (wrap64 ((wrap64 ((a1.size : Int) + a2)) - 1)) a2)) x9_2 (wrap64 (Int.tdiv (wrap64 ((wrap64 ((a1.size : Int) + a2)) - 1)) a2)) x44_2 = some (r1, r2)) ∧ Aside0 (kq ≤ kj3) ∧ Aside0 (Kd.R k23 23 w' w.heap.size (fun _ => True) v9 x9_2) ∧ Aside0 (Below w.heap.size w w'))
                case atStart => exact ⟨(([] : List (S23))), (0), (by first | rfl | (simp; done) | (simp [*]; done)), H', ⟨Nat.le_refl _⟩, ⟨by first | exact Kd.R_nil _ _ _ _ _ | exact Kd.N_nil _ _ _ _ _ | exact Kd.V_nil _ _ _ _ _ | exact Kd.Q_nil _ _ _ _ _ | exact Kd.S_nil _ _ _ _ _⟩, ⟨by repeat (first | (with_reducible first | exact HB.out | apply below_alloc | apply pw_below_drewN | apply below_drew1) | exact HB.out)⟩⟩
                case round =>
                  clear H'
                  try clear c1
                  try clear p2
                  try clear c5
                  try clear c5b0
                  try clear c6
                  try clear c6b0
                  try clear p6
                  try clear c7
                  try clear c7b0
                  try clear c8
                  try clear c9
                  try clear c9b0
                  try clear c9b1
                  try clear c10
                  try clear c10b0
                  try clear c10b1
                  try clear c11
                  try clear c11b0
                  try clear c11b1
                  try clear c12
                  try clear c12b0
                  try clear p2
                  obtain ⟨x9_2, x44_2, rfl, HA, HK2, HO_9, HB⟩ := hrel
                  cases gk with
                  | zero => exact absurd HA.out (by simp [fragment_Split.l0])
                  | succ k2 =>
                    have H := HA.out
                    clear HA
                    simp only [fragment_Split.l0] at H
                    by_cases c13 : x44_2 < (wrap64 (Int.tdiv (wrap64 ((wrap64 ((a1.size : Int) + a2)) - 1)) a2))
                    · rw [if_pos c13] at H
                      have c13b0 : decide (x44_2 < (wrap64 (Int.tdiv (wrap64 ((wrap64 ((a1.size : Int) + a2)) - 1)) a2))) = true := decide_eq_true c13
                      clear c13
                      obtain ⟨ji14, hji14⟩ : ∃ j_ : Int, (mn (wrap64 ((wrap64 (x44_2 + 1)) * a2)) (a1.size : Int)) = j_ := ⟨_, rfl⟩
                      replace H : (if 0 ≤ (wrap64 (x44_2 * a2)) then (if (wrap64 (x44_2 * a2)) ≤ (ji14) then (if (ji14) ≤ (a1.size : Int) then (if x9_2.length < 2932031007402 then (fragment_Split.l0 k2 a0 a1 a2 (wrap64 (Int.tdiv (wrap64 ((wrap64 ((a1.size : Int) + a2)) - 1)) a2)) (x9_2 ++ [(⟨a0, x44_2, (wrap64 (Int.tdiv (wrap64 ((wrap64 ((a1.size : Int) + a2)) - 1)) a2)), (a1.size : Int), a1.extract ((wrap64 (x44_2 * a2)) : Int).toNat ((ji14) : Int).toNat⟩ : S23)]) (wrap64 (Int.tdiv (wrap64 ((wrap64 ((a1.size : Int) + a2)) - 1)) a2)) (wrap64 (x44_2 + 1))) else (none)) else (none)) else (none)) else (none)) = some (r1, r2) := by first | (rw [hji14] at H; exact H) | (simp only [hji14] at H ⊢; exact H)
                      have hji14_ : (if (a1.size : Int) < (wrap64 ((wrap64 (x44_2 + 1)) * a2)) then (a1.size : Int) else (wrap64 ((wrap64 (x44_2 + 1)) * a2))) = ji14 := hji14
                      obtain ⟨ji15, hji15⟩ : ∃ j_ : Int, (wrap64 (x44_2 * a2)) = j_ := ⟨_, rfl⟩
                      replace H : (if 0 ≤ (ji15) then (if (ji15) ≤ (ji14) then (if (ji14) ≤ (a1.size : Int) then (if x9_2.length < 2932031007402 then (fragment_Split.l0 k2 a0 a1 a2 (wrap64 (Int.tdiv (wrap64 ((wrap64 ((a1.size : Int) + a2)) - 1)) a2)) (x9_2 ++ [(⟨a0, x44_2, (wrap64 (Int.tdiv (wrap64 ((wrap64 ((a1.size : Int) + a2)) - 1)) a2)), (a1.size : Int), a1.extract ((ji15) : Int).toNat ((ji14) : Int).toNat⟩ : S23)]) (wrap64 (Int.tdiv (wrap64 ((wrap64 ((a1.size : Int) + a2)) - 1)) a2)) (wrap64 (x44_2 + 1))) else (none)) else (none)) else (none)) else (none)) = some (r1, r2) := by first | (rw [hji15] at H; exact H) | (simp only [hji15] at H ⊢; exact H)
                      have hji15w : (IntKind.i64.wrap (x44_2 * a2)) = ji15 := (i64_w _).trans hji15
                      by_cases c16 : 0 ≤ (ji15)
                      · rw [if_pos c16] at H
                        have c16b0 := eq_true c16
                        have c16b1 : decide (0 ≤ (ji15)) = true := decide_eq_true c16
                        clear c16
                        by_cases c17 : (ji15) ≤ (ji14)
                        · rw [if_pos c17] at H
                          have c17b0 := eq_true c17
                          have c17b1 : decide ((ji15) ≤ (ji14)) = true := decide_eq_true c17
                          clear c17
                          by_cases c18 : (ji14) ≤ (a1.size : Int)
                          · rw [if_pos c18] at H
                            have c18b0 := eq_true c18
                            have c18b1 : decide ((ji14) ≤ (a1.size : Int)) = true := decide_eq_true c18
                            clear c18
                            by_cases c19 : x9_2.length < 2932031007402
                            · rw [if_pos c19] at H
                              have LMc19 := Aside0.mk c19
                              clear c19
                              obtain ⟨y101, hy101⟩ : ∃ y_ : List (S23), y_ = (x9_2 ++ [(⟨a0, x44_2, (wrap64 (Int.tdiv (wrap64 ((wrap64 ((a1.size : Int) + a2)) - 1)) a2)), (a1.size : Int), a1.extract ((ji15) : Int).toNat ((ji14) : Int).toNat⟩ : S23)]) := ⟨_, rfl⟩
                              replace H : (fragment_Split.l0 k2 a0 a1 a2 (wrap64 (Int.tdiv (wrap64 ((wrap64 ((a1.size : Int) + a2)) - 1)) a2)) y101 (wrap64 (Int.tdiv (wrap64 ((wrap64 ((a1.size : Int) + a2)) - 1)) a2)) (wrap64 (x44_2 + 1))) = some (r1, r2) := by first | (rw [hy101]; with_reducible exact H) | (have H2_ := (Option.bind_some _ _).symm.trans H; rw [hy101]; with_reducible exact H2_) | (have H2_ := (Option.bind_some _ _).symm.trans H; with_reducible exact H2_) | with_reducible exact H | (rw [hy101]; exact H) | exact H
                              have Ny101 := Aside0.mk hy101
                              clear hy101
                              have H' := Aside0.mk H
                              clear H
                              go_wp2_with (first | ((with_reducible refine gate_builtin (b := .append) (xs := #[.tmp 47, .tmp 66]) rfl ?_); at_builtin; refine Kd.R_append k23 (w0 := w) w.heap.size rfl (.tmp 47) (.tmp 66) 26 23 (.agg #[(.int .i64 0), (.int .i64 0), (.int .i64 0), (.int .i64 0), (.string ⟨#[]⟩)]) 48 rfl Try.underlying26 info23 rfl (by decide) (by omega) u9 x9_2 (⟨a0, x44_2, (wrap64 (Int.tdiv (wrap64 ((wrap64 ((a1.size : Int) + a2)) - 1)) a2)), (a1.size : Int), a1.extract ((ji15) : Int).toNat ((ji14) : Int).toNat⟩ : S23) [.int .i64 a0, .int .i64 x44_2, .int .i64 (wrap64 (Int.tdiv (wrap64 ((wrap64 ((a1.size : Int) + a2)) - 1)) a2)), .int .i64 (a1.size : Int), .string (a1.extract ((ji15) : Int).toNat ((ji14) : Int).toNat)] (fun _ => True) (fun _ => False) rfl rfl ?aP (fun _ hk => hk.elim) ?aF ?aO ?aB ?aS ?aL ?_; (case aP => exact k23_mkM _ _ _ (⟨a0, x44_2, (wrap64 (Int.tdiv (wrap64 ((wrap64 ((a1.size : Int) + a2)) - 1)) a2)), (a1.size : Int), a1.extract ((ji15) : Int).toNat ((ji14) : Int).toNat⟩ : S23)); (case aB => exact (by repeat (first | (with_reducible first | exact HB.out | apply below_alloc | apply pw_below_drewN | apply below_drew1) | exact HB.out))); (case aF => exact (fun _ _ => trivial)); (case aO => exact (by (with_reducible repeat (first | apply Kd.R_alloc | apply Kd.R_drewN | apply Kd.R_drew)); exact HO_9.out)); (case aS => exact (below_size (by repeat (first | (with_reducible first | exact HB.out | apply below_alloc | apply pw_below_drewN | apply below_drew1) | exact HB.out)))); (case aL => have := LMc19.out; omega); intro v102 w20 ho hb hg hat; rw [← Ny101.out] at ho; have n0_ := Aside0.mk (hb); have n1_ := Aside0.mk (ho); clear HB; clear HO_9; have HB := n0_; have HO103 := n1_; clear n0_ n1_; clear ho hb hg hat))
                              go_roundg k2
                              case measure => have := HJ3.out; have := HK2.out; omega
                              case rel => exact ⟨(y101), (wrap64 (x44_2 + 1)), (by first | rfl | (simp; done) | (simp [*]; done)), H', ⟨by have := HJ3.out; have := HK2.out; omega⟩, ⟨by (with_reducible repeat (first | apply Kd.R_alloc | apply Kd.R_drewN | apply Kd.R_drew)); exact HO103.out⟩, ⟨by repeat (first | (with_reducible first | exact HB.out | apply below_alloc | apply pw_below_drewN | apply below_drew1) | exact HB.out)⟩⟩
                            · rw [if_neg c19] at H
                              exact absurd H (by simp)
                          · rw [if_neg c18] at H
                            exact absurd H (by simp)
                        · rw [if_neg c17] at H
                          exact absurd H (by simp)
                      · rw [if_neg c16] at H
                        exact absurd H (by simp)
                    · rw [if_neg c13] at H
                      have c13b0 : decide (x44_2 < (wrap64 (Int.tdiv (wrap64 ((wrap64 ((a1.size : Int) + a2)) - 1)) a2))) = false := decide_eq_false c13
                      clear c13
                      simp only [Option.some.injEq, Prod.mk.injEq] at H
                      obtain ⟨rfl, rfl⟩ := H
                      go_wp2
                      go_ret2
                      exact ⟨_, by first | rfl | (simp [errW_none, errW_some] <;> rfl) | (simp [*, errW_none, errW_some] <;> rfl), by (with_reducible repeat (first | apply Kd.R_alloc | apply Kd.R_drewN | apply Kd.R_drew)); exact HO_9.out, by repeat (first | (with_reducible first | exact HB.out | apply below_alloc | apply pw_below_drewN | apply below_drew1) | exact HB.out)⟩

end Go.Proofs.Ytokapofgbcbajaa.Fns
