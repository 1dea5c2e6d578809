-- Written by the kit's print.py over this seat's translation (run by wip/gprint.py); a text of this claim.
import Derived.Test.YtigobnphenhkjaaFx0
import Derived.Test.YtigobnphenhkjaaFx15
import Derived.Test.YtigobnphenhkjaaClone
import Derived.Test.YtigobnphenhkjaaPlay
namespace Go.Proofs.Ytigobnphenhkjaa.Fns
open Go.RowKit Go.Proofs.YtigobnphenhkjaaW.PrintWords Go.Proofs.YtigobnphenhkjaaW.PrintLast Go.Proofs.YtigobnphenhkjaaW.PrintMore
attribute [local go_sem] max2_int min2_int max_two min_two max_three min_three max_four min_four   -- for this text's walks alone
set_option linter.unusedVariables false
set_option linter.unusedSimpArgs false

/-! ### hopmeshlaw22_RankSettles: function 9 -/
mutual
def hopmeshlaw22_RankSettles.j0 : Nat → List (S50) → List Int → Int → Int → Bool → Option (Bool)
  | 0, _, _, _, _, _ => none
  | k + 1, x0, x2, x7, x9, x44 => if x44 = true then (if (x0.length : Int) > 40 then (some true) else (some (x9 != 0))) else ((api_RankEvent.f x0).bind fun t385 => ((some (([(⟨5, 0, 0, 0⟩ : S50), (⟨1, 0, 0, 0⟩ : S50)] : List (S50)) : List (S50))).bind fun y388 => (if t385.length + y388.length < 4398046511104 then ((some (t385 ++ y388 : List (S50))).bind fun y391 => (hopmeshlaw22_RankSettles.l0 k x2 x7 y391 0 (y391.length : Int) 0)) else (none))))
def hopmeshlaw22_RankSettles.l0 : Nat → List Int → Int → List (S50) → Int → Int → Int → Option (Bool)
  | 0, _, _, _, _, _, _ => none
  | k + 1, x2, x7, x10, x11, x59, x60 => if x60 < x59 then (if 0 ≤ x60 then (if x60 < (x10.length : Int) then (if ((rd_T50 x10 x60).f0) = 1 then (if x60 ≤ (x10.length : Int) then ((rank_Play.f x7 (x10.take (x60 : Int).toNat)).bind fun bt399 => (if bt399.2 = 0 then (hopmeshlaw22_RankSettles.j2 k x2 x7 x10 x11 x60 bt399.1 x59 x60 ((bt399.1.length : Int) != x7)) else (hopmeshlaw22_RankSettles.j2 k x2 x7 x10 x11 x60 bt399.1 x59 x60 true))) else (none)) else (hopmeshlaw22_RankSettles.l0 k x2 x7 x10 x11 x59 (wrap64 (x60 + 1)))) else (none)) else (none)) else (hopmeshlaw22_RankSettles.l1 k x2 x7 x10 x11 (([0] : List Int)) 1)
def hopmeshlaw22_RankSettles.j2 : Nat → List Int → Int → List (S50) → Int → Int → List (S23) → Int → Int → Bool → Option (Bool)
  | 0, _, _, _, _, _, _, _, _, _ => none
  | k + 1, x2, x7, x10, x11, x12, x13, x59, x60, x84 => if x84 = true then (some false) else (if 0 ≤ x12 then (if x12 < (x10.length : Int) then (if 0 ≤ ((rd_T50 x10 x12).f1) then (if ((rd_T50 x10 x12).f1) < (x13.length : Int) then (if ((rd_T23 x13 ((rd_T50 x10 x12).f1)).f4) = 65535 then (hopmeshlaw22_RankSettles.l0 k x2 x7 x10 x11 x59 (wrap64 (x60 + 1))) else (hopmeshlaw22_RankSettles.l0 k x2 x7 x10 (wrap64 (x11 + 1)) x59 (wrap64 (x60 + 1)))) else (none)) else (none)) else (none)) else (none))
def hopmeshlaw22_RankSettles.l1 : Nat → List Int → Int → List (S50) → Int → List Int → Int → Option (Bool)
  | 0, _, _, _, _, _, _ => none
  | k + 1, x2, x7, x10, x11, x15, x16 => if x16 < x7 then (if (wrap64 (x16 - 1)) < (x2.length : Int) then (if 0 ≤ (wrap64 (x16 - 1)) then (if (wrap64 (x16 - 1)) < (x15.length : Int) then (if x15.length < 17592186044416 then ((some (([(⟨2, x16, wrap64 (x11 - 1), wrap64 (1 + (wrap64 (rd x2 (wrap64 (x16 - 1)))))⟩ : S50), (⟨1, x16, 0, 0⟩ : S50)] : List (S50)) : List (S50))).bind fun y413 => (if x10.length + y413.length < 4398046511104 then (hopmeshlaw22_RankSettles.l1 k x2 x7 (x10 ++ y413) (wrap64 (x11 + 1)) (x15 ++ [wrap64 ((rd x15 (wrap64 (x16 - 1))) + (wrap64 (1 + (wrap64 (rd x2 (wrap64 (x16 - 1)))))))]) (wrap64 (x16 + 1))) else (none))) else (none)) else (none)) else (none)) else (if 0 ≤ (wrap64 (x16 - 1)) then (if (wrap64 (x16 - 1)) < (x15.length : Int) then (if x15.length < 17592186044416 then ((some (([(⟨2, x16, wrap64 (x11 - 1), 1⟩ : S50), (⟨1, x16, 0, 0⟩ : S50)] : List (S50)) : List (S50))).bind fun y423 => (if x10.length + y423.length < 4398046511104 then (hopmeshlaw22_RankSettles.l1 k x2 x7 (x10 ++ y423) (wrap64 (x11 + 1)) (x15 ++ [wrap64 ((rd x15 (wrap64 (x16 - 1))) + 1)]) (wrap64 (x16 + 1))) else (none))) else (none)) else (none)) else (none))) else ((rank_Play.f x7 x10).bind fun bt429 => (if bt429.2 = 0 then (hopmeshlaw22_RankSettles.j4 k bt429.1 x15 ((bt429.1.length : Int) != x7)) else (hopmeshlaw22_RankSettles.j4 k bt429.1 x15 true)))
def hopmeshlaw22_RankSettles.j4 : Nat → List (S23) → List Int → Bool → Option (Bool)
  | 0, _, _, _ => none
  | k + 1, x8, x15, x152 => if x152 = true then (some false) else (hopmeshlaw22_RankSettles.l2 k x15 x8 (x8.length : Int) 0)
def hopmeshlaw22_RankSettles.l2 : Nat → List Int → List (S23) → Int → Int → Option (Bool)
  | 0, _, _, _, _ => none
  | k + 1, x15, x153, x154, x155 => if x155 < x154 then (if 0 ≤ x155 then (if x155 < (x153.length : Int) then (if x155 < (x15.length : Int) then (if ((rd_T23 x153 x155).f4) = (rd x15 x155) then (if ((rd_T23 x153 x155).f2) = (wrap64 (x155 - 1)) then (hopmeshlaw22_RankSettles.l2 k x15 x153 x154 (wrap64 (x155 + 1))) else (some false)) else (some false)) else (none)) else (none)) else (none)) else (some true)
end
def hopmeshlaw22_RankSettles.f (k : Nat) (l0 : List (S50)) (a1 : Int) (l2 : List Int) : Option (Bool) := (hopmeshlaw22_awake.f k).bind fun t380 => (if t380 = true then ((rank_Play.f (wrap64 (1 + (Int.tmod (wrap64 (a1)) 8))) l0).bind fun bt381 => (if (l0.length : Int) > 40 then (hopmeshlaw22_RankSettles.j0 k l0 l2 (wrap64 (1 + (Int.tmod (wrap64 (a1)) 8))) bt381.2 true) else (if bt381.2 = 0 then (hopmeshlaw22_RankSettles.j0 k l0 l2 (wrap64 (1 + (Int.tmod (wrap64 (a1)) 8))) bt381.2 ((bt381.1.length : Int) != (wrap64 (1 + (Int.tmod (wrap64 (a1)) 8))))) else (hopmeshlaw22_RankSettles.j0 k l0 l2 (wrap64 (1 + (Int.tmod (wrap64 (a1)) 8))) bt381.2 true)))) else (some false))
theorem hopmeshlaw22_RankSettles.mono_l : ∀ k, (∀ y0 y1 y2 y3 y4, LeO (hopmeshlaw22_RankSettles.j0 k y0 y1 y2 y3 y4) (hopmeshlaw22_RankSettles.j0 (k + 1) y0 y1 y2 y3 y4)) ∧ (∀ y0 y1 y2 y3 y4 y5, LeO (hopmeshlaw22_RankSettles.l0 k y0 y1 y2 y3 y4 y5) (hopmeshlaw22_RankSettles.l0 (k + 1) y0 y1 y2 y3 y4 y5)) ∧ (∀ y0 y1 y2 y3 y4 y5 y6 y7 y8, LeO (hopmeshlaw22_RankSettles.j2 k y0 y1 y2 y3 y4 y5 y6 y7 y8) (hopmeshlaw22_RankSettles.j2 (k + 1) y0 y1 y2 y3 y4 y5 y6 y7 y8)) ∧ (∀ y0 y1 y2 y3 y4 y5, LeO (hopmeshlaw22_RankSettles.l1 k y0 y1 y2 y3 y4 y5) (hopmeshlaw22_RankSettles.l1 (k + 1) y0 y1 y2 y3 y4 y5)) ∧ (∀ y0 y1 y2, LeO (hopmeshlaw22_RankSettles.j4 k y0 y1 y2) (hopmeshlaw22_RankSettles.j4 (k + 1) y0 y1 y2)) ∧ (∀ y0 y1 y2 y3, LeO (hopmeshlaw22_RankSettles.l2 k y0 y1 y2 y3) (hopmeshlaw22_RankSettles.l2 (k + 1) y0 y1 y2 y3))
  | 0 => ⟨fun _ _ _ _ _ r h => by simp [hopmeshlaw22_RankSettles.j0] at h, fun _ _ _ _ _ _ r h => by simp [hopmeshlaw22_RankSettles.l0] at h, fun _ _ _ _ _ _ _ _ _ r h => by simp [hopmeshlaw22_RankSettles.j2] at h, fun _ _ _ _ _ _ r h => by simp [hopmeshlaw22_RankSettles.l1] at h, fun _ _ _ r h => by simp [hopmeshlaw22_RankSettles.j4] at h, fun _ _ _ _ r h => by simp [hopmeshlaw22_RankSettles.l2] at h⟩
  | k + 1 => by
    obtain ⟨ih0, ih1, ih2, ih3, ih4, ih5⟩ := hopmeshlaw22_RankSettles.mono_l k
    refine ⟨?_, ?_, ?_, ?_, ?_, ?_⟩
    · intro y0 y1 y2 y3 y4
      unfold hopmeshlaw22_RankSettles.j0
      repeat' first
      | (with_reducible exact ih0 _ _ _ _ _)
      | (with_reducible exact ih1 _ _ _ _ _ _)
      | (with_reducible exact ih2 _ _ _ _ _ _ _ _ _)
      | (with_reducible exact ih3 _ _ _ _ _ _)
      | (with_reducible exact ih4 _ _ _)
      | (with_reducible exact ih5 _ _ _ _)
      | (with_reducible exact hopmeshlaw22_awake.mono _)
      | (with_reducible exact LeO.refl _)
      | (with_reducible exact LeO.none _)
      | (with_reducible refine LeO.ite ?_ ?_)
      | (with_reducible refine LeO.bind ?_ (fun _ => ?_))
      | exact ih0 _ _ _ _ _
      | exact ih1 _ _ _ _ _ _
      | exact ih2 _ _ _ _ _ _ _ _ _
      | exact ih3 _ _ _ _ _ _
      | exact ih4 _ _ _
      | exact ih5 _ _ _ _
      | exact hopmeshlaw22_awake.mono _
      | exact LeO.none _
      | refine LeO.ite ?_ ?_
      | refine LeO.bind ?_ (fun _ => ?_)
    · intro y0 y1 y2 y3 y4 y5
      unfold hopmeshlaw22_RankSettles.l0
      repeat' first
      | (with_reducible exact ih0 _ _ _ _ _)
      | (with_reducible exact ih1 _ _ _ _ _ _)
      | (with_reducible exact ih2 _ _ _ _ _ _ _ _ _)
      | (with_reducible exact ih3 _ _ _ _ _ _)
      | (with_reducible exact ih4 _ _ _)
      | (with_reducible exact ih5 _ _ _ _)
      | (with_reducible exact hopmeshlaw22_awake.mono _)
      | (with_reducible exact LeO.refl _)
      | (with_reducible exact LeO.none _)
      | (with_reducible refine LeO.ite ?_ ?_)
      | (with_reducible refine LeO.bind ?_ (fun _ => ?_))
      | exact ih0 _ _ _ _ _
      | exact ih1 _ _ _ _ _ _
      | exact ih2 _ _ _ _ _ _ _ _ _
      | exact ih3 _ _ _ _ _ _
      | exact ih4 _ _ _
      | exact ih5 _ _ _ _
      | exact hopmeshlaw22_awake.mono _
      | exact LeO.none _
      | refine LeO.ite ?_ ?_
      | refine LeO.bind ?_ (fun _ => ?_)
    · intro y0 y1 y2 y3 y4 y5 y6 y7 y8
      unfold hopmeshlaw22_RankSettles.j2
      repeat' first
      | (with_reducible exact ih0 _ _ _ _ _)
      | (with_reducible exact ih1 _ _ _ _ _ _)
      | (with_reducible exact ih2 _ _ _ _ _ _ _ _ _)
      | (with_reducible exact ih3 _ _ _ _ _ _)
      | (with_reducible exact ih4 _ _ _)
      | (with_reducible exact ih5 _ _ _ _)
      | (with_reducible exact hopmeshlaw22_awake.mono _)
      | (with_reducible exact LeO.refl _)
      | (with_reducible exact LeO.none _)
      | (with_reducible refine LeO.ite ?_ ?_)
      | (with_reducible refine LeO.bind ?_ (fun _ => ?_))
      | exact ih0 _ _ _ _ _
      | exact ih1 _ _ _ _ _ _
      | exact ih2 _ _ _ _ _ _ _ _ _
      | exact ih3 _ _ _ _ _ _
      | exact ih4 _ _ _
      | exact ih5 _ _ _ _
      | exact hopmeshlaw22_awake.mono _
      | exact LeO.none _
      | refine LeO.ite ?_ ?_
      | refine LeO.bind ?_ (fun _ => ?_)
    · intro y0 y1 y2 y3 y4 y5
      unfold hopmeshlaw22_RankSettles.l1
      repeat' first
      | (with_reducible exact ih0 _ _ _ _ _)
      | (with_reducible exact ih1 _ _ _ _ _ _)
      | (with_reducible exact ih2 _ _ _ _ _ _ _ _ _)
      | (with_reducible exact ih3 _ _ _ _ _ _)
      | (with_reducible exact ih4 _ _ _)
      | (with_reducible exact ih5 _ _ _ _)
      | (with_reducible exact hopmeshlaw22_awake.mono _)
      | (with_reducible exact LeO.refl _)
      | (with_reducible exact LeO.none _)
      | (with_reducible refine LeO.ite ?_ ?_)
      | (with_reducible refine LeO.bind ?_ (fun _ => ?_))
      | exact ih0 _ _ _ _ _
      | exact ih1 _ _ _ _ _ _
      | exact ih2 _ _ _ _ _ _ _ _ _
      | exact ih3 _ _ _ _ _ _
      | exact ih4 _ _ _
      | exact ih5 _ _ _ _
      | exact hopmeshlaw22_awake.mono _
      | exact LeO.none _
      | refine LeO.ite ?_ ?_
      | refine LeO.bind ?_ (fun _ => ?_)
    · intro y0 y1 y2
      unfold hopmeshlaw22_RankSettles.j4
      repeat' first
      | (with_reducible exact ih0 _ _ _ _ _)
      | (with_reducible exact ih1 _ _ _ _ _ _)
      | (with_reducible exact ih2 _ _ _ _ _ _ _ _ _)
      | (with_reducible exact ih3 _ _ _ _ _ _)
      | (with_reducible exact ih4 _ _ _)
      | (with_reducible exact ih5 _ _ _ _)
      | (with_reducible exact hopmeshlaw22_awake.mono _)
      | (with_reducible exact LeO.refl _)
      | (with_reducible exact LeO.none _)
      | (with_reducible refine LeO.ite ?_ ?_)
      | (with_reducible refine LeO.bind ?_ (fun _ => ?_))
      | exact ih0 _ _ _ _ _
      | exact ih1 _ _ _ _ _ _
      | exact ih2 _ _ _ _ _ _ _ _ _
      | exact ih3 _ _ _ _ _ _
      | exact ih4 _ _ _
      | exact ih5 _ _ _ _
      | exact hopmeshlaw22_awake.mono _
      | exact LeO.none _
      | refine LeO.ite ?_ ?_
      | refine LeO.bind ?_ (fun _ => ?_)
    · intro y0 y1 y2 y3
      unfold hopmeshlaw22_RankSettles.l2
      repeat' first
      | (with_reducible exact ih0 _ _ _ _ _)
      | (with_reducible exact ih1 _ _ _ _ _ _)
      | (with_reducible exact ih2 _ _ _ _ _ _ _ _ _)
      | (with_reducible exact ih3 _ _ _ _ _ _)
      | (with_reducible exact ih4 _ _ _)
      | (with_reducible exact ih5 _ _ _ _)
      | (with_reducible exact hopmeshlaw22_awake.mono _)
      | (with_reducible exact LeO.refl _)
      | (with_reducible exact LeO.none _)
      | (with_reducible refine LeO.ite ?_ ?_)
      | (with_reducible refine LeO.bind ?_ (fun _ => ?_))
      | exact ih0 _ _ _ _ _
      | exact ih1 _ _ _ _ _ _
      | exact ih2 _ _ _ _ _ _ _ _ _
      | exact ih3 _ _ _ _ _ _
      | exact ih4 _ _ _
      | exact ih5 _ _ _ _
      | exact hopmeshlaw22_awake.mono _
      | exact LeO.none _
      | refine LeO.ite ?_ ?_
      | refine LeO.bind ?_ (fun _ => ?_)
theorem hopmeshlaw22_RankSettles.mono : ∀ a0 a1 a2 k, LeO (hopmeshlaw22_RankSettles.f k a0 a1 a2) (hopmeshlaw22_RankSettles.f (k + 1) a0 a1 a2) := by
  intro a0 a1 a2 k
  obtain ⟨ih0, ih1, ih2, ih3, ih4, ih5⟩ := hopmeshlaw22_RankSettles.mono_l k
  unfold hopmeshlaw22_RankSettles.f
  repeat' first
      | (with_reducible exact ih0 _ _ _ _ _)
      | (with_reducible exact ih1 _ _ _ _ _ _)
      | (with_reducible exact ih2 _ _ _ _ _ _ _ _ _)
      | (with_reducible exact ih3 _ _ _ _ _ _)
      | (with_reducible exact ih4 _ _ _)
      | (with_reducible exact ih5 _ _ _ _)
      | (with_reducible exact hopmeshlaw22_awake.mono _)
      | (with_reducible exact LeO.refl _)
      | (with_reducible exact LeO.none _)
      | (with_reducible refine LeO.ite ?_ ?_)
      | (with_reducible refine LeO.bind ?_ (fun _ => ?_))
      | exact ih0 _ _ _ _ _
      | exact ih1 _ _ _ _ _ _
      | exact ih2 _ _ _ _ _ _ _ _ _
      | exact ih3 _ _ _ _ _ _
      | exact ih4 _ _ _
      | exact ih5 _ _ _ _
      | exact hopmeshlaw22_awake.mono _
      | exact LeO.none _
      | refine LeO.ite ?_ ?_
      | refine LeO.bind ?_ (fun _ => ?_)
end Go.Proofs.Ytigobnphenhkjaa.Fns
