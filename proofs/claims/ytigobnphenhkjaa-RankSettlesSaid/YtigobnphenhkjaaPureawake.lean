/- awake: the fixed run, computed. -/
import Derived.Test.YtigobnphenhkjaaFx15
namespace Go.Proofs.Ytigobnphenhkjaa.Pure
open Go.RowKit Go.Proofs.Ytigobnphenhkjaa.Fns Go.Proofs.YtigobnphenhkjaaW.PrintWords Go.Proofs.YtigobnphenhkjaaW.PrintLast
set_option linter.unusedVariables false
theorem srt2 : srt [2, 1] = [1, 2] := by simp [srt, List.mergeSort, List.MergeSort.Internal.splitInTwo]
theorem cycle2 : cycle [⟨2, 0, 1, 0, 0, 0⟩, ⟨1, 0, 2, 0, 0, 0⟩] = [1, 2] := by
  unfold cycle
  rw [show ([⟨2, 0, 1, 0, 0, 0⟩, ⟨1, 0, 2, 0, 0, 0⟩] : List S23).map (fun s => s.f0) = [2, 1] from rfl, srt2]
  decide
theorem awake9 : hopmeshlaw22_awake.f 9 = some true := by
  have hp : rank_Play.f 3 ([⟨1, 0, 0, 0⟩, ⟨2, 1, 0, 128⟩, ⟨1, 1, 0, 0⟩, ⟨2, 2, 1, 100⟩, ⟨1, 2, 0, 0⟩, ⟨3, 1, 0, 0⟩, ⟨2, 1, 2, 1⟩] : List S50) = some ([⟨0, 1, -1, 0, 0, 0⟩, ⟨1, 1, -1, 65535, 65535, 128⟩, ⟨2, 1, 1, 128, 228, 228⟩], 0) := by kernel_rfl
  have hc : rank_Cycle.f ([⟨2, 0, 1, 0, 0, 0⟩, ⟨1, 0, 2, 0, 0, 0⟩] : List S23) = some [1, 2] := by
    unfold rank_Cycle.f; rw [cycle2]; rfl
  unfold hopmeshlaw22_awake.f
  rw [hp, hc, Option.bind_some, Option.bind_some]
  rw [show (slices_Equal_int_int.f 9 [1, 2] [1, 2]) = some true by kernel_rfl]
  rfl
theorem awake : hopmeshlaw22_awake.Pure := ⟨9, awake9⟩
end Go.Proofs.Ytigobnphenhkjaa.Pure
