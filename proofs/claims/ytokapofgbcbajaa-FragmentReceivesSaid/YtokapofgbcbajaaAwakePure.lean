/- The example of the chapter, reckoned. -/
import Derived.Test.YtokapofgbcbajaaRecvAll
import Derived.Test.YtokapofgbcbajaaFx2
import Derived.Test.YtokapofgbcbajaaFx4
import Derived.Test.YtokapofgbcbajaaFx10
namespace Go.Proofs.Ytokapofgbcbajaa.Fns
open Go.RowKit Go.Proofs.YtokapofgbcbajaaW.PrintWords
def sAll : ByteArray := ⟨#[97, 98, 99, 100, 101]⟩
def sA : ByteArray := ⟨#[97, 98]⟩
def sB : ByteArray := ⟨#[99, 100]⟩
def sC : ByteArray := ⟨#[101]⟩
def awL : List S23 := [⟨7, 0, 3, 5, sA⟩, ⟨7, 1, 3, 5, sB⟩, ⟨7, 2, 3, 5, sC⟩]
theorem aw_split : fragment_Split.f 9 7 sAll 2 = some (awL, 0) := by kernel_rfl
def aw1 : Res := recvF 10 0 [] 1 7 0 3 5 sA
def aw2 : Res := recvF 10 aw1.time aw1.l 2 7 2 3 5 sC
def aw3 : Res := recvF 10 aw2.time aw2.l 3 7 1 3 5 sB
theorem aw_bmp : bmpF aw2.l 7 = 5 := by kernel_rfl
theorem aw_bmpE : bmpE aw2.l 7 = 0 := by kernel_rfl
theorem aw_s : aw3.s = ⟨#[97, 98, 99, 100, 101]⟩ := by kernel_rfl
theorem aw_ok : aw3.ok = true := by kernel_rfl
theorem aw_err : aw3.err = 0 := by kernel_rfl
theorem aw_missing : fragment_Missing.f 9 3 5 = some ([1], 0) := by kernel_rfl
theorem aw_equal : slices_Equal_int_int.f 9 [1] [1] = some true := by kernel_rfl
theorem aw_enc : encF 7 2 3 5 sC = (⟨#[7, 16, 128, 20, 101]⟩, 0) := by kernel_rfl
end Go.Proofs.Ytokapofgbcbajaa.Fns
