/- The law FragmentDecodes: its pure statement. -/
import Derived.Test.YtokapofgbcbajaaFx17
namespace Go.Proofs.Ytokapofgbcbajaa.Fns
open Go.RowKit Go.Proofs.YtokapofgbcbajaaW.PrintWords
theorem bt_get (a : ByteArray) (j : Nat) (h : j < a.size) : UInt8.ofNat (bt a (j : Int)).toNat = a[j] := by
  unfold bt
  rw [dif_pos (by simpa using h)]
  simp
theorem head_tail (a : ByteArray) (h : 4 ≤ a.size) : strOfNums [bt a 0, bt a 1, bt a 2, bt a 3] ++ a.extract 4 a.size = a := by
  have e0 := bt_get a 0 (by omega)
  have e1 := bt_get a 1 (by omega)
  have e2 := bt_get a 2 (by omega)
  have e3 := bt_get a 3 (by omega)
  have hsz : (strOfNums [bt a 0, bt a 1, bt a 2, bt a 3]).size = 4 := by rw [strOfNums_size]; rfl
  apply ByteArray.ext_getElem
  · rw [ByteArray.size_append, hsz, ByteArray.size_extract]; omega
  · intro j h1 h2
    by_cases hj : j < 4
    · rw [ByteArray.getElem_append_left (by omega)]
      have : j = 0 ∨ j = 1 ∨ j = 2 ∨ j = 3 := by omega
      rcases this with rfl | rfl | rfl | rfl
      · exact e0
      · exact e1
      · exact e2
      · exact e3
    · rw [ByteArray.getElem_append_right (by omega), ByteArray.getElem_extract]
      congr 1
      omega
theorem enc_dec (a : ByteArray) (h : (decF a).2.2.2.2.2 = 0) : encF (decF a).1 (decF a).2.1 (decF a).2.2.1 (decF a).2.2.2.1 (decF a).2.2.2.2.1 = (a, 0) := by
  unfold decF at h ⊢
  by_cases h4 : a.size < 4
  · rw [if_pos h4] at h; exact absurd h (by decide)
  · rw [if_neg h4] at h ⊢
    by_cases h5 : bt a 3 % 4 ≠ 0
    · rw [if_pos h5] at h; exact absurd h (by decide)
    · rw [if_neg h5] at h ⊢
      by_cases h6 : lenF (bt a 0) (bt a 1 / 8) (bt a 1 % 8 * 4 + bt a 2 / 64 + 1) (bt a 2 % 64 * 64 + bt a 3 / 4) ((a.size - 4 : Nat) : Int) = 0
      · rw [if_pos h6] at h; exact absurd h (by decide)
      · rw [if_neg h6]
        have hdz : (a.extract 4 a.size).size = a.size - 4 := by rw [ByteArray.size_extract]; omega
        have r1 := bt_range a 1
        have r2 := bt_range a 2
        have r3 := bt_range a 3
        show encF (bt a 0) (bt a 1 / 8) (bt a 1 % 8 * 4 + bt a 2 / 64 + 1) (bt a 2 % 64 * 64 + bt a 3 / 4) (a.extract 4 a.size) = (a, 0)
        unfold encF
        rw [hdz, if_neg h6]
        have hh : head4 (bt a 0) (bt a 1 / 8) (bt a 1 % 8 * 4 + bt a 2 / 64 + 1) (bt a 2 % 64 * 64 + bt a 3 / 4) = [bt a 0, bt a 1, bt a 2, bt a 3] := by
          unfold head4
          simp only [List.cons.injEq, and_true, true_and]
          refine ⟨by omega, by omega, by omega⟩
        rw [hh, head_tail a (by omega)]
theorem PureFragmentDecodes : hopmeshlaw15_FragmentDecodes.Pure := by
  intro a ha
  unfold hopmeshlaw15_FragmentDecodes.f hopmeshlaw15_awake.f fragment_Decode.f hopmeshref15_Decode.f
  rw [Option.bind_some, if_pos rfl, if_pos ha]
  by_cases h2 : (a.size : Int) > 200
  · rw [if_pos h2]
  · rw [if_neg h2, Option.bind_some, Option.bind_some]
    have hd : (decF a).2.2.2.2.1.size ≤ 140737488351232 := by
      have : (decF a).2.2.2.2.1.size ≤ a.size := by
        unfold decF
        repeat' split
        all_goals first
          | (show (a.extract 4 a.size).size ≤ a.size; rw [ByteArray.size_extract]; omega)
          | (show (0 : Nat) ≤ a.size; omega)
      omega
    rw [if_neg (by simp), if_pos rfl]
    unfold fragment_Encode.f
    rw [if_pos hd, Option.bind_some]
    split
    · rename_i h0
      rw [enc_dec a h0]
      simp
    · rfl
end Go.Proofs.Ytokapofgbcbajaa.Fns
namespace Go.Proofs.Ytokapofgbcbajaa.Pure
theorem FragmentDecodes : Fns.hopmeshlaw15_FragmentDecodes.Pure := Fns.PureFragmentDecodes
end Go.Proofs.Ytokapofgbcbajaa.Pure
