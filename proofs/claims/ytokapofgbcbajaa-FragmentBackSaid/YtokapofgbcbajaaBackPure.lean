/- The pieces of a datagram: valid, restored from their bytes, and the datagram together. -/
import Derived.Test.YtokapofgbcbajaaSplitPure
import Derived.Test.YtokapofgbcbajaaPureFragmentDecodes
namespace Go.Proofs.Ytokapofgbcbajaa.Fns
open Go.RowKit Go.Proofs.YtokapofgbcbajaaW.PrintWords
theorem bt_num (xs : List Int) (d : ByteArray) (j : Nat) (x : Int) (hx : xs[j]? = some x) (h0 : 0 ≤ x ∧ x ≤ 255) : bt (strOfNums xs ++ d) (j : Int) = x := by
  obtain ⟨hj, rfl⟩ := List.getElem?_eq_some_iff.1 hx
  have hz : (strOfNums xs).size = xs.length := strOfNums_size xs
  unfold bt
  rw [dif_pos (by rw [ByteArray.size_append, hz, Int.toNat_natCast]; omega)]
  rw [ByteArray.getElem_append_left (by rw [hz, Int.toNat_natCast]; exact hj)]
  have he : (strOfNums xs)[(j : Int).toNat]'(by rw [hz, Int.toNat_natCast]; exact hj) = UInt8.ofNat (xs[j]).toNat := by
    show (xs.map fun n => UInt8.ofNat n.toNat).toArray[(j : Int).toNat]'_ = _
    simp
  rw [he]
  simp
  omega
theorem ext_tail (x d : ByteArray) (n : Nat) (hn : x.size = n) : (x ++ d).extract n (x ++ d).size = d := by
  apply ByteArray.ext_getElem
  · rw [ByteArray.size_extract, ByteArray.size_append]; omega
  · intro j h1 h2
    rw [ByteArray.getElem_extract, ByteArray.getElem_append_right (by omega)]
    congr 1
    omega
theorem dec_enc (t i c s : Int) (d : ByteArray) (h : lenF t i c s d.size ≠ 0) : decF (strOfNums (head4 t i c s) ++ d) = (t, i, c, s, d, 0) := by
  obtain ⟨⟨f1, f2, f3, f4, f5, f6, f7, f8⟩, f9⟩ := lenF_fine h
  have hz : (strOfNums (head4 t i c s)).size = 4 := by rw [strOfNums_size]; rfl
  have b0 : bt (strOfNums (head4 t i c s) ++ d) 0 = t := bt_num _ d 0 t rfl ⟨f1, f2⟩
  have b1 : bt (strOfNums (head4 t i c s) ++ d) 1 = i * 8 + (c - 1) / 4 := bt_num _ d 1 _ rfl (by omega)
  have b2 : bt (strOfNums (head4 t i c s) ++ d) 2 = (c - 1) % 4 * 64 + s / 64 := bt_num _ d 2 _ rfl (by omega)
  have b3 : bt (strOfNums (head4 t i c s) ++ d) 3 = s % 64 * 4 := bt_num _ d 3 _ rfl (by omega)
  have hsz : (strOfNums (head4 t i c s) ++ d).size = 4 + d.size := by rw [ByteArray.size_append, hz]
  have e1 : (i * 8 + (c - 1) / 4) / 8 = i := by omega
  have e2 : (i * 8 + (c - 1) / 4) % 8 * 4 + ((c - 1) % 4 * 64 + s / 64) / 64 + 1 = c := by omega
  have e3 : ((c - 1) % 4 * 64 + s / 64) % 64 * 64 + s % 64 * 4 / 4 = s := by omega
  unfold decF
  rw [b0, b1, b2, b3, e1, e2, e3, ext_tail _ d 4 hz, hsz, if_neg (by omega), if_neg (by omega), show 4 + d.size - 4 = d.size by omega, if_neg h]
theorem piece_size {d : ByteArray} {m j : Nat} (h1 : j * m ≤ min ((j + 1) * m) d.size) : (d.extract (j * m) (min ((j + 1) * m) d.size)).size = min ((j + 1) * m) d.size - j * m := by
  rw [ByteArray.size_extract]; omega
theorem piece_len {t : Int} {d : ByteArray} {m j : Nat} (ht : 0 ≤ t ∧ t ≤ 255) (hs : 1 ≤ d.size ∧ d.size ≤ 4095) (hm : 1 ≤ m ∧ m ≤ 120) (hc : cntS d.size m ≤ 32) (hj : j < cntS d.size m) :
    lenF t j (cntS d.size m : Nat) (d.size : Nat) (((d.extract (j * m) (min ((j + 1) * m) d.size)).size : Nat) : Int) ≠ 0 ∧ (d.extract (j * m) (min ((j + 1) * m) d.size)).size ≤ m := by
  obtain ⟨c1, c2, c3⟩ := cnt_law hs.1 hm.1
  have h1 := (step_facts hs hm hj hc).2.2.2
  rw [piece_size h1]
  have hjm : (j + 1) * m = j * m + m := by rw [Nat.add_mul, Nat.one_mul]
  generalize hcn : cntS d.size m = n at c1 c2 c3 hj hc ⊢
  generalize d.size = z at hs c2 c3 h1 ⊢
  have hle : min ((j + 1) * m) z - j * m ≤ m := by omega
  refine ⟨?_, hle⟩
  unfold lenF
  by_cases hn1 : n = 1
  · subst hn1
    obtain rfl : j = 0 := by omega
    have hzm : min ((0 + 1) * m) z - 0 * m = z := by omega
    rw [hzm, if_neg (by unfold Fine; omega), if_pos (by omega), if_pos ⟨rfl, by omega⟩]
    omega
  · obtain ⟨q, rfl⟩ : ∃ q, n = q + 1 := ⟨n - 1, by omega⟩
    have hq : q + 1 - 1 = q := by omega
    rw [hq] at c2
    have hcm : (q + 1) * m = q * m + m := by rw [Nat.add_mul, Nat.one_mul]
    by_cases hl : j = q
    · subst hl
      have hp : min ((j + 1) * m) z - j * m = z - j * m := by omega
      have hpq : j * m < z := c2
      have he1 : ((z : Nat) : Int) - ((z - j * m : Nat) : Int) = ((m : Nat) : Int) * ((j : Nat) : Int) := by
        rw [show (m : Int) * (j : Int) = ((j * m : Nat) : Int) by rw [Nat.mul_comm]; simp]
        omega
      have he2 : (((j + 1 : Nat) : Int) - 1) = (j : Int) := by omega
      have hj0 : (j : Int) ≠ 0 := by omega
      have hzj1 : z - j * m < z ∧ 1 ≤ z - j * m ∧ z - j * m ≤ m := by
        have h2 : j * m < z := c2
        have h3 : z ≤ j * m + m := by rw [← hcm]; exact c3
        have h4 : j * m ≠ 0 := Nat.mul_ne_zero (by omega) (by omega)
        generalize j * m = p at h2 h3 h4 ⊢
        omega
      have hzj : ((z - j * m : Nat) : Int) < (z : Int) ∧ 1 ≤ ((z - j * m : Nat) : Int) ∧ ((z - j * m : Nat) : Int) ≤ (m : Int) := ⟨Int.ofNat_lt.2 hzj1.1, Int.ofNat_le.2 hzj1.2.1, Int.ofNat_le.2 hzj1.2.2⟩
      rw [hp, if_neg (by unfold Fine; omega), if_neg (by omega), if_pos (by omega), he1, he2, Int.mul_ediv_cancel _ hj0, Int.mul_emod_left]
      generalize ((z - j * m : Nat) : Int) = y at hzj ⊢
      rw [if_pos ⟨hzj.1, rfl, hzj.2.2, by omega⟩]
      omega
    · have hjm2 : (j + 1) * m ≤ q * m := Nat.mul_le_mul_right m (by omega)
      have hp : min ((j + 1) * m) z - j * m = m := by omega
      have he2 : (((q + 1 : Nat) : Int) - 1) * (m : Int) = ((q * m : Nat) : Int) := by
        rw [show ((q + 1 : Nat) : Int) - 1 = (q : Int) by omega]; simp
      have he3 : ((q + 1 : Nat) : Int) * (m : Int) = (((q + 1) * m : Nat) : Int) := by simp
      rw [hp, if_neg (by unfold Fine; omega), if_neg (by omega), if_neg (by omega), he2, he3, if_pos (by omega)]
      omega
theorem ext_join (d : ByteArray) (a b : Nat) (h1 : a ≤ b) (h2 : b ≤ d.size) : d.extract 0 a ++ d.extract a b = d.extract 0 b := by
  apply ByteArray.ext_getElem
  · rw [ByteArray.size_append, ByteArray.size_extract, ByteArray.size_extract, ByteArray.size_extract]; omega
  · intro j hj hj2
    by_cases hlt : j < a
    · rw [ByteArray.getElem_append_left (by rw [ByteArray.size_extract]; omega), ByteArray.getElem_extract, ByteArray.getElem_extract]
    · rw [ByteArray.getElem_append_right (by rw [ByteArray.size_extract]; omega), ByteArray.getElem_extract, ByteArray.getElem_extract]
      congr 1
      rw [ByteArray.size_extract]
      omega
theorem ext_all (d : ByteArray) : d.extract 0 d.size = d := by
  apply ByteArray.ext_getElem
  · rw [ByteArray.size_extract]; omega
  · intro j hj hj2
    rw [ByteArray.getElem_extract]
    congr 1
    omega
end Go.Proofs.Ytokapofgbcbajaa.Fns
