/- FragmentWhole in plain lists: what a receiver does with the pieces of one datagram. -/
import Derived.Test.YtokapofgbcbajaaSplitPure
import Derived.Test.YtokapofgbcbajaaRecvAll
import Derived.Test.YtokapofgbcbajaaMissPure
namespace Go.Proofs.Ytokapofgbcbajaa.Fns
open Go.RowKit Go.Maps Go.Proofs.YtokapofgbcbajaaW.PrintWords
/-- Piece k of d. -/
def pcs (d : ByteArray) (m k : Nat) : ByteArray := d.extract (k * m) (min ((k + 1) * m) d.size)
def prtS (z m : Nat) : Int := if cntS z m = 1 then (z : Int) else (m : Int)
theorem pcs_size {d : ByteArray} {m j : Nat} (h1 : j * m ≤ min ((j + 1) * m) d.size) : (pcs d m j).size = min ((j + 1) * m) d.size - j * m := by
  unfold pcs
  rw [ByteArray.size_extract]; omega
theorem pcs_len {t : Int} {d : ByteArray} {m j : Nat} (ht : 0 ≤ t ∧ t ≤ 255) (hs : 1 ≤ d.size ∧ d.size ≤ 4095) (hm : 1 ≤ m ∧ m ≤ 120) (hc : cntS d.size m ≤ 32) (hj : j < cntS d.size m) :
    lenF t j (cntS d.size m : Nat) (d.size : Nat) (((pcs d m j).size : Nat) : Int) = prtS d.size m ∧ (pcs d m j).size ≤ m := by
  obtain ⟨c1, c2, c3⟩ := cnt_law hs.1 hm.1
  have h1 := (step_facts hs hm hj hc).2.2.2
  rw [pcs_size h1]
  unfold prtS
  have hjm : (j + 1) * m = j * m + m := by rw [Nat.add_mul, Nat.one_mul]
  generalize hcn : cntS d.size m = n at c1 c2 c3 hj hc ⊢
  generalize d.size = z at hs c2 c3 h1 ⊢
  have hle : min ((j + 1) * m) z - j * m ≤ m := by omega
  refine ⟨?_, hle⟩
  unfold lenF
  by_cases hn1 : n = 1
  · subst hn1
    obtain rfl : j = 0 := by omega
    have hzm : min ((0 + 1) * m) z - 0 * m = z := by omega
    rw [hzm, if_neg (by unfold Fine; omega), if_pos (by omega), if_pos ⟨rfl, by omega⟩, if_pos rfl]
  · obtain ⟨q, rfl⟩ : ∃ q, n = q + 1 := ⟨n - 1, by omega⟩
    have hq : q + 1 - 1 = q := by omega
    rw [hq] at c2
    have hcm : (q + 1) * m = q * m + m := by rw [Nat.add_mul, Nat.one_mul]
    by_cases hl : j = q
    · subst hl
      have hp : min ((j + 1) * m) z - j * m = z - j * m := by omega
      have hpq : j * m < z := c2
      have he1 : ((z : Nat) : Int) - ((z - j * m : Nat) : Int) = ((m : Nat) : Int) * ((j : Nat) : Int) := by
        rw [show (m : Int) * (j : Int) = ((j * m : Nat) : Int) by rw [Nat.mul_comm]; simp]
        omega
      have he2 : (((j + 1 : Nat) : Int) - 1) = (j : Int) := by omega
      have hj0 : (j : Int) ≠ 0 := by omega
      have hzj1 : z - j * m < z ∧ 1 ≤ z - j * m ∧ z - j * m ≤ m := by
        have h2 : j * m < z := c2
        have h3 : z ≤ j * m + m := by rw [← hcm]; exact c3
        have h4 : j * m ≠ 0 := Nat.mul_ne_zero (by omega) (by omega)
        generalize j * m = p at h2 h3 h4 ⊢
        omega
      have hzj : ((z - j * m : Nat) : Int) < (z : Int) ∧ 1 ≤ ((z - j * m : Nat) : Int) ∧ ((z - j * m : Nat) : Int) ≤ (m : Int) := ⟨Int.ofNat_lt.2 hzj1.1, Int.ofNat_le.2 hzj1.2.1, Int.ofNat_le.2 hzj1.2.2⟩
      rw [hp, if_neg (by unfold Fine; omega), if_neg (by omega), if_pos (by omega), he1, he2, Int.mul_ediv_cancel _ hj0, Int.mul_emod_left]
      generalize ((z - j * m : Nat) : Int) = y at hzj ⊢
      rw [if_pos ⟨hzj.1, rfl, hzj.2.2, by omega⟩, if_neg hn1]
    · have hjm2 : (j + 1) * m ≤ q * m := Nat.mul_le_mul_right m (by omega)
      have hp : min ((j + 1) * m) z - j * m = m := by omega
      have he2 : (((q + 1 : Nat) : Int) - 1) * (m : Int) = ((q * m : Nat) : Int) := by
        rw [show ((q + 1 : Nat) : Int) - 1 = (q : Int) by omega]; simp
      have he3 : ((q + 1 : Nat) : Int) * (m : Int) = (((q + 1) * m : Nat) : Int) := by simp
      rw [hp, if_neg (by unfold Fine; omega), if_neg (by omega), if_neg (by omega), he2, he3, if_pos (by omega), if_neg hn1]
theorem prtS_ne {z m : Nat} (hs : 1 ≤ z) (hm : 1 ≤ m) : prtS z m ≠ 0 := by unfold prtS; split <;> omega
/-- What the receiver has of d, b being the bits of the pieces that came. -/
def prts (d : ByteArray) (m b : Nat) : List ByteArray := (List.range 32).map fun k => if b.testBit k then pcs d m k else ⟨#[]⟩
def dgW (d : ByteArray) (m b : Nat) (last : Int) : Dg := ⟨(cntS d.size m : Nat), (d.size : Nat), prtS d.size m, last, b, prts d m b⟩
theorem prts_getD {d : ByteArray} {m b k : Nat} (hk : k < 32) : (prts d m b).getD k ⟨#[]⟩ = if b.testBit k then pcs d m k else ⟨#[]⟩ := by
  unfold prts
  rw [List.getD_eq_getElem?_getD, List.getElem?_map, List.getElem?_range hk]; rfl
theorem bit_or (b k i : Nat) : (b ||| 2 ^ k).testBit i = (b.testBit i || decide (k = i)) := by rw [Nat.testBit_or, Nat.testBit_two_pow]
theorem prts_set {d : ByteArray} {m b k : Nat} (hk : k < 32) : (prts d m b).set k (pcs d m k) = prts d m (b ||| 2 ^ k) := by
  apply List.ext_getElem?
  intro i
  rw [List.getElem?_set]
  by_cases hi : i < 32
  · have e1 : ∀ b', (prts d m b')[i]? = some (if b'.testBit i then pcs d m i else ⟨#[]⟩) := fun b' => by unfold prts; rw [List.getElem?_map, List.getElem?_range hi]; rfl
    rw [e1, e1, bit_or]
    by_cases e : k = i
    · subst e
      rw [if_pos rfl, if_pos (by simp [prts]; omega), decide_eq_true rfl, Bool.or_true, if_pos rfl]
    · rw [if_neg e, decide_eq_false e, Bool.or_false]
  · have e1 : ∀ b', (prts d m b')[i]? = none := fun b' => List.getElem?_eq_none (by simp [prts]; omega)
    rw [e1, e1, if_neg (by omega)]
theorem newD_W {t : Int} {d : ByteArray} {m k : Nat} (ht : 0 ≤ t ∧ t ≤ 255) (hs : 1 ≤ d.size ∧ d.size ≤ 4095) (hm : 1 ≤ m ∧ m ≤ 120) (hc : cntS d.size m ≤ 32) (hk : k < cntS d.size m) : newD t k (cntS d.size m : Nat) (d.size : Nat) (pcs d m k) = dgW d m 0 0 := by
  unfold newD dgW
  rw [(pcs_len ht hs hm hc hk).1]
  congr 1
theorem putF_W (d : ByteArray) (m b : Nat) (last slot : Int) (k : Nat) (hk : k < 32) : putF (dgW d m b last) slot k (pcs d m k) = dgW d m (b ||| 2 ^ k) slot := by
  unfold putF dgW
  simp only
  rw [prts_set hk]
theorem okF_W {t : Int} {d : ByteArray} {m k : Nat} (ht : 0 ≤ t ∧ t ≤ 255) (hs : 1 ≤ d.size ∧ d.size ≤ 4095) (hm : 1 ≤ m ∧ m ≤ 120) (hc : cntS d.size m ≤ 32) (hk : k < cntS d.size m) (b : Nat) (last : Int) : okF (dgW d m b last) t k (cntS d.size m : Nat) (d.size : Nat) (pcs d m k) = true := by
  unfold okF dgW
  simp only
  rw [(pcs_len ht hs hm hc hk).1, Int.toNat_natCast, prts_getD (by omega)]
  cases hb : b.testBit k <;> simp
/-- The pieces up to j, one behind the other. -/
theorem ext_joinW (d : ByteArray) (a b : Nat) (h1 : a ≤ b) (h2 : b ≤ d.size) : d.extract 0 a ++ d.extract a b = d.extract 0 b := by
  apply ByteArray.ext_getElem
  · rw [ByteArray.size_append, ByteArray.size_extract, ByteArray.size_extract, ByteArray.size_extract]; omega
  · intro j hj hj2
    by_cases hlt : j < a
    · rw [ByteArray.getElem_append_left (by rw [ByteArray.size_extract]; omega), ByteArray.getElem_extract, ByteArray.getElem_extract]
    · rw [ByteArray.getElem_append_right (by rw [ByteArray.size_extract]; omega), ByteArray.getElem_extract, ByteArray.getElem_extract]
      congr 1
      rw [ByteArray.size_extract]
      omega
theorem ext_allW (d : ByteArray) : d.extract 0 d.size = d := by
  apply ByteArray.ext_getElem
  · rw [ByteArray.size_extract]; omega
  · intro j hj hj2
    rw [ByteArray.getElem_extract]
    congr 1
    omega
theorem join_nosep : ∀ xs : List (List UInt8), Lib.join xs [] = xs.flatten
  | [] => rfl
  | x :: r => by
    rw [Lib.join_cons, Lib.joinTail, List.flatten_cons]
    congr 2
    simp
theorem catP_snoc (xs : List ByteArray) (x : ByteArray) : catP (xs ++ [x]) = catP xs ++ x := by
  unfold catP
  rw [join_nosep, join_nosep]
  apply ByteArray.ext
  rw [ByteArray.data_append]
  simp
theorem catP_pcs (d : ByteArray) (m : Nat) (hs : 1 ≤ d.size ∧ d.size ≤ 4095) (hm : 1 ≤ m ∧ m ≤ 120) (hc : cntS d.size m ≤ 32) : ∀ j, j ≤ cntS d.size m → catP ((List.range j).map (pcs d m)) = d.extract 0 (min (j * m) d.size) := by
  intro j
  induction j with
  | zero =>
    intro _
    have e : min (0 * m) d.size = 0 := by omega
    rw [e]
    apply ByteArray.ext_getElem
    · rw [ByteArray.size_extract]; rfl
    · intro j h1 h2
      rw [ByteArray.size_extract] at h2
      omega
  | succ j ih =>
    intro hj
    have h1 := (step_facts hs hm (by omega : j < cntS d.size m) hc).2.2.2
    rw [List.range_succ, List.map_append, List.map_singleton, catP_snoc, ih (by omega)]
    have e : min (j * m) d.size = j * m := by omega
    rw [e]
    exact ext_joinW d _ _ h1 (Nat.min_le_right _ _)
/-- All bits below n. -/
theorem all_bits {b n : Nat} (hb : b < 2 ^ n) : b = 2 ^ n - 1 ↔ ∀ i, i < n → b.testBit i = true := by
  constructor
  · rintro rfl i hi
    rw [Nat.testBit_two_pow_sub_one, decide_eq_true hi]
  · intro h
    apply Nat.eq_of_testBit_eq
    intro i
    rw [Nat.testBit_two_pow_sub_one]
    by_cases hi : i < n
    · rw [h i hi, decide_eq_true hi]
    · rw [decide_eq_false hi]
      exact Nat.testBit_lt_two_pow (Nat.lt_of_lt_of_le hb (Nat.pow_le_pow_right (by decide) (by omega)))
theorem cat_all {d : ByteArray} {m b : Nat} (hs : 1 ≤ d.size ∧ d.size ≤ 4095) (hm : 1 ≤ m ∧ m ≤ 120) (hc : cntS d.size m ≤ 32) (hb : ∀ i, i < cntS d.size m → b.testBit i = true) : catP ((prts d m b).take (cntS d.size m)) = d := by
  have e : (prts d m b).take (cntS d.size m) = (List.range (cntS d.size m)).map (pcs d m) := by
    unfold prts
    rw [← List.map_take, List.take_range, Nat.min_eq_left hc]
    refine List.map_congr_left (fun i hi => ?_)
    rw [hb i (List.mem_range.1 hi), if_pos rfl]
  rw [e, catP_pcs d m hs hm hc _ (Nat.le_refl _), Nat.min_eq_right (cnt_law hs.1 hm.1).2.2, ext_allW]
/-- How many pieces came. -/
def pcnt (b n : Nat) : Nat := ((List.range n).filter fun i => b.testBit i).length
theorem pcnt_succ (b n : Nat) : pcnt b (n + 1) = pcnt b n + if b.testBit n then 1 else 0 := by
  unfold pcnt
  rw [List.range_succ, List.filter_append, List.length_append]
  cases h : b.testBit n <;> simp [h]
theorem pcnt_le (b n : Nat) : pcnt b n ≤ n := by
  unfold pcnt
  have := List.length_filter_le (fun i => b.testBit i) (List.range n)
  rw [List.length_range] at this
  exact this
theorem pcnt_all (b : Nat) : ∀ n, pcnt b n = n ↔ ∀ i, i < n → b.testBit i = true
  | 0 => by simp [pcnt]
  | n + 1 => by
    rw [pcnt_succ]
    have h1 := pcnt_le b n
    have ih := pcnt_all b n
    constructor
    · intro h i hi
      have h2 : b.testBit n = true := by
        cases hb : b.testBit n with
        | true => rfl
        | false => rw [hb, if_neg (by decide)] at h; omega
      rw [h2, if_pos rfl] at h
      by_cases e : i = n
      · rw [e]; exact h2
      · exact ih.1 (by omega) i (by omega)
    · intro h
      rw [h n (by omega), if_pos rfl, ih.2 (fun i hi => h i (by omega))]
theorem pcnt_or {b k : Nat} : ∀ n, pcnt (b ||| 2 ^ k) n = if b.testBit k = false ∧ k < n then pcnt b n + 1 else pcnt b n
  | 0 => by simp [pcnt]
  | n + 1 => by
    rw [pcnt_succ, pcnt_succ, pcnt_or n, bit_or]
    by_cases e : k = n
    · subst e
      rw [decide_eq_true rfl, Bool.or_true, if_pos rfl, if_neg (by omega)]
      cases hb : b.testBit k with
      | true => rw [if_neg (by simp), if_pos rfl]
      | false => rw [if_pos ⟨rfl, by omega⟩, if_neg (by decide)]
    · rw [decide_eq_false e, Bool.or_false]
      by_cases hk : b.testBit k = false ∧ k < n
      · rw [if_pos hk, if_pos (show b.testBit k = false ∧ k < n + 1 from ⟨hk.1, by omega⟩)]; omega
      · rw [if_neg hk, if_neg (show ¬ (b.testBit k = false ∧ k < n + 1) from fun h => hk ⟨h.1, by omega⟩)]
theorem or_same {b k : Nat} (h : b.testBit k = true) : b ||| 2 ^ k = b := by
  apply Nat.eq_of_testBit_eq
  intro i
  rw [bit_or]
  by_cases e : k = i
  · subst e; rw [h]; rfl
  · rw [decide_eq_false e, Bool.or_false]
theorem or_lt {b k n : Nat} (hb : b < 2 ^ n) (hk : k < n) : b ||| 2 ^ k < 2 ^ n := Nat.or_lt_two_pow hb (Nat.pow_lt_pow_right (by decide) hk)
theorem or_ne (b k : Nat) : b ||| 2 ^ k ≠ 0 := by
  intro h
  have := bit_or b k k
  rw [h, decide_eq_true rfl, Bool.or_true, Nat.zero_testBit] at this
  cases this
/-- What arrival k hands out. -/
def outW (d : ByteArray) (m b k : Nat) : ByteArray × Bool := if b.testBit k = false ∧ pcnt (b ||| 2 ^ k) (cntS d.size m) = cntS d.size m then (d, true) else (⟨#[]⟩, false)
theorem outF_W {d : ByteArray} {m b k : Nat} (hs : 1 ≤ d.size ∧ d.size ≤ 4095) (hm : 1 ≤ m ∧ m ≤ 120) (hc : cntS d.size m ≤ 32) (hk : k < cntS d.size m) (hb : b < 2 ^ cntS d.size m) (l1 l2 : Int) :
    outF (dgW d m b l1) (dgW d m (b ||| 2 ^ k) l2) = outW d m b k := by
  unfold outF outW
  have hb2 := or_lt hb hk
  have hA : ∀ b' : Nat, b' < 2 ^ cntS d.size m → (b' = allB ((cntS d.size m : Nat) : Int) ↔ ∀ i, i < cntS d.size m → b'.testBit i = true) := fun b' h => by
    unfold allB
    rw [Int.toNat_natCast]
    exact all_bits h
  show (if b = allB ((cntS d.size m : Nat) : Int) ∨ (b ||| 2 ^ k) ≠ allB ((cntS d.size m : Nat) : Int) then _ else (catP ((prts d m (b ||| 2 ^ k)).take ((cntS d.size m : Nat) : Int).toNat), true)) = _
  rw [Int.toNat_natCast]
  by_cases hbk : b.testBit k = true
  · rw [or_same hbk, if_pos (by
      by_cases h : b = allB ((cntS d.size m : Nat) : Int)
      · exact .inl h
      · exact .inr h), if_neg (fun h => by rw [hbk] at h; cases h.1)]
  · have hbf : b.testBit k = false := by simpa using hbk
    have hne : b ≠ allB ((cntS d.size m : Nat) : Int) := fun h => hbk ((hA b hb).1 h k hk)
    by_cases hall : ∀ i, i < cntS d.size m → (b ||| 2 ^ k).testBit i = true
    · rw [if_neg (fun h => h.elim hne (fun h2 => h2 ((hA _ hb2).2 hall))), if_pos ⟨hbf, (pcnt_all _ _).2 hall⟩, cat_all hs hm hc hall]
    · rw [if_pos (.inr (fun h => hall ((hA _ hb2).1 h))), if_neg (fun h => hall ((pcnt_all _ _).1 h.2))]
/-- What the receiver has, b being the bits of the pieces that came. -/
def lW (d : ByteArray) (m b : Nat) (last : Int) : List (Int × Dg) := if b = 0 then [] else [(3, dgW d m b last)]
theorem recv_W {d : ByteArray} {m b k : Nat} (hs : 1 ≤ d.size ∧ d.size ≤ 4095) (hm : 1 ≤ m ∧ m ≤ 120) (hc : cntS d.size m ≤ 32) (hk : k < cntS d.size m) (hb : b < 2 ^ cntS d.size m) {last time slot : Int} (hl : 0 ≤ last) (ht : time ≤ slot) (h60 : slot ≤ 60) :
    recvF 100 time (lW d m b last) slot 3 k (cntS d.size m : Nat) (d.size : Nat) (pcs d m k) = ⟨(outW d m b k).1, (outW d m b k).2, 0, slot, lW d m (b ||| 2 ^ k) slot⟩ := by
  have hlen := (pcs_len (t := 3) (by decide) hs hm hc hk).1
  have hp := prtS_ne hs.1 hm.1
  have hn := newD_W (t := 3) (by decide) hs hm hc hk
  have hlw : lW d m (b ||| 2 ^ k) slot = [(3, dgW d m (b ||| 2 ^ k) slot)] := by unfold lW; rw [if_neg (or_ne b k)]
  have hkept : keptP (slot - 100) (lW d m b last) = lW d m b last := by
    unfold keptP lW
    split
    · rfl
    · have hd : decide (last < slot - 100) = false := decide_eq_false (by omega)
      simp [dgW, hd]
  have hget : getP (lW d m b last) 3 (dgW d m 0 0) = [(3, dgW d m b (if b = 0 then 0 else last))] := by
    unfold lW
    by_cases h : b = 0
    · subst h; rfl
    · rw [if_neg h, if_neg h]; rfl
  unfold recvF
  rw [hlen, if_neg hp, if_neg (show ¬ (slot < time ∨ 109951162 < slot) by omega), hkept]
  have hno : ¬ (lookP (lW d m b last) 3 = none ∧ 8 ≤ (lW d m b last).length) := by
    rintro ⟨_, h8⟩
    unfold lW at h8
    split at h8 <;> simp at h8
  rw [if_neg hno]
  simp only
  rw [hn, hget]
  have hd0 : ((lookP [((3 : Int), dgW d m b (if b = 0 then 0 else last))] 3).getD zD) = dgW d m b (if b = 0 then 0 else last) := rfl
  rw [hd0, okF_W (by decide) hs hm hc hk, if_neg (by decide), Int.toNat_natCast, putF_W d m b _ slot k (by omega), outF_W hs hm hc hk hb, hlw]
  rfl
end Go.Proofs.Ytokapofgbcbajaa.Fns
