/- Bits put together to bytes, the highest one first: plain lists. -/
import Derived.Test.YtokapofgbcbajaaFx0
namespace Go.Proofs.Ytokapofgbcbajaa.Fns
open Go.RowKit Go.Proofs.YtokapofgbcbajaaW.PrintWords
def byteAt (bs : List Int) (j : Nat) : Int :=
  bs.getD (8 * j) 0 * 128 + bs.getD (8 * j + 1) 0 * 64 + bs.getD (8 * j + 2) 0 * 32 + bs.getD (8 * j + 3) 0 * 16 + bs.getD (8 * j + 4) 0 * 8 + bs.getD (8 * j + 5) 0 * 4 + bs.getD (8 * j + 6) 0 * 2 + bs.getD (8 * j + 7) 0
def pk (bs : List Int) : List Int := (List.range ((bs.length + 7) / 8)).map (byteAt bs)
def Bits (bs : List Int) : Prop := ∀ x ∈ bs, x = 0 ∨ x = 1
theorem getD_snoc (bs : List Int) (b : Int) (i : Nat) : (bs ++ [b]).getD i 0 = bs.getD i 0 + if i = bs.length then b else 0 := by
  simp only [List.getD_eq_getElem?_getD, List.getElem?_append]
  by_cases h : i < bs.length
  · rw [if_pos h, if_neg (by omega)]; omega
  · rw [if_neg h]
    by_cases h2 : i = bs.length
    · subst h2; simp
    · rw [if_neg h2]
      rw [List.getElem?_eq_none (by simp; omega), List.getElem?_eq_none (by omega)]
      rfl
theorem getD_bit {bs : List Int} (h : Bits bs) (i : Nat) : bs.getD i 0 = 0 ∨ bs.getD i 0 = 1 := by
  rw [List.getD_eq_getElem?_getD]
  by_cases hi : i < bs.length
  · rw [List.getElem?_eq_getElem hi]; exact h _ (List.getElem_mem hi)
  · rw [List.getElem?_eq_none (by omega)]; exact .inl rfl
theorem getD_out {bs : List Int} {i : Nat} (hi : bs.length ≤ i) : bs.getD i 0 = 0 := by
  rw [List.getD_eq_getElem?_getD, List.getElem?_eq_none hi]; rfl
/-- the weight of the next bit -/
def wt (n : Nat) : Int := 2 ^ (7 - n % 8)
theorem wt_cases (n : Nat) : (n % 8 = 0 ∧ wt n = 128) ∨ (n % 8 = 1 ∧ wt n = 64) ∨ (n % 8 = 2 ∧ wt n = 32) ∨ (n % 8 = 3 ∧ wt n = 16) ∨ (n % 8 = 4 ∧ wt n = 8) ∨ (n % 8 = 5 ∧ wt n = 4) ∨ (n % 8 = 6 ∧ wt n = 2) ∨ (n % 8 = 7 ∧ wt n = 1) := by
  unfold wt
  have h : n % 8 = 0 ∨ n % 8 = 1 ∨ n % 8 = 2 ∨ n % 8 = 3 ∨ n % 8 = 4 ∨ n % 8 = 5 ∨ n % 8 = 6 ∨ n % 8 = 7 := by omega
  rcases h with h | h | h | h | h | h | h | h <;> simp [h]
theorem byteAt_snoc (bs : List Int) (b : Int) (j : Nat) : byteAt (bs ++ [b]) j = byteAt bs j + if j = bs.length / 8 then b * wt bs.length else 0 := by
  unfold byteAt
  simp only [getD_snoc]
  generalize bs.length = n
  by_cases hj : j = n / 8
  · rw [if_pos hj]
    rcases wt_cases n with ⟨h, e⟩ | ⟨h, e⟩ | ⟨h, e⟩ | ⟨h, e⟩ | ⟨h, e⟩ | ⟨h, e⟩ | ⟨h, e⟩ | ⟨h, e⟩ <;> rw [e]
    · rw [if_pos (show 8 * j = n by omega), if_neg (show ¬ 8 * j + 1 = n by omega), if_neg (show ¬ 8 * j + 2 = n by omega), if_neg (show ¬ 8 * j + 3 = n by omega), if_neg (show ¬ 8 * j + 4 = n by omega), if_neg (show ¬ 8 * j + 5 = n by omega), if_neg (show ¬ 8 * j + 6 = n by omega), if_neg (show ¬ 8 * j + 7 = n by omega)]; omega
    · rw [if_neg (show ¬ 8 * j = n by omega), if_pos (show 8 * j + 1 = n by omega), if_neg (show ¬ 8 * j + 2 = n by omega), if_neg (show ¬ 8 * j + 3 = n by omega), if_neg (show ¬ 8 * j + 4 = n by omega), if_neg (show ¬ 8 * j + 5 = n by omega), if_neg (show ¬ 8 * j + 6 = n by omega), if_neg (show ¬ 8 * j + 7 = n by omega)]; omega
    · rw [if_neg (show ¬ 8 * j = n by omega), if_neg (show ¬ 8 * j + 1 = n by omega), if_pos (show 8 * j + 2 = n by omega), if_neg (show ¬ 8 * j + 3 = n by omega), if_neg (show ¬ 8 * j + 4 = n by omega), if_neg (show ¬ 8 * j + 5 = n by omega), if_neg (show ¬ 8 * j + 6 = n by omega), if_neg (show ¬ 8 * j + 7 = n by omega)]; omega
    · rw [if_neg (show ¬ 8 * j = n by omega), if_neg (show ¬ 8 * j + 1 = n by omega), if_neg (show ¬ 8 * j + 2 = n by omega), if_pos (show 8 * j + 3 = n by omega), if_neg (show ¬ 8 * j + 4 = n by omega), if_neg (show ¬ 8 * j + 5 = n by omega), if_neg (show ¬ 8 * j + 6 = n by omega), if_neg (show ¬ 8 * j + 7 = n by omega)]; omega
    · rw [if_neg (show ¬ 8 * j = n by omega), if_neg (show ¬ 8 * j + 1 = n by omega), if_neg (show ¬ 8 * j + 2 = n by omega), if_neg (show ¬ 8 * j + 3 = n by omega), if_pos (show 8 * j + 4 = n by omega), if_neg (show ¬ 8 * j + 5 = n by omega), if_neg (show ¬ 8 * j + 6 = n by omega), if_neg (show ¬ 8 * j + 7 = n by omega)]; omega
    · rw [if_neg (show ¬ 8 * j = n by omega), if_neg (show ¬ 8 * j + 1 = n by omega), if_neg (show ¬ 8 * j + 2 = n by omega), if_neg (show ¬ 8 * j + 3 = n by omega), if_neg (show ¬ 8 * j + 4 = n by omega), if_pos (show 8 * j + 5 = n by omega), if_neg (show ¬ 8 * j + 6 = n by omega), if_neg (show ¬ 8 * j + 7 = n by omega)]; omega
    · rw [if_neg (show ¬ 8 * j = n by omega), if_neg (show ¬ 8 * j + 1 = n by omega), if_neg (show ¬ 8 * j + 2 = n by omega), if_neg (show ¬ 8 * j + 3 = n by omega), if_neg (show ¬ 8 * j + 4 = n by omega), if_neg (show ¬ 8 * j + 5 = n by omega), if_pos (show 8 * j + 6 = n by omega), if_neg (show ¬ 8 * j + 7 = n by omega)]; omega
    · rw [if_neg (show ¬ 8 * j = n by omega), if_neg (show ¬ 8 * j + 1 = n by omega), if_neg (show ¬ 8 * j + 2 = n by omega), if_neg (show ¬ 8 * j + 3 = n by omega), if_neg (show ¬ 8 * j + 4 = n by omega), if_neg (show ¬ 8 * j + 5 = n by omega), if_neg (show ¬ 8 * j + 6 = n by omega), if_pos (show 8 * j + 7 = n by omega)]; omega
  · rw [if_neg hj, if_neg (show ¬ 8 * j = n by omega), if_neg (show ¬ 8 * j + 1 = n by omega), if_neg (show ¬ 8 * j + 2 = n by omega), if_neg (show ¬ 8 * j + 3 = n by omega), if_neg (show ¬ 8 * j + 4 = n by omega), if_neg (show ¬ 8 * j + 5 = n by omega), if_neg (show ¬ 8 * j + 6 = n by omega), if_neg (show ¬ 8 * j + 7 = n by omega)]
    omega
theorem byteAt_out {bs : List Int} {j : Nat} (h : bs.length ≤ 8 * j) : byteAt bs j = 0 := by
  unfold byteAt
  rw [getD_out h, getD_out (by omega), getD_out (by omega), getD_out (by omega), getD_out (by omega), getD_out (by omega), getD_out (by omega), getD_out (by omega)]
  rfl
theorem pk_length (bs : List Int) : (pk bs).length = (bs.length + 7) / 8 := by simp [pk]
theorem pk_getD {bs : List Int} {j : Nat} : (pk bs).getD j 0 = byteAt bs j := by
  unfold pk
  rw [List.getD_eq_getElem?_getD, List.getElem?_map]
  by_cases h : j < (bs.length + 7) / 8
  · rw [List.getElem?_range h]; rfl
  · rw [List.getElem?_eq_none (by simp; omega), byteAt_out (by omega)]; rfl
/-- What the code does at a bit: a byte more where one begins, then the bit. -/
theorem pk_step (bs : List Int) (b : Int) :
    pk (bs ++ [b]) = (if bs.length % 8 = 0 then pk bs ++ [0] else pk bs).set (bs.length / 8) (byteAt bs (bs.length / 8) + b * wt bs.length) := by
  apply List.ext_getElem?
  intro j
  have hl : (if bs.length % 8 = 0 then pk bs ++ [0] else pk bs).length = (bs.length + 8) / 8 := by
    split
    · rw [List.length_append, pk_length, List.length_singleton]; omega
    · rw [pk_length]; omega
  have hg : ∀ j, (if bs.length % 8 = 0 then pk bs ++ [0] else pk bs).getD j 0 = byteAt bs j := by
    intro j
    split
    · rw [getD_snoc, pk_getD]; split <;> omega
    · exact pk_getD
  by_cases hj : j < (bs.length + 8) / 8
  · have h1 : j < (pk (bs ++ [b])).length := by rw [pk_length, List.length_append, List.length_singleton]; exact hj
    rw [List.getElem?_eq_getElem h1, List.getElem?_set]
    have h2 : (pk (bs ++ [b]))[j] = byteAt bs j + if j = bs.length / 8 then b * wt bs.length else 0 := by
      rw [← byteAt_snoc, ← pk_getD, List.getD_eq_getElem?_getD, List.getElem?_eq_getElem h1]; rfl
    rw [h2]
    by_cases e : bs.length / 8 = j
    · subst e
      rw [if_pos rfl, if_pos rfl, if_pos (by rw [hl]; exact hj)]
    · rw [if_neg e, if_neg (fun e' => e e'.symm)]
      have h3 : j < (if bs.length % 8 = 0 then pk bs ++ [0] else pk bs).length := by rw [hl]; exact hj
      have h4 := hg j
      rw [List.getD_eq_getElem?_getD, List.getElem?_eq_getElem h3] at h4
      rw [List.getElem?_eq_getElem h3]
      have h5 : (if bs.length % 8 = 0 then pk bs ++ [0] else pk bs)[j] = byteAt bs j := h4
      rw [h5, Int.add_zero]
  · rw [List.getElem?_eq_none (by rw [pk_length, List.length_append, List.length_singleton]; omega), List.getElem?_eq_none (by rw [List.length_set, hl]; omega)]
theorem byteAt_range {bs : List Int} (h : Bits bs) (j : Nat) : 0 ≤ byteAt bs j ∧ byteAt bs j < 256 := by
  unfold byteAt
  have h0 := getD_bit h (8 * j); have h1 := getD_bit h (8 * j + 1); have h2 := getD_bit h (8 * j + 2); have h3 := getD_bit h (8 * j + 3)
  have h4 := getD_bit h (8 * j + 4); have h5 := getD_bit h (8 * j + 5); have h6 := getD_bit h (8 * j + 6); have h7 := getD_bit h (8 * j + 7)
  omega
theorem or_join {x y : Int} (p : Nat) (hp : p ≤ 7) (hx : x % 2 ^ (p + 1) = 0) (hx0 : 0 ≤ x) (hx1 : x < 256) (hy0 : 0 ≤ y) (hy : y < 2 ^ (p + 1)) : Go.bits .or .u8 x y = x + y := by
  refine bits_join .u8 8 (by decide) wraps_u8 (p + 1) x y hx0 hx (by simpa using hx1) hy0 hy ?_
  have h1 : (2 : Int) ^ (p + 1) ≤ 2 ^ 8 := by
    have := Nat.pow_le_pow_right (n := 2) (by decide) (show p + 1 ≤ 8 by omega)
    exact_mod_cast this
  omega
/-- The bit is put in by 'or'. -/
theorem or_bit {bs : List Int} (h : Bits bs) {b : Int} (hb : b = 0 ∨ b = 1) : Go.bits .or .u8 (byteAt bs (bs.length / 8)) (b * wt bs.length) = byteAt bs (bs.length / 8) + b * wt bs.length := by
  have hr := byteAt_range h (bs.length / 8)
  have g : ∀ i, bs.length ≤ i → bs.getD i 0 = 0 := fun i hi => getD_out hi
  have hd : ∃ q : Int, byteAt bs (bs.length / 8) = q * (2 * wt bs.length) := by
    unfold byteAt
    generalize hj : bs.length / 8 = j
    rcases wt_cases bs.length with ⟨e, w⟩ | ⟨e, w⟩ | ⟨e, w⟩ | ⟨e, w⟩ | ⟨e, w⟩ | ⟨e, w⟩ | ⟨e, w⟩ | ⟨e, w⟩ <;> rw [w]
    · exact ⟨0, by rw [g (8 * j) (by omega), g (8 * j + 1) (by omega), g (8 * j + 2) (by omega), g (8 * j + 3) (by omega), g (8 * j + 4) (by omega), g (8 * j + 5) (by omega), g (8 * j + 6) (by omega), g (8 * j + 7) (by omega)]; rfl⟩
    · exact ⟨bs.getD (8 * j) 0, by rw [g (8 * j + 1) (by omega), g (8 * j + 2) (by omega), g (8 * j + 3) (by omega), g (8 * j + 4) (by omega), g (8 * j + 5) (by omega), g (8 * j + 6) (by omega), g (8 * j + 7) (by omega)]; omega⟩
    · exact ⟨bs.getD (8 * j) 0 * 2 + bs.getD (8 * j + 1) 0, by rw [g (8 * j + 2) (by omega), g (8 * j + 3) (by omega), g (8 * j + 4) (by omega), g (8 * j + 5) (by omega), g (8 * j + 6) (by omega), g (8 * j + 7) (by omega)]; omega⟩
    · exact ⟨bs.getD (8 * j) 0 * 4 + bs.getD (8 * j + 1) 0 * 2 + bs.getD (8 * j + 2) 0, by rw [g (8 * j + 3) (by omega), g (8 * j + 4) (by omega), g (8 * j + 5) (by omega), g (8 * j + 6) (by omega), g (8 * j + 7) (by omega)]; omega⟩
    · exact ⟨bs.getD (8 * j) 0 * 8 + bs.getD (8 * j + 1) 0 * 4 + bs.getD (8 * j + 2) 0 * 2 + bs.getD (8 * j + 3) 0, by rw [g (8 * j + 4) (by omega), g (8 * j + 5) (by omega), g (8 * j + 6) (by omega), g (8 * j + 7) (by omega)]; omega⟩
    · exact ⟨bs.getD (8 * j) 0 * 16 + bs.getD (8 * j + 1) 0 * 8 + bs.getD (8 * j + 2) 0 * 4 + bs.getD (8 * j + 3) 0 * 2 + bs.getD (8 * j + 4) 0, by rw [g (8 * j + 5) (by omega), g (8 * j + 6) (by omega), g (8 * j + 7) (by omega)]; omega⟩
    · exact ⟨bs.getD (8 * j) 0 * 32 + bs.getD (8 * j + 1) 0 * 16 + bs.getD (8 * j + 2) 0 * 8 + bs.getD (8 * j + 3) 0 * 4 + bs.getD (8 * j + 4) 0 * 2 + bs.getD (8 * j + 5) 0, by rw [g (8 * j + 6) (by omega), g (8 * j + 7) (by omega)]; omega⟩
    · exact ⟨bs.getD (8 * j) 0 * 64 + bs.getD (8 * j + 1) 0 * 32 + bs.getD (8 * j + 2) 0 * 16 + bs.getD (8 * j + 3) 0 * 8 + bs.getD (8 * j + 4) 0 * 4 + bs.getD (8 * j + 5) 0 * 2 + bs.getD (8 * j + 6) 0, by rw [g (8 * j + 7) (by omega)]; omega⟩
  obtain ⟨q, hq⟩ := hd
  have hw : (2 : Int) ^ (7 - bs.length % 8 + 1) = 2 * wt bs.length := by unfold wt; rw [Int.pow_succ]; omega
  have hwp : 1 ≤ wt bs.length := by rcases wt_cases bs.length with h | h | h | h | h | h | h | h <;> omega
  refine or_join (7 - bs.length % 8) (by omega) ?_ hr.1 hr.2 ?_ ?_
  · rw [hw, hq]; exact Int.mul_emod_left _ _
  · rcases hb with rfl | rfl <;> omega
  · rw [hw]; rcases hb with rfl | rfl <;> omega
def bitsOf (w : Nat) (n : Int) : List Int := (List.range w).map fun j => n / 2 ^ (w - 1 - j) % 2
theorem bitsOf_length (w : Nat) (n : Int) : (bitsOf w n).length = w := by simp [bitsOf]
theorem bitsOf_bits (w : Nat) (n : Int) : Bits (bitsOf w n) := by
  intro x hx
  simp only [bitsOf, List.mem_map] at hx
  obtain ⟨j, _, rfl⟩ := hx
  omega
theorem Bits.append {a b : List Int} (ha : Bits a) (hb : Bits b) : Bits (a ++ b) := fun x hx => (List.mem_append.1 hx).elim (ha x) (hb x)
theorem bits_nil : Bits [] := fun x hx => by simp at hx
/-- The four bytes ahead of a fragment's data. -/
def head4 (t i c s : Int) : List Int := [t, i * 8 + (c - 1) / 4, (c - 1) % 4 * 64 + s / 64, s % 64 * 4]
def bits4 (t i c s : Int) : List Int := bitsOf 8 t ++ bitsOf 5 i ++ bitsOf 5 (c - 1) ++ bitsOf 12 s
theorem pk_four (bs : List Int) (h : bs.length = 30) : pk bs = [byteAt bs 0, byteAt bs 1, byteAt bs 2, byteAt bs 3] := by
  unfold pk
  rw [h]
  rfl
theorem pk_head (t i c s : Int) (ht : 0 ≤ t ∧ t ≤ 255) (hi : 0 ≤ i ∧ i < 32) (hc : 1 ≤ c ∧ c ≤ 32) (hs : 0 ≤ s ∧ s < 4096) : pk (bits4 t i c s) = head4 t i c s := by
  have e1 : bitsOf 8 t = [t / 128 % 2, t / 64 % 2, t / 32 % 2, t / 16 % 2, t / 8 % 2, t / 4 % 2, t / 2 % 2, t / 1 % 2] := rfl
  have e2 : ∀ x : Int, bitsOf 5 x = [x / 16 % 2, x / 8 % 2, x / 4 % 2, x / 2 % 2, x / 1 % 2] := fun _ => rfl
  have e3 : bitsOf 12 s = [s / 2048 % 2, s / 1024 % 2, s / 512 % 2, s / 256 % 2, s / 128 % 2, s / 64 % 2, s / 32 % 2, s / 16 % 2, s / 8 % 2, s / 4 % 2, s / 2 % 2, s / 1 % 2] := rfl
  unfold bits4 head4
  rw [e1, e2, e2, e3]
  generalize hd : c - 1 = d
  have hd1 : 0 ≤ d ∧ d < 32 := by omega
  simp only [List.cons_append, List.nil_append]
  rw [pk_four _ (by rfl)]
  simp only [byteAt, List.getD_cons_zero, List.getD_cons_succ, Nat.mul_zero, Nat.zero_add, Nat.mul_one, Nat.reduceMul, Nat.reduceAdd, List.getD_nil]
  simp only [List.cons.injEq, and_true]
  refine ⟨by omega, by omega, by omega, by omega⟩
end Go.Proofs.Ytokapofgbcbajaa.Fns
