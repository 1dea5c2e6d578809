/- Split, of both sides: what they compute. -/
import Derived.Test.YtokapofgbcbajaaSpec
import Derived.Test.YtokapofgbcbajaaFx2
import Derived.Test.YtokapofgbcbajaaFx3
namespace Go.Proofs.Ytokapofgbcbajaa.Fns
open Go.RowKit Go.Proofs.YtokapofgbcbajaaW.PrintWords
def cntS (size m : Nat) : Nat := (size + m - 1) / m
def piece (t : Int) (d : ByteArray) (m : Nat) (j : Nat) : S23 := ⟨t, j, (cntS d.size m : Nat), (d.size : Nat), d.extract (j * m) (min ((j + 1) * m) d.size)⟩
def pieces (t : Int) (d : ByteArray) (m n : Nat) : List S23 := (List.range n).map (piece t d m)
def errS (t : Int) (size : Nat) (m : Int) : Int :=
  if t < 0 ∨ t > 255 ∨ m < 1 ∨ m > 120 then 2 else if size = 0 then 14 else if size > 4095 then 8 else if cntS size m.toNat > 32 then 8 else 0
def splitF (t : Int) (d : ByteArray) (m : Int) : List S23 × Int := if errS t d.size m = 0 then (pieces t d m.toNat (cntS d.size m.toNat), 0) else ([], errS t d.size m)
theorem pieces_succ (t : Int) (d : ByteArray) (m n : Nat) : pieces t d m (n + 1) = pieces t d m n ++ [piece t d m n] := by simp [pieces, List.range_succ]
theorem pieces_length (t : Int) (d : ByteArray) (m n : Nat) : (pieces t d m n).length = n := by simp [pieces]
theorem cnt_law {size m : Nat} (hs : 1 ≤ size) (hm : 1 ≤ m) : 1 ≤ cntS size m ∧ (cntS size m - 1) * m < size ∧ size ≤ cntS size m * m := by
  unfold cntS
  have h1 := Nat.div_add_mod (size + m - 1) m
  have h2 := Nat.mod_lt (size + m - 1) (show m > 0 by omega)
  generalize (size + m - 1) / m = q at h1 ⊢
  generalize (size + m - 1) % m = r at h1 h2
  have hq : 1 ≤ q := by
    rcases Nat.eq_zero_or_pos q with rfl | h
    · simp at h1; omega
    · exact h
  refine ⟨hq, ?_, ?_⟩
  · rw [Nat.sub_mul, Nat.mul_comm q m]; omega
  · rw [Nat.mul_comm q m]; omega
theorem mulb {j m : Nat} (hj : j ≤ 33) (hm : m ≤ 120) : j * m ≤ 3960 := Nat.mul_le_mul hj hm
theorem mn_nat (a b : Nat) : mn (a : Int) (b : Int) = ((min a b : Nat) : Int) := by unfold mn; split <;> omega
theorem step_facts {size m j : Nat} (hs : 1 ≤ size ∧ size ≤ 4095) (hm : 1 ≤ m ∧ m ≤ 120) (hj : j < cntS size m) (hc : cntS size m ≤ 32) :
    wrap64 ((j : Int) * (m : Int)) = ((j * m : Nat) : Int) ∧ wrap64 ((wrap64 ((j : Int) + 1)) * (m : Int)) = (((j + 1) * m : Nat) : Int) ∧ wrap64 ((j : Int) + 1) = ((j + 1 : Nat) : Int) ∧ j * m ≤ min ((j + 1) * m) size := by
  obtain ⟨c1, c2, c3⟩ := cnt_law hs.1 hm.1
  have b1 := mulb (j := j) (m := m) (by omega) hm.2
  have b2 := mulb (j := j + 1) (m := m) (by omega) hm.2
  have e1 : wrap64 ((j : Int) + 1) = ((j + 1 : Nat) : Int) := by rw [wrap_in (by omega)]; omega
  refine ⟨?_, ?_, e1, ?_⟩
  · rw [show (j : Int) * (m : Int) = ((j * m : Nat) : Int) by simp, wrap_in (by omega)]
  · rw [e1, show ((j + 1 : Nat) : Int) * (m : Int) = (((j + 1) * m : Nat) : Int) by simp, wrap_in (by omega)]
  · have h1 : j * m ≤ (cntS size m - 1) * m := Nat.mul_le_mul_right m (by omega)
    have h2 : j * m ≤ (j + 1) * m := Nat.mul_le_mul_right m (by omega)
    omega
theorem split_loop (t : Int) (d : ByteArray) (m : Nat) (hs : 1 ≤ d.size ∧ d.size ≤ 4095) (hm : 1 ≤ m ∧ m ≤ 120) (hc : cntS d.size m ≤ 32) : ∀ (r j k : Nat), r + 1 ≤ k → j + r = cntS d.size m →
    fragment_Split.l0 k t d m (cntS d.size m : Nat) (pieces t d m j) (cntS d.size m : Nat) j = some (pieces t d m (cntS d.size m), 0) := by
  intro r
  induction r with
  | zero =>
    intro j k hk hj
    obtain ⟨k, rfl⟩ : ∃ k', k = k' + 1 := ⟨k - 1, by omega⟩
    have he : j = cntS d.size m := by omega
    subst he
    rw [fragment_Split.l0, if_neg (by omega)]
  | succ r ih =>
    intro j k hk hj
    obtain ⟨k, rfl⟩ : ∃ k', k = k' + 1 := ⟨k - 1, by omega⟩
    have hj33 : j < 33 := by omega
    have hl : (pieces t d m j).length < 2932031007402 := by rw [pieces_length]; exact Nat.lt_of_lt_of_le hj33 (by decide)
    have hjc : j < cntS d.size m := by omega
    have h1 : (j : Int) < (cntS d.size m : Nat) := Int.ofNat_lt.2 hjc
    have ih := ih (j + 1) k (by omega) (by omega)
    rw [pieces_succ] at ih
    obtain ⟨e1, e2, e3, e4⟩ := step_facts (j := j) hs hm hjc hc
    rw [fragment_Split.l0, if_pos h1, e1, e2, e3, mn_nat, if_pos (Int.natCast_nonneg _), if_pos (Int.ofNat_le.2 e4), if_pos (Int.ofNat_le.2 (Nat.min_le_right _ _)), if_pos hl]
    exact ih
theorem rsplit_loop (t : Int) (d : ByteArray) (m : Nat) (hs : 1 ≤ d.size ∧ d.size ≤ 4095) (hm : 1 ≤ m ∧ m ≤ 120) (hc : cntS d.size m ≤ 32) : ∀ (r j k : Nat), r + 1 ≤ k → j + r = cntS d.size m →
    hopmeshref15_Split.l0 k t d m (cntS d.size m : Nat) (pieces t d m j) j = some (pieces t d m (cntS d.size m), 0) := by
  intro r
  induction r with
  | zero =>
    intro j k hk hj
    obtain ⟨k, rfl⟩ : ∃ k', k = k' + 1 := ⟨k - 1, by omega⟩
    have he : j = cntS d.size m := by omega
    subst he
    rw [hopmeshref15_Split.l0, if_neg (by omega)]
  | succ r ih =>
    intro j k hk hj
    obtain ⟨k, rfl⟩ : ∃ k', k = k' + 1 := ⟨k - 1, by omega⟩
    have hj33 : j < 33 := by omega
    have hl : (pieces t d m j).length < 2932031007402 := by rw [pieces_length]; exact Nat.lt_of_lt_of_le hj33 (by decide)
    have hjc : j < cntS d.size m := by omega
    have h1 : (j : Int) < (cntS d.size m : Nat) := Int.ofNat_lt.2 hjc
    have ih := ih (j + 1) k (by omega) (by omega)
    rw [pieces_succ] at ih
    obtain ⟨e1, e2, e3, e4⟩ := step_facts (j := j) hs hm hjc hc
    rw [hopmeshref15_Split.l0, if_pos h1, e1, e2, e3, mn_nat, if_pos (Int.natCast_nonneg _), if_pos (Int.ofNat_le.2 e4), if_pos (Int.ofNat_le.2 (Nat.min_le_right _ _)), if_pos hl]
    exact ih
theorem toList_nil (d : ByteArray) : d.toList = [] ↔ d.size = 0 := by
  rw [ByteArray.toList_eq]
  constructor
  · intro h
    have := congrArg List.length h
    rw [Array.length_toList] at this
    exact this
  · intro h
    apply List.eq_nil_of_length_eq_zero
    rw [Array.length_toList]
    exact h
theorem cnt_wrap (size m : Nat) (hs : 1 ≤ size ∧ size ≤ 140737488351232) (hm : 1 ≤ m ∧ m ≤ 120) : wrap64 (Int.tdiv (wrap64 ((wrap64 ((size : Int) + (m : Int))) - 1)) (m : Int)) = (cntS size m : Nat) := by
  rw [wrap_in (a := (size : Int) + (m : Int)) (by omega), wrap_in (a := (size : Int) + (m : Int) - 1) (by omega), tdiv_nn (by omega)]
  unfold cntS
  have h1 : ((size : Int) + (m : Int) - 1) = ((size + m - 1 : Nat) : Int) := by omega
  rw [h1]
  have h2 : ((size + m - 1 : Nat) : Int) / (m : Int) = (((size + m - 1) / m : Nat) : Int) := by simp
  have h3 := Nat.div_le_self (size + m - 1) m
  rw [h2]
  generalize (size + m - 1) / m = q at h3 ⊢
  exact wrap_in (by omega)
theorem split_eq (t : Int) (d : ByteArray) (m : Int) (hd : d.size ≤ 140737488351232) : fragment_Split.f 40 t d m = some (splitF t d m) := by
  have key : fragment_Split.f 40 t d m = fragment_Split.j0 40 t d m (decide (t < 0 ∨ t > 255 ∨ m < 1 ∨ m > 120)) := by
    unfold fragment_Split.f
    repeat' split
    all_goals first
      | (rw [decide_eq_true (by omega)])
      | (congr 1; exact decide_eq_decide.2 (by omega))
  rw [key]
  unfold splitF errS
  by_cases h1 : t < 0 ∨ t > 255 ∨ m < 1 ∨ m > 120
  · rw [decide_eq_true h1, fragment_Split.j0, if_pos rfl]
    simp only [if_pos h1]
    rfl
  · rw [decide_eq_false h1, fragment_Split.j0, if_neg (by decide), if_neg (by omega)]
    simp only [if_neg h1]
    by_cases h2 : d.size = 0
    · rw [if_pos ((toList_nil d).2 h2)]
      simp only [if_pos h2]
      rfl
    · rw [if_neg (fun h => h2 ((toList_nil d).1 h))]
      simp only [if_neg h2]
      by_cases h3 : d.size > 4095
      · rw [if_pos (by omega)]
        simp only [if_pos h3]
        rfl
      · rw [if_neg (by omega)]
        simp only [if_neg h3]
        obtain ⟨n, rfl⟩ : ∃ n : Nat, m = n := ⟨m.toNat, by omega⟩
        rw [cnt_wrap d.size n (by omega) (by omega)]
        simp only [Int.toNat_natCast]
        by_cases h4 : cntS d.size n > 32
        · rw [if_pos (by omega)]
          simp only [if_pos h4]
          rfl
        · rw [if_neg (by omega)]
          simp only [if_neg h4]
          exact split_loop t d n (by omega) (by omega) (by omega) (cntS d.size n) 0 39 (by omega) (by omega)
theorem rsplit_eq (t : Int) (d : ByteArray) (m : Int) (hd : d.size ≤ 140737488351232) : hopmeshref15_Split.f 40 t d m = some (splitF t d m) := by
  have key : hopmeshref15_Split.f 40 t d m = hopmeshref15_Split.j0 40 t d m (decide (t < 0 ∨ t > 255 ∨ m < 1 ∨ m > 120)) := by
    unfold hopmeshref15_Split.f
    repeat' split
    all_goals first
      | (rw [decide_eq_true (by omega)])
      | (congr 1; exact decide_eq_decide.2 (by omega))
  rw [key]
  unfold splitF errS
  by_cases h1 : t < 0 ∨ t > 255 ∨ m < 1 ∨ m > 120
  · rw [decide_eq_true h1, hopmeshref15_Split.j0, if_pos rfl]
    simp only [if_pos h1]
    rfl
  · rw [decide_eq_false h1, hopmeshref15_Split.j0, if_neg (by decide)]
    simp only [if_neg h1]
    by_cases h2 : d.size = 0
    · rw [if_pos ((toList_nil d).2 h2)]
      simp only [if_pos h2]
      rfl
    · rw [if_neg (fun h => h2 ((toList_nil d).1 h)), if_neg (by omega)]
      simp only [if_neg h2]
      obtain ⟨n, rfl⟩ : ∃ n : Nat, m = n := ⟨m.toNat, by omega⟩
      rw [cnt_wrap d.size n (by omega) (by omega)]
      simp only [Int.toNat_natCast]
      by_cases h3 : d.size > 4095
      · rw [if_pos (by omega), hopmeshref15_Split.j1, if_pos rfl]
        simp only [if_pos h3]
        rfl
      · rw [if_neg (by omega)]
        simp only [if_neg h3]
        by_cases h4 : cntS d.size n > 32
        · rw [decide_eq_true (by omega), hopmeshref15_Split.j1, if_pos rfl]
          simp only [if_pos h4]
          rfl
        · rw [decide_eq_false (by omega), hopmeshref15_Split.j1, if_neg (by decide)]
          simp only [if_neg h4]
          exact rsplit_loop t d n (by omega) (by omega) (by omega) (cntS d.size n) 0 38 (by omega) (by omega)
end Go.Proofs.Ytokapofgbcbajaa.Fns
