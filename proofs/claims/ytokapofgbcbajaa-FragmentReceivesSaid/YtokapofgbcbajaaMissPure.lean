/- Missing and Equal: what they compute. -/
import Derived.Test.YtokapofgbcbajaaFx4
import Derived.Test.YtokapofgbcbajaaFx5
import Derived.Test.YtokapofgbcbajaaFx9
import Derived.Test.YtokapofgbcbajaaFx10
import Derived.Test.YtokapofgbcbajaaSpec
namespace Go.Proofs.Ytokapofgbcbajaa.Fns
open Go.RowKit Go.Proofs.YtokapofgbcbajaaW.PrintWords Go.Proofs.YtokapofgbcbajaaW.PrintLast Go.Proofs.YtokapofgbcbajaaW.PrintMore
/-- Bit i of b is not set. -/
def clearB (b : Int) (i : Nat) : Bool := decide (Go.bits .and .i64 (shr .i64 b (i : Int)) 1 = 0)
def missL (b : Int) (n : Nat) : List Int := ((List.range n).filter (clearB b)).map fun i : Nat => (i : Int)
def missF (n b : Int) : List Int × Int := if n < 1 ∨ n > 32 ∨ b < 0 ∨ b ≥ 2 ^ n.toNat then ([], 2) else (missL b n.toNat, 0)
theorem missL_succ (b : Int) (n : Nat) : missL b (n + 1) = missL b n ++ (if clearB b n then [(n : Int)] else []) := by
  unfold missL
  rw [List.range_succ, List.filter_append, List.map_append]
  congr 1
  cases h : clearB b n <;> simp [h]
theorem missL_len (b : Int) (n : Nat) : (missL b n).length ≤ n := by
  unfold missL
  rw [List.length_map]
  have := List.length_filter_le (clearB b) (List.range n)
  rw [List.length_range] at this
  exact this
theorem miss_loop (b : Int) (n : Nat) (hn : n ≤ 32) : ∀ (r j k : Nat), r + 1 ≤ k → j + r = n → fragment_Missing.l0 k b (missL b j) n j = some (missL b n, 0) := by
  intro r
  induction r with
  | zero =>
    intro j k hk hj
    obtain ⟨k, rfl⟩ : ∃ k', k = k' + 1 := ⟨k - 1, by omega⟩
    have he : j = n := by omega
    subst he
    rw [fragment_Missing.l0, if_neg (by omega)]
  | succ r ih =>
    intro j k hk hj
    obtain ⟨k, rfl⟩ : ∃ k', k = k' + 1 := ⟨k - 1, by omega⟩
    have ih := ih (j + 1) k (by omega) (by omega)
    have hl := missL_len b j
    have hw : wrap64 ((j : Int) + 1) = ((j + 1 : Nat) : Int) := by rw [wrap_in (by omega)]; omega
    rw [missL_succ] at ih
    rw [fragment_Missing.l0, if_pos (by omega), if_pos (by omega), hw]
    by_cases hc : Go.bits .and .i64 (shr .i64 b (j : Int)) 1 = 0
    · rw [if_pos hc, if_pos (by omega)]
      rw [show clearB b j = true from decide_eq_true hc, if_pos rfl] at ih
      exact ih
    · rw [if_neg hc]
      rw [show clearB b j = false from decide_eq_false hc, if_neg (by decide), List.append_nil] at ih
      exact ih
theorem rmiss_loop (b : Int) (n : Nat) (hn : n ≤ 32) : ∀ (r j k : Nat), r + 1 ≤ k → j + r = n → hopmeshref15_Missing.l0 k n b (missL b j) j = some (missL b n, 0) := by
  intro r
  induction r with
  | zero =>
    intro j k hk hj
    obtain ⟨k, rfl⟩ : ∃ k', k = k' + 1 := ⟨k - 1, by omega⟩
    have he : j = n := by omega
    subst he
    rw [hopmeshref15_Missing.l0, if_neg (by omega)]
  | succ r ih =>
    intro j k hk hj
    obtain ⟨k, rfl⟩ : ∃ k', k = k' + 1 := ⟨k - 1, by omega⟩
    have ih := ih (j + 1) k (by omega) (by omega)
    have hl := missL_len b j
    have hw : wrap64 ((j : Int) + 1) = ((j + 1 : Nat) : Int) := by rw [wrap_in (by omega)]; omega
    rw [missL_succ] at ih
    rw [hopmeshref15_Missing.l0, if_pos (by omega), if_pos (by omega), hw]
    by_cases hc : Go.bits .and .i64 (shr .i64 b (j : Int)) 1 = 0
    · rw [if_pos hc, if_pos (by omega)]
      rw [show clearB b j = true from decide_eq_true hc, if_pos rfl] at ih
      exact ih
    · rw [if_neg hc]
      rw [show clearB b j = false from decide_eq_false hc, if_neg (by decide), List.append_nil] at ih
      exact ih
theorem pow_small {n : Nat} (h : n ≤ 32) : (0 : Int) < 2 ^ n ∧ (2 : Int) ^ n ≤ 4294967296 := by
  refine ⟨Int.pow_pos (by decide), ?_⟩
  have h1 : (2 : Nat) ^ n ≤ 4294967296 := Nat.pow_le_pow_right (n := 2) (by decide) h
  have h2 : ((2 ^ n : Nat) : Int) = (2 : Int) ^ n := Int.natCast_pow 2 n
  omega
theorem shr_zero {b : Int} {n : Nat} (hb : 0 ≤ b) (hn : n ≤ 32) : (shr .i64 b (n : Int) != 0) = decide (b ≥ 2 ^ n) := by
  have hp := pow_small hn
  have e : shr .i64 b (n : Int) = b / 2 ^ n := by unfold shr; rw [Int.toNat_natCast, Nat.min_eq_left (show n ≤ IntKind.i64.bits from Nat.le_trans hn (by decide))]
  rw [e]
  by_cases h : b ≥ 2 ^ n
  · rw [decide_eq_true h, bne_iff_ne]
    have := (Int.le_ediv_iff_mul_le hp.1).2 (show 1 * 2 ^ n ≤ b by omega)
    omega
  · rw [decide_eq_false h, bne_eq_false_iff_eq]
    exact Int.ediv_eq_zero_of_lt hb (by omega)
theorem shl_one {n : Nat} (hn : n ≤ 32) : shl .i64 1 (n : Int) = 2 ^ n := by
  have hp := pow_small hn
  unfold shl
  rw [Int.toNat_natCast, Nat.min_eq_left (show n ≤ IntKind.i64.bits from Nat.le_trans hn (by decide)), Int.one_mul]
  rw [i64_w]
  exact wrap_in (a := 2 ^ n) (by omega)
theorem missing_eq (n b : Int) : fragment_Missing.f 40 n b = some (missF n b) := by
  unfold fragment_Missing.f missF
  by_cases h1 : n < 1
  · rw [if_pos h1, if_pos (.inl h1), fragment_Missing.j0, if_pos rfl]
  · by_cases h2 : n > 32
    · rw [if_neg h1, if_pos h2, if_pos (.inr (.inl h2)), fragment_Missing.j0, if_pos rfl]
    · by_cases h3 : b < 0
      · rw [if_neg h1, if_neg h2, if_pos h3, if_pos (.inr (.inr (.inl h3))), fragment_Missing.j0, if_pos rfl]
      · obtain ⟨m, rfl⟩ : ∃ m : Nat, n = m := ⟨n.toNat, by omega⟩
        rw [if_neg h1, if_neg h2, if_neg h3, if_pos (by omega), shr_zero (by omega) (by omega), fragment_Missing.j0, Int.toNat_natCast]
        by_cases h4 : b ≥ 2 ^ m
        · rw [if_pos (decide_eq_true h4), if_pos (.inr (.inr (.inr h4)))]
        · rw [decide_eq_false h4, if_neg (by decide), if_neg (by omega)]
          have h := miss_loop b m (by omega) m 0 39 (by omega) (by omega)
          exact h
theorem rmissing_eq (n b : Int) : hopmeshref15_Missing.f 40 n b = some (missF n b) := by
  unfold hopmeshref15_Missing.f missF
  by_cases h1 : n < 1
  · rw [if_pos h1, if_pos (.inl h1), hopmeshref15_Missing.j0, if_pos rfl]
  · by_cases h2 : n > 32
    · rw [if_neg h1, if_pos h2, if_pos (.inr (.inl h2)), hopmeshref15_Missing.j0, if_pos rfl]
    · by_cases h3 : b < 0
      · rw [if_neg h1, if_neg h2, if_pos h3, if_pos (.inr (.inr (.inl h3))), hopmeshref15_Missing.j0, if_pos rfl]
      · obtain ⟨m, rfl⟩ : ∃ m : Nat, n = m := ⟨n.toNat, by omega⟩
        rw [if_neg h1, if_neg h2, if_neg h3, if_pos (by omega), shl_one (by omega), hopmeshref15_Missing.j0, Int.toNat_natCast]
        by_cases h4 : b ≥ 2 ^ m
        · rw [if_pos (decide_eq_true h4), if_pos (.inr (.inr (.inr h4)))]
        · rw [decide_eq_false h4, if_neg (by decide), if_neg (by omega)]
          have h := rmiss_loop b m (by omega) m 0 39 (by omega) (by omega)
          exact h
theorem eqI_loop (l : List Int) (hl : l.length ≤ 4000) : ∀ (r j k : Nat), r + 1 ≤ k → j + r = l.length → slices_Equal_int_int.l0 k l l (l.length : Int) j = some true := by
  intro r
  induction r with
  | zero =>
    intro j k hk hj
    obtain ⟨k, rfl⟩ : ∃ k', k = k' + 1 := ⟨k - 1, by omega⟩
    rw [slices_Equal_int_int.l0, if_neg (by omega)]
  | succ r ih =>
    intro j k hk hj
    obtain ⟨k, rfl⟩ : ∃ k', k = k' + 1 := ⟨k - 1, by omega⟩
    rw [slices_Equal_int_int.l0, if_pos (by omega), if_pos (by omega), if_pos (by omega), if_pos (by omega), if_pos rfl, show wrap64 ((j : Int) + 1) = ((j + 1 : Nat) : Int) by rw [wrap_in (by omega)]; omega]
    exact ih (j + 1) k (by omega) (by omega)
theorem eqI_refl (l : List Int) (hl : l.length ≤ 4000) : slices_Equal_int_int.f (l.length + 1) l l = some true := by
  unfold slices_Equal_int_int.f
  rw [if_pos rfl]
  exact eqI_loop l hl l.length 0 _ (by omega) (by omega)
theorem eqF_loop (l : List S23) (hl : l.length ≤ 4000) : ∀ (r j k : Nat), r + 1 ≤ k → j + r = l.length → api_Fragment.l0 k l l (l.length : Int) j = some true := by
  intro r
  induction r with
  | zero =>
    intro j k hk hj
    obtain ⟨k, rfl⟩ : ∃ k', k = k' + 1 := ⟨k - 1, by omega⟩
    rw [api_Fragment.l0, if_neg (by omega)]
  | succ r ih =>
    intro j k hk hj
    obtain ⟨k, rfl⟩ : ∃ k', k = k' + 1 := ⟨k - 1, by omega⟩
    rw [api_Fragment.l0, if_pos (by omega), if_pos (by omega), if_pos (by omega), if_pos (by omega), if_neg (by simp), show wrap64 ((j : Int) + 1) = ((j + 1 : Nat) : Int) by rw [wrap_in (by omega)]; omega]
    exact ih (j + 1) k (by omega) (by omega)
theorem eqF_refl (l : List S23) (hl : l.length ≤ 4000) : api_Fragment.f (l.length + 1) l l = some true := by
  unfold api_Fragment.f
  rw [if_pos rfl]
  exact eqF_loop l hl l.length 0 _ (by omega) (by omega)
end Go.Proofs.Ytokapofgbcbajaa.Fns
