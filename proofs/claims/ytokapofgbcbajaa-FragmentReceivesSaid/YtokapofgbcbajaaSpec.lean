/- What part and Length compute: the part length of a fragment, 0 if it is not valid. -/
import Derived.Test.YtokapofgbcbajaaFx7
import Derived.Test.YtokapofgbcbajaaFx8
import Derived.Test.YtokapofgbcbajaaFx9
namespace Go.Proofs.Ytokapofgbcbajaa.Fns
open Go.RowKit Go.Proofs.YtokapofgbcbajaaW.PrintWords Go.Proofs.YtokapofgbcbajaaW.PrintLast Go.Proofs.YtokapofgbcbajaaW.PrintMore
def Fine (t i c s : Int) : Prop := 0 ≤ t ∧ t ≤ 255 ∧ 1 ≤ c ∧ c ≤ 32 ∧ 0 ≤ i ∧ i < c ∧ 1 ≤ s ∧ s ≤ 4095
instance (t i c s : Int) : Decidable (Fine t i c s) := inferInstanceAs (Decidable (_ ∧ _))
/-- The part length, n the length of the data. -/
def lenF (t i c s n : Int) : Int :=
  if ¬ (Fine t i c s ∧ 1 ≤ n) then 0
  else if c = 1 then (if n = s ∧ n ≤ 120 then n else 0)
  else if i = c - 1 then (if n < s ∧ (s - n) % (c - 1) = 0 ∧ n ≤ (s - n) / (c - 1) ∧ (s - n) / (c - 1) ≤ 120 then (s - n) / (c - 1) else 0)
  else (if n ≤ 120 ∧ (c - 1) * n < s ∧ s ≤ c * n then n else 0)
theorem wrap_in {a : Int} (h : -9223372036854775808 ≤ a ∧ a ≤ 9223372036854775807) : wrap64 a = a := by unfold wrap64; omega
theorem part_open (k : Nat) (t i c s : Int) (d : ByteArray) : fragment_part.f k t i c s d = fragment_part.j0 k (d.size : Int) (i == wrap64 (c - 1)) (decide (¬ (Fine t i c s ∧ 1 ≤ (d.size : Int)))) t i c s d := by
  unfold fragment_part.f Fine
  repeat' split
  all_goals first
    | (rw [decide_eq_true (by omega)])
    | (congr 1; exact decide_eq_decide.2 (by omega))
theorem mul_bound {c n : Int} (h : 0 ≤ c ∧ c ≤ 32) (hn : 0 ≤ n ∧ n ≤ 140737488351232) : 0 ≤ c * n ∧ c * n ≤ 4503599627239424 := by
  constructor
  · exact Int.mul_nonneg h.1 hn.1
  · have := Int.mul_le_mul h.2 hn.2 hn.1 (by decide)
    omega
theorem tdiv_nn {a b : Int} (h : 0 ≤ a) : a.tdiv b = a / b := Int.tdiv_eq_ediv_of_nonneg h
theorem tmod_nn {a b : Int} (h : 0 ≤ a) : a.tmod b = a % b := Int.tmod_eq_emod_of_nonneg h
theorem part_eq (k : Nat) (t i c s : Int) (d : ByteArray) (hd : d.size ≤ 140737488351232) : fragment_part.f (k + 2) t i c s d = some (lenF t i c s d.size) := by
  rw [part_open, fragment_part.j0, lenF]
  generalize hn : (d.size : Int) = n
  have hn0 : 0 ≤ n := by omega
  have hn1 : n ≤ 140737488351232 := by omega
  by_cases hG : Fine t i c s ∧ 1 ≤ n
  · rw [decide_eq_false (not_not_intro hG), if_neg (by decide), if_neg (not_not_intro hG)]
    obtain ⟨⟨h1, h2, h3, h4, h5, h6, h7, h8⟩, h9⟩ := hG
    have hc : wrap64 (c - 1) = c - 1 := wrap_in (by omega)
    rw [hc]
    by_cases hc1 : c = 1
    · rw [if_pos hc1, if_pos hc1]
      by_cases e1 : n = s
      · rw [if_pos e1]
        by_cases e2 : n > 120
        · rw [if_pos e2, if_neg (fun h => by omega)]
        · rw [if_neg e2, if_pos ⟨e1, by omega⟩]
      · rw [if_neg e1, if_neg (fun h => e1 h.1)]
    · rw [if_neg hc1, if_neg hc1]
      by_cases hi : i = c - 1
      · rw [show (i == c - 1) = true from beq_iff_eq.2 hi, if_pos rfl, if_pos hi]
        by_cases e1 : n ≥ s
        · rw [if_pos e1, if_neg (fun h => by omega)]
        · rw [if_neg e1, if_neg (by omega)]
          have hw : wrap64 (s - n) = s - n := wrap_in (by omega)
          rw [hw, tmod_nn (by omega)]
          by_cases e2 : (s - n) % (c - 1) = 0
          · rw [if_pos e2, fragment_part.j1, if_pos rfl, hc, if_neg (by omega), hw, tdiv_nn (by omega)]
            have hdm := Int.mul_ediv_add_emod (s - n) (c - 1)
            have hq0 : 0 ≤ (s - n) / (c - 1) := Int.ediv_nonneg (by omega) (by omega)
            have hq1 : (s - n) / (c - 1) ≤ s - n := Int.ediv_le_self _ (by omega)
            generalize (s - n) / (c - 1) = q at hdm hq0 hq1 ⊢
            have hm : (c - 1) * q = s - n := by omega
            have hm2 : c * q = s - n + q := by rw [← hm, Int.sub_mul]; omega
            rw [show wrap64 q = q from wrap_in (by omega), hm, hm2, show wrap64 (s - n) = s - n from wrap_in (by omega), show wrap64 (s - n + q) = s - n + q from wrap_in (by omega)]
            by_cases e3 : n > q
            · rw [if_pos e3, if_neg (fun h => by omega)]
            · rw [if_neg e3]
              by_cases e4 : q > 120
              · rw [if_pos e4, if_neg (fun h => by omega)]
              · rw [if_neg e4, if_neg (by omega), if_neg (by omega), if_pos ⟨by omega, e2, by omega, by omega⟩]
          · rw [if_neg e2, if_neg (fun h => e2 h.2.1)]
      · rw [show (i == c - 1) = false from beq_eq_false_iff_ne.2 hi, if_neg (by decide), if_neg hi, fragment_part.j1, if_neg (by decide), if_neg (by omega), hc]
        have b1 := mul_bound (c := c - 1) (n := n) (by omega) ⟨hn0, hn1⟩
        have b2 := mul_bound (c := c) (n := n) (by omega) ⟨hn0, hn1⟩
        rw [show wrap64 ((c - 1) * n) = (c - 1) * n from wrap_in (by omega), show wrap64 (c * n) = c * n from wrap_in (by omega)]
        by_cases e4 : n > 120
        · rw [if_pos e4, if_neg (fun h => by omega)]
        · rw [if_neg e4]
          by_cases e5 : (c - 1) * n ≥ s
          · rw [if_pos e5, if_neg (fun h => by omega)]
          · rw [if_neg e5]
            by_cases e6 : c * n < s
            · rw [if_pos e6, if_neg (fun h => by omega)]
            · rw [if_neg e6, if_pos ⟨by omega, by omega, by omega⟩]
  · rw [decide_eq_true hG, if_pos rfl, if_pos hG]
theorem length_open (k : Nat) (t i c s : Int) (d : ByteArray) : hopmeshref15_Length.f k t i c s d = hopmeshref15_Length.j0 k (decide (¬ Fine t i c s)) t i c s d := by
  unfold hopmeshref15_Length.f Fine
  repeat' split
  all_goals first
    | (rw [decide_eq_true (by omega)])
    | (congr 1; exact decide_eq_decide.2 (by omega))
theorem length_eq (k : Nat) (t i c s : Int) (d : ByteArray) (hd : d.size ≤ 140737488351232) : hopmeshref15_Length.f (k + 2) t i c s d = some (lenF t i c s d.size) := by
  rw [length_open, hopmeshref15_Length.j0, lenF]
  generalize hn : (d.size : Int) = n
  have hn0 : 0 ≤ n := by omega
  have hn1 : n ≤ 140737488351232 := by omega
  by_cases hG : Fine t i c s
  · rw [decide_eq_false (not_not_intro hG), if_neg (by decide)]
    obtain ⟨h1, h2, h3, h4, h5, h6, h7, h8⟩ := hG
    have hc : wrap64 (c - 1) = c - 1 := wrap_in (by omega)
    rw [hc]
    by_cases hc1 : c = 1
    · rw [if_pos hc1, if_pos hc1]
      by_cases h9 : 1 ≤ n
      · rw [if_neg (not_not_intro ⟨⟨h1, h2, h3, h4, h5, h6, h7, h8⟩, h9⟩)]
        by_cases e1 : n = s
        · rw [if_pos e1]
          by_cases e2 : n > 120
          · rw [if_pos e2, if_neg (fun h => by omega)]
          · rw [if_neg e2, if_pos ⟨e1, by omega⟩]
        · rw [if_neg e1, if_neg (fun h => e1 h.1)]
      · rw [if_pos (fun h => h9 h.2), if_neg (by omega)]
    · rw [if_neg hc1, if_neg hc1]
      by_cases hi : i = c - 1
      · rw [if_pos hi, if_pos hi]
        by_cases e1 : n ≥ s
        · rw [if_pos e1, hopmeshref15_Length.j1, if_pos rfl, if_neg (show ¬ (n < s ∧ _) from fun h => by omega), ite_self]
        · have hw : wrap64 (s - n) = s - n := wrap_in (by omega)
          rw [if_neg e1, if_neg (by omega), hw, tmod_nn (by omega)]
          by_cases e2 : (s - n) % (c - 1) = 0
          · rw [e2, hopmeshref15_Length.j1, if_neg (by decide), hc, if_neg (by omega), hw, tdiv_nn (by omega)]
            have hdm := Int.mul_ediv_add_emod (s - n) (c - 1)
            have hq0 : 0 ≤ (s - n) / (c - 1) := Int.ediv_nonneg (by omega) (by omega)
            have hq1 : (s - n) / (c - 1) ≤ s - n := Int.ediv_le_self _ (by omega)
            generalize (s - n) / (c - 1) = q at hdm hq0 hq1 ⊢
            have hm : q * (c - 1) = s - n := by rw [Int.mul_comm]; omega
            rw [show wrap64 q = q from wrap_in (by omega), hm, show wrap64 (s - n) = s - n from wrap_in (by omega), show s - (s - n) = n by omega, show wrap64 n = n from wrap_in (by omega)]
            by_cases h9 : 1 ≤ n
            · rw [if_neg (not_not_intro ⟨⟨h1, h2, h3, h4, h5, h6, h7, h8⟩, h9⟩)]
              by_cases e0 : q < 1
              · rw [if_pos e0, if_neg (fun h => by omega)]
              · rw [if_neg e0]
                by_cases e4 : q > 120
                · rw [if_pos e4, if_neg (fun h => by omega)]
                · rw [if_neg e4, if_neg (by omega)]
                  by_cases e3 : n > q
                  · rw [if_pos e3, if_neg (fun h => by omega)]
                  · rw [if_neg e3, if_pos hi, if_pos rfl, if_pos ⟨by omega, rfl, by omega, by omega⟩]
            · rw [if_pos (fun h : Fine t i c s ∧ 1 ≤ n => h9 h.2)]
              by_cases e0 : q < 1
              · rw [if_pos e0]
              · rw [if_neg e0]
                by_cases e4 : q > 120
                · rw [if_pos e4]
                · rw [if_neg e4, if_pos (by omega)]
          · rw [show ((s - n) % (c - 1) != 0) = true from bne_iff_ne.2 e2, hopmeshref15_Length.j1, if_pos rfl, if_neg (show ¬ (n < s ∧ (s - n) % (c - 1) = 0 ∧ _) from fun h => e2 h.2.1), ite_self]
      · rw [if_neg hi, if_neg hi]
        have b1 := mul_bound (c := c - 1) (n := n) (by omega) ⟨hn0, hn1⟩
        have b2 : c * n = (c - 1) * n + n := by rw [Int.sub_mul]; omega
        rw [Int.mul_comm n (c - 1)]
        by_cases h9 : 1 ≤ n
        · rw [if_neg (not_not_intro ⟨⟨h1, h2, h3, h4, h5, h6, h7, h8⟩, h9⟩), if_neg (by omega)]
          by_cases e4 : n > 120
          · rw [if_pos e4, if_neg (fun h => by omega)]
          · rw [if_neg e4, show wrap64 ((c - 1) * n) = (c - 1) * n from wrap_in (by omega), show wrap64 (s - (c - 1) * n) = s - (c - 1) * n from wrap_in (by omega)]
            by_cases e5 : s - (c - 1) * n < 1
            · rw [if_pos e5, if_neg (fun h => by omega)]
            · rw [if_neg e5]
              by_cases e6 : s - (c - 1) * n > n
              · rw [if_pos e6, if_neg (fun h => by omega)]
              · rw [if_neg e6, if_pos ⟨by omega, by omega, by omega⟩]
        · rw [if_pos (fun h : Fine t i c s ∧ 1 ≤ n => h9 h.2), if_pos (by omega)]
  · rw [decide_eq_true hG, if_pos rfl, if_pos (fun h => hG h.1)]
def chkF (t i c s n : Int) : Int := if lenF t i c s n = 0 then 1 else 0
theorem check_eq (k : Nat) (t i c s : Int) (d : ByteArray) (hd : d.size ≤ 140737488351232) : fragment_Check.f (k + 2) t i c s d = some (chkF t i c s d.size) := by
  unfold fragment_Check.f chkF
  rw [part_eq k t i c s d hd, Option.bind_some]
  split <;> rfl
theorem rcheck_eq (k : Nat) (t i c s : Int) (d : ByteArray) (hd : d.size ≤ 140737488351232) : hopmeshref15_Check.f (k + 2) t i c s d = some (chkF t i c s d.size) := by
  unfold hopmeshref15_Check.f chkF
  rw [length_eq k t i c s d hd, Option.bind_some]
  split <;> rfl
end Go.Proofs.Ytokapofgbcbajaa.Fns
