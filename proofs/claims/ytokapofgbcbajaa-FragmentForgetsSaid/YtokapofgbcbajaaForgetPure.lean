/- FragmentForgets in plain lists: the three arrivals. -/
import Derived.Test.YtokapofgbcbajaaRecvMore
import Derived.Test.YtokapofgbcbajaaFx16
namespace Go.Proofs.Ytokapofgbcbajaa.Fns
open Go.RowKit Go.Maps Go.Proofs.YtokapofgbcbajaaW.PrintWords
set_option linter.unusedVariables false
def dX : ByteArray := ⟨#[120]⟩
theorem split_X : fragment_Split.f 9 2 dX 1 = some ([⟨2, 0, 1, 1, dX⟩], 0) := by kernel_rfl
theorem contains_12 : slices_Contains_int_int.f 9 [1, 2] 1 = some true := by kernel_rfl
theorem contains_2 : slices_Contains_int_int.f 9 [2] 1 = some false := by kernel_rfl
theorem cnt_X : cntS dX.size 1 = 1 := by decide
theorem pcs_X : pcs dX 1 0 = dX := ext_allW dX
theorem pcnt_zero (n : Nat) : pcnt 0 n = 0 := by unfold pcnt; simp
theorem outW_first {d : ByteArray} {m n : Nat} (hn : n = cntS d.size m) (h1 : 1 ≤ n) : outW d m 0 0 = if n = 1 then (d, true) else (⟨#[]⟩, false) := by
  unfold outW
  have hc := pcnt_or (b := 0) (k := 0) n
  rw [if_pos ⟨by simp, h1⟩, pcnt_zero] at hc
  rw [← hn, hc]
  by_cases h : n = 1
  · rw [if_pos h, if_pos ⟨by simp, by omega⟩]
  · rw [if_neg h, if_neg (fun h2 => h (by omega))]
theorem outW_again {d : ByteArray} {m : Nat} : outW d m 1 0 = (⟨#[]⟩, false) := by
  unfold outW
  rw [if_neg (fun h => by simp at h)]
theorem or_one0 : (0 ||| 2 ^ 0 : Nat) = 1 := by decide
def lF (d : ByteArray) (a : Int) : List (Int × Dg) := [(1, dgW d 100 1 a)]
def lF2 (d : ByteArray) (a s hold : Int) : List (Int × Dg) := (if s - a ≤ hold then lF d a else []) ++ [(2, dgW dX 1 1 s)]
section
variable {d : ByteArray} {n : Nat} {hold a s : Int}
theorem forget_1 (hs : 1 ≤ d.size ∧ d.size ≤ 300) (hn : n = cntS d.size 100) (hc : n ≤ 32) (ha : 0 ≤ a ∧ a ≤ 10000) :
    recvF hold 0 [] a 1 0 (n : Nat) (d.size : Nat) (pcs d 100 0) = ⟨(outW d 100 0 0).1, (outW d 100 0 0).2, 0, a, lF d a⟩ := by
  subst hn
  have h := recv_new (d := d) (m := 100) (k := 0) (t := 1) (hold := hold) (time := 0) (slot := a) (l := []) (by decide) (by omega) (by decide) hc (by have := (cnt_law (size := d.size) (m := 100) hs.1 (by decide)).1; omega) (by omega) (by omega) rfl (show 0 < 8 by decide)
  rw [or_one0] at h
  exact h
theorem kept_F : keptP (s - hold) (lF d a) = if s - a ≤ hold then lF d a else [] := by
  unfold keptP lF
  by_cases h : s - a ≤ hold
  · have hd : decide (a < s - hold) = false := decide_eq_false (by omega)
    rw [if_pos h]
    simp [dgW, hd]
  · have hd : decide (a < s - hold) = true := decide_eq_true (by omega)
    rw [if_neg h]
    simp [dgW, hd]
theorem forget_2 (ha : 0 ≤ a ∧ a ≤ 10000) (hs : a ≤ s ∧ s ≤ 20000) : recvF hold a (lF d a) s 2 0 1 1 dX = ⟨dX, true, 0, s, lF2 d a s hold⟩ := by
  have hk := kept_F (d := d) (a := a) (s := s) (hold := hold)
  have hno : lookP (keptP (s - hold) (lF d a)) 2 = none := by
    rw [hk]
    split <;> rfl
  have hl8 : (keptP (s - hold) (lF d a)).length < 8 := by
    rw [hk]
    split
    · exact (by decide : 1 < 8)
    · exact (by decide : 0 < 8)
  have h := recv_new (d := dX) (m := 1) (k := 0) (t := 2) (hold := hold) (time := a) (slot := s) (l := lF d a) (by decide) (by decide) (by decide) (by rw [cnt_X]; decide) (by rw [cnt_X]; decide) (by omega) (by omega) hno hl8
  rw [or_one0, cnt_X, pcs_X, outW_first (n := 1) cnt_X.symm (by decide), if_pos rfl] at h
  refine h.trans ?_
  congr 1
  rw [hk]
  unfold lF2
  split <;> rfl
theorem kept_F2 (h0 : 0 ≤ hold) : keptP (s - hold) (lF2 d a s hold) = lF2 d a s hold := by
  unfold lF2
  have h2 : decide (s < s - hold) = false := decide_eq_false (by omega)
  by_cases h : s - a ≤ hold
  · have hd : decide (a < s - hold) = false := decide_eq_false (by omega)
    rw [if_pos h]
    simp [keptP, lF, dgW, hd, h2]
  · rw [if_neg h]
    simp [keptP, dgW, h2]
theorem forget_3 (hs : 1 ≤ d.size ∧ d.size ≤ 300) (hn : n = cntS d.size 100) (hc : n ≤ 32) (h0 : 0 ≤ hold) (hsl : s ≤ 20000) :
    ∃ l, recvF hold s (lF2 d a s hold) s 1 0 (n : Nat) (d.size : Nat) (pcs d 100 0) = ⟨(if s - a ≤ hold then (⟨#[]⟩, false) else outW d 100 0 0 : ByteArray × Bool).1, (if s - a ≤ hold then (⟨#[]⟩, false) else outW d 100 0 0 : ByteArray × Bool).2, 0, s, l⟩ := by
  subst hn
  have hk := kept_F2 (d := d) (a := a) (s := s) h0
  have hn1 := (cnt_law (size := d.size) (m := 100) hs.1 (by decide)).1
  by_cases h : s - a ≤ hold
  · rw [if_pos h]
    have hlk : lookP (keptP (s - hold) (lF2 d a s hold)) 1 = some (dgW d 100 1 a) := by
      rw [hk]
      unfold lF2
      rw [if_pos h]; rfl
    have h1 := recv_have (d := d) (m := 100) (b := 1) (k := 0) (t := 1) (hold := hold) (time := s) (slot := s) (l := lF2 d a s hold) (by decide) (by omega) (by decide) hc (by omega) (Nat.one_lt_two_pow (by omega)) (by omega) (by omega) hlk
    rw [outW_again] at h1
    exact ⟨_, h1⟩
  · rw [if_neg h]
    have hlk : lookP (keptP (s - hold) (lF2 d a s hold)) 1 = none := by
      rw [hk]
      unfold lF2
      rw [if_neg h]; rfl
    have hl8 : (keptP (s - hold) (lF2 d a s hold)).length < 8 := by
      rw [hk]
      unfold lF2
      rw [if_neg h]
      exact (by decide : 1 < 8)
    exact ⟨_, recv_new (d := d) (m := 100) (k := 0) (t := 1) (hold := hold) (time := s) (slot := s) (l := lF2 d a s hold) (by decide) (by omega) (by decide) hc (by omega) (by omega) (by omega) hlk hl8⟩
theorem bmp_F2 : bmpF (lF2 d a s hold) 1 = (if s - a ≤ hold then 1 else 0) ∧ bmpE (lF2 d a s hold) 1 = (if s - a ≤ hold then 0 else 7) := by
  unfold lF2
  by_cases h : s - a ≤ hold
  · rw [if_pos h, if_pos h, if_pos h]; exact ⟨rfl, rfl⟩
  · rw [if_neg h, if_neg h, if_neg h]; exact ⟨rfl, rfl⟩
theorem tags_F2 : (lF2 d a s hold).map (·.1) = if s - a ≤ hold then [1, 2] else [2] := by
  unfold lF2
  by_cases h : s - a ≤ hold
  · rw [if_pos h, if_pos h]; rfl
  · rw [if_neg h, if_neg h]; rfl
end
end Go.Proofs.Ytokapofgbcbajaa.Fns
