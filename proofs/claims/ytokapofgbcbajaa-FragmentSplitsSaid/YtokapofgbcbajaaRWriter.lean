/- The writer of the reference: room, Unsigned. -/
import Derived.Test.YtokapofgbcbajaaRPut
namespace Go.Proofs.Ytokapofgbcbajaa.Fns
open Go.RowKit Go.Proofs.YtokapofgbcbajaaW.PrintWords Go.Proofs.YtokapofgbcbajaaW.PrintLast Go.Proofs.YtokapofgbcbajaaW.PrintMore
set_option linter.unusedVariables false
set_option linter.unusedSimpArgs false
theorem rroom_calls (w : World) (base p width : Nat) (v : Value) (bs : List Int) (hB : RW2 w base p v bs) (hw : width ≤ 63) (hl : bs.length ≤ 1000) :
    Calls Try.prog 67 #[.pointer (some ⟨p, 0, none⟩), .int .i64 (width : Int)] w fun e w' => e = .returned (.bool true) ∧ w' = w := by
  have c0 := hB.c0
  have c1 := hB.c1
  obtain ⟨A, cc, rfl⟩ := own_slice hB.own
  have hsum : wrap64 ((bs.length : Int) + (width : Int)) = (bs.length : Int) + (width : Int) := wrap_in (by omega)
  have hsm : decide (524288 < (bs.length : Int) + (width : Int)) = false := decide_eq_false (by omega)
  clear hB hw hl
  go_enter Try.func67, Try.ntmps67
  go_wp2
  go_ret
  exact ⟨rfl, rfl⟩
theorem runsigned_calls (w : World) (base p width : Nat) (n : Int) (v : Value) (bs : List Int) (hbw : base ≤ w.heap.size) (hB : RW2 w base p v bs) (hw1 : 1 ≤ width) (hw : width ≤ 62) (hn : 0 ≤ n) (hn2 : n < 2 ^ width) (hl : bs.length ≤ 1000) :
    Calls Try.prog 40 #[.pointer (some ⟨p, 0, none⟩), .int .i64 (width : Int), .int .i64 n] w fun e w' => e = .returned (.tuple #[]) ∧ (∃ v', RW2 w' base p v' (bs ++ bitsOf width n)) ∧ Fr SV base w w' := by
  have hpow : (2 : Int) ^ width ≤ 2 ^ 62 := by
    have := Nat.pow_le_pow_right (n := 2) (by decide) hw
    exact_mod_cast this
  have HP := Aside0.mk (rput_calls w base p width n v bs hbw hB (by omega) ⟨hn, by omega⟩ hl)
  have HR := Aside0.mk (rroom_calls w base p width v bs hB (by omega) hl)
  have c1 := hB.c1
  have q1 : decide ((width : Int) < 1) = false := decide_eq_false (by omega)
  have q2 : decide (63 < (width : Int)) = false := decide_eq_false (by omega)
  have q2' : decide (63 < width) = false := decide_eq_false (by omega)
  have q3 : decide (n < 0) = false := decide_eq_false (by omega)
  have q4 : decide ((width : Int) < 63) = true := decide_eq_true (by omega)
  have q4' : decide (width < 63) = true := decide_eq_true (by omega)
  have hmn : min width 64 = width := Nat.min_eq_left (by omega)
  have hsh : wrap64 (2 ^ width) = 2 ^ width := wrap_in ⟨by have : (0 : Int) < 2 ^ width := Int.pow_pos (by decide); omega, by omega⟩
  have q5 : decide ((2 : Int) ^ width ≤ n) = false := decide_eq_false (by omega)
  clear hpow hB hbw hl hn hn2 hw hw1
  go_enter Try.func40, Try.ntmps40
  go_wp2_with (first
    | (go_at_call 67; (with_reducible refine HR.out.mono ?_); rintro e w1 ⟨rfl, rfl⟩)
    | (go_at_call 68; (with_reducible refine HP.out.mono ?_); rintro e w2 ⟨rfl, hv, hf⟩))
  (first | go_end0 | ((try simp only [Exit.inBlock, Exit.then]); refine bodyPost_ret (results_none rfl _ _ _) rfl ?_))
  exact ⟨rfl, hv, hf⟩
end Go.Proofs.Ytokapofgbcbajaa.Fns
