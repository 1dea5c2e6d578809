/- The writer of package bitio: its methods; and Encode of package fragment. -/
import Derived.Test.YtokapofgbcbajaaPut
import Derived.Test.YtokapofgbcbajaaLen
import Derived.Test.YtokapofgbcbajaaSpec
namespace Go.Proofs.Ytokapofgbcbajaa.Fns
open Go.RowKit Go.Proofs.YtokapofgbcbajaaW.PrintWords Go.Proofs.YtokapofgbcbajaaW.PrintLast Go.Proofs.YtokapofgbcbajaaW.PrintMore
set_option linter.unusedVariables false
set_option linter.unusedSimpArgs false
theorem field_calls (w : World) (base p width : Nat) (n : Int) (v : Value) (bs : List Int) (hbw : base ≤ w.heap.size) (hB : WB w base p v bs) (hw : width ≤ 63) (hn : 0 ≤ n ∧ n < 9223372036854775808) (hl : bs.length ≤ 1000) :
    Calls Try.prog 66 #[.pointer (some ⟨p, 0, none⟩), .bool true, .bool true, .int .i64 (width : Int), .int .i64 n] w fun e w' => e = .returned (.tuple #[]) ∧ (∃ v', WB w' base p v' (bs ++ bitsOf width n)) ∧ Fr SW base w w' := by
  have hc := put_calls w base p width n v bs hbw hB hw hn hl
  have c1 := hB.1.c1
  have c2 := hB.1.c2
  have hwn : IntKind.u64.wrap n = n := wraps_u64 n hn.1 hn.2
  have hsum : wrap64 ((bs.length : Int) + (width : Int)) = (bs.length : Int) + (width : Int) := by unfold wrap64; omega
  have hsm : decide (524288 < (bs.length : Int) + (width : Int)) = false := decide_eq_false (by omega)
  clear hB hn hbw hw hl
  go_enter Try.func66, Try.ntmps66
  go_wp2_with (go_at_call 93; (with_reducible refine hc.mono ?_); rintro e w1 ⟨rfl, hv, hf⟩)
  (first | go_end0 | ((try simp only [Exit.inBlock, Exit.then]); refine bodyPost_ret (results_none rfl _ _ _) rfl ?_))
  exact ⟨rfl, hv, hf⟩
theorem unsigned_calls (w : World) (base p width : Nat) (n : Int) (v : Value) (bs : List Int) (hbw : base ≤ w.heap.size) (hB : WB w base p v bs) (hw1 : 1 ≤ width) (hw : width ≤ 62) (hn : 0 ≤ n) (hn2 : n < 2 ^ width) (hl : bs.length ≤ 1000) :
    Calls Try.prog 37 #[.pointer (some ⟨p, 0, none⟩), .int .i64 (width : Int), .int .i64 n] w fun e w' => e = .returned (.tuple #[]) ∧ (∃ v', WB w' base p v' (bs ++ bitsOf width n)) ∧ Fr SW base w w' := by
  have hpow : (2 : Int) ^ width ≤ 2 ^ 62 := by
    have := Nat.pow_le_pow_right (n := 2) (by decide) hw
    exact_mod_cast this
  have hn3 : 0 ≤ n ∧ n < 9223372036854775808 := ⟨hn, by omega⟩
  have hc := field_calls w base p width n v bs hbw hB (by omega) hn3 hl
  have hL := fun w => len_calls n w hn (by omega)
  have hb : Lib.bitLen n.toNat ≤ width := bitLen_le n.toNat width (by omega) (by
    have h1 : ((n.toNat : Nat) : Int) < ((2 ^ width : Nat) : Int) := by rw [Int.toNat_of_nonneg hn]; exact_mod_cast hn2
    exact_mod_cast h1)
  have hwn : IntKind.u64.wrap n = n := wraps_u64 n hn (by omega)
  have q1 : decide (1 ≤ (width : Int)) = true := decide_eq_true (by omega)
  have q1' : decide (1 ≤ width) = true := decide_eq_true hw1
  have q2 : decide ((width : Int) ≤ 63) = true := decide_eq_true (by omega)
  have q2' : decide (width ≤ 63) = true := decide_eq_true (by omega)
  have q3 : decide (0 ≤ n) = true := decide_eq_true hn
  have q4 : decide ((Lib.bitLen n.toNat : Int) ≤ (width : Int)) = true := decide_eq_true (by omega)
  have q4' : decide (Lib.bitLen n.toNat ≤ width) = true := decide_eq_true hb
  clear hB hbw hl hpow hn2 hn3 hb hw hw1
  go_enter Try.func37, Try.ntmps37
  go_wp2_with (first
    | (go_at_call 60; (with_reducible refine (hL _).mono ?_); rintro e w1 ⟨rfl, rfl⟩)
    | (go_at_call 66; (with_reducible refine hc.mono ?_); rintro e w1 ⟨rfl, hv, hf⟩))
  (first | go_end0 | ((try simp only [Exit.inBlock, Exit.then]); refine bodyPost_ret (results_none rfl _ _ _) rfl ?_))
  exact ⟨rfl, hv, hf⟩
end Go.Proofs.Ytokapofgbcbajaa.Fns
