/- Encode of the reference: what it computes is encF. -/
import Derived.Test.YtokapofgbcbajaaRBytes
import Derived.Test.YtokapofgbcbajaaEncode
namespace Go.Proofs.Ytokapofgbcbajaa.Fns
open Go.RowKit Go.Proofs.YtokapofgbcbajaaW.PrintWords Go.Proofs.YtokapofgbcbajaaW.PrintLast Go.Proofs.YtokapofgbcbajaaW.PrintMore
set_option linter.unusedVariables false
set_option linter.unusedSimpArgs false
theorem rcheck_calls (t i c s : Int) (d : ByteArray) (hd : d.size ≤ 140737488351232) (w : World) :
    Calls Try.prog 18 #[.agg #[.int .i64 t, .int .i64 i, .int .i64 c, .int .i64 s, .string d]] w fun e w' => e = .returned (.int .i64 (chkF t i c s d.size)) ∧ Below w.heap.size w w' :=
  hopmeshref15_Check.calls 2 t i c s d _ w (rcheck_eq 0 t i c s d hd)
theorem bits_head (t i c s : Int) : Bits ([] ++ bitsOf 8 t ++ bitsOf 5 i ++ bitsOf 5 (c - 1) ++ bitsOf 12 s) :=
  (((bits_nil.append (bitsOf_bits _ _)).append (bitsOf_bits _ _)).append (bitsOf_bits _ _)).append (bitsOf_bits _ _)
set_option maxRecDepth 100000 in
set_option maxHeartbeats 2000000 in
theorem rencode_bad (t i c s : Int) (d : ByteArray) (hd : d.size ≤ 140737488351232) (h : lenF t i c s d.size = 0) (w : World) :
    Calls Try.prog 14 #[.agg #[.int .i64 t, .int .i64 i, .int .i64 c, .int .i64 s, .string d]] w fun e w' => e = .returned (.tuple #[.string ⟨#[]⟩, .int .i64 1]) ∧ Below w.heap.size w w' := by
  have hu23 := Try.underlying23
  have hc := fun w => rcheck_calls t i c s d hd w
  rw [show chkF t i c s d.size = 1 by unfold chkF; rw [if_pos h]] at hc
  have HW := Aside0.mk (below_new w (.cells #[.int .i64 t, .int .i64 i, .int .i64 c, .int .i64 s, .string d] 23))
  clear h hd
  go_enter Try.func14, Try.ntmps14
  go_wp2_with (go_at_call 18; (with_reducible refine (hc _).mono ?_); rintro e w1 ⟨rfl, hb1⟩)
  go_ret2
  exact ⟨rfl, below_tr HW.out hb1⟩
set_option maxRecDepth 100000 in
set_option maxHeartbeats 2000000 in
theorem rencode_good (t i c s : Int) (d : ByteArray) (hd : d.size ≤ 140737488351232) (h : lenF t i c s d.size ≠ 0) (w : World) :
    Calls Try.prog 14 #[.agg #[.int .i64 t, .int .i64 i, .int .i64 c, .int .i64 s, .string d]] w fun e w' => e = .returned (.tuple #[.string (strOfNums (head4 t i c s) ++ d), .int .i64 0]) ∧ Below w.heap.size w w' := by
  have hu23 := Try.underlying23
  have hc := fun w => rcheck_calls t i c s d hd w
  rw [show chkF t i c s d.size = 0 by unfold chkF; rw [if_neg h]] at hc
  have HC := Aside0.mk hc
  obtain ⟨⟨f1, f2, f3, f4, f5, f6, f7, f8⟩, f9⟩ := lenF_fine h
  have H40 := Aside0.mk (show ∀ (w : World) (base p width : Nat) (n : Int) (v : Value) (bs : List Int), base ≤ w.heap.size → RW2 w base p v bs → 1 ≤ width → width ≤ 62 → 0 ≤ n → n < 2 ^ width → bs.length ≤ 1000 →
    Calls Try.prog 40 #[.pointer (some ⟨p, 0, none⟩), .int .i64 (width : Int), .int .i64 n] w fun e w' => e = .returned (.tuple #[]) ∧ (∃ v', RW2 w' base p v' (bs ++ bitsOf width n)) ∧ Fr SV base w w' from fun w base p width n v bs h1 h2 h3 h4 h5 h6 h7 => runsigned_calls w base p width n v bs h1 h2 h3 h4 h5 h6 h7)
  have HW := Aside0.mk (below_new w (.cells #[.int .i64 t, .int .i64 i, .int .i64 c, .int .i64 s, .string d] 23))
  have HX := Aside0.mk (Box.new w t i c s d)
  have HP := Aside0.mk (pk_head t i c s ⟨f1, f2⟩ ⟨f5, by omega⟩ ⟨f3, f4⟩ ⟨by omega, by omega⟩)
  have hwc : wrap64 (c - 1) = c - 1 := wrap_in (by omega)
  have HAD := Aside0.mk (show ∀ w, (Op.stringOp .add (strOfNums (head4 t i c s)) d).run Try.prog w = .ok (.string (strOfNums (head4 t i c s) ++ d)) w from fun w => run_string_add_sum w _ _ (by rw [strOfNums_size]; show 4 + d.size ≤ _; omega))
  have HR := Aside0.mk (show 0 ≤ i ∧ i < 32 ∧ 0 ≤ c - 1 ∧ c - 1 < 32 ∧ 0 ≤ s ∧ s < 4096 by omega)
  clear hc hd h f3 f4 f5 f6 f7 f8 f9
  go_enter Try.func14, Try.ntmps14
  go_upto_region 4 with (first
    | (go_at_call 18; (with_reducible refine (HC.out _).mono ?_); rintro e w1 ⟨rfl, hb1⟩)
    | (go_at_call 39; (with_reducible refine (rnewWriter_calls _).mono ?_); rintro e w2 ⟨rfl, rfl⟩))
  have hb2 : Below w.heap.size w (w1.alloc (.cells #[.slice none 0 0, .int .i64 0] 120)) := below_tr (below_tr HW.out hb1) (below_new _ _)
  have hx2 : Box (w1.alloc (.cells #[.slice none 0 0, .int .i64 0] 120)) w.heap.size t i c s d := (HX.out.later hb1).later (below_new _ _)
  have hw2 : RW2 (w1.alloc (.cells #[.slice none 0 0, .int .i64 0] 120)) w.heap.size w1.heap.size (.slice none 0 0) [] := RW2.new w1 w.heap.size (Nat.le_trans HW.out.size hb1.size)
  refine wp_world (F := fun W => Below w.heap.size w W ∧ Box W w.heap.size t i c s d ∧ RW2 W w.heap.size w1.heap.size (.slice none 0 0) []) ⟨hb2, hx2, hw2⟩ (fun W2 hF => ?_)
  generalize w1.heap.size = p at hF ⊢
  obtain ⟨HB2, HX2, HW2⟩ : Aside0 (Below w.heap.size w W2) ∧ Aside0 (Box W2 w.heap.size t i c s d) ∧ Aside0 (RW2 W2 w.heap.size p (.slice none 0 0) []) := ⟨⟨hF.1⟩, ⟨hF.2.1⟩, ⟨hF.2.2⟩⟩
  clear hF hb2 hx2 hw2 hb1
  obtain ⟨a0, a1, a2, a3, a4⟩ := HX2.out.cells
  go_upto_region 5 with (go_at_call 40; refine (H40.out _ w.heap.size p 8 t _ _ HB2.out.size HW2.out (by decide) (by decide) f1 (Int.lt_of_le_of_lt f2 (by decide)) (by decide)).mono ?_; rintro e w3 ⟨rfl, hv3, hf3⟩)
  obtain ⟨v3, hv3⟩ := hv3
  have HB3 := Aside0.mk ((Fr.of_below HB2.out).trans hf3)
  have HX3 := Aside0.mk (HX2.out.fr hf3 rfl)
  have HW3 := Aside0.mk hv3
  clear hv3 hf3 a0 a1 a2 a3 a4 HX2 HW2
  obtain ⟨a0, a1, a2, a3, a4⟩ := HX3.out.cells
  go_upto_region 6 with (go_at_call 40; refine (H40.out _ w.heap.size p 5 i _ _ HB3.out.size HW3.out (by decide) (by decide) HR.out.1 HR.out.2.1 (by simp [bitsOf_length])).mono ?_; rintro e w4 ⟨rfl, hv4, hf4⟩)
  obtain ⟨v4, hv4⟩ := hv4
  have HB4 := Aside0.mk (HB3.out.trans hf4)
  have HX4 := Aside0.mk (HX3.out.fr hf4 rfl)
  have HW4 := Aside0.mk hv4
  clear hv4 hf4 a0 a1 a2 a3 a4 HX3 HW3
  obtain ⟨a0, a1, a2, a3, a4⟩ := HX4.out.cells
  go_upto_region 7 with (go_at_call 40; refine (H40.out _ w.heap.size p 5 (c - 1) _ _ HB4.out.size HW4.out (by decide) (by decide) HR.out.2.2.1 HR.out.2.2.2.1 (by simp [bitsOf_length])).mono ?_; rintro e w5 ⟨rfl, hv5, hf5⟩)
  obtain ⟨v5, hv5⟩ := hv5
  have HB5 := Aside0.mk (HB4.out.trans hf5)
  have HX5 := Aside0.mk (HX4.out.fr hf5 rfl)
  have HW5 := Aside0.mk hv5
  clear hv5 hf5 a0 a1 a2 a3 a4 HX4 HW4
  obtain ⟨a0, a1, a2, a3, a4⟩ := HX5.out.cells
  go_upto_region 8 with (go_at_call 40; refine (H40.out _ w.heap.size p 12 s _ _ HB5.out.size HW5.out (by decide) (by decide) HR.out.2.2.2.2.1 HR.out.2.2.2.2.2 (by simp [bitsOf_length])).mono ?_; rintro e w6 ⟨rfl, hv6, hf6⟩)
  obtain ⟨v6, hv6⟩ := hv6
  have HB6 := Aside0.mk (HB5.out.trans hf6)
  have HX6 := Aside0.mk (HX5.out.fr hf6 rfl)
  have HW6 := Aside0.mk hv6
  clear hv6 hf6 a0 a1 a2 a3 a4 HX5 HW5
  obtain ⟨a0, a1, a2, a3, a4⟩ := HX6.out.cells
  have h38 := rbytes_calls w6 w.heap.size p v6 _ HW6.out (by simp [bitsOf_length]) (bits_head t i c s) HB6.out.size
  rw [show [] ++ bitsOf 8 t ++ bitsOf 5 i ++ bitsOf 5 (c - 1) ++ bitsOf 12 s = bits4 t i c s from rfl, HP.out] at h38
  have H41 := Aside0.mk h38
  clear h38
  have hadd := HAD.out
  go_wp2_with (go_at_call 41; refine (H41.out).mono ?_; rintro e w7 ⟨rfl, hb7⟩; obtain ⟨a0, a1, a2, a3, a4⟩ := (HX6.out.later hb7).cells)
  go_ret2
  exact ⟨rfl, (HB6.out.below (Nat.le_refl _)).trans (hb7.mono HB6.out.size)⟩
theorem rencode_calls (t i c s : Int) (d : ByteArray) (hd : d.size ≤ 140737488351232) (w : World) :
    Calls Try.prog 14 #[.agg #[.int .i64 t, .int .i64 i, .int .i64 c, .int .i64 s, .string d]] w fun e w' => e = .returned (.tuple #[.string (encF t i c s d).1, .int .i64 (encF t i c s d).2]) ∧ Below w.heap.size w w' := by
  unfold encF
  by_cases h : lenF t i c s d.size = 0
  · rw [if_pos h]; exact rencode_bad t i c s d hd h w
  · rw [if_neg h]; exact rencode_good t i c s d hd h w
end Go.Proofs.Ytokapofgbcbajaa.Fns
