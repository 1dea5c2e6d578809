/- Encode of package fragment: what it computes, and its walk. -/
import Derived.Test.YtokapofgbcbajaaWriter
namespace Go.Proofs.Ytokapofgbcbajaa.Fns
open Go.RowKit Go.Proofs.YtokapofgbcbajaaW.PrintWords Go.Proofs.YtokapofgbcbajaaW.PrintLast Go.Proofs.YtokapofgbcbajaaW.PrintMore
set_option linter.unusedVariables false
set_option linter.unusedSimpArgs false
theorem check_calls (t i c s : Int) (d : ByteArray) (hd : d.size ≤ 140737488351232) (w : World) :
    Calls Try.prog 17 #[.agg #[.int .i64 t, .int .i64 i, .int .i64 c, .int .i64 s, .string d]] w fun e w' => e = .returned (.int .i64 (chkF t i c s d.size)) ∧ Below w.heap.size w w' :=
  fragment_Check.calls 2 t i c s d _ w (check_eq 0 t i c s d hd)
theorem newWriter_calls (w : World) : Calls Try.prog 36 #[] w fun e w' => e = .returned (.pointer (some ⟨w.heap.size, 0, none⟩)) ∧ w' = w.alloc (.cells #[.slice none 0 0, .int .i64 0, .int .i64 0] 117) := by
  have hu117 := Try.underlying117
  go_enter Try.func36, Try.ntmps36
  go_wp2
  go_ret
  exact ⟨rfl, rfl⟩
theorem bytes_calls (w : World) (base p : Nat) (v : Value) (bs : List Int) (hB : WB w base p v bs) (hl : 0 < bs.length) :
    Calls Try.prog 38 #[.pointer (some ⟨p, 0, none⟩)] w fun e w' => e = .returned (.tuple #[.string (strOfNums (pk bs)), .int .i64 0]) ∧ w' = w := by
  have hpl := pk_length bs
  obtain ⟨g, cap, cur, rfl, hg, hr⟩ := own_row hB.1.own (by rw [hpl]; omega)
  have c0 := hB.1.c0
  have c2 := hB.1.c2
  have hcv := run_convert_bytes_arg w 39 5 Try.underlying39 Try.underlying5 g 0 (pk bs).length cap (pk bs) rfl (fun i hi => by
    rw [Nat.zero_add]
    refine hr.cell ?_
    simp [u8s, List.getD_eq_getElem?_getD, hi]) 9 Try.underlying9
  clear hB hr hpl hl hg
  go_enter Try.func38, Try.ntmps38
  go_wp2
  go_ret2
  exact ⟨rfl, rfl⟩
/-- The bytes of a fragment. -/
def encF (t i c s : Int) (d : ByteArray) : ByteArray × Int := if lenF t i c s d.size = 0 then (⟨#[]⟩, 1) else (strOfNums (head4 t i c s) ++ d, 0)
theorem lenF_fine {t i c s n : Int} (h : lenF t i c s n ≠ 0) : Fine t i c s ∧ 1 ≤ n := by
  unfold lenF at h
  exact Classical.byContradiction fun hc => h (if_pos hc)
theorem lenF_small {t i c s n : Int} (h : lenF t i c s n ≠ 0) : n ≤ 120 ∧ lenF t i c s n ≤ 120 ∧ 1 ≤ lenF t i c s n := by
  obtain ⟨hf, h1⟩ := lenF_fine h
  have key : lenF t i c s n = 0 ∨ (n ≤ 120 ∧ lenF t i c s n ≤ 120 ∧ 1 ≤ lenF t i c s n) := by
    unfold lenF
    rw [if_neg (not_not_intro ⟨hf, h1⟩)]
    by_cases h2 : c = 1
    · rw [if_pos h2]
      by_cases h3 : n = s ∧ n ≤ 120
      · rw [if_pos h3]; exact .inr ⟨h3.2, h3.2, h1⟩
      · rw [if_neg h3]; exact .inl rfl
    · rw [if_neg h2]
      by_cases h4 : i = c - 1
      · rw [if_pos h4]
        by_cases h3 : n < s ∧ (s - n) % (c - 1) = 0 ∧ n ≤ (s - n) / (c - 1) ∧ (s - n) / (c - 1) ≤ 120
        · rw [if_pos h3]; exact .inr ⟨by omega, h3.2.2.2, by omega⟩
        · rw [if_neg h3]; exact .inl rfl
      · rw [if_neg h4]
        by_cases h3 : n ≤ 120 ∧ (c - 1) * n < s ∧ s ≤ c * n
        · rw [if_pos h3]; exact .inr ⟨h3.1, h3.1, h1⟩
        · rw [if_neg h3]; exact .inl rfl
  exact key.resolve_left h
/-- A fragment's box. -/
def fB (t i c s : Int) (d : ByteArray) : Obj := .cells #[.int .i64 t, .int .i64 i, .int .i64 c, .int .i64 s, .string d] 23
def Box (w : World) (e : Nat) (t i c s : Int) (d : ByteArray) : Prop := w.heap[e]? = some (.cells #[.int .i64 t, .int .i64 i, .int .i64 c, .int .i64 s, .string d] 23 (0, 0))
theorem Box.cells {w : World} {e : Nat} {t i c s : Int} {d : ByteArray} (h : Box w e t i c s d) : w.cell? ⟨e, 0, none⟩ = some (.int .i64 t) ∧ w.cell? ⟨e, 1, none⟩ = some (.int .i64 i) ∧ w.cell? ⟨e, 2, none⟩ = some (.int .i64 c) ∧ w.cell? ⟨e, 3, none⟩ = some (.int .i64 s) ∧ w.cell? ⟨e, 4, none⟩ = some (.string d) :=
  ⟨(blk_cell h 0).trans rfl, (blk_cell h 1).trans rfl, (blk_cell h 2).trans rfl, (blk_cell h 3).trans rfl, (blk_cell h 4).trans rfl⟩
theorem Box.later {w wx : World} {e : Nat} {t i c s : Int} {d : ByteArray} (h : Box w e t i c s d) (hb : Below w.heap.size w wx) : Box wx e t i c s d := blk_later hb h
theorem Box.fr {S : TypeId → Bool} {base : Nat} {w wx : World} {e : Nat} {t i c s : Int} {d : ByteArray} (h : Box w e t i c s d) (hf : Fr S base w wx) (hs : S 23 = false) : Box wx e t i c s d := blk_fr hf h hs
theorem Box.new (w : World) (t i c s : Int) (d : ByteArray) : Box (w.alloc (.cells #[.int .i64 t, .int .i64 i, .int .i64 c, .int .i64 s, .string d] 23)) w.heap.size t i c s d := heap_alloc_new w _
theorem WB.new (w : World) (base : Nat) (hb : base ≤ w.heap.size) : WB (w.alloc (.cells #[.slice none 0 0, .int .i64 0, .int .i64 0] 117)) base w.heap.size (.slice none 0 0) [] :=
  ⟨⟨heap_alloc_new w _, hb, own_nil _ _ _ _⟩, bits_nil⟩
set_option maxRecDepth 100000 in
set_option maxHeartbeats 2000000 in
theorem encode_bad (t i c s : Int) (d : ByteArray) (hd : d.size ≤ 140737488351232) (h : lenF t i c s d.size = 0) (w : World) :
    Calls Try.prog 13 #[.agg #[.int .i64 t, .int .i64 i, .int .i64 c, .int .i64 s, .string d]] w fun e w' => e = .returned (.tuple #[.string ⟨#[]⟩, .int .i64 1]) ∧ Below w.heap.size w w' := by
  have hu23 := Try.underlying23
  have hc := fun w => check_calls t i c s d hd w
  rw [show chkF t i c s d.size = 1 by unfold chkF; rw [if_pos h]] at hc
  have HW := Aside0.mk (below_new w (.cells #[.int .i64 t, .int .i64 i, .int .i64 c, .int .i64 s, .string d] 23))
  clear h hd
  go_enter Try.func13, Try.ntmps13
  go_wp2_with (go_at_call 17; (with_reducible refine (hc _).mono ?_); rintro e w1 ⟨rfl, hb1⟩)
  go_ret2
  exact ⟨rfl, below_tr HW.out hb1⟩
set_option maxRecDepth 100000 in
set_option maxHeartbeats 2000000 in
theorem encode_good (t i c s : Int) (d : ByteArray) (hd : d.size ≤ 140737488351232) (h : lenF t i c s d.size ≠ 0) (w : World) :
    Calls Try.prog 13 #[.agg #[.int .i64 t, .int .i64 i, .int .i64 c, .int .i64 s, .string d]] w fun e w' => e = .returned (.tuple #[.string (strOfNums (head4 t i c s) ++ d), .int .i64 0]) ∧ Below w.heap.size w w' := by
  have hu23 := Try.underlying23
  have hc := fun w => check_calls t i c s d hd w
  rw [show chkF t i c s d.size = 0 by unfold chkF; rw [if_neg h]] at hc
  have HC := Aside0.mk hc
  obtain ⟨⟨f1, f2, f3, f4, f5, f6, f7, f8⟩, f9⟩ := lenF_fine h
  have H37 := Aside0.mk (show ∀ (w : World) (base p width : Nat) (n : Int) (v : Value) (bs : List Int), base ≤ w.heap.size → WB w base p v bs → 1 ≤ width → width ≤ 62 → 0 ≤ n → n < 2 ^ width → bs.length ≤ 1000 →
    Calls Try.prog 37 #[.pointer (some ⟨p, 0, none⟩), .int .i64 (width : Int), .int .i64 n] w fun e w' => e = .returned (.tuple #[]) ∧ (∃ v', WB w' base p v' (bs ++ bitsOf width n)) ∧ Fr SW base w w' from fun w base p width n v bs h1 h2 h3 h4 h5 h6 h7 => unsigned_calls w base p width n v bs h1 h2 h3 h4 h5 h6 h7)
  have HW := Aside0.mk (below_new w (.cells #[.int .i64 t, .int .i64 i, .int .i64 c, .int .i64 s, .string d] 23))
  have HX := Aside0.mk (Box.new w t i c s d)
  have HP := Aside0.mk (pk_head t i c s ⟨f1, f2⟩ ⟨f5, by omega⟩ ⟨f3, f4⟩ ⟨by omega, by omega⟩)
  have hwc : wrap64 (c - 1) = c - 1 := wrap_in (by omega)
  have HAD := Aside0.mk (show ∀ w, (Op.stringOp .add (strOfNums (head4 t i c s)) d).run Try.prog w = .ok (.string (strOfNums (head4 t i c s) ++ d)) w from fun w => run_string_add_sum w _ _ (by rw [strOfNums_size]; show 4 + d.size ≤ _; omega))
  have HR := Aside0.mk (show 0 ≤ i ∧ i < 32 ∧ 0 ≤ c - 1 ∧ c - 1 < 32 ∧ 0 ≤ s ∧ s < 4096 by omega)
  clear hc hd h f3 f4 f5 f6 f7 f8 f9
  go_enter Try.func13, Try.ntmps13
  go_upto_region 5 with (first
    | (go_at_call 17; (with_reducible refine (HC.out _).mono ?_); rintro e w1 ⟨rfl, hb1⟩)
    | (go_at_call 36; (with_reducible refine (newWriter_calls _).mono ?_); rintro e w2 ⟨rfl, rfl⟩))
  have hb2 : Below w.heap.size w (w1.alloc (.cells #[.slice none 0 0, .int .i64 0, .int .i64 0] 117)) := below_tr (below_tr HW.out hb1) (below_new _ _)
  have hx2 : Box (w1.alloc (.cells #[.slice none 0 0, .int .i64 0, .int .i64 0] 117)) w.heap.size t i c s d := (HX.out.later hb1).later (below_new _ _)
  have hw2 : WB (w1.alloc (.cells #[.slice none 0 0, .int .i64 0, .int .i64 0] 117)) w.heap.size w1.heap.size (.slice none 0 0) [] := WB.new w1 w.heap.size (Nat.le_trans HW.out.size hb1.size)
  refine wp_world (F := fun W => Below w.heap.size w W ∧ Box W w.heap.size t i c s d ∧ WB W w.heap.size w1.heap.size (.slice none 0 0) []) ⟨hb2, hx2, hw2⟩ (fun W2 hF => ?_)
  generalize w1.heap.size = p at hF ⊢
  obtain ⟨HB2, HX2, HW2⟩ : Aside0 (Below w.heap.size w W2) ∧ Aside0 (Box W2 w.heap.size t i c s d) ∧ Aside0 (WB W2 w.heap.size p (.slice none 0 0) []) := ⟨⟨hF.1⟩, ⟨hF.2.1⟩, ⟨hF.2.2⟩⟩
  clear hF hb2 hx2 hw2 hb1
  obtain ⟨a0, a1, a2, a3, a4⟩ := HX2.out.cells
  go_upto_region 6 with (go_at_call 37; refine (H37.out _ w.heap.size p 8 t _ _ HB2.out.size HW2.out (by decide) (by decide) f1 (Int.lt_of_le_of_lt f2 (by decide)) (by decide)).mono ?_; rintro e w3 ⟨rfl, hv3, hf3⟩)
  obtain ⟨v3, hv3⟩ := hv3
  have HB3 := Aside0.mk ((Fr.of_below HB2.out).trans hf3)
  have HX3 := Aside0.mk (HX2.out.fr hf3 rfl)
  have HW3 := Aside0.mk hv3
  clear hv3 hf3 a0 a1 a2 a3 a4 HX2 HW2
  obtain ⟨a0, a1, a2, a3, a4⟩ := HX3.out.cells
  go_upto_region 7 with (go_at_call 37; refine (H37.out _ w.heap.size p 5 i _ _ HB3.out.size HW3.out (by decide) (by decide) HR.out.1 HR.out.2.1 (by simp [bitsOf_length])).mono ?_; rintro e w4 ⟨rfl, hv4, hf4⟩)
  obtain ⟨v4, hv4⟩ := hv4
  have HB4 := Aside0.mk (HB3.out.trans hf4)
  have HX4 := Aside0.mk (HX3.out.fr hf4 rfl)
  have HW4 := Aside0.mk hv4
  clear hv4 hf4 a0 a1 a2 a3 a4 HX3 HW3
  obtain ⟨a0, a1, a2, a3, a4⟩ := HX4.out.cells
  go_upto_region 8 with (go_at_call 37; refine (H37.out _ w.heap.size p 5 (c - 1) _ _ HB4.out.size HW4.out (by decide) (by decide) HR.out.2.2.1 HR.out.2.2.2.1 (by simp [bitsOf_length])).mono ?_; rintro e w5 ⟨rfl, hv5, hf5⟩)
  obtain ⟨v5, hv5⟩ := hv5
  have HB5 := Aside0.mk (HB4.out.trans hf5)
  have HX5 := Aside0.mk (HX4.out.fr hf5 rfl)
  have HW5 := Aside0.mk hv5
  clear hv5 hf5 a0 a1 a2 a3 a4 HX4 HW4
  obtain ⟨a0, a1, a2, a3, a4⟩ := HX5.out.cells
  go_upto_region 9 with (go_at_call 37; refine (H37.out _ w.heap.size p 12 s _ _ HB5.out.size HW5.out (by decide) (by decide) HR.out.2.2.2.2.1 HR.out.2.2.2.2.2 (by simp [bitsOf_length])).mono ?_; rintro e w6 ⟨rfl, hv6, hf6⟩)
  obtain ⟨v6, hv6⟩ := hv6
  have HB6 := Aside0.mk (HB5.out.trans hf6)
  have HX6 := Aside0.mk (HX5.out.fr hf6 rfl)
  have HW6 := Aside0.mk hv6
  clear hv6 hf6 a0 a1 a2 a3 a4 HX5 HW5
  obtain ⟨a0, a1, a2, a3, a4⟩ := HX6.out.cells
  have h38 := bytes_calls w6 w.heap.size p v6 _ HW6.out (by simp [bitsOf_length])
  rw [show [] ++ bitsOf 8 t ++ bitsOf 5 i ++ bitsOf 5 (c - 1) ++ bitsOf 12 s = bits4 t i c s from rfl, HP.out] at h38
  have H38 := Aside0.mk h38
  clear h38
  have hadd := HAD.out
  go_wp2_with (go_at_call 38; refine (H38.out).mono ?_; rintro e w7 ⟨rfl, rfl⟩)
  go_ret2
  exact ⟨rfl, HB6.out.below (Nat.le_refl _)⟩
theorem encode_calls (t i c s : Int) (d : ByteArray) (hd : d.size ≤ 140737488351232) (w : World) :
    Calls Try.prog 13 #[.agg #[.int .i64 t, .int .i64 i, .int .i64 c, .int .i64 s, .string d]] w fun e w' => e = .returned (.tuple #[.string (encF t i c s d).1, .int .i64 (encF t i c s d).2]) ∧ Below w.heap.size w w' := by
  unfold encF
  by_cases h : lenF t i c s d.size = 0
  · rw [if_pos h]; exact encode_bad t i c s d hd h w
  · rw [if_neg h]; exact encode_good t i c s d hd h w
def fragment_Encode.f (t i c s : Int) (d : ByteArray) : Option (ByteArray × Int) := if d.size ≤ 140737488351232 then some (encF t i c s d) else none
theorem fragment_Encode.calls (t i c s : Int) (d : ByteArray) (r0 : ByteArray) (r1 : Int) (w : World) (h : fragment_Encode.f t i c s d = some (r0, r1)) :
    Calls Try.prog 13 #[.agg #[.int .i64 t, .int .i64 i, .int .i64 c, .int .i64 s, .string d]] w fun e w' => e = .returned (.tuple #[.string r0, .int .i64 r1]) ∧ Below w.heap.size w w' := by
  unfold fragment_Encode.f at h
  split at h
  · rename_i hd
    have h2 := encode_calls t i c s d hd w
    rw [Option.some.inj h] at h2
    exact h2
  · cases h
end Go.Proofs.Ytokapofgbcbajaa.Fns
