/- The law FragmentForgets: its walk. -/
import Derived.Test.YtokapofgbcbajaaForgetPure
import Derived.Test.YtokapofgbcbajaaTags
import Derived.Test.YtokapofgbcbajaaAwake
namespace Go.Proofs.Ytokapofgbcbajaa.Fns
open Go.RowKit Go.Maps Go.Proofs.YtokapofgbcbajaaW.PrintWords Go.Proofs.YtokapofgbcbajaaW.PrintLast Go.Proofs.YtokapofgbcbajaaW.PrintMore
attribute [local go_sem high] eqA23
set_option linter.unusedVariables false
set_option linter.unusedSimpArgs false
def Arr2 (w : World) (g : Nat) (x0 x1 : Int) : Prop := w.heap[g]? = some (.cells #[.int .i64 x0, .int .i64 x1] 54 (0, 0))
theorem Arr2.cells {w : World} {g : Nat} {x0 x1 : Int} (h : Arr2 w g x0 x1) : w.cell? ⟨g, 0, none⟩ = some (.int .i64 x0) ∧ w.cell? ⟨g, 1, none⟩ = some (.int .i64 x1) := ⟨(blk_cell h 0).trans rfl, (blk_cell h 1).trans rfl⟩
/-- What the law has: the array, the receiver, two rows of fragments. -/
structure FS (w W : World) (base p bm : Nat) (hold time : Int) (l : List (Int × Dg)) (E : Nat) (x0 x1 : Int) (g1 cap1 : Nat) (cur1 : Array Value) (L1 : List S23) (g2 cap2 : Nat) (cur2 : Array Value) (L2 : List S23) : Prop where
  bel : Below w.heap.size w W
  rs : RS W base p bm hold time l
  arr : Arr2 W E x0 x1
  row1 : FRow W g1 cap1 cur1 L1
  row2 : FRow W g2 cap2 cur2 L2
  hb : base ≤ W.heap.size
section
variable {w W Wx : World} {base p bm : Nat} {hold time : Int} {l : List (Int × Dg)} {E : Nat} {x0 x1 : Int} {g1 cap1 : Nat} {cur1 : Array Value} {L1 : List S23} {g2 cap2 : Nat} {cur2 : Array Value} {L2 : List S23}
theorem FS.later (h : FS w W base p bm hold time l E x0 x1 g1 cap1 cur1 L1 g2 cap2 cur2 L2) (hb : Below W.heap.size W Wx) : FS w Wx base p bm hold time l E x0 x1 g1 cap1 cur1 L1 g2 cap2 cur2 L2 :=
  ⟨h.bel.trans (hb.mono h.bel.size), h.rs.later hb, blk_later hb h.arr, h.row1.later hb, h.row2.later hb, Nat.le_trans h.hb hb.size⟩
theorem FS.recv (h : FS w W base p bm hold time l E x0 x1 g1 cap1 cur1 L1 g2 cap2 cur2 L2) (hwb : w.heap.size ≤ base) {time' : Int} {l' : List (Int × Dg)} (hr : RS Wx base p bm hold time' l') (hf : FrB SR base bm W Wx) : FS w Wx base p bm hold time' l' E x0 x1 g1 cap1 cur1 L1 g2 cap2 cur2 L2 := by
  have hne : E ≠ bm := by
    rintro rfl
    obtain ⟨a, c, hm⟩ := h.rs.blk
    have := h.arr
    unfold Arr2 at this
    rw [hm] at this
    cases this
  exact ⟨hf.toBelow h.bel hwb h.hb, hr, blk_frB hf h.arr rfl hne, h.row1.frB hf rfl (h.row1.ne_map h.rs.blk), h.row2.frB hf rfl (h.row2.ne_map h.rs.blk), Nat.le_trans h.hb hf.size⟩
end
theorem FS.call {w W : World} {base p bm : Nat} {hold time : Int} {l : List (Int × Dg)} {E : Nat} {x0 x1 : Int} {g1 cap1 : Nat} {cur1 : Array Value} {L1 : List S23} {g2 cap2 : Nat} {cur2 : Array Value} {L2 : List S23} (h : FS w W base p bm hold time l E x0 x1 g1 cap1 cur1 L1 g2 cap2 cur2 L2) (hwb : w.heap.size ≤ base)
    (slot t i c s : Int) (d : ByteArray) (hd : d.size ≤ 140737488351232) {r : Res} (hr : recvF hold time l slot t i c s d = r) :
    Calls Try.prog 22 #[.pointer (some ⟨p, 0, none⟩), .int .i64 slot, .agg #[.int .i64 t, .int .i64 i, .int .i64 c, .int .i64 s, .string d]] W fun e w' =>
      e = .returned (.tuple #[.string r.s, .bool r.ok, .int .i64 r.err]) ∧ FS w w' base p bm hold r.time r.l E x0 x1 g1 cap1 cur1 L1 g2 cap2 cur2 L2 := by
  subst hr
  refine (recv_calls h.hb h.rs slot t i c s d hd).mono ?_
  rintro e w' ⟨rfl, hrs, hfr⟩
  exact ⟨rfl, h.recv hwb hrs hfr⟩
theorem forget_bools {d : ByteArray} {n : Nat} {hold a b : Int} (hn : n = cntS d.size 100) (h1 : 1 ≤ n) : ∃ (ok kb : Bool) (so s3 : ByteArray) (hE hB : Int) (tg : List Int), outW d 100 0 0 = (so, ok) ∧ ((n : Int) == 1) = ok ∧ (n == 1) = ok ∧ decide (b ≤ hold) = kb ∧ decide (hold < b) = !kb ∧
    bmpE (lF2 d a (a + b) hold) 1 = hE ∧ bmpF (lF2 d a (a + b) hold) 1 = hB ∧ (hE == 0) = kb ∧ (lF2 d a (a + b) hold).map (·.1) = tg ∧ (0 < tg.length ∧ tg.length ≤ 1000) ∧ slices_Contains_int_int.f 9 tg 1 = some kb ∧
    (if a + b - a ≤ hold then (⟨#[]⟩, false) else outW d 100 0 0 : ByteArray × Bool) = (s3, ok && !kb) := by
  rw [outW_first hn h1, bmp_F2.1, bmp_F2.2, tags_F2]
  by_cases h2 : n = 1
  · by_cases h3 : b ≤ hold
    · have h4 : a + b - a ≤ hold := by omega
      rw [if_pos h2, if_pos h4, if_pos h4, if_pos h4, if_pos h4]
      exact ⟨true, true, _, _, _, _, _, rfl, by rw [beq_iff_eq]; omega, by rw [beq_iff_eq]; exact h2, decide_eq_true h3, decide_eq_false (by omega), rfl, rfl, rfl, rfl, by decide, contains_12, rfl⟩
    · have h4 : ¬ a + b - a ≤ hold := by omega
      rw [if_pos h2, if_neg h4, if_neg h4, if_neg h4, if_neg h4]
      exact ⟨true, false, _, _, _, _, _, rfl, by rw [beq_iff_eq]; omega, by rw [beq_iff_eq]; exact h2, decide_eq_false h3, decide_eq_true (by omega), rfl, rfl, rfl, rfl, by decide, contains_2, rfl⟩
  · by_cases h3 : b ≤ hold
    · have h4 : a + b - a ≤ hold := by omega
      rw [if_neg h2, if_pos h4, if_pos h4, if_pos h4, if_pos h4]
      exact ⟨false, true, _, _, _, _, _, rfl, by rw [beq_eq_false_iff_ne]; omega, by rw [beq_eq_false_iff_ne]; exact h2, decide_eq_true h3, decide_eq_false (by omega), rfl, rfl, rfl, rfl, by decide, contains_12, rfl⟩
    · have h4 : ¬ a + b - a ≤ hold := by omega
      rw [if_neg h2, if_neg h4, if_neg h4, if_neg h4, if_neg h4]
      exact ⟨false, false, _, _, _, _, _, rfl, by rw [beq_eq_false_iff_ne]; omega, by rw [beq_eq_false_iff_ne]; exact h2, decide_eq_false h3, decide_eq_true (by omega), rfl, rfl, rfl, rfl, by decide, contains_2, rfl⟩
theorem forget_err {z : Nat} (hz : z ≤ 300) : errS 1 z 100 = if z = 0 then 14 else 0 := by
  unfold errS
  rw [if_neg (by decide)]
  by_cases h : z = 0
  · rw [if_pos h, if_pos h]
  · rw [if_neg h, if_neg h, if_neg (by omega), if_neg]
    unfold cntS
    have : (z + (100 : Int).toNat - 1) / (100 : Int).toNat ≤ 3 := by
      show (z + 100 - 1) / 100 ≤ 3
      omega
    omega
set_option maxRecDepth 100000 in
set_option maxHeartbeats 8000000 in
theorem forget_walk (a0 : ByteArray) (hold x0 x1 : Int) (w : World) (w0 : a0.size ≤ 140737488351232) :
    Calls Try.prog 6 #[.string a0, .int .i64 hold, .agg #[.int .i64 x0, .int .i64 x1]] w fun e w' => e = .returned (.bool true) ∧ Below w.heap.size w w' := by
  have hu23 := Try.underlying23
  have hu54 := Try.underlying54
  have HA := Aside0.mk (show ∀ w, Calls Try.prog 10 #[] w fun e w' => e = .returned (.bool true) ∧ Below w.heap.size w w' from awake_walk)
  have HB0 := Aside0.mk (below_new w (.cells #[.int .i64 x0, .int .i64 x1] 54))
  have HY0 := Aside0.mk (show Arr2 (w.alloc (.cells #[.int .i64 x0, .int .i64 x1] 54)) w.heap.size x0 x1 from heap_alloc_new w _)
  by_cases hbig : 300 < a0.size
  · have q1 : decide (300 < (a0.size : Int)) = true := decide_eq_true (by omega)
    have q1' : decide (300 < a0.size) = true := decide_eq_true hbig
    clear hbig w0
    go_enter Try.func6, Try.ntmps6
    go_wp2_with (go_at_call 10; (with_reducible refine (HA.out _).mono ?_); rintro e wa ⟨rfl, hba⟩)
    go_ret
    exact ⟨rfl, below_tr HB0.out hba⟩
  · have q1 : decide (300 < (a0.size : Int)) = false := decide_eq_false (by omega)
    have q1' : decide (300 < a0.size) = false := decide_eq_false hbig
    have HS2 := Aside0.mk (show ∀ w, Calls Try.prog 11 #[.int .i64 2, .string ⟨#[120]⟩, .int .i64 1] w fun e w' => ∃ v0_ : Value, e = .returned (.tuple #[v0_, .int .i64 0]) ∧ Kd.R k23 23 w' w.heap.size (fun _ => True) v0_ [⟨2, 0, 1, 1, dX⟩] ∧ Below w.heap.size w w' from fun w => fragment_Split.calls 9 2 dX 1 [⟨2, 0, 1, 1, dX⟩] 0 w split_X)
    have her := forget_err (show a0.size ≤ 300 by omega)
    by_cases hh : hold < 0 ∨ 4096 < hold
    · have HN := Aside0.mk (fun w => newrecv_bad w hold hh)
      obtain ⟨⟨sl, se⟩, hsp⟩ : ∃ y, y = splitF 1 a0 100 := ⟨_, rfl⟩
      have HS1 := Aside0.mk (fun w => fragment_Split.calls 40 1 a0 100 sl se w (by rw [split_eq 1 a0 100 w0, ← hsp]))
      clear hbig w0 her hh hsp
      go_enter Try.func6, Try.ntmps6
      go_upto_region 5 with (go_at_call 10; (with_reducible refine (HA.out _).mono ?_); rintro e wa ⟨rfl, hba⟩)
      have HB1 := Aside0.mk (below_tr HB0.out hba)
      clear hba
      go_upto_region 6 with (go_at_call 21; (with_reducible refine (HN.out _).mono ?_); rintro e wz ⟨rfl, rfl⟩)
      go_upto_region 7 with (go_at_call 11; (with_reducible refine (HS1.out _).mono ?_); rintro e wb ⟨v1, rfl, hR, hbb⟩; obtain ⟨A1, cc, rfl⟩ := own_slice (row23 hR))
      have HB2 := Aside0.mk (below_tr HB1.out hbb)
      clear hR hbb HB1
      go_upto_region 8 with (go_at_call 11; (with_reducible refine (HS2.out _).mono ?_); rintro e wc ⟨v1, rfl, hR, hbb⟩; obtain ⟨A2, cc2, rfl⟩ := own_slice (row23 hR))
      have HB3 := Aside0.mk (below_tr HB2.out hbb)
      clear hR hbb HB2
      go_wp2
      go_ret
      exact ⟨rfl, HB3.out⟩
    · have HN := Aside0.mk (fun w => newrecv_good w hold (by omega))
      by_cases hz : a0.size = 0
      · have HS1 := Aside0.mk (fun w => fragment_Split.calls 40 1 a0 100 [] 14 w (by
          rw [split_eq 1 a0 100 w0]
          unfold splitF
          rw [her, if_pos hz, if_neg (by decide)]))
        clear hbig w0 her hh
        go_enter Try.func6, Try.ntmps6
        go_upto_region 5 with (go_at_call 10; (with_reducible refine (HA.out _).mono ?_); rintro e wa ⟨rfl, hba⟩)
        have HB1 := Aside0.mk (below_tr HB0.out hba)
        clear hba
        go_upto_region 6 with (go_at_call 21; (with_reducible refine (HN.out _).mono ?_); rintro e wz ⟨p, bm, rfl, hS2, hb2⟩)
        have HB1b := Aside0.mk (below_tr HB1.out hb2)
        clear hS2 hb2 HB1
        go_upto_region 7 with (go_at_call 11; (with_reducible refine (HS1.out _).mono ?_); rintro e wb ⟨v1, rfl, hR, hbb⟩; obtain ⟨A1, cc, rfl⟩ := own_slice (row23 hR))
        have HB2 := Aside0.mk (below_tr HB1b.out hbb)
        clear hR hbb HB1b
        go_upto_region 8 with (go_at_call 11; (with_reducible refine (HS2.out _).mono ?_); rintro e wc ⟨v1, rfl, hR, hbb⟩; obtain ⟨A2, cc2, rfl⟩ := own_slice (row23 hR))
        have HB3 := Aside0.mk (below_tr HB2.out hbb)
        clear hR hbb HB2
        go_wp2
        go_ret
        exact ⟨rfl, HB3.out⟩
      · have hs : 1 ≤ a0.size ∧ a0.size ≤ 300 := by omega
        have hcl := cnt_law (size := a0.size) (m := 100) hs.1 (by decide)
        obtain ⟨n, hn⟩ : ∃ n, n = cntS a0.size 100 := ⟨_, rfl⟩
        rw [← hn] at hcl
        have hn32 : n ≤ 32 := by rw [hn]; unfold cntS; omega
        have hh2 : 0 ≤ hold ∧ hold ≤ 4096 := by omega
        have HS1 := Aside0.mk (fun w => fragment_Split.calls 40 1 a0 100 (pieces 1 a0 100 n) 0 w (by
          rw [split_eq 1 a0 100 w0]
          unfold splitF
          rw [her, if_neg hz, if_pos rfl, hn]
          rfl))
        have HSZ := Aside0.mk hs
        have HNN := Aside0.mk hn
        have HN1 := Aside0.mk hcl.1
        have HN32 := Aside0.mk hn32
        have HH := Aside0.mk hh2
        have hpl := pieces_length 1 a0 100 n
        have z1 : ((n : Int) == 0) = false := by rw [beq_eq_false_iff_ne]; omega
        have z1' : (n == 0) = false := by rw [beq_eq_false_iff_ne]; omega
        clear hbig w0 her hh hz hs hcl hn hn32 hh2
        go_enter Try.func6, Try.ntmps6
        go_upto_region 5 with (go_at_call 10; (with_reducible refine (HA.out _).mono ?_); rintro e wa ⟨rfl, hba⟩)
        have HB1 := Aside0.mk (below_tr HB0.out hba)
        have HY1 := Aside0.mk (show Arr2 wa w.heap.size x0 x1 from blk_later hba HY0.out)
        clear hba HB0 HY0 HA
        obtain ⟨E, hE⟩ : ∃ E, w.heap.size = E := ⟨_, rfl⟩
        have HE := Aside0.mk hE
        clear hE
        go_upto_region 6 with (go_at_call 21; (with_reducible refine (HN.out _).mono ?_); rintro e wz ⟨p, bm, rfl, hS2, hb2⟩)
        have HB2 := Aside0.mk (below_tr HB1.out hb2)
        have HY2 := Aside0.mk (show Arr2 wz w.heap.size x0 x1 from blk_later hb2 HY1.out)
        have HR2 := Aside0.mk hS2
        have HZ2 := Aside0.mk hb2.size
        have HW2 := Aside0.mk HB1.out.size
        clear hS2 hb2 HB1 HY1 HN
        go_upto_region 7 with (go_at_call 11; (with_reducible refine (HS1.out _).mono ?_); rintro e wb ⟨v1, rfl, hR, hbb⟩; obtain ⟨g1, cap1, cur1, rfl, hg1, hrow1⟩ := own_row (row23 hR) (by rw [pieces_length]; exact HN1.out))
        have HB3 := Aside0.mk (below_tr HB2.out hbb)
        have HY3 := Aside0.mk (show Arr2 wb w.heap.size x0 x1 from blk_later hbb HY2.out)
        have HR3 := Aside0.mk (HR2.out.later hbb)
        have HL3 := Aside0.mk (show FRow wb g1 cap1 cur1 (pieces 1 a0 100 n) from hrow1)
        have HZ3 := Aside0.mk (Nat.le_trans HZ2.out hbb.size)
        clear hR hbb hg1 hrow1 HB2 HY2 HR2 HZ2 HS1
        go_upto_region 8 with (go_at_call 11; (with_reducible refine (HS2.out _).mono ?_); rintro e wc ⟨v1, rfl, hR, hbb⟩; obtain ⟨g2, cap2, cur2, rfl, hg2, hrow2⟩ := own_row (row23 hR) (by decide))
        have HF := Aside0.mk (show FS w wc wa.heap.size p bm hold 0 [] w.heap.size x0 x1 g1 cap1 cur1 (pieces 1 a0 100 n) g2 cap2 cur2 [⟨2, 0, 1, 1, dX⟩] from
          ⟨below_tr HB3.out hbb, HR3.out.later hbb, blk_later hbb HY3.out, HL3.out.later hbb, hrow2, Nat.le_trans HZ3.out hbb.size⟩)
        clear hR hbb hg2 hrow2 HB3 HY3 HR3 HL3 HZ3 HS2
        have c0 := HF.out.arr.cells.1
        have c1 := HF.out.arr.cells.2
        have i0 : ∀ w : World, (Instr.index 54 (.agg #[.int .i64 x0, .int .i64 x1]) (.int .i64 0)).run Try.prog w = .ok (.int .i64 x0) w := fun _ => by kernel_rfl
        have i1 : ∀ w : World, (Instr.index 54 (.agg #[.int .i64 x0, .int .i64 x1]) (.int .i64 1)).run Try.prog w = .ok (.int .i64 x1) w := fun _ => by kernel_rfl
        by_cases hx0 : 0 ≤ x0 ∧ x0 ≤ 10000
        · have b0 : decide (x0 < 0) = false := decide_eq_false (by omega)
          have b1 : decide (10000 < x0) = false := decide_eq_false (by omega)
          by_cases hx1 : 0 ≤ x1 ∧ x1 ≤ 10000
          · have b2 : decide (x1 < 0) = false := decide_eq_false (by omega)
            have b3 : decide (10000 < x1) = false := decide_eq_false (by omega)
            have hw : wrap64 (x0 + x1) = x0 + x1 := wrap_in (by omega)
            have HX0 := Aside0.mk hx0
            have HX1 := Aside0.mk (show x0 ≤ x0 + x1 ∧ x0 + x1 ≤ 20000 by omega)
            clear hx0 hx1
            go_wp2
            go_loop [81] (fun t81 => ∃ k : Nat, Aside0 (k ≤ 2) ∧ t81 = .int .i64 (k : Int)) (fun t81 => (2 - intOf t81).toNat)
            case atStart => exact ⟨0, ⟨Nat.zero_le _⟩, rfl⟩
            case round =>
              obtain ⟨k, HK, rfl⟩ := hrel
              have hk3 : k = 0 ∨ k = 1 ∨ k = 2 := by have := HK.out; omega
              rcases hk3 with rfl | rfl | rfl
              · go_wp2
                go_round
                case rel => exact ⟨1, ⟨by decide⟩, by go_num⟩
                case measure => decide
              · go_wp2
                go_round
                case rel => exact ⟨2, ⟨by decide⟩, by go_num⟩
                case measure => decide
              · go_upto_region 16 with (fail)
                clear i0 i1 b0 b1 b2 b3
                obtain ⟨ok, kb, so, s3, hE, hB, tg, e1, e2, e3, e4, e5, e6, e7, e8, e9, e10, e11, e12⟩ := forget_bools (d := a0) (n := n) (hold := hold) (a := x0) (b := x1) HNN.out HN1.out
                have hget : (pieces 1 a0 100 n)[0]? = some ⟨1, 0, (n : Nat), (a0.size : Nat), pcs a0 100 0⟩ := by
                  rw [pieces, List.getElem?_map, List.getElem?_range HN1.out]
                  show some (piece 1 a0 100 0) = _
                  unfold piece pcs
                  rw [← HNN.out]
                  rfl
                have hpz : (pcs a0 100 0).size ≤ 140737488351232 := by
                  have := (pcs_len (t := 1) (d := a0) (m := 100) (j := 0) (by decide) (by have := HSZ.out; omega) (by decide) (by rw [← HNN.out]; exact HN32.out) (by rw [← HNN.out]; exact HN1.out)).2
                  omega
                have f1 := forget_1 (hold := hold) HSZ.out HNN.out HN32.out HX0.out
                rw [e1] at f1
                have HC1 := Aside0.mk (HF.out.call HW2.out x0 1 0 (n : Int) (a0.size : Int) (pcs a0 100 0) hpz f1)
                have f2 := forget_2 (d := a0) (hold := hold) (a := x0) (s := x0 + x1) HX0.out HX1.out
                have HF2 := Aside0.mk f2
                obtain ⟨l3, f3⟩ := forget_3 (d := a0) (n := n) (hold := hold) (a := x0) (s := x0 + x1) HSZ.out HNN.out HN32.out HH.out.1 HX1.out.2
                rw [e12] at f3
                have HF3 := Aside0.mk f3
                have HG := Aside0.mk hget
                have HPZ := Aside0.mk hpz
                have E6 := Aside0.mk e6
                have E7 := Aside0.mk e7
                have E9 := Aside0.mk e9
                have E11 := Aside0.mk e10
                have E10 := Aside0.mk e11
                obtain ⟨y0, y1, y2, y3, y4⟩ := HF.out.row1.at hget
                replace y0 : wc.cell? ⟨g1, 0, none⟩ = some (.int .i64 1) := y0
                replace y1 : wc.cell? ⟨g1, 1, none⟩ = some (.int .i64 0) := y1
                replace y2 : wc.cell? ⟨g1, 2, none⟩ = some (.int .i64 (n : Int)) := y2
                replace y3 : wc.cell? ⟨g1, 3, none⟩ = some (.int .i64 (a0.size : Int)) := y3
                replace y4 : wc.cell? ⟨g1, 4, none⟩ = some (.string (pcs a0 100 0)) := y4
                have p0 : 0 < n := HN1.out
                have p0' : (0 : Int) < (n : Int) := Int.ofNat_lt.2 p0
                clear e1 f1 f2 f3 e12 hget hpz e6 e7 e9 e10 e11
                go_upto_region 18 with (go_at_call 22; (with_reducible refine HC1.out.mono ?_); rintro e w4 ⟨rfl, hf4⟩)
                have HF4 := Aside0.mk (show FS w w4 wa.heap.size p bm hold x0 (lF a0 x0) w.heap.size x0 x1 g1 cap1 cur1 (pieces 1 a0 100 n) g2 cap2 cur2 [⟨2, 0, 1, 1, dX⟩] from hf4)
                clear hf4 HF HC1 y0 y1 y2 y3 y4 c0 c1
                have c1 := HF4.out.arr.cells.2
                go_upto_region 21 with (fail)
                obtain ⟨y0, y1, y2, y3, y4⟩ := HF4.out.row2.at (i := 0) (x := ⟨2, 0, 1, 1, dX⟩) rfl
                replace y0 : w4.cell? ⟨g2, 0, none⟩ = some (.int .i64 2) := y0
                replace y1 : w4.cell? ⟨g2, 1, none⟩ = some (.int .i64 0) := y1
                replace y2 : w4.cell? ⟨g2, 2, none⟩ = some (.int .i64 1) := y2
                replace y3 : w4.cell? ⟨g2, 3, none⟩ = some (.int .i64 1) := y3
                replace y4 : w4.cell? ⟨g2, 4, none⟩ = some (.string dX) := y4
                have HC2 := Aside0.mk (HF4.out.call HW2.out (x0 + x1) 2 0 1 1 dX (by decide) HF2.out)
                go_upto_region 22 with (go_at_call 22; (with_reducible refine HC2.out.mono ?_); rintro e w5 ⟨rfl, hf5⟩)
                have HF5 := Aside0.mk (show FS w w5 wa.heap.size p bm hold (x0 + x1) (lF2 a0 x0 (x0 + x1) hold) w.heap.size x0 x1 g1 cap1 cur1 (pieces 1 a0 100 n) g2 cap2 cur2 [⟨2, 0, 1, 1, dX⟩] from hf5)
                clear hf5 HF4 HC2 y0 y1 y2 y3 y4 c1
                have hbm := bitmap_calls HF5.out.rs 1 (by decide)
                rw [E6.out, E7.out] at hbm
                have HBM := Aside0.mk hbm
                clear hbm
                go_upto_region 25 with (go_at_call 23; (with_reducible refine HBM.out.mono ?_); rintro e wy ⟨rfl, rfl⟩)
                clear HBM
                have htg := tags_calls HF5.out.rs (by have := congrArg List.length E9.out; rw [List.length_map] at this; rw [this]; exact E11.out.2)
                have hll : (lF2 a0 x0 (x0 + x1) hold).length = tg.length := by have := congrArg List.length E9.out; rw [List.length_map] at this; exact this
                rw [E9.out, hll] at htg
                have HTG := Aside0.mk htg
                clear htg hll
                have c1 := HF5.out.arr.cells.2
                go_upto_region 27 with (first
                  | (go_at_call 29; (with_reducible refine HTG.out.mono ?_); rintro e w6 ⟨v6, rfl, hrow6, hb6⟩
                     obtain ⟨g6, cap6, cur6, rfl, hg6, hir6⟩ := own_row hrow6 E11.out.1
                     have HC6 := Aside0.mk (slices_Contains_int_int.calls 9 (some ⟨g6, 0, none⟩) cap6 tg 1 kb w6 (C_of_row hir6 rfl) hir6.le E10.out)
                     have HF6 := Aside0.mk (HF5.out.later hb6)
                     clear hrow6 hg6 hir6 hb6)
                  | (go_at_call 28; (with_reducible refine HC6.out.mono ?_); rintro e w7 ⟨rfl, hd7⟩
                     have HF7 := Aside0.mk (HF6.out.later hd7.below)
                     clear hd7))
                clear HF5 HF6 HTG HC6 c1
                obtain ⟨y0, y1, y2, y3, y4⟩ := HF7.out.row1.at HG.out
                replace y0 : w7.cell? ⟨g1, 0, none⟩ = some (.int .i64 1) := y0
                replace y1 : w7.cell? ⟨g1, 1, none⟩ = some (.int .i64 0) := y1
                replace y2 : w7.cell? ⟨g1, 2, none⟩ = some (.int .i64 (n : Int)) := y2
                replace y3 : w7.cell? ⟨g1, 3, none⟩ = some (.int .i64 (a0.size : Int)) := y3
                replace y4 : w7.cell? ⟨g1, 4, none⟩ = some (.string (pcs a0 100 0)) := y4
                have HC3 := Aside0.mk (HF7.out.call HW2.out (x0 + x1) 1 0 (n : Int) (a0.size : Int) (pcs a0 100 0) HPZ.out HF3.out)
                go_upto_region 28 with (go_at_call 22; (with_reducible refine HC3.out.mono ?_); rintro e w8 ⟨rfl, hf8⟩)
                have HF8 := Aside0.mk hf8.bel
                have c1 := hf8.arr.cells.2
                clear hf8 HF7 HC3 y0 y1 y2 y3 y4
                cases ok
                · cases kb
                  · go_wp2
                    go_ret
                    exact ⟨rfl, HF8.out⟩
                  · go_wp2
                    go_ret
                    exact ⟨rfl, HF8.out⟩
                · cases kb
                  · go_wp2
                    go_ret
                    exact ⟨rfl, HF8.out⟩
                  · go_wp2
                    go_ret
                    exact ⟨rfl, HF8.out⟩
          · have HX1 := Aside0.mk hx1
            have HBL := Aside0.mk HF.out.bel
            clear HF hx0 hpl
            by_cases hn1 : x1 < 0
            · have b2 : decide (x1 < 0) = true := decide_eq_true hn1
              clear hn1 hx1
              go_wp2
              go_loop [81] (fun t81 => ∃ k : Nat, Aside0 (k ≤ 1) ∧ t81 = .int .i64 (k : Int)) (fun t81 => (2 - intOf t81).toNat)
              case atStart => exact ⟨0, ⟨Nat.zero_le _⟩, rfl⟩
              case round =>
                obtain ⟨k, HK, rfl⟩ := hrel
                have hk3 : k = 0 ∨ k = 1 := by have := HK.out; omega
                rcases hk3 with rfl | rfl
                · go_wp2
                  go_round
                  case rel => exact ⟨1, ⟨by decide⟩, by go_num⟩
                  case measure => decide
                · go_wp2
                  go_ret
                  exact ⟨rfl, HBL.out⟩
            · have b2 : decide (x1 < 0) = false := decide_eq_false hn1
              have b3 : decide (10000 < x1) = true := decide_eq_true (by omega)
              clear hn1 hx1
              go_wp2
              go_loop [81] (fun t81 => ∃ k : Nat, Aside0 (k ≤ 1) ∧ t81 = .int .i64 (k : Int)) (fun t81 => (2 - intOf t81).toNat)
              case atStart => exact ⟨0, ⟨Nat.zero_le _⟩, rfl⟩
              case round =>
                obtain ⟨k, HK, rfl⟩ := hrel
                have hk3 : k = 0 ∨ k = 1 := by have := HK.out; omega
                rcases hk3 with rfl | rfl
                · go_wp2
                  go_round
                  case rel => exact ⟨1, ⟨by decide⟩, by go_num⟩
                  case measure => decide
                · go_wp2
                  go_ret
                  exact ⟨rfl, HBL.out⟩
        · have HBL := Aside0.mk HF.out.bel
          clear HF hpl
          by_cases hn1 : x0 < 0
          · have b2 : decide (x0 < 0) = true := decide_eq_true hn1
            clear hn1 hx0
            go_wp2
            go_loop [81] (fun t81 => t81 = .int .i64 0) (fun t81 => (2 - intOf t81).toNat)
            case atStart => rfl
            case round =>
              obtain rfl := hrel
              go_wp2
              go_ret
              exact ⟨rfl, HBL.out⟩
          · have b2 : decide (x0 < 0) = false := decide_eq_false hn1
            have b3 : decide (10000 < x0) = true := decide_eq_true (by omega)
            clear hn1 hx0
            go_wp2
            go_loop [81] (fun t81 => t81 = .int .i64 0) (fun t81 => (2 - intOf t81).toNat)
            case atStart => rfl
            case round =>
              obtain rfl := hrel
              go_wp2
              go_ret
              exact ⟨rfl, HBL.out⟩
end Go.Proofs.Ytokapofgbcbajaa.Fns
