/- The writer of package bitio: its walk. -/
import Derived.Test.YtokapofgbcbajaaFBase
import Derived.Test.YtokapofgbcbajaaPack
namespace Go.Proofs.Ytokapofgbcbajaa.Fns
open Go.RowKit Go.Proofs.YtokapofgbcbajaaW.PrintWords Go.Proofs.YtokapofgbcbajaaW.PrintLast Go.Proofs.YtokapofgbcbajaaW.PrintMore
set_option linter.unusedVariables false
set_option linter.unusedSimpArgs false
def SW : TypeId → Bool := fun t => t == 117 || t == 5
def u8s (xs : List Int) : List Value := xs.map (Value.int .u8)
/-- A writer's struct in block p, n bits, its bytes in a slice v of its own. -/
structure WC (w : World) (base p : Nat) (v : Value) (n : Nat) (data : List Int) : Prop where
  blk : w.heap[p]? = some (.cells #[v, .int .i64 (n : Int), .int .i64 0] 117 (0, 0))
  hp : base ≤ p
  own : w.ownsRow base 5 1 v data.length (u8s data)
theorem WC.later {w wx : World} {base p n : Nat} {v : Value} {data : List Int} (h : WC w base p v n data) (hb : Below w.heap.size w wx) : WC wx base p v n data :=
  ⟨blk_later hb h.blk, h.hp, own_later hb h.own⟩
theorem WC.c0 {w : World} {base p n : Nat} {v : Value} {data : List Int} (h : WC w base p v n data) : w.cell? ⟨p, 0, none⟩ = some v := (blk_cell h.blk 0).trans rfl
theorem WC.c1 {w : World} {base p n : Nat} {v : Value} {data : List Int} (h : WC w base p v n data) : w.cell? ⟨p, 1, none⟩ = some (.int .i64 (n : Int)) := (blk_cell h.blk 1).trans rfl
theorem WC.c2 {w : World} {base p n : Nat} {v : Value} {data : List Int} (h : WC w base p v n data) : w.cell? ⟨p, 2, none⟩ = some (.int .i64 0) := (blk_cell h.blk 2).trans rfl
theorem WC.ne {w : World} {base p n : Nat} {v : Value} {data : List Int} (h : WC w base p v n data) : some p ≠ v.ownBlock := own_ne_blk h.own h.blk (by decide)
/-- A byte more. -/
theorem WC.append {W w1 : World} {base p n : Nat} {v v1 : Value} {data : List Int} (h : WC W base p v n data)
    (ho : w1.ownsRow base 5 1 v1 (data.length + 1) (u8s data ++ [.int .u8 0])) (hg : W.grownBy w1 v.ownBlock) :
    WC (w1.setCell ⟨p, 0, none⟩ v1) base p v1 n (data ++ [0]) ∧ Fr SW base W (w1.setCell ⟨p, 0, none⟩ v1) := by
  have hp1 : w1.heap[p]? = some (.cells #[v, .int .i64 (n : Int), .int .i64 0] 117 (0, 0)) := blk_grown h.blk hg h.ne
  refine ⟨⟨blk_put hp1 0 v1 rfl, h.hp, ?_⟩, ?_⟩
  · rw [List.length_append, List.length_singleton, u8s, List.map_append]
    refine own_move ho (fun k hk => Below.heap_setCell w1 ⟨p, 0, none⟩ v1 k ?_)
    rintro rfl
    exact own_ne_blk ho hp1 (by decide) hk.symm
  · have f2 : Fr SW base W w1 := (Fr.refl _).grown hg (fun k hk => ⟨(h.own.lt k hk).1, by obtain ⟨c, hc⟩ := own_typed h.own k hk; exact ⟨c, 5, hc, rfl⟩⟩)
    exact f2.setCell hp1 rfl h.hp v1
theorem WC.after {W w1 : World} {base p n : Nat} {v : Value} {data : List Int} (h : WC W base p v n data) (hg : W.grownBy w1 v.ownBlock) :
    w1.cell? ⟨p, 0, none⟩ = some v ∧ w1.frozen? ⟨p, 0, none⟩ = false := by
  have hp1 : w1.heap[p]? = some (.cells #[v, .int .i64 (n : Int), .int .i64 0] 117 (0, 0)) := blk_grown h.blk hg h.ne
  exact ⟨(blk_cell hp1 0).trans rfl, blk_frozen hp1 0⟩
/-- A byte is written. -/
theorem WC.set {w : World} {base p n : Nat} {v : Value} {data : List Int} (h : WC w base p v n data) {j : Nat} (hj : j < data.length) (x : Int) :
    ∃ g cap, v = .slice (some ⟨g, 0, none⟩) data.length cap ∧ w.cell? ⟨g, j, none⟩ = some (.int .u8 (data.getD j 0)) ∧ w.frozen? ⟨g, j, none⟩ = false ∧ g ≠ p ∧
      WC (w.setCell ⟨g, j, none⟩ (.int .u8 x)) base p v n (data.set j x) ∧ Fr SW base w (w.setCell ⟨g, j, none⟩ (.int .u8 x)) := by
  obtain ⟨g, cap, cur, rfl, hg, hr⟩ := own_row h.own (by omega)
  have hne : g ≠ p := by
    rintro rfl
    have h1 := h.blk
    rw [hr.blk] at h1
    injection h1 with h1; injection h1 with _ h2; exact absurd h2 (by decide)
  refine ⟨g, cap, rfl, hr.cell (by simp [u8s, List.getD_eq_getElem?_getD, hj]), blk_frozen hr.blk j, hne, ⟨?_, h.hp, ?_⟩, (Fr.refl w).setCell hr.blk rfl hg _⟩
  · exact (Below.heap_setCell w ⟨g, j, none⟩ _ p (fun e => hne e.symm)).trans h.blk
  · have := (hr.set1 j (.int .u8 x)).own hg
    rw [List.length_set]
    rw [show u8s (data.set j x) = (u8s data).set j (.int .u8 x) by simp [u8s, List.map_set]]
    exact this
theorem WC.drew' {w : World} {base p n : Nat} {v : Value} {data : List Int} {a : Addr} {u : Value} (h : WC (w.setCell a u) base p v n data) : WC (w.drew.setCell a u) base p v n data := by
  rw [World.setCell_drew]
  exact ⟨h.blk, h.hp, own_move h.own (fun _ _ => rfl)⟩
theorem Fr.drew' {S : TypeId → Bool} {base : Nat} {w0 w : World} {a : Addr} {u : Value} (h : Fr S base w0 (w.setCell a u)) : Fr S base w0 (w.drew.setCell a u) := by
  rw [World.setCell_drew]
  exact h.drew
/-- One bit is counted. -/
theorem WC.count {w : World} {base p n : Nat} {v : Value} {data : List Int} (h : WC w base p v n data) (m : Nat) :
    WC (w.setCell ⟨p, 1, none⟩ (.int .i64 (m : Int))) base p v m data ∧ Fr SW base w (w.setCell ⟨p, 1, none⟩ (.int .i64 (m : Int))) := by
  refine ⟨⟨blk_put h.blk 1 _ rfl, h.hp, own_move h.own (fun k hk => Below.heap_setCell w ⟨p, 1, none⟩ _ k ?_)⟩, (Fr.refl w).setCell h.blk rfl h.hp _⟩
  rintro rfl
  exact h.ne hk.symm
theorem info5b : (Try.prog.info? 5).map (fun i => (i.zero, i.size, i.bytes)) = some (some (.int .u8 0), 1, 1) := by kernel_rfl
/-- The bits so far: what is in the bytes. -/
def WB (w : World) (base p : Nat) (v : Value) (bs : List Int) : Prop := WC w base p v bs.length (pk bs) ∧ Bits bs
def dta (bs : List Int) : List Int := if bs.length % 8 = 0 then pk bs ++ [0] else pk bs
theorem dta_length (bs : List Int) : bs.length / 8 < (dta bs).length := by
  unfold dta
  split
  · rw [List.length_append, pk_length, List.length_singleton]; omega
  · rw [pk_length]; omega
theorem dta_getD (bs : List Int) (j : Nat) : (dta bs).getD j 0 = byteAt bs j := by
  unfold dta
  split
  · rw [getD_snoc, pk_getD]; split <;> omega
  · exact pk_getD
theorem bitsOf_take (w : Nat) (n : Int) (k : Nat) (hk : k < w) : (bitsOf w n).take (k + 1) = (bitsOf w n).take k ++ [n / 2 ^ (w - 1 - k) % 2] := by
  rw [List.take_succ_eq_append_getElem (by rw [bitsOf_length]; exact hk)]
  congr 2
  simp [bitsOf]
theorem wraps_u64 (n : Int) (h0 : 0 ≤ n) (h1 : n < 2 ^ 63) : IntKind.u64.wrap n = n := by simp [IntKind.wrap, IntKind.bits, IntKind.signed]; omega
theorem and_one (n : Int) (m : Nat) (hn : 0 ≤ n ∧ n < 9223372036854775808) : Go.bits .and .u64 (n / 2 ^ m) 1 = n / 2 ^ m % 2 := by
  have h := bits_mask .u64 63 (by decide) wraps_u64 1 (by decide) (n / 2 ^ m) (Int.ediv_nonneg hn.1 (Int.le_of_lt (Int.pow_pos (by decide)))) (Int.lt_of_le_of_lt (Int.ediv_le_self _ hn.1) hn.2)
  exact h
theorem or_val {bk : List Int} (hB : Bits bk) {n : Int} (hn : 0 ≤ n ∧ n < 9223372036854775808) (m : Nat) {q r : Nat} (hq : q = bk.length / 8) (hr : r = bk.length % 8) :
    Go.bits .or .u8 (byteAt bk q) (IntKind.u8.wrap (IntKind.u8.wrap (Go.bits .and .u64 (n / 2 ^ m) 1) * 2 ^ min (7 - r) 8)) = byteAt bk q + n / 2 ^ m % 2 * wt bk.length := by
  rw [and_one n m hn, Nat.min_eq_left (by omega)]
  have hb : n / 2 ^ m % 2 = 0 ∨ n / 2 ^ m % 2 = 1 := by omega
  generalize n / 2 ^ m % 2 = b at hb ⊢
  have h1 : IntKind.u8.wrap b = b := by rw [IntKind.wrap_u8]; omega
  have h2 : (2 : Int) ^ (7 - r) = wt bk.length := by rw [hr]; rfl
  rw [h1, h2]
  have h3 : IntKind.u8.wrap (b * wt bk.length) = b * wt bk.length := by
    rw [IntKind.wrap_u8]
    have hw : 1 ≤ wt bk.length ∧ wt bk.length ≤ 128 := by rcases wt_cases bk.length with h | h | h | h | h | h | h | h <;> omega
    rcases hb with rfl | rfl <;> omega
  rw [h3, hq]
  exact or_bit hB hb
theorem put_next (width k : Nat) : (width : Int) - 1 - (k : Int) - 1 = (width : Int) - 1 - ((k + 1 : Nat) : Int) := by omega
theorem put_meas (width k : Nat) (hk : k < width) : ((width : Int) - 1 - (k : Int) - 1 + 1).toNat < ((width : Int) - 1 - (k : Int) + 1).toNat := by omega
theorem put_stop (width k : Nat) (h : ¬ k < width) : decide (0 ≤ (width : Int) - 1 - (k : Int)) = false := decide_eq_false (by omega)
theorem put_stop2 (width k : Nat) (h : ¬ k < width) : decide ((k : Int) ≤ (width : Int) - 1) = false := decide_eq_false (by omega)
theorem put_done {W2 : World} {base p width k m : Nat} {n : Int} {v : Value} {bs bk : List Int} (h3 : WC W2 base p v bk.length (pk (bk ++ [n / 2 ^ m % 2]))) (hB : Bits bk) (hbk : bs ++ (bitsOf width n).take k = bk) (hm : m = width - 1 - k) (hk : k < width) :
    (∃ v', WB (W2.setCell ⟨p, 1, none⟩ (.int .i64 ((bk.length : Int) + 1))) base p v' (bs ++ (bitsOf width n).take (k + 1))) ∧ Fr SW base W2 (W2.setCell ⟨p, 1, none⟩ (.int .i64 ((bk.length : Int) + 1))) := by
  obtain ⟨h4, h5⟩ := h3.count (bk.length + 1)
  have e : (((bk.length + 1 : Nat)) : Int) = (bk.length : Int) + 1 := by omega
  rw [e] at h4 h5
  refine ⟨⟨v, ?_, ?_⟩, h5⟩
  · rw [bitsOf_take width n k hk, ← List.append_assoc, hbk, ← hm, List.length_append, List.length_singleton]
    exact h4
  · rw [bitsOf_take width n k hk, ← List.append_assoc, hbk]
    refine hB.append ?_
    intro x hx
    rw [List.mem_singleton.1 hx]
    omega
theorem put_facts (L width k : Nat) (hk : k < width) (hw : width ≤ 63) (hl : L ≤ 2000) : ∃ m q r : Nat, m = width - 1 - k ∧ q = L / 8 ∧ r = L % 8 ∧ (width : Int) - 1 - (k : Int) = (m : Int) ∧ (L : Int) / 8 = (q : Int) ∧ (L : Int) % 8 = (r : Int) ∧ r ≤ 7 ∧ q ≤ 1000 ∧
    wrap64 (q : Int) = (q : Int) ∧ wrap64 (r : Int) = (r : Int) ∧ (L : Int).tmod 8 = (r : Int) ∧ (L : Int).tdiv 8 = (q : Int) ∧ 0 ≤ 7 - (r : Int) ∧ (r : Int) ≤ 7 ∧ r ≤ 8 ∧ (7 - (r : Int)).toNat = 7 - r ∧ wrap64 (7 - (r : Int)) = 7 - (r : Int) ∧ m ≤ 62 := by
  refine ⟨width - 1 - k, L / 8, L % 8, rfl, rfl, rfl, by omega, by omega, by omega, by omega, by omega, ?_, ?_, ?_, ?_, by omega, by omega, by omega, by omega, ?_, by omega⟩
  · unfold wrap64; omega
  · unfold wrap64; omega
  · rw [Int.tmod_eq_emod_of_nonneg (by omega)]; omega
  · rw [Int.tdiv_eq_ediv_of_nonneg (by omega)]; omega
  · unfold wrap64; omega
def T_f93_5 : Bool × List (List Nat × List Nat) := (true, [([], []), ([0], [0]), ([1], [1]), ([2], [2]), ([], []), ([4], [4]), ([5], [5]), ([6], [6]), ([7], [7]), ([3, 8], [3, 8]), ([9], [9]), ([], []), ([], []), ([11, 12], [11, 12]), ([13], [13]), ([14], [14]), ([], []), ([16], [16]), ([17], [17]), ([18], [18]), ([19], [19]), ([20], [20]), ([15, 21], [15, 21]), ([10, 22], [10, 22]), ([3, 8, 0, 1, 2, 3, 4, 5, 6, 7, 8, 9, 10, 11, 12, 13, 14, 15, 16, 17, 18, 19, 20, 21, 22, 23], [3, 8]), ([24, 23, 0, 1, 2, 3, 4, 5, 6, 7, 8, 9, 10, 11, 12, 13, 14, 15, 16, 17, 18, 19, 20, 21, 22, 23], [23, 24])])
def B_f93_5 : List Nat := [0, 1, 3, 7, 0, 16, 48, 112, 240, 511, 1023, 0, 0, 6144, 14336, 30720, 0, 65536, 196608, 458752, 983040, 2031616, 4192256, 8388607, 16777215, 33554431]
theorem tab_f93_5 : rtab .any (opsOf Try.f93 5) = T_f93_5 := by kernel_rfl
theorem bits_f93_5 : waitsOk T_f93_5.2 B_f93_5 = true := by kernel_rfl
set_option maxRecDepth 100000 in
set_option maxHeartbeats 2000000 in
theorem put_calls (w : World) (base p width : Nat) (n : Int) (v : Value) (bs : List Int) (hbw : base ≤ w.heap.size) (hB : WB w base p v bs) (hw : width ≤ 63) (hn : 0 ≤ n ∧ n < 9223372036854775808) (hl : bs.length ≤ 1000) :
    Calls Try.prog 93 #[.pointer (some ⟨p, 0, none⟩), .int .i64 (width : Int), .int .u64 n] w fun e w' => e = .returned (.tuple #[]) ∧ (∃ v', WB w' base p v' (bs ++ bitsOf width n)) ∧ Fr SW base w w' := by
  have HB := Aside0.mk hB
  clear hB
  go_enter Try.func93, Try.ntmps93
  go_wp2
  go_loopw [6] (fun t wr => ∃ k : Nat, Aside0 (k ≤ width) ∧ t = .int .i64 ((width : Int) - 1 - k) ∧ Aside0 (∃ v', WB wr base p v' (bs ++ (bitsOf width n).take k)) ∧ Aside0 (Fr SW base w wr)) (fun t _ => (intOf t + 1).toNat)
  case atStart => exact ⟨0, ⟨Nat.zero_le _⟩, by go_num, ⟨v, by simpa using HB.out⟩, ⟨Fr.refl _⟩⟩
  case round =>
    obtain ⟨k, HK, rfl, HV, HF⟩ := hrel
    have hk := HK.out
    by_cases hlt : k < width
    · obtain ⟨v1, hv1⟩ := HV.out
      have hlen : (bs ++ (bitsOf width n).take k).length = bs.length + k := by rw [List.length_append, List.length_take, bitsOf_length]; omega
      generalize hbk : bs ++ (bitsOf width n).take k = bk at hv1 hlen
      have c0 := hv1.1.c0
      have c1 := hv1.1.c1
      have HV1 := Aside0.mk hv1
      have HBK := Aside0.mk hbk
      have HL := Aside0.mk hlen
      have hlb : bk.length ≤ 2000 := by omega
      clear hv1 hbk hlen HV
      have hge : decide (0 ≤ (width : Int) - 1 - (k : Int)) = true := decide_eq_true (by omega)
      go_upto_if 18 with (fail)
      have hbase : base ≤ wr.heap.size := Nat.le_trans hbw HF.out.size
      go_cut [] from 9 (fun wc => Aside0 (∃ v2, WC wc base p v2 bk.length (dta bk)) ∧ Aside0 (Fr SW base wr wc))
      case first =>
        by_cases hm : bk.length % 8 = 0
        · have hm1 : (((bk.length : Int) % 8) == 0) = true := beq_iff_eq.2 (by omega)
          have HM := Aside0.mk hm
          clear hm
          go_wp2_with (at_builtin; refine print_append_cells base rfl (.tmp 23) (.tmp 24) 39 5 _ 1 1 rfl Try.underlying39 info5b rfl (by decide) (by decide) v1 (pk bk).length (u8s (pk bk)) [.int .u8 0] (by rfl) (by rfl) rfl (by simp [Value.oneCell']) HV1.out.1.own (Below.refl _ _) hbase (by rw [pk_length]; omega) ?_; intro v2 w5 ho5 hb5 hg5 hl5; obtain ⟨A2, cc2, rfl⟩ := own_slice ho5; obtain ⟨k0, kf⟩ := HV1.out.1.after hg5; have HO5 := Aside0.mk ho5; have HG5 := Aside0.mk hg5; clear ho5 hg5 hl5 hb5)
          have hap := HV1.out.1.append HO5.out HG5.out
          go_meet
          case rel => exact ⟨⟨_, by rw [dta, if_pos HM.out]; exact hap.1⟩, ⟨hap.2⟩⟩
        · have hm1 : (((bk.length : Int) % 8) == 0) = false := beq_eq_false_iff_ne.2 (by omega)
          have HM := Aside0.mk hm
          clear hm
          go_wp2
          go_meet
          case rel => exact ⟨⟨_, by rw [dta, if_neg HM.out]; exact HV1.out.1⟩, ⟨Fr.refl _⟩⟩
      case rest =>
        go_upto_region 5 with (fail)
        obtain ⟨⟨v2, hc⟩, HF2⟩ := hcut
        obtain ⟨m, q, r, hm, hq, hr, hmi, hqi, hri, hr7, hq2, hwq, hwr, hti, hto, h70, h71, h72, h7t, hw7, hm63⟩ := put_facts bk.length width k hlt hw hlb
        obtain ⟨g, cap, rfl, d0, df, hgp, hs1, hs2⟩ := hc.set (dta_length bk) (byteAt bk (bk.length / 8) + n / 2 ^ m % 2 * wt bk.length)
        rw [dta_getD, ← hq] at d0
        rw [← hq] at df
        have c0 := hc.c0
        have c1 := hc.c1
        have hql : q < (dta bk).length := by rw [hq]; exact dta_length bk
        have HS1 := Aside0.mk hs1
        have HS2 := Aside0.mk hs2
        have HM := Aside0.mk hm
        have HQ := Aside0.mk hq
        have HR := Aside0.mk hr
        have HC := Aside0.mk hc
        have HN := Aside0.mk hn
        have HOV := Aside0.mk (or_val HV1.out.2 hn m hq hr)
        clear hs1 hs2 hm hq hr hc hn
        refine start_ (n := 26) (S := fun w' => (w'.cell? ⟨p, 0, none⟩ = some (.slice (some ⟨g, 0, none⟩) (dta bk).length cap)) ∧ (w'.cell? ⟨p, 1, none⟩ = some (.int .i64 (bk.length : Int))) ∧ (w'.cell? ⟨g, q, none⟩ = some (.int .u8 (byteAt bk q)))) (ds := [25]) #[false, false, false, false, false, false, false, false, false, false, false, false, false, false, false, false, false, false, false, false, false, false, false, false, false, false] (by kernel_rfl) rfl rfl ⟨c0, c1, d0⟩ (fun hHeld => ?_)
        refine with_tabW tab_f93_5 bits_f93_5 (fun HT_ HW_ => ?_)
        refine pure_ (i := 0) (N := some 28) (v := ?_) (a' := ?_) #[true, false, false, false, false, false, false, false, false, false, false, false, false, false, false, false, false, false, false, false, false, false, false, false, false, false] rfl rfl (any_of HT_.out (by kernel_rfl)) (fun _ _ _ h => h) (Or.inl ⟨by rfl, ?_⟩) ?_ ?_
        rotate_left
        · intro w'
          go_simp
          with_reducible rfl
        rotate_left
        · simp only [Act.put, List.setIfInBounds_toArray, List.set_cons_zero, List.set_cons_succ, i64_w, i32_w]
          rfl
        refine pure_ (i := 1) (N := some 29) (v := ?_) (a' := ?_) #[true, true, false, false, false, false, false, false, false, false, false, false, false, false, false, false, false, false, false, false, false, false, false, false, false, false] rfl rfl (any_of HT_.out (by kernel_rfl)) (fun _ _ _ h => h) (Or.inl ⟨by rfl, ?_⟩) ?_ ?_
        rotate_left
        · intro w'
          go_simp
          with_reducible rfl
        rotate_left
        · simp only [Act.put, List.setIfInBounds_toArray, List.set_cons_zero, List.set_cons_succ, i64_w, i32_w]
          rfl
        refine pure_ (i := 2) (N := some 30) (v := ?_) (a' := ?_) #[true, true, true, false, false, false, false, false, false, false, false, false, false, false, false, false, false, false, false, false, false, false, false, false, false, false] rfl rfl (any_of HT_.out (by kernel_rfl)) (fun _ _ _ h => h) (Or.inl ⟨by rfl, ?_⟩) ?_ ?_
        rotate_left
        · intro w'
          go_simp
          with_reducible rfl
        rotate_left
        · simp only [Act.put, List.setIfInBounds_toArray, List.set_cons_zero, List.set_cons_succ, i64_w, i32_w]
          rfl
        refine take_ (i := 3) (N := some 31) (v := ?_) (a' := ?_) #[true, true, true, true, false, false, false, false, false, false, false, false, false, false, false, false, false, false, false, false, false, false, false, false, false, false] rfl rfl (take_ofW HT_.out HW_.out (by kernel_rfl)) (fun _ _ _ h => h) (Or.inl ⟨by rfl, ?_⟩) hHeld ?_ ?_
        rotate_left
        · rintro w' ⟨s0, s1, s2⟩
          go_simp
          with_reducible rfl
        rotate_left
        · simp only [Act.put, List.setIfInBounds_toArray, List.set_cons_zero, List.set_cons_succ, i64_w, i32_w]
          rfl
        refine pure_ (i := 4) (N := some 32) (v := ?_) (a' := ?_) #[true, true, true, true, true, false, false, false, false, false, false, false, false, false, false, false, false, false, false, false, false, false, false, false, false, false] rfl rfl (any_of HT_.out (by kernel_rfl)) (fun _ _ _ h => h) (Or.inl ⟨by rfl, ?_⟩) ?_ ?_
        rotate_left
        · intro w'
          go_simp
          with_reducible rfl
        rotate_left
        · simp only [Act.put, List.setIfInBounds_toArray, List.set_cons_zero, List.set_cons_succ, i64_w, i32_w]
          rfl
        refine pure_ (i := 5) (N := some 33) (v := ?_) (a' := ?_) #[true, true, true, true, true, true, false, false, false, false, false, false, false, false, false, false, false, false, false, false, false, false, false, false, false, false] rfl rfl (any_of HT_.out (by kernel_rfl)) (fun _ _ _ h => h) (Or.inl ⟨by rfl, ?_⟩) ?_ ?_
        rotate_left
        · intro w'
          go_simp
          with_reducible rfl
        rotate_left
        · simp only [Act.put, List.setIfInBounds_toArray, List.set_cons_zero, List.set_cons_succ, i64_w, i32_w]
          rfl
        refine pure_ (i := 6) (N := some 34) (v := ?_) (a' := ?_) #[true, true, true, true, true, true, true, false, false, false, false, false, false, false, false, false, false, false, false, false, false, false, false, false, false, false] rfl rfl (any_of HT_.out (by kernel_rfl)) (fun _ _ _ h => h) (Or.inl ⟨by rfl, ?_⟩) ?_ ?_
        rotate_left
        · intro w'
          go_simp
          with_reducible rfl
        rotate_left
        · simp only [Act.put, List.setIfInBounds_toArray, List.set_cons_zero, List.set_cons_succ, i64_w, i32_w]
          rfl
        refine take_ (i := 7) (N := some 35) (v := ?_) (a' := ?_) #[true, true, true, true, true, true, true, true, false, false, false, false, false, false, false, false, false, false, false, false, false, false, false, false, false, false] rfl rfl (take_ofW HT_.out HW_.out (by kernel_rfl)) (fun _ _ _ h => h) (Or.inl ⟨by rfl, ?_⟩) hHeld ?_ ?_
        rotate_left
        · rintro w' ⟨s0, s1, s2⟩
          go_simp
          with_reducible rfl
        rotate_left
        · simp only [Act.put, List.setIfInBounds_toArray, List.set_cons_zero, List.set_cons_succ, i64_w, i32_w]
          rfl
        refine pure_ (i := 8) (N := some 36) (v := ?_) (a' := ?_) #[true, true, true, true, true, true, true, true, true, false, false, false, false, false, false, false, false, false, false, false, false, false, false, false, false, false] rfl rfl (any_of HT_.out (by kernel_rfl)) (fun _ _ _ h => h) (Or.inl ⟨by rfl, ?_⟩) ?_ ?_
        rotate_left
        · intro w'
          go_simp
          with_reducible rfl
        rotate_left
        · simp only [Act.put, List.setIfInBounds_toArray, List.set_cons_zero, List.set_cons_succ, i64_w, i32_w]
          rfl
        refine pure_ (i := 9) (N := some 37) (v := ?_) (a' := ?_) #[true, true, true, true, true, true, true, true, true, true, false, false, false, false, false, false, false, false, false, false, false, false, false, false, false, false] rfl rfl (any_of HT_.out (by kernel_rfl)) (fun _ _ _ h => h) (Or.inl ⟨by rfl, ?_⟩) ?_ ?_
        rotate_left
        · intro w'
          go_simp
          with_reducible rfl
        rotate_left
        · simp only [Act.put, List.setIfInBounds_toArray, List.set_cons_zero, List.set_cons_succ, i64_w, i32_w]
          rfl
        refine take_ (i := 10) (N := some 38) (v := ?_) (a' := ?_) #[true, true, true, true, true, true, true, true, true, true, true, false, false, false, false, false, false, false, false, false, false, false, false, false, false, false] rfl rfl (take_ofW HT_.out HW_.out (by kernel_rfl)) (fun _ _ _ h => h) (Or.inl ⟨by rfl, ?_⟩) hHeld ?_ ?_
        rotate_left
        · rintro w' ⟨s0, s1, s2⟩
          go_simp
          with_reducible rfl
        rotate_left
        · simp only [Act.put, List.setIfInBounds_toArray, List.set_cons_zero, List.set_cons_succ, i64_w, i32_w]
          rfl
        refine pure_ (i := 11) (N := some 39) (v := ?_) (a' := ?_) #[true, true, true, true, true, true, true, true, true, true, true, true, false, false, false, false, false, false, false, false, false, false, false, false, false, false] rfl rfl (any_of HT_.out (by kernel_rfl)) (fun _ _ _ h => h) (Or.inl ⟨by rfl, ?_⟩) ?_ ?_
        rotate_left
        · intro w'
          go_simp
          with_reducible rfl
        rotate_left
        · simp only [Act.put, List.setIfInBounds_toArray, List.set_cons_zero, List.set_cons_succ, i64_w, i32_w]
          rfl
        refine pure_ (i := 12) (N := some 40) (v := ?_) (a' := ?_) #[true, true, true, true, true, true, true, true, true, true, true, true, true, false, false, false, false, false, false, false, false, false, false, false, false, false] rfl rfl (any_of HT_.out (by kernel_rfl)) (fun _ _ _ h => h) (Or.inl ⟨by rfl, ?_⟩) ?_ ?_
        rotate_left
        · intro w'
          go_simp
          with_reducible rfl
        rotate_left
        · simp only [Act.put, List.setIfInBounds_toArray, List.set_cons_zero, List.set_cons_succ, i64_w, i32_w]
          rfl
        refine pure_ (i := 13) (N := some 41) (v := ?_) (a' := ?_) #[true, true, true, true, true, true, true, true, true, true, true, true, true, true, false, false, false, false, false, false, false, false, false, false, false, false] rfl rfl (any_of HT_.out (by kernel_rfl)) (fun _ _ _ h => h) (Or.inl ⟨by rfl, ?_⟩) ?_ ?_
        rotate_left
        · intro w'
          go_simp
          with_reducible rfl
        rotate_left
        · simp only [Act.put, List.setIfInBounds_toArray, List.set_cons_zero, List.set_cons_succ, i64_w, i32_w]
          rfl
        refine pure_ (i := 14) (N := some 42) (v := ?_) (a' := ?_) #[true, true, true, true, true, true, true, true, true, true, true, true, true, true, true, false, false, false, false, false, false, false, false, false, false, false] rfl rfl (any_of HT_.out (by kernel_rfl)) (fun _ _ _ h => h) (Or.inl ⟨by rfl, ?_⟩) ?_ ?_
        rotate_left
        · intro w'
          go_simp
          with_reducible rfl
        rotate_left
        · simp only [Act.put, List.setIfInBounds_toArray, List.set_cons_zero, List.set_cons_succ, i64_w, i32_w]
          rfl
        refine pure_ (i := 15) (N := some 43) (v := ?_) (a' := ?_) #[true, true, true, true, true, true, true, true, true, true, true, true, true, true, true, true, false, false, false, false, false, false, false, false, false, false] rfl rfl (any_of HT_.out (by kernel_rfl)) (fun _ _ _ h => h) (Or.inl ⟨by rfl, ?_⟩) ?_ ?_
        rotate_left
        · intro w'
          go_simp
          with_reducible rfl
        rotate_left
        · simp only [Act.put, List.setIfInBounds_toArray, List.set_cons_zero, List.set_cons_succ, i64_w, i32_w]
          rfl
        refine pure_ (i := 16) (N := some 44) (v := ?_) (a' := ?_) #[true, true, true, true, true, true, true, true, true, true, true, true, true, true, true, true, true, false, false, false, false, false, false, false, false, false] rfl rfl (any_of HT_.out (by kernel_rfl)) (fun _ _ _ h => h) (Or.inl ⟨by rfl, ?_⟩) ?_ ?_
        rotate_left
        · intro w'
          go_simp
          with_reducible rfl
        rotate_left
        · simp only [Act.put, List.setIfInBounds_toArray, List.set_cons_zero, List.set_cons_succ, i64_w, i32_w]
          rfl
        refine pure_ (i := 17) (N := some 45) (v := ?_) (a' := ?_) #[true, true, true, true, true, true, true, true, true, true, true, true, true, true, true, true, true, true, false, false, false, false, false, false, false, false] rfl rfl (any_of HT_.out (by kernel_rfl)) (fun _ _ _ h => h) (Or.inl ⟨by rfl, ?_⟩) ?_ ?_
        rotate_left
        · intro w'
          go_simp
          with_reducible rfl
        rotate_left
        · simp only [Act.put, List.setIfInBounds_toArray, List.set_cons_zero, List.set_cons_succ, i64_w, i32_w]
          rfl
        refine pure_ (i := 18) (N := some 46) (v := ?_) (a' := ?_) #[true, true, true, true, true, true, true, true, true, true, true, true, true, true, true, true, true, true, true, false, false, false, false, false, false, false] rfl rfl (any_of HT_.out (by kernel_rfl)) (fun _ _ _ h => h) (Or.inl ⟨by rfl, ?_⟩) ?_ ?_
        rotate_left
        · intro w'
          go_simp
          with_reducible rfl
        rotate_left
        · simp only [Act.put, List.setIfInBounds_toArray, List.set_cons_zero, List.set_cons_succ, i64_w, i32_w]
          rfl
        refine take_ (i := 19) (N := some 47) (v := ?_) (a' := ?_) #[true, true, true, true, true, true, true, true, true, true, true, true, true, true, true, true, true, true, true, true, false, false, false, false, false, false] rfl rfl (take_ofW HT_.out HW_.out (by kernel_rfl)) (fun _ _ _ h => h) (Or.inl ⟨by rfl, ?_⟩) hHeld ?_ ?_
        rotate_left
        · rintro w' ⟨s0, s1, s2⟩
          go_simp
          with_reducible rfl
        rotate_left
        · simp only [Act.put, List.setIfInBounds_toArray, List.set_cons_zero, List.set_cons_succ, i64_w, i32_w]
          rfl
        refine pure_ (i := 20) (N := some 48) (v := ?_) (a' := ?_) #[true, true, true, true, true, true, true, true, true, true, true, true, true, true, true, true, true, true, true, true, true, false, false, false, false, false] rfl rfl (any_of HT_.out (by kernel_rfl)) (fun _ _ _ h => h) (Or.inl ⟨by rfl, ?_⟩) ?_ ?_
        rotate_left
        · intro w'
          go_simp
          with_reducible rfl
        rotate_left
        · simp only [Act.put, List.setIfInBounds_toArray, List.set_cons_zero, List.set_cons_succ, i64_w, i32_w]
          rfl
        refine pure_ (i := 21) (N := some 49) (v := ?_) (a' := ?_) #[true, true, true, true, true, true, true, true, true, true, true, true, true, true, true, true, true, true, true, true, true, true, false, false, false, false] rfl rfl (any_of HT_.out (by kernel_rfl)) (fun _ _ _ h => h) (Or.inl ⟨by rfl, ?_⟩) ?_ ?_
        rotate_left
        · intro w'
          go_simp
          with_reducible rfl
        rotate_left
        · simp only [Act.put, List.setIfInBounds_toArray, List.set_cons_zero, List.set_cons_succ, i64_w, i32_w]
          rfl
        refine pure_ (i := 22) (N := some 50) (v := ?_) (a' := ?_) #[true, true, true, true, true, true, true, true, true, true, true, true, true, true, true, true, true, true, true, true, true, true, true, false, false, false] rfl rfl (any_of HT_.out (by kernel_rfl)) (fun _ _ _ h => h) (Or.inl ⟨by rfl, ?_⟩) ?_ ?_
        rotate_left
        · intro w'
          go_simp
          with_reducible rfl
        rotate_left
        · simp only [Act.put, List.setIfInBounds_toArray, List.set_cons_zero, List.set_cons_succ, i64_w, i32_w]
          rfl
        refine pure_ (i := 23) (N := some 51) (v := ?_) (a' := ?_) #[true, true, true, true, true, true, true, true, true, true, true, true, true, true, true, true, true, true, true, true, true, true, true, true, false, false] rfl rfl (any_of HT_.out (by kernel_rfl)) (fun _ _ _ h => h) (Or.inl ⟨by rfl, ?_⟩) ?_ ?_
        rotate_left
        · intro w'
          go_simp
          with_reducible rfl
        rotate_left
        · simp only [Act.put, List.setIfInBounds_toArray, List.set_cons_zero, List.set_cons_succ, i64_w, i32_w]
          rfl
        refine pure_ (i := 24) (N := some 52) (v := ?_) (a' := ?_) #[true, true, true, true, true, true, true, true, true, true, true, true, true, true, true, true, true, true, true, true, true, true, true, true, true, false] rfl rfl (any_of HT_.out (by kernel_rfl)) (fun _ _ _ h => h) (Or.inl ⟨by rfl, ?_⟩) ?_ ?_
        rotate_left
        · intro w'
          go_simp
          with_reducible rfl
        rotate_left
        · simp only [Act.put, List.setIfInBounds_toArray, List.set_cons_zero, List.set_cons_succ, i64_w, i32_w]
          rfl
        refine last_ (i := 25) (N := none) #[true, true, true, true, true, true, true, true, true, true, true, true, true, true, true, true, true, true, true, true, true, true, true, true, true, true] rfl rfl (one_of HT_.out (by kernel_rfl)) (by decide) (fun K hK => ?_)
        refine skip_ (w1 := wc.drew.setCell ⟨g, q, none⟩ (.int .u8 (byteAt bk q + n / 2 ^ m % 2 * wt bk.length))) (by rfl) rfl (exec_store (vx := .pointer (some ⟨g, q, none⟩)) (vy := .int .u8 (byteAt bk q + n / 2 ^ m % 2 * wt bk.length)) rfl (by rfl) ?_ ?_) ?_
        · refine congrArg (Value.int .u8) ?_
          exact HOV.out
        · first | (go_simp; done) | (go_simp; rfl)
        refine hK.out _ _ ?_
        clear hK K
        refine done_ (done_of HT_.out (by kernel_rfl)) ?_
        have hs3 : WC (wc.drew.setCell ⟨g, q, none⟩ (.int .u8 (byteAt bk q + n / 2 ^ m % 2 * wt bk.length))) base p (.slice (some ⟨g, 0, none⟩) (dta bk).length cap) bk.length (pk (bk ++ [n / 2 ^ m % 2])) := by
          have h1 := HS1.out
          rw [← HQ.out] at h1
          rw [pk_step, ← HQ.out]
          exact h1.drew'
        have hs4 : Fr SW base wr (wc.drew.setCell ⟨g, q, none⟩ (.int .u8 (byteAt bk q + n / 2 ^ m % 2 * wt bk.length))) := by
          have h1 := HS2.out
          rw [← HQ.out] at h1
          exact HF2.out.trans h1.drew'
        have HS3 := Aside0.mk hs3
        have HS4 := Aside0.mk hs4
        clear hs3 hs4 HS1 HS2 HC
        generalize wc.drew.setCell ⟨g, q, none⟩ (.int .u8 (byteAt bk q + n / 2 ^ m % 2 * wt bk.length)) = W2 at HS3 HS4 ⊢
        clear c0 c1 d0 df hHeld HOV
        have c0 := HS3.out.c0
        have c1 := HS3.out.c1
        have cf := blk_frozen HS3.out.blk 1
        have HNX := Aside0.mk (put_next width k)
        have HME := Aside0.mk (put_meas width k hlt)
        have HCT := Aside0.mk (HS3.out.count (bk.length + 1))
        clear hqi hri hti hto hmi h7t hwq hwr hw7
        go_wp2
        go_roundw
        case rel =>
          have hd := put_done HS3.out HV1.out.2 HBK.out (HM.out) hlt
          exact ⟨k + 1, ⟨hlt⟩, congrArg (Value.int .i64) HNX.out, ⟨hd.1⟩, ⟨(HF.out.trans HS4.out).trans hd.2⟩⟩
        case measure => exact HME.out
    · have HKW := Aside0.mk (Nat.le_antisymm hk (Nat.le_of_not_lt hlt))
      have hge : decide (0 ≤ (width : Int) - 1 - (k : Int)) = false := put_stop width k hlt
      have hge2 : decide ((k : Int) ≤ (width : Int) - 1) = false := put_stop2 width k hlt
      clear hlt hk
      go_wp2
      (first | go_end0 | ((try simp only [Exit.inBlock, Exit.then]); refine bodyPost_ret (results_none rfl _ _ _) rfl ?_))
      have h1 := HV.out
      rw [HKW.out, List.take_of_length_le (by rw [bitsOf_length]; exact Nat.le_refl _)] at h1
      exact ⟨rfl, h1, HF.out⟩
end Go.Proofs.Ytokapofgbcbajaa.Fns
