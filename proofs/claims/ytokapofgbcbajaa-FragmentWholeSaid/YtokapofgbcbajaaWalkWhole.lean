/- The law FragmentWhole: its walk. -/
import Derived.Test.YtokapofgbcbajaaWholePure
import Derived.Test.YtokapofgbcbajaaContains
import Derived.Test.YtokapofgbcbajaaAwake
namespace Go.Proofs.Ytokapofgbcbajaa.Fns
open Go.RowKit Go.Maps Go.Proofs.YtokapofgbcbajaaW.PrintWords Go.Proofs.YtokapofgbcbajaaW.PrintLast Go.Proofs.YtokapofgbcbajaaW.PrintMore
attribute [local go_sem high] eqA23
attribute [local go_sem] max2_int min2_int max_two min_two max_three min_three max_four min_four
set_option linter.unusedVariables false
set_option linter.unusedSimpArgs false
theorem below_grown {n : Nat} {w w1 : World} {k : Nat} (hg : w.grownBy w1 (some k)) (hk : n ≤ k) (hn : n ≤ w.heap.size) : Below n w w1 :=
  ⟨hg.os, hg.tape, hg.output, hg.size, fun i hi => hg.block i (by omega) (fun e => by have := Option.some.inj e; omega)⟩
/-- Another map has turned. -/
theorem RW.beside {w w1 : World} {base p b : Nat} {hold time : Int} {live : List Nat} {es : List Ent} (h : RW w base p b hold time live es) {k : Nat} (hg : w.grownBy w1 (some k)) (hk : ∃ a c, w.heap[k]? = some (.map a c)) (hne : k ≠ b) : RW w1 base p b hold time live es := by
  obtain ⟨a, c, hm⟩ := hk
  have hoth : ∀ {j : Nat} {cs : Array Value} {e : TypeId} {f : Nat × Nat}, w.heap[j]? = some (.cells cs e f) → w1.heap[j]? = some (.cells cs e f) := fun {j cs e f} hj =>
    (hg.block j (Array.getElem?_eq_some_iff.1 hj).1 (fun e1 => by
      have e2 := Option.some.inj e1
      rw [e2, hm] at hj
      cases hj)).trans hj
  refine ⟨hoth h.blk, h.hp, h.hb, h.map.kept hg (fun e => hne (Option.some.inj e).symm), ?_, ?_, h.rise, h.apart, h.small⟩
  · intro B hB
    obtain ⟨g1, d, g2⟩ := h.lives B hB
    exact ⟨g1, d, hoth g2.1, g2.2⟩
  · intro e he
    obtain ⟨g1, g2⟩ := h.dgs e he
    exact ⟨g1, hoth g2.1, g2.2⟩
theorem RS.beside {w w1 : World} {base p b : Nat} {hold time : Int} {l : List (Int × Dg)} (h : RS w base p b hold time l) {k : Nat} (hg : w.grownBy w1 (some k)) (hk : ∃ a c, w.heap[k]? = some (.map a c)) (hne : k ≠ b) : RS w1 base p b hold time l := by
  obtain ⟨live, es, h1, h2⟩ := h.ex
  exact ⟨h.hh, h.ht, h.ok, live, es, h1.beside hg hk hne, h2⟩
/-- The set of the pieces that came. -/
def sb (b : Nat) (t : Int) : Bool := decide (0 ≤ t) && b.testBit t.toNat
theorem sb_nat (b k : Nat) : sb b (k : Int) = b.testBit k := by unfold sb; rw [decide_eq_true (Int.natCast_nonneg k), Bool.true_and, Int.toNat_natCast]
theorem sb_or (b k : Nat) : (fun x => decide (x = (k : Int)) || sb b x) = sb (b ||| 2 ^ k) := by
  funext x
  unfold sb
  by_cases h : 0 ≤ x
  · obtain ⟨j, rfl⟩ : ∃ j : Nat, x = j := ⟨x.toNat, by omega⟩
    rw [decide_eq_true h, Bool.true_and, Bool.true_and, Int.toNat_natCast, bit_or, Bool.or_comm]
    congr 1
    exact decide_eq_decide.2 (by omega)
  · rw [decide_eq_false h, Bool.false_and, Bool.false_and, Bool.or_false]
    exact decide_eq_false (by omega)
theorem sb_zero : sb 0 = fun _ => false := by
  funext x
  unfold sb
  rw [Nat.zero_testBit, Bool.and_false]
theorem clear_bit {b i : Nat} (hb : b < 4294967296) (hi : i ≤ 64) : clearB (b : Int) i = !b.testBit i := by
  unfold clearB
  have e : shr .i64 (b : Int) (i : Int) = (b : Int) / 2 ^ i := by unfold shr; rw [Int.toNat_natCast, Nat.min_eq_left (show i ≤ IntKind.i64.bits from hi)]
  rw [e, and_bit b i hb]
  cases b.testBit i <;> simp
theorem missL_count {b : Nat} (hb : b < 4294967296) : ∀ n, n ≤ 64 → (missL (b : Int) n).length + pcnt b n = n
  | 0, _ => rfl
  | n + 1, h => by
    have ih := missL_count hb n (by omega)
    rw [missL_succ, pcnt_succ, List.length_append, clear_bit hb (by omega)]
    cases b.testBit n <;> simp <;> omega
theorem missL_mem {b n : Nat} (hb : b < 4294967296) (hn : n ≤ 64) {x : Int} (hx : x ∈ missL (b : Int) n) : (Lit.int .i64 x).wf = true ∧ sb b x = false := by
  unfold missL at hx
  obtain ⟨i, hi, rfl⟩ := List.mem_map.1 hx
  obtain ⟨h1, h2⟩ := List.mem_filter.1 hi
  have h3 := List.mem_range.1 h1
  rw [clear_bit hb (by omega)] at h2
  refine ⟨wf_small (by omega), ?_⟩
  rw [sb_nat]
  simpa using h2
theorem missF_W {b n : Nat} (hn : 1 ≤ n ∧ n ≤ 32) (hb : b < 2 ^ n) : missF (n : Int) (b : Int) = (missL (b : Int) n, 0) := by
  unfold missF
  have h1 : ((2 ^ n : Nat) : Int) = (2 : Int) ^ n := Int.natCast_pow 2 n
  have h2 : (b : Int) < ((2 ^ n : Nat) : Int) := Int.ofNat_lt.2 hb
  rw [Int.toNat_natCast, if_neg]
  rintro (h | h | h | h)
  · omega
  · omega
  · omega
  · rw [← h1] at h; omega
/-- What a round keeps. -/
structure WB4 (w wr : World) (base p bm g cap q b2 : Nat) (cur : Array Value) (d : ByteArray) (m n b : Nat) (last time : Int) : Prop where
  bel : Below w.heap.size w wr
  row : FRow wr g cap cur (pieces 3 d m n)
  box : wr.heap[q]? = some (.cells #[.map (some b2)] 43 (0, 0))
  rs : RS wr base p bm 100 time (lW d m b last)
  set : BSet wr b2 (sb b) (pcnt b n)
  lt : b < 2 ^ n
  last : 0 ≤ last
theorem WB4.later {w wr wx : World} {base p bm g cap q b2 : Nat} {cur : Array Value} {d : ByteArray} {m n b : Nat} {last time : Int} (h : WB4 w wr base p bm g cap q b2 cur d m n b last time) (hb : Below wr.heap.size wr wx) : WB4 w wx base p bm g cap q b2 cur d m n b last time :=
  ⟨h.bel.trans (hb.mono h.bel.size), h.row.later hb, blk_later hb h.box, h.rs.later hb, h.set.later hb, h.lt, h.last⟩
theorem whole_start {w w2 : World} {base p bm g cap : Nat} {cur : Array Value} {d : ByteArray} {m n : Nat} (hb : Below w.heap.size w w2) (hr : FRow w2 g cap cur (pieces 3 d m n)) (hs : RS w2 base p bm 100 0 []) :
    WB4 w ((w2.alloc (.map #[] 0)).alloc (.cells #[.map (some w2.heap.size)] 43)) base p bm g cap (w2.heap.size + 1) w2.heap.size cur d m n 0 0 0 ∧ bm < w2.heap.size := by
  have hbl : Below w2.heap.size w2 ((w2.alloc (.map #[] 0)).alloc (.cells #[.map (some w2.heap.size)] 43)) := below_tr (below_new _ _) (below_new _ _)
  refine ⟨⟨hb.trans (hbl.mono hb.size), hr.later hbl, ?_, ?_, ?_, Nat.pow_pos (by decide), Int.le_refl _⟩, ?_⟩
  · have := heap_alloc_new (w2.alloc (.map #[] 0)) (.cells #[.map (some w2.heap.size)] 43)
    simpa using this
  · exact hs.later hbl
  · rw [sb_zero]
    have h0 : pcnt 0 n = 0 := by unfold pcnt; simp
    rw [h0]
    exact (BSet.made w2).later (below_new _ _)
  · obtain ⟨a, c, h⟩ := hs.blk
    exact (Array.getElem?_eq_some_iff.1 h).1
/-- The arrival of piece k: the set, and the receiver. -/
theorem whole_round {w wr : World} {base p bm g cap b2 : Nat} {cur : Array Value} {d : ByteArray} {m n b : Nat} {last time : Int} (h : WB4 w wr base p bm g cap (b2 + 1) b2 cur d m n b last time)
    (hn : n = cntS d.size m) (hs : 1 ≤ d.size ∧ d.size ≤ 4095) (hm : 1 ≤ m ∧ m ≤ 120) (hc : n ≤ 32) (hg : g < base) (hbb : base ≤ b2) (hwb : w.heap.size ≤ base) (hmb : bm < b2) {k : Nat} (hk : k < n) {i : Nat} (ht : time ≤ (i : Int)) (h60 : i ≤ 60) :
    (Instr.lookup 43 (.map (some b2)) (.int .i64 (k : Int)) false).run Try.prog wr = .ok (.bool (sb b (k : Int))) wr ∧
    ∃ w3, (Instr.mapUpdate 43 (.map (some b2)) (.int .i64 (k : Int)) (.bool true)).run Try.prog wr = .ok () w3 ∧ FRow w3 g cap cur (pieces 3 d m n) ∧ w3.heap[b2 + 1]? = some (.cells #[.map (some b2)] 43 (0, 0)) ∧
      Calls Try.prog 22 #[.pointer (some ⟨p, 0, none⟩), .int .i64 (i : Int), .agg #[.int .i64 3, .int .i64 (k : Int), .int .i64 (n : Int), .int .i64 (d.size : Int), .string (pcs d m k)]] w3 fun e w' =>
        e = .returned (.tuple #[.string (outW d m b k).1, .bool (outW d m b k).2, .int .i64 0]) ∧ WB4 w w' base p bm g cap (b2 + 1) b2 cur d m n (b ||| 2 ^ k) i i := by
  have hkw : (Lit.int .i64 (k : Int)).wf = true := wf_small (by omega)
  refine ⟨h.set.look hkw, ?_⟩
  have hp := pcnt_le b n
  obtain ⟨w3, hrun, hT3, hg3⟩ := h.set.put hkw (by omega)
  have hcnt : (if sb b (k : Int) = true then pcnt b n else pcnt b n + 1) = pcnt (b ||| 2 ^ k) n := by
    rw [pcnt_or, sb_nat]
    cases hb : b.testBit k with
    | true => rw [if_pos rfl, if_neg (fun h => by cases h.1)]
    | false => rw [if_neg (by decide), if_pos ⟨rfl, hk⟩]
  rw [sb_or, hcnt] at hT3
  have hneg : some g ≠ some b2 := fun e => by have := Option.some.inj e; omega
  have hneq : some (b2 + 1) ≠ some b2 := fun e => by have := Option.some.inj e; omega
  have row3 : FRow w3 g cap cur (pieces 3 d m n) := IsRow.move h.row (hg3.block g (IsRow.lt h.row) hneg)
  have box3 : w3.heap[b2 + 1]? = some (.cells #[.map (some b2)] 43 (0, 0)) := (hg3.block _ (Array.getElem?_eq_some_iff.1 h.box).1 hneq).trans h.box
  have rs3 := h.rs.beside hg3 h.set.blk (by omega)
  have bel3 : Below w.heap.size w w3 := h.bel.trans (below_grown hg3 (by omega) h.bel.size)
  refine ⟨w3, hrun, row3, box3, ?_⟩
  have hb3 : base ≤ w3.heap.size := by have := hT3.lt; omega
  have hpc := (pcs_len (t := 3) (j := k) (by decide) hs hm (by rw [← hn]; exact hc) (by rw [← hn]; exact hk)).2
  refine (recv_calls hb3 rs3 (i : Int) 3 (k : Int) (n : Int) (d.size : Int) (pcs d m k) (by omega)).mono ?_
  have e := recv_W (d := d) (m := m) (b := b) (k := k) hs hm (by rw [← hn]; exact hc) (by rw [← hn]; exact hk) (by rw [← hn]; exact h.lt) h.last ht (by omega : (i : Int) ≤ 60)
  rw [← hn] at e
  rw [e]
  rintro e' w' ⟨rfl, hrs, hfr⟩
  have hgm : g ≠ bm := row3.ne_map rs3.blk
  have hqm : b2 + 1 ≠ bm := by omega
  refine ⟨rfl, ⟨hfr.toBelow bel3 hwb hb3, row3.frB hfr rfl hgm, blk_frB hfr box3 rfl hqm, hrs, ?_, or_lt h.lt hk, by omega⟩⟩
  refine hT3.move (hfr.block b2 hT3.lt (.inr ⟨?_, by omega⟩))
  intro c e f hcl
  obtain ⟨a, cl, hm2⟩ := hT3.blk
  rw [hm2] at hcl
  cases hcl
theorem at_natu {w : World} {A : Option Addr} {xs : List Int} {n : Nat} (h : Kd.C (Kd.int .u8) w A n xs) (hn : xs.length = n) {j : Nat} {x : Int} (hx : xs[j]? = some x) : ∃ a, A = some a ∧ w.cell? (a.add j) = some (.int .u8 x) := by
  have hj : j < xs.length := (List.getElem?_eq_some_iff.1 hx).1
  obtain ⟨a, rfl, hr⟩ := Kd.at_int h (j : Int) (by omega) (by omega)
  refine ⟨a, rfl, ?_⟩
  have e : rd xs (j : Int) = x := by
    unfold rd
    rw [Int.toNat_natCast, List.getD_eq_getElem?_getD, hx]; rfl
  rw [e] at hr
  simpa using hr
theorem whole_pick {x : Int} (hw : (Lit.int .u8 x).wf = true) {n : Nat} (hn : 1 ≤ n ∧ n ≤ 32) : ∃ k : Nat, k < n ∧ Int.tmod x (n : Int) = (k : Int) ∧ wrap64 (k : Int) = (k : Int) ∧ wrap64 x = x := by
  have hb : 0 ≤ x ∧ x ≤ 255 := by
    simp [Lit.wf, IntKind.min, IntKind.max, IntKind.signed, IntKind.bits] at hw
    omega
  have h1 := Int.emod_nonneg x (show (n : Int) ≠ 0 by omega)
  have h2 := Int.emod_lt_of_pos x (show (0 : Int) < (n : Int) by omega)
  refine ⟨(x % (n : Int)).toNat, by omega, ?_, by rw [wrap_in (by omega)], wrap_in (by omega)⟩
  rw [tmod_nn hb.1]; omega
/-- The three ways of a round. -/
theorem whole_ways {d : ByteArray} {m b k n : Nat} (hn : n = cntS d.size m) (hk : k < n) :
    (sb b (k : Int) = true ∧ outW d m b k = (⟨#[]⟩, false)) ∨
    (sb b (k : Int) = false ∧ outW d m b k = (⟨#[]⟩, false) ∧ ((pcnt (b ||| 2 ^ k) n : Int) == (n : Int)) = false ∧ (pcnt (b ||| 2 ^ k) n == n) = false) ∨
    (sb b (k : Int) = false ∧ outW d m b k = (d, true) ∧ ((pcnt (b ||| 2 ^ k) n : Int) == (n : Int)) = true ∧ (pcnt (b ||| 2 ^ k) n == n) = true) := by
  rw [sb_nat]
  unfold outW
  rw [← hn]
  cases hb : b.testBit k with
  | true => exact .inl ⟨rfl, by rw [if_neg (fun h => by cases h.1)]⟩
  | false =>
    by_cases h : pcnt (b ||| 2 ^ k) n = n
    · exact .inr (.inr ⟨rfl, by rw [if_pos ⟨rfl, h⟩], by rw [beq_iff_eq]; omega, by rw [beq_iff_eq]; exact h⟩)
    · exact .inr (.inl ⟨rfl, by rw [if_neg (fun h2 => h h2.2)], by rw [beq_eq_false_iff_ne]; omega, by rw [beq_eq_false_iff_ne]; exact h⟩)
theorem bmp_W {d : ByteArray} {m b : Nat} {last : Int} (hb : b ≠ 0) : bmpF (lW d m b last) 3 = (b : Int) ∧ bmpE (lW d m b last) 3 = 0 := by
  unfold lW
  rw [if_neg hb]
  exact ⟨rfl, rfl⟩
/-- Behind the arrival: the bitmap, what is missing, and that nothing of it is in the set. -/
theorem whole_after {w w4 : World} {base p bm g cap b2 : Nat} {cur : Array Value} {d : ByteArray} {m n b : Nat} {last time : Int} (h : WB4 w w4 base p bm g cap (b2 + 1) b2 cur d m n b last time) (hb0 : b ≠ 0) (hn : 1 ≤ n ∧ n ≤ 32) :
    Calls Try.prog 23 #[.pointer (some ⟨p, 0, none⟩), .int .i64 3] w4 (fun e w' => e = .returned (.tuple #[.int .i64 (b : Int), .int .i64 0]) ∧ w' = w4) ∧
    Calls Try.prog 15 #[.int .i64 (n : Int), .int .i64 (b : Int)] w4 (fun e w' => ∃ (A : Option Addr) (c z : Nat), e = .returned (.tuple #[.slice A z c, .int .i64 0]) ∧ wrap64 ((n : Int) - (pcnt b n : Int)) = (z : Int) ∧ WB4 w w' base p bm g cap (b2 + 1) b2 cur d m n b last time ∧
      ∀ wx, Below w'.heap.size w' wx → Calls Try.prog 24 #[.slice A z c, .func (.func 25) #[] #[.pointer (some ⟨b2 + 1, 0, none⟩)]] wx fun e w' => e = .returned (.bool false) ∧ w' = wx) := by
  have hb32 : b < 4294967296 := Nat.lt_of_lt_of_le h.lt (Nat.pow_le_pow_right (n := 2) (by decide) hn.2)
  constructor
  · have h1 := bitmap_calls h.rs 3 (by decide)
    rw [(bmp_W hb0).1, (bmp_W hb0).2] at h1
    exact h1
  · have hm := missing_eq (n : Int) (b : Int)
    rw [missF_W hn h.lt] at hm
    refine (fragment_Missing.calls 40 (n : Int) (b : Int) _ _ w4 hm).mono ?_
    rintro e w' ⟨v, rfl, hR, hbl⟩
    obtain ⟨A, c, rfl, hc, hC⟩ := Kd.R_reads hR
    have hcnt := missL_count hb32 n (by omega)
    have h5 := h.later hbl
    refine ⟨A, c, (missL (b : Int) n).length, rfl, ?_, h5, ?_⟩
    · rw [wrap_in (by omega)]; omega
    · intro wx hx
      have h6 := h5.later hx
      exact contains_none wx A c _ (b2 + 1) b2 _ (sb b) (Kd.C_below hC hx) (by have := missL_len (b : Int) n; omega) (fun x hx2 => (missL_mem hb32 (by omega) hx2).1) ((blk_cell h6.box 0).trans rfl) h6.set (fun x hx2 => (missL_mem hb32 (by omega) hx2).2)
theorem whole_step {i nx n k : Nat} (h : i < nx) (h60 : nx ≤ 60) (hk : k < n) (hn : 1 ≤ n ∧ n ≤ 32) : wrap64 ((i : Int) + 1) = ((i + 1 : Nat) : Int) ∧ decide ((i : Int) < (nx : Int)) = true ∧ decide (i < nx) = true ∧ (i : Int) < (nx : Int) ∧
    decide ((n : Int) < 1) = false ∧ decide (n < 1) = false ∧ ((n : Int) == 0) = false ∧ (n == 0) = false ∧ (k : Int) < (n : Int) ∧ (i : Int) ≤ ((i + 1 : Nat) : Int) :=
  ⟨by rw [wrap_in (by omega)]; omega, decide_eq_true (by omega), decide_eq_true h, by omega, decide_eq_false (by omega), decide_eq_false (by omega), by rw [beq_eq_false_iff_ne]; omega, by rw [beq_eq_false_iff_ne]; omega, by omega, by omega⟩
theorem whole_err {z : Nat} {a1 : Int} (hz : z ≤ 300) (he : errS 3 z a1 = 0) : 1 ≤ a1 ∧ a1 ≤ 120 ∧ 1 ≤ z ∧ cntS z a1.toNat ≤ 32 := by
  unfold errS at he
  by_cases h1 : (3 : Int) < 0 ∨ (3 : Int) > 255 ∨ a1 < 1 ∨ a1 > 120
  · rw [if_pos h1] at he; omega
  · rw [if_neg h1] at he
    by_cases h2 : z = 0
    · rw [if_pos h2] at he; omega
    · rw [if_neg h2, if_neg (by omega)] at he
      by_cases h4 : cntS z a1.toNat > 32
      · rw [if_pos h4] at he; omega
      · omega
set_option maxRecDepth 100000 in
set_option maxHeartbeats 8000000 in
theorem whole_walk (a0 : ByteArray) (a1 : Int) (A : Option Addr) (xs : List Int) (c2 : Nat) (w : World) (w0 : a0.size ≤ 140737488351232) (hC : Kd.C (Kd.int .u8) w A xs.length xs) (hwf : ∀ x ∈ xs, (Lit.int .u8 x).wf = true) :
    Calls Try.prog 4 #[.string a0, .int .i64 a1, .slice A xs.length c2] w fun e w' => e = .returned (.bool true) ∧ Below w.heap.size w w' := by
  have hu23 := Try.underlying23
  have hu43 := Try.underlying43
  have HA := Aside0.mk (show ∀ w, Calls Try.prog 10 #[] w fun e w' => e = .returned (.bool true) ∧ Below w.heap.size w w' from awake_walk)
  obtain ⟨nx, hnx⟩ : ∃ nx, xs.length = nx := ⟨_, rfl⟩
  rw [hnx]
  by_cases hbig : 300 < a0.size ∨ 60 < nx
  · by_cases h1 : 300 < a0.size
    · have q1 : decide (300 < (a0.size : Int)) = true := decide_eq_true (by omega)
      have q1' : decide (300 < a0.size) = true := decide_eq_true h1
      clear h1 hbig hC hwf hnx w0
      go_enter Try.func4, Try.ntmps4
      go_wp2_with (go_at_call 10; (with_reducible refine (HA.out _).mono ?_); rintro e wa ⟨rfl, hba⟩)
      go_ret
      exact ⟨rfl, hba⟩
    · have q1 : decide (300 < (a0.size : Int)) = false := decide_eq_false (by omega)
      have q1' : decide (300 < a0.size) = false := decide_eq_false h1
      have q2 : decide (60 < (nx : Int)) = true := decide_eq_true (by omega)
      have q2' : decide (60 < nx) = true := decide_eq_true (by omega)
      clear h1 hbig hC hwf hnx w0
      go_enter Try.func4, Try.ntmps4
      go_wp2_with (go_at_call 10; (with_reducible refine (HA.out _).mono ?_); rintro e wa ⟨rfl, hba⟩)
      go_ret
      exact ⟨rfl, hba⟩
  · have q1 : decide (300 < (a0.size : Int)) = false := decide_eq_false (by omega)
    have q1' : decide (300 < a0.size) = false := decide_eq_false (by omega)
    have q2 : decide (60 < (nx : Int)) = false := decide_eq_false (by omega)
    have q2' : decide (60 < nx) = false := decide_eq_false (by omega)
    have HN := Aside0.mk (fun w => newrecv_good w 100 (by decide))
    by_cases he : errS 3 a0.size a1 = 0
    · obtain ⟨c3, c4, c5, c6⟩ := whole_err (by omega) he
      have HS := Aside0.mk (show ∀ w, _ from fun w => fragment_Split.calls 40 3 a0 a1 (pieces 3 a0 a1.toNat (cntS a0.size a1.toNat)) 0 w (by rw [split_eq 3 a0 a1 w0]; unfold splitF; rw [if_pos he]))
      obtain ⟨m, rfl⟩ : ∃ m : Nat, a1 = m := ⟨a1.toNat, by omega⟩
      simp only [Int.toNat_natCast] at HS c6
      have HM := Aside0.mk (show 1 ≤ m ∧ m ≤ 120 by omega)
      have HSZ := Aside0.mk (show 1 ≤ a0.size ∧ a0.size ≤ 4095 by omega)
      have HC32 := Aside0.mk c6
      have HN1 := Aside0.mk (cnt_law c5 HM.out.1).1
      have HXS := Aside0.mk (show nx ≤ 60 by omega)
      have HCX := Aside0.mk hC
      have HWF := Aside0.mk hwf
      have HNX := Aside0.mk hnx
      obtain ⟨n, hn⟩ : ∃ n, n = cntS a0.size m := ⟨_, rfl⟩
      have hpl := pieces_length 3 a0 m n
      rw [← hn] at HS HC32 HN1
      have HNN := Aside0.mk hn
      clear hbig he c3 c4 c5 c6 w0 hC hwf hnx hn
      go_enter Try.func4, Try.ntmps4
      go_upto_region 5 with (go_at_call 10; (with_reducible refine (HA.out _).mono ?_); rintro e wa ⟨rfl, hba⟩)
      go_upto_region 6 with (go_at_call 11; (with_reducible refine (HS.out _).mono ?_); rintro e wb ⟨v1, rfl, hR, hbb⟩; obtain ⟨g, cap, cur, rfl, hg, hrow⟩ := own_row (row23 hR) (by rw [pieces_length]; exact HN1.out))
      have HB := Aside0.mk (below_tr hba hbb)
      have HR := Aside0.mk (show FRow wb g cap cur (pieces 3 a0 m n) from hrow)
      clear hR hbb hrow hg hba hpl
      go_upto_region 9 with (go_at_call 21; (with_reducible refine (HN.out _).mono ?_); rintro e w2 ⟨p, bm, rfl, hS2, hb2⟩)
      have HB2 := Aside0.mk (below_tr HB.out hb2)
      have HR2 := Aside0.mk (HR.out.later hb2)
      have HS2 := Aside0.mk hS2
      have HZ2 := Aside0.mk hb2.size
      clear hS2 hb2 HA HS HN
      have hmm := @run_makeMap Try.prog
      go_upto_region 10 with (fail)
      clear hmm
      have hst := whole_start (p := p) (bm := bm) (g := g) (cap := cap) (cur := cur) (d := a0) (m := m) (n := n) HB2.out HR2.out HS2.out
      obtain ⟨b2, hb2⟩ : ∃ b2, w2.heap.size = b2 := ⟨_, rfl⟩
      have HGB := Aside0.mk (Nat.lt_of_lt_of_le HR.out.lt (Nat.le_refl wb.heap.size))
      have HBB := Aside0.mk (show wb.heap.size ≤ b2 by rw [← hb2]; exact HZ2.out)
      have HWB := Aside0.mk (show w.heap.size ≤ wb.heap.size from HB.out.size)
      refine wp_world (F := fun W => WB4 w W wb.heap.size p bm g cap (w2.heap.size + 1) w2.heap.size cur a0 m n 0 0 0) hst.1 (fun W hF => ?_)
      rw [hb2] at hF hst ⊢
      have HMB := Aside0.mk hst.2
      have HF := Aside0.mk hF
      clear hst hF hb2 HB2 HR2 HS2 HZ2 HB HR
      go_wp2
      go_loopw [59] (fun t59 wr => ∃ (i b : Nat) (last time : Int), Aside0 (i ≤ nx) ∧ t59 = .int .i64 (i : Int) ∧ Aside0 (time ≤ (i : Int)) ∧ Aside0 (WB4 w wr wb.heap.size p bm g cap (b2 + 1) b2 cur a0 m n b last time)) (fun t59 _ => ((nx : Int) - intOf t59).toNat)
      case atStart => exact ⟨0, 0, 0, 0, ⟨Nat.zero_le _⟩, rfl, ⟨Int.le_refl _⟩, HF⟩
      case round =>
        obtain ⟨i, b, last, time, HI, rfl, HTM, HV⟩ := hrel
        by_cases hlt : i < nx
        · obtain ⟨x, hx⟩ : ∃ x, xs[i]? = some x := ⟨_, List.getElem?_eq_getElem (by rw [HNX.out]; exact hlt)⟩
          have hCr := Kd.C_below HCX.out HV.out.bel
          obtain ⟨a, hA, hcell⟩ := at_natu (by rw [HNX.out] at hCr; exact hCr) HNX.out hx
          subst hA
          obtain ⟨k, hk, hmod, hwk, hwx⟩ := whole_pick (HWF.out x (List.mem_of_getElem? hx)) ⟨HN1.out, HC32.out⟩
          obtain ⟨hl, w3, hrun, row3, box3, hrec⟩ := whole_round HV.out HNN.out HSZ.out HM.out HC32.out HGB.out HBB.out HWB.out HMB.out hk HTM.out (Nat.le_trans HI.out HXS.out)
          have hwy := whole_ways (b := b) HNN.out hk
          have c43 : wr.cell? ⟨b2 + 1, 0, none⟩ = some (.map (some b2)) := (blk_cell HV.out.box 0).trans rfl
          have d43 : w3.cell? ⟨b2 + 1, 0, none⟩ = some (.map (some b2)) := (blk_cell box3 0).trans rfl
          have hget : (pieces 3 a0 m n)[k]? = some ⟨3, k, (n : Nat), (a0.size : Nat), pcs a0 m k⟩ := by
            rw [pieces, List.getElem?_map, List.getElem?_range hk]
            show some (piece 3 a0 m k) = _
            unfold piece pcs
            rw [← HNN.out]
          obtain ⟨y0, y1, y2, y3, y4⟩ := row3.at hget
          obtain ⟨h1, h2, h3, h4, h5, h6, h7, h8, h9, h10⟩ := whole_step hlt HXS.out hk ⟨HN1.out, HC32.out⟩
          have H10 := Aside0.mk h10
          have HLT := Aside0.mk hlt
          have HO := Aside0.mk (or_ne b k)
          have HNR := Aside0.mk (And.intro HN1.out HC32.out)
          clear hx hCr hget row3 box3 hk HV HTM h10 hlt
          rcases hwy with ⟨hsb, hout⟩ | ⟨hsb, hout, hq, hq'⟩ | ⟨hsb, hout, hq, hq'⟩
          all_goals
            rw [hsb] at hl
            rw [hout] at hrec
            have HREC := Aside0.mk hrec
            clear hrec hsb hout
            go_upto_region 18 with (fail)
            clear c43 hcell hl hrun
            go_upto_region 19 with (go_at_call 22; (with_reducible refine HREC.out.mono ?_); rintro e w4 ⟨rfl, hv4⟩)
            have HV4 := Aside0.mk hv4
            have c44 : w4.cell? ⟨b2 + 1, 0, none⟩ = some (.map (some b2)) := (blk_cell hv4.box 0).trans rfl
            have hlen4 := hv4.set.len
            have haft := whole_after hv4 HO.out HNR.out
            have HBM := Aside0.mk haft.1
            have HMS := Aside0.mk haft.2
            clear hv4 haft HREC d43 y0 y1 y2 y3 y4
            go_upto_region 22 with (fail)
            go_upto_region 23 with (go_at_call 23; (with_reducible refine HBM.out.mono ?_); rintro e wz ⟨rfl, rfl⟩)
            clear HBM c44 hlen4
            go_upto_region 24 with (go_at_call 15; (with_reducible refine HMS.out.mono ?_); rintro e w5 ⟨A5, k5, z5, rfl, hz5, hv5, hct5⟩)
            clear HMS HV4
            have HV5 := Aside0.mk hv5
            have c45 : w5.cell? ⟨b2 + 1, 0, none⟩ = some (.map (some b2)) := (blk_cell hv5.box 0).trans rfl
            have hlen5 := hv5.set.len
            have HCT := Aside0.mk (hct5 w5 (Below.refl _ _))
            clear hct5 hv5
            go_wp2_with (go_at_call 24; (with_reducible refine HCT.out.mono ?_); rintro e wy ⟨rfl, rfl⟩)
            go_roundw
            case rel => exact ⟨i + 1, b ||| 2 ^ k, i, i, ⟨HLT.out⟩, congrArg (Value.int .i64) h1, H10, HV5⟩
            case measure => rw [h1]; exact in_meas HLT.out
        · obtain ⟨h1, h2⟩ := in_stop hlt
          clear hlt
          go_wp2
          go_ret
          exact ⟨rfl, HV.out.bel⟩
    · have HS := Aside0.mk (show ∀ w, _ from fun w => fragment_Split.calls 40 3 a0 a1 [] (errS 3 a0.size a1) w (by rw [split_eq 3 a0 a1 w0]; unfold splitF; rw [if_neg he]))
      have hee : (errS 3 a0.size a1 == 0) = false := beq_eq_false_iff_ne.2 he
      have hee' : (errS 3 a0.size a1 != 0) = true := bne_iff_ne.2 he
      generalize errS 3 a0.size a1 = er at HS hee hee' he
      clear hbig w0 hC hwf hnx
      go_enter Try.func4, Try.ntmps4
      go_upto_region 5 with (go_at_call 10; (with_reducible refine (HA.out _).mono ?_); rintro e wa ⟨rfl, hba⟩)
      have HBA := Aside0.mk hba
      clear hba
      go_upto_region 6 with (go_at_call 11; (with_reducible refine (HS.out _).mono ?_); rintro e wb ⟨v1, rfl, hR, hbb⟩; obtain ⟨A1, cc, rfl⟩ := own_slice (row23 hR))
      have HB := Aside0.mk (below_tr HBA.out hbb)
      clear hR hbb HBA
      go_wp2_with (go_at_call 21; (with_reducible refine (HN.out _).mono ?_); rintro e w2 ⟨p, bm, rfl, hS2, hb2⟩; have HB2 := Aside0.mk (below_tr HB.out hb2); clear hS2 hb2)
      go_ret
      exact ⟨rfl, HB2.out⟩
end Go.Proofs.Ytokapofgbcbajaa.Fns
