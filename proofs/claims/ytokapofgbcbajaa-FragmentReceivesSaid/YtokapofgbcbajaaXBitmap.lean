/- Bitmap and Tags of the reference's receiver. -/
import Derived.Test.YtokapofgbcbajaaXForget
namespace Go.Proofs.Ytokapofgbcbajaa.Fns
open Go.RowKit Go.Maps Go.Proofs.YtokapofgbcbajaaW.PrintWords Go.Proofs.YtokapofgbcbajaaW.PrintLast Go.Proofs.YtokapofgbcbajaaW.PrintMore
set_option linter.unusedVariables false
set_option linter.unusedSimpArgs false
/-- The bits of what is there, up to k. -/
def bmpK (hs : List Bool) : Nat → Nat
  | 0 => 0
  | k + 1 => bmpK hs k + if hs.getD k false then 2 ^ k else 0
theorem bmpK_lt (hs : List Bool) : ∀ k, bmpK hs k < 2 ^ k
  | 0 => by simp [bmpK]
  | k + 1 => by
    have := bmpK_lt hs k
    rw [bmpK, Nat.pow_succ]
    split <;> omega
theorem bmpK_bit (hs : List Bool) : ∀ k i, (bmpK hs k).testBit i = (decide (i < k) && hs.getD i false)
  | 0, i => by simp [bmpK]
  | k + 1, i => by
    have ih := bmpK_bit hs k
    have hlt := bmpK_lt hs k
    rw [bmpK]
    cases hb : hs.getD k false with
    | true =>
      rw [if_pos rfl, Nat.add_comm]
      by_cases h1 : i = k
      · subst h1
        rw [Nat.testBit_two_pow_add_eq, Nat.testBit_lt_two_pow hlt, decide_eq_true (by omega), hb]; rfl
      · by_cases h2 : i < k
        · rw [Nat.testBit_two_pow_add_gt h2, ih, decide_eq_true h2, decide_eq_true (by omega)]
        · rw [decide_eq_false (by omega), Bool.false_and]
          refine Nat.testBit_lt_two_pow (Nat.lt_of_lt_of_le (show 2 ^ k + bmpK hs k < 2 ^ (k + 1) by rw [Nat.pow_succ]; omega) (Nat.pow_le_pow_right (by decide) (by omega)))
    | false =>
      rw [if_neg (by decide), Nat.add_zero, ih]
      by_cases h1 : i = k
      · subst h1
        rw [hb, Bool.and_false, Bool.and_false]
      · by_cases h2 : i < k
        · rw [decide_eq_true h2, decide_eq_true (show i < k + 1 by omega)]
        · rw [decide_eq_false h2, decide_eq_false (show ¬ i < k + 1 by omega)]
def bmpH (hs : List Bool) : Nat := bmpK hs hs.length
theorem findX_ways (ds : List RD) (t : Int) : (findX ds t = -1 ∧ ∀ d ∈ ds, d.tag ≠ t) ∨ ∃ (i : Nat) (d : RD), findX ds t = (i : Int) ∧ ds[i]? = some d ∧ d.tag = t ∧ ∀ j x, j < i → ds[j]? = some x → x.tag ≠ t := by
  cases h : ds.findIdx? (fun d => d.tag == t) with
  | none =>
    refine .inl ⟨by unfold findX; rw [h], ?_⟩
    intro d hd
    have := List.findIdx?_eq_none_iff.1 h d hd
    simpa using this
  | some i =>
    obtain ⟨hi, h1, h2⟩ := List.findIdx?_eq_some_iff_getElem.1 h
    refine .inr ⟨i, ds[i], by unfold findX; rw [h], List.getElem?_eq_getElem hi, by simpa using h1, fun j x hj hx => ?_⟩
    have := h2 j hj
    obtain ⟨hj', e⟩ := List.getElem?_eq_some_iff.1 hx
    rw [← e]
    simpa using this
theorem bm_nums {hs : List Bool} {k : Nat} (hk : k < 32) : min k 64 = k ∧ ∃ z : Int, wrap64 (2 ^ k) = z ∧ (hs.getD k false = true → wrap64 ((bmpK hs k : Int) + z) = ((bmpK hs (k + 1) : Nat) : Int)) := by
  have h1 : (2 : Nat) ^ k ≤ 2 ^ 32 := Nat.pow_le_pow_right (by decide) (by omega)
  have h2 : ((2 ^ k : Nat) : Int) = (2 : Int) ^ k := Int.natCast_pow 2 k
  have h3 := bmpK_lt hs k
  have h4 : wrap64 ((2 : Int) ^ k) = (2 : Int) ^ k := by
    rw [← h2]
    generalize 2 ^ k = x at h1
    exact wrap_in (by omega)
  refine ⟨by omega, (2 : Int) ^ k, h4, fun hb => ?_⟩
  rw [bmpK, hb, if_pos rfl, ← h2]
  generalize 2 ^ k = x at h1 h3
  generalize bmpK hs k = y at h3
  rw [wrap_in (by omega)]; omega
theorem bm_skip {hs : List Bool} {k : Nat} (hb : hs.getD k false = false) : bmpK hs (k + 1) = bmpK hs k := by rw [bmpK, hb, if_neg (by decide), Nat.add_zero]
theorem bm_idx {i n : Nat} (h : i < n) : decide ((i : Int) < 0) = false ∧ (i : Int) < (n : Int) ∧ i < n := ⟨decide_eq_false (by omega), by omega, h⟩
theorem bm_k {k m : Nat} (h : k < m) (hm : m ≤ 32) : wrap64 ((k : Int) + 1) = ((k + 1 : Nat) : Int) ∧ decide ((k : Int) < (m : Int)) = true ∧ decide (k < m) = true ∧ (k : Int) < (m : Int) := ⟨by rw [wrap_in (by omega)]; omega, decide_eq_true (by omega), decide_eq_true h, by omega⟩
set_option maxRecDepth 100000 in
set_option maxHeartbeats 2000000 in
theorem bitmapX_none {w : World} {base p : Nat} {hold time : Int} {v : Value} {ds : List RD} (h : XR w base p hold time v ds) (hl : ds.length ≤ 4000) {t : Int} (hf : findX ds t = -1) :
    Calls Try.prog 34 #[.pointer (some ⟨p, 0, none⟩), .int .i64 t] w fun e w' => e = .returned (.tuple #[.int .i64 0, .int .i64 7]) ∧ w' = w := by
  have hc := find_calls h hl t
  rw [hf] at hc
  have HC := Aside0.mk hc
  clear hc h hl hf
  go_enter Try.func34, Try.ntmps34
  go_wp2_with (go_at_call 64; (with_reducible refine HC.out.mono ?_); rintro e w1 ⟨rfl, rfl⟩)
  go_ret2
  exact ⟨rfl, rfl⟩
set_option maxRecDepth 100000 in
set_option maxHeartbeats 2000000 in
theorem bitmapX_some {w : World} {base p : Nat} {hold time : Int} {v : Value} {ds : List RD} (h : XR w base p hold time v ds) (hl : ds.length ≤ 4000) {t : Int} {i : Nat} {d : RD} (hf : findX ds t = (i : Int)) (hd : ds[i]? = some d) :
    Calls Try.prog 34 #[.pointer (some ⟨p, 0, none⟩), .int .i64 t] w fun e w' => e = .returned (.tuple #[.int .i64 (bmpH d.has : Nat), .int .i64 0]) ∧ w' = w := by
  have hu110 := Try.underlying110
  have hu113 := Try.underlying113
  have hc := find_calls h hl t
  rw [hf] at hc
  have HC := Aside0.mk hc
  obtain ⟨G, cap, cur, rfl, hG, hrow⟩ := h.row (Nat.lt_of_le_of_lt (Nat.zero_le _) (List.getElem?_eq_some_iff.1 hd).1)
  obtain ⟨n, hn⟩ : ∃ n, ds.length = n := ⟨_, rfl⟩
  have c2 := h.c2
  obtain ⟨_, _, _, _, _, _, r6⟩ := rd_cells hrow hd
  have HAT := Aside0.mk (h.at_ d (List.mem_of_getElem? hd))
  obtain ⟨m, hm⟩ : ∃ m, d.has.length = m := ⟨_, rfl⟩
  obtain ⟨q0, q1, q2⟩ := bm_idx (show i < n by rw [← hn]; exact (List.getElem?_eq_some_iff.1 hd).1)
  rw [hn] at c2
  rw [hm] at r6
  have HM := Aside0.mk hm
  have HM32 := Aside0.mk (show m ≤ 32 by rw [← hm]; exact HAT.out.c32)
  clear hc h hl hf hd hG hrow hn hm
  go_enter Try.func34, Try.ntmps34
  go_wp2_with (go_at_call 64; (with_reducible refine HC.out.mono ?_); rintro e w1 ⟨rfl, rfl⟩)
  clear HC
  go_loop [7, 8] (fun t7 t8 => ∃ k : Nat, Aside0 (k ≤ m) ∧ t8 = .int .i64 (k : Int) ∧ t7 = .int .i64 (bmpK d.has k : Nat)) (fun _ t8 => ((m : Int) - intOf t8).toNat)
  case atStart => exact ⟨0, ⟨Nat.zero_le _⟩, rfl, rfl⟩
  case round =>
    obtain ⟨k, HK, rfl, rfl⟩ := hrel
    by_cases hlt : k < m
    · have hcell := HAT.out.hcell (j := k) (by rw [HM.out]; exact hlt)
      obtain ⟨h1, h2, h3, h4⟩ := bm_k hlt HM32.out
      obtain ⟨hm64, z, hz, hza⟩ := bm_nums (hs := d.has) (Nat.lt_of_lt_of_le hlt HM32.out)
      have HLT := Aside0.mk hlt
      clear hlt
      cases hb : d.has.getD k false with
      | true =>
        rw [hb] at hcell
        have ha := hza hb
        have HB := Aside0.mk hb
        clear hb hza
        go_wp2
        go_round
        case rel => exact ⟨k + 1, ⟨HLT.out⟩, rfl, congrArg (Value.int .i64) ha⟩
        case measure => exact x_meas HLT.out
      | false =>
        rw [hb] at hcell
        have HB := Aside0.mk (bm_skip hb)
        clear hb hza
        go_wp2
        go_round
        case rel => exact ⟨k + 1, ⟨HLT.out⟩, rfl, by rw [HB.out]⟩
        case measure => exact x_meas HLT.out
    · obtain ⟨h1, h2⟩ := x_stop hlt
      have HE := Aside0.mk (Nat.le_antisymm HK.out (Nat.le_of_not_lt hlt))
      clear hlt
      go_wp2
      go_ret2
      exact ⟨by rw [bmpH, HM.out, ← HE.out]; rfl, rfl⟩
/-- The tags up to k. -/
def tagK (ds : List RD) (k : Nat) : List Int := ((List.range k).filter fun t : Nat => decide (0 ≤ findX ds (t : Int))).map fun t : Nat => (t : Int)
theorem tagK_succ (ds : List RD) (k : Nat) : tagK ds (k + 1) = tagK ds k ++ (if decide (0 ≤ findX ds (k : Int)) then [(k : Int)] else []) := by
  unfold tagK
  rw [List.range_succ, List.filter_append, List.map_append]
  congr 1
  cases h : decide (0 ≤ findX ds (k : Int)) <;> simp_all
theorem tagK_len (ds : List RD) (k : Nat) : (tagK ds k).length ≤ k := by
  unfold tagK
  rw [List.length_map]
  have := List.length_filter_le (fun t : Nat => decide (0 ≤ findX ds (t : Int))) (List.range k)
  rw [List.length_range] at this
  exact this
theorem tagK_bytes {n k : Nat} (h : n ≤ k) (hk : k ≤ 256) : (n + 1) * 8 ≤ 140737488355328 := by omega
theorem tg_k {k : Nat} (h : k < 256) : wrap64 ((k : Int) + 1) = ((k + 1 : Nat) : Int) ∧ decide ((k : Int) < 256) = true ∧ decide (k < 256) = true ∧ k ≤ 256 := ⟨by rw [wrap_in (by omega)]; omega, decide_eq_true (by omega), decide_eq_true h, by omega⟩
theorem tg_stop {k : Nat} (h : ¬ k < 256) (hk : k ≤ 256) : decide ((k : Int) < 256) = false ∧ decide (k < 256) = false ∧ k = 256 := ⟨decide_eq_false (by omega), decide_eq_false h, by omega⟩
theorem tg_meas {k : Nat} (h : k < 256) : (256 - ((k + 1 : Nat) : Int)).toNat < (256 - (k : Int)).toNat := by omega
set_option maxRecDepth 100000 in
set_option maxHeartbeats 2000000 in
theorem tagsX_calls {w : World} {base p : Nat} {hold time : Int} {v : Value} {ds : List RD} (h : XR w base p hold time v ds) (hl : ds.length ≤ 4000) :
    Calls Try.prog 35 #[.pointer (some ⟨p, 0, none⟩)] w fun e w' => ∃ v', e = .returned v' ∧ w'.ownsRow w.heap.size 3 1 v' (tagK ds 256).length ((tagK ds 256).map (Value.int .i64)) ∧ Below w.heap.size w w' := by
  have H := Aside0.mk h
  have HL := Aside0.mk hl
  have hbe := below_new w (.cells #[] 3)
  have HE := Aside0.mk (own_empty (size := 1) (Nat.le_refl w.heap.size) (show (w.alloc (.cells #[] 3)).heap[w.heap.size]? = some (.cells #[] 3 (0, 0)) from heap_alloc_new w _))
  have HBE := Aside0.mk hbe
  clear h hl hbe
  go_enter Try.func35, Try.ntmps35
  go_wp2
  go_loopw [3, 4] (fun t3 t4 wr => ∃ k : Nat, Aside0 (k ≤ 256) ∧ t4 = .int .i64 (k : Int) ∧ Aside0 (Below w.heap.size w wr) ∧ Aside0 (wr.ownsRow w.heap.size 3 1 t3 (tagK ds k).length ((tagK ds k).map (Value.int .i64)))) (fun _ t4 _ => (256 - intOf t4).toNat)
  case atStart => exact ⟨0, ⟨Nat.zero_le _⟩, rfl, HBE, HE⟩
  case round =>
    obtain ⟨k, HK, rfl, HB, HO⟩ := hrel
    by_cases hlt : k < 256
    · obtain ⟨h1, h2, h3, h4⟩ := tg_k hlt
      have HC := Aside0.mk (find_calls (H.out.later HB.out) HL.out (k : Int))
      have hsc := tagK_succ ds k
      have HLN := Aside0.mk (tagK_bytes (tagK_len ds k) h4)
      have HLT := Aside0.mk hlt
      clear hlt h4
      generalize findX ds (k : Int) = z at HC hsc
      cases hq : decide (0 ≤ z) with
      | true =>
        rw [hq, if_pos rfl] at hsc
        have HSC := Aside0.mk hsc
        clear hsc
        go_upto_region 6 with (go_at_call 64; (with_reducible refine HC.out.mono ?_); rintro e w1 ⟨rfl, rfl⟩)
        clear HC
        go_wp2_with (first | ((with_reducible refine gate_builtin (b := .append) (xs := #[.tmp 14, .tmp 16]) rfl ?_); at_builtin; refine print_append_cells (w0 := w) w.heap.size rfl (.tmp 14) (.tmp 16) 32 3 (.int .i64 0) 1 8 rfl Try.underlying32 info3 rfl (by decide) (by decide) u3 (tagK ds k).length ((tagK ds k).map (Value.int .i64)) [.int .i64 (k : Int)] rfl rfl rfl (by simp [Value.oneCell']) HO.out HB.out HB.out.size HLN.out ?_; intro v4 w4 ho4 hb4 hg4 hat4; have HO4 := Aside0.mk ho4; have HB4 := Aside0.mk hb4; clear ho4 hb4 hg4 hat4))
        go_roundw
        case rel => exact ⟨k + 1, ⟨HLT.out⟩, congrArg (Value.int .i64) h1, HB4, ⟨by rw [HSC.out, List.length_append, List.map_append]; exact HO4.out⟩⟩
        case measure => rw [h1]; exact tg_meas HLT.out
      | false =>
        rw [hq, if_neg (by decide), List.append_nil] at hsc
        have HSC := Aside0.mk hsc
        clear hsc
        go_wp2_with (go_at_call 64; (with_reducible refine HC.out.mono ?_); rintro e w1 ⟨rfl, rfl⟩)
        go_roundw
        case rel => exact ⟨k + 1, ⟨HLT.out⟩, congrArg (Value.int .i64) h1, HB, ⟨by rw [HSC.out]; exact HO.out⟩⟩
        case measure => rw [h1]; exact tg_meas HLT.out
    · obtain ⟨h1, h2, hk⟩ := tg_stop hlt HK.out
      have HKE := Aside0.mk hk
      clear hlt hk
      go_wp2
      go_ret
      exact ⟨_, rfl, by rw [← HKE.out]; exact HO.out, HB.out⟩
end Go.Proofs.Ytokapofgbcbajaa.Fns
