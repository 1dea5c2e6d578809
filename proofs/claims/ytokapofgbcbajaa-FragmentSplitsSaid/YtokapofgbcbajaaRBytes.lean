/- The writer of the reference: a new one, its bytes. -/
import Derived.Test.YtokapofgbcbajaaRWriter
namespace Go.Proofs.Ytokapofgbcbajaa.Fns
open Go.RowKit Go.Proofs.YtokapofgbcbajaaW.PrintWords Go.Proofs.YtokapofgbcbajaaW.PrintLast Go.Proofs.YtokapofgbcbajaaW.PrintMore
set_option linter.unusedVariables false
set_option linter.unusedSimpArgs false
theorem rnewWriter_calls (w : World) : Calls Try.prog 39 #[] w fun e w' => e = .returned (.pointer (some ⟨w.heap.size, 0, none⟩)) ∧ w' = w.alloc (.cells #[.slice none 0 0, .int .i64 0] 120) := by
  have hu120 := Try.underlying120
  go_enter Try.func39, Try.ntmps39
  go_wp2
  go_ret
  exact ⟨rfl, rfl⟩
theorem RW2.new (w : World) (base : Nat) (hb : base ≤ w.heap.size) : RW2 (w.alloc (.cells #[.slice none 0 0, .int .i64 0] 120)) base w.heap.size (.slice none 0 0) [] :=
  ⟨heap_alloc_new w _, hb, own_nil _ _ _ _⟩
/-- The row of four bytes after k bits. -/
def four (bs : List Int) : List Value := (List.range 4).map fun j => Value.int .u8 (byteAt bs j)
theorem four_get {bs : List Int} {j : Nat} (hj : j < 4) : (four bs)[j]? = some (.int .u8 (byteAt bs j)) := by
  rw [four, List.getElem?_map, List.getElem?_range hj]; rfl
theorem rb_nums {bs : List Int} (hl : bs.length = 30) (hbits : Bits bs) {k : Nat} (hk : k < 30) : ∃ (j r : Nat) (b x : Int), j = k / 8 ∧ j < 4 ∧ (k : Int) / 8 = (j : Int) ∧ r ≤ 7 ∧ (7 : Int) - (k : Int) % 8 = (r : Int) ∧ b = bs.getD k 0 ∧ (b = 0 ∨ b = 1) ∧ x = byteAt (bs.take k) j ∧
    Go.bits .or .u8 x (IntKind.u8.wrap (b * 2 ^ r)) = byteAt (bs.take (k + 1)) j ∧ four (bs.take (k + 1)) = (four (bs.take k)).set j (.int .u8 (byteAt (bs.take (k + 1)) j)) ∧ (u8s bs)[k]? = some (.int .u8 b) := by
  have htl : (bs.take k).length = k := by rw [List.length_take]; omega
  have hsn : bs.take (k + 1) = bs.take k ++ [bs.getD k 0] := by
    rw [List.take_succ_eq_append_getElem (by omega), List.getD_eq_getElem?_getD, List.getElem?_eq_getElem (by omega)]; rfl
  have hb := getD_bit hbits k
  have htb : Bits (bs.take k) := fun x hx => hbits x (List.mem_of_mem_take hx)
  have hor := or_bit htb hb
  rw [htl] at hor
  have hwt : wt k = 2 ^ (7 - k % 8) := rfl
  refine ⟨k / 8, 7 - k % 8, bs.getD k 0, byteAt (bs.take k) (k / 8), rfl, by omega, by omega, by omega, by omega, rfl, hb, rfl, ?_, ?_, ?_⟩
  · rw [hsn, byteAt_snoc, htl, if_pos rfl, ← hor, hwt]
    congr 1
    rw [← hwt, IntKind.wrap_u8]
    rcases wt_cases k with ⟨_, h⟩ | ⟨_, h⟩ | ⟨_, h⟩ | ⟨_, h⟩ | ⟨_, h⟩ | ⟨_, h⟩ | ⟨_, h⟩ | ⟨_, h⟩ <;> rw [h] <;> omega
  · apply List.ext_getElem?
    intro i
    rw [List.getElem?_set]
    by_cases h4 : i < 4
    · rw [four_get h4]
      by_cases hi : k / 8 = i
      · rw [if_pos hi, if_pos (by simp [four]; omega), hi]
      · rw [if_neg hi, four_get h4, hsn, byteAt_snoc, htl, if_neg (fun h => hi h.symm), Int.add_zero]
    · rw [List.getElem?_eq_none (by simp [four]; omega)]
      by_cases hi : k / 8 = i
      · omega
      · rw [if_neg hi, List.getElem?_eq_none (by simp [four]; omega)]
  · rw [u8s, List.getElem?_map, List.getElem?_eq_getElem (by omega), List.getD_eq_getElem?_getD, List.getElem?_eq_getElem (by omega)]; rfl
theorem made4 : madeCells #[.int .u8 0] 4 = #[.int .u8 0, .int .u8 0, .int .u8 0, .int .u8 0] := by
  kernel_rfl
theorem rb_start (W : World) : IsRow (W.alloc (.cells (madeCells #[.int .u8 0] 4) 5)) 5 1 W.heap.size 4 4 (four ([] : List Int)) (madeCells #[.int .u8 0] 4) :=
  ⟨heap_alloc_new W _, by decide, by decide, by rw [made4]; rfl, by
    have h : four ([] : List Int) = [.int .u8 0, .int .u8 0, .int .u8 0, .int .u8 0] := by
      have h0 : ∀ j, byteAt ([] : List Int) j = 0 := fun j => byteAt_out (Nat.zero_le _)
      simp only [four, h0]; rfl
    rw [h, made4]; rfl, rfl⟩
theorem rb_next {k : Nat} (h : k < 30) : wrap64 ((k : Int) + 1) = ((k + 1 : Nat) : Int) ∧ decide ((k : Int) < 30) = true ∧ decide (k < 30) = true := ⟨by rw [wrap_in (by omega)]; omega, decide_eq_true (by omega), decide_eq_true h⟩
theorem rb_idx {j r : Nat} (h : j < 4) (hr : r ≤ 7) : wrap64 (j : Int) = (j : Int) ∧ (j : Int) < 4 ∧ wrap64 (r : Int) = (r : Int) ∧ min r 64 = r := ⟨wrap_in (by omega), by omega, wrap_in (by omega), by omega⟩
theorem rb_ki {k : Nat} (h : k < 30) : (k : Int) < 30 := by omega
theorem rb_shift {k r : Nat} (h : (7 : Int) - (k : Int) % 8 = (r : Int)) (hr : r ≤ 7) : wrap64 (7 - (k : Int).tmod 8) = (r : Int) := by rw [tmod_nn (by omega), h, wrap_in (by omega)]
theorem rb_stop {k : Nat} (h : ¬ k < 30) (hk : k ≤ 30) : k = 30 := by omega
theorem rb_meas {k : Nat} (h : k < 30) : (30 - ((k + 1 : Nat) : Int)).toNat < (30 - (k : Int)).toNat := by omega
theorem RW2.fr {S : TypeId → Bool} {b0 : Nat} {w wx : World} {base p : Nat} {v : Value} {bs : List Int} (h : RW2 w base p v bs) (hf : Fr S b0 w wx) (h1 : p < b0) (h2 : ∀ k, v.ownBlock = some k → k < b0) : RW2 wx base p v bs :=
  ⟨(hf.block p (Array.getElem?_eq_some_iff.1 h.blk).1 (.inl h1)).trans h.blk, h.hp, own_move h.own (fun k hk => hf.block k (h.own.lt k hk).2 (.inl (h2 k hk)))⟩
set_option maxRecDepth 100000 in
set_option maxHeartbeats 2000000 in
theorem rbytes_calls (w : World) (base p : Nat) (v : Value) (bs : List Int) (hB : RW2 w base p v bs) (hl : bs.length = 30) (hbits : Bits bs) (hbw : base ≤ w.heap.size) :
    Calls Try.prog 41 #[.pointer (some ⟨p, 0, none⟩)] w fun e w' => e = .returned (.tuple #[.string (strOfNums (pk bs)), .int .i64 0]) ∧ Below w.heap.size w w' := by
  have c0 := hB.c0
  have c1 := hB.c1
  obtain ⟨gb, cap, cur, rfl, hg, hrow⟩ := own_row hB.own (by omega)
  rw [hl] at c0
  have HROW := Aside0.mk hrow
  have HB := Aside0.mk hB
  have HL := Aside0.mk hl
  have HBT := Aside0.mk hbits
  have hmk : ∀ W : World, (Instr.makeSlice 39 (.int .i64 4) (.int .i64 4)).run Try.prog W = .ok (.slice (some ⟨W.heap.size, 0, none⟩) 4 4) (W.alloc (.cells (madeCells #[.int .u8 0] 4) 5)) := print_make (P := Try.prog) 39 5 .u8 1 Try.underlying39 info5b (by decide) 4 (by decide)
  clear hB hrow hg hl hbits hbw
  go_enter Try.func41, Try.ntmps41
  go_upto_region 4 with (fail)
  have hs := rb_start w
  have hbw := below_new w (.cells (madeCells #[.int .u8 0] 4) 5)
  obtain ⟨g, hg⟩ : ∃ g, w.heap.size = g := ⟨_, rfl⟩
  refine wp_world (F := fun W => Below w.heap.size w W ∧ IsRow W 5 1 w.heap.size 4 4 (four []) (madeCells #[.int .u8 0] 4)) ⟨hbw, hs⟩ (fun W hF => ?_)
  have HBW0 := Aside0.mk hF.1
  have HP := Aside0.mk (Array.getElem?_eq_some_iff.1 HB.out.blk).1
  have HGB := Aside0.mk HROW.out.lt
  have HB0 := Aside0.mk (HB.out.later hF.1)
  have HR0 := Aside0.mk (HROW.out.move (hF.1.block _ HROW.out.lt))
  have HI0 := hF.2
  rw [hg] at HI0 ⊢
  have HG := Aside0.mk (Nat.le_of_eq hg)
  have HI1 := Aside0.mk HI0
  clear hF hs hbw HI0 hg c0 c1 HB HROW hmk
  go_wp2
  go_loopw [5] (fun t wr => ∃ k : Nat, Aside0 (k ≤ 30) ∧ t = .int .i64 (k : Int) ∧ Aside0 (Below w.heap.size w wr) ∧ Aside0 (RW2 wr base p (.slice (some ⟨gb, 0, none⟩) bs.length cap) bs) ∧ Aside0 (IsRow wr 5 1 gb bs.length cap (u8s bs) cur) ∧ Aside0 (∃ cu, IsRow wr 5 1 g 4 4 (four (bs.take k)) cu)) (fun t _ => (30 - intOf t).toNat)
  case atStart => exact ⟨0, ⟨Nat.zero_le _⟩, rfl, HBW0, HB0, HR0, ⟨_, HI1.out⟩⟩
  case round =>
    obtain ⟨k, HK, rfl, HBW, HRW, HRO, HIR⟩ := hrel
    have c0 := HRW.out.c0
    rw [HL.out] at c0
    by_cases hlt : k < 30
    · obtain ⟨j, r, b, x, hj, hj4, hq, hr, hr7, hbx, hb, hx, hor, hset, hget⟩ := rb_nums HL.out HBT.out hlt
      obtain ⟨cu, hir⟩ := HIR.out
      have cb := HRO.out.cell hget
      have ck := hir.cell (four_get hj4)
      rw [← hx] at ck
      obtain ⟨hnx, q1, q1'⟩ := rb_next hlt
      obtain ⟨hjw, hj4i, hrw, hmn⟩ := rb_idx hj4 hr
      have hki := rb_ki hlt
      have hr8 := rb_shift hr7 hr
      have kf := blk_frozen hir.blk j
      have HLT := Aside0.mk hlt
      have HIW := Aside0.mk hir
      have HOR := Aside0.mk hor
      have HSET := Aside0.mk hset
      clear hj hbx hx hor hset hget hir hlt hb
      go_upto_region 7 with (fail)
      refine start_ (n := 22) (S := fun w' => (w'.cell? ⟨p, 0, none⟩ = some (.slice (some ⟨gb, 0, none⟩) 30 cap)) ∧ (w'.cell? ⟨g, j, none⟩ = some (.int .u8 x)) ∧ (w'.cell? ⟨gb, k, none⟩ = some (.int .u8 b))) (ds := [21]) #[false, false, false, false, false, false, false, false, false, false, false, false, false, false, false, false, false, false, false, false, false, false] (by kernel_rfl) rfl rfl ⟨c0, ck, cb⟩ (fun hHeld => ?_)
      refine pure_ (i := 0) (N := some 32) (v := ?_) (a' := ?_) #[true, false, false, false, false, false, false, false, false, false, false, false, false, false, false, false, false, false, false, false, false, false] rfl rfl (by kernel_rfl) (fun _ _ _ h => h) (Or.inl ⟨by rfl, ?_⟩) ?_ ?_
      rotate_left
      · intro w'
        go_simp
        with_reducible rfl
      rotate_left
      · simp only [Act.put, List.setIfInBounds_toArray, List.set_cons_zero, List.set_cons_succ, i64_w, i32_w]
        rfl
      refine pure_ (i := 1) (N := some 33) (v := ?_) (a' := ?_) #[true, true, false, false, false, false, false, false, false, false, false, false, false, false, false, false, false, false, false, false, false, false] rfl rfl (by kernel_rfl) (fun _ _ _ h => h) (Or.inl ⟨by rfl, ?_⟩) ?_ ?_
      rotate_left
      · intro w'
        go_simp
        with_reducible rfl
      rotate_left
      · simp only [Act.put, List.setIfInBounds_toArray, List.set_cons_zero, List.set_cons_succ, i64_w, i32_w]
        rfl
      refine pure_ (i := 2) (N := some 34) (v := ?_) (a' := ?_) #[true, true, true, false, false, false, false, false, false, false, false, false, false, false, false, false, false, false, false, false, false, false] rfl rfl (by kernel_rfl) (fun _ _ _ h => h) (Or.inl ⟨by rfl, ?_⟩) ?_ ?_
      rotate_left
      · intro w'
        go_simp
        with_reducible rfl
      rotate_left
      · simp only [Act.put, List.setIfInBounds_toArray, List.set_cons_zero, List.set_cons_succ, i64_w, i32_w]
        rfl
      refine pure_ (i := 3) (N := some 35) (v := ?_) (a' := ?_) #[true, true, true, true, false, false, false, false, false, false, false, false, false, false, false, false, false, false, false, false, false, false] rfl rfl (by kernel_rfl) (fun _ _ _ h => h) (Or.inl ⟨by rfl, ?_⟩) ?_ ?_
      rotate_left
      · intro w'
        go_simp
        with_reducible rfl
      rotate_left
      · simp only [Act.put, List.setIfInBounds_toArray, List.set_cons_zero, List.set_cons_succ, i64_w, i32_w]
        rfl
      refine pure_ (i := 4) (N := some 36) (v := ?_) (a' := ?_) #[true, true, true, true, true, false, false, false, false, false, false, false, false, false, false, false, false, false, false, false, false, false] rfl rfl (by kernel_rfl) (fun _ _ _ h => h) (Or.inl ⟨by rfl, ?_⟩) ?_ ?_
      rotate_left
      · intro w'
        go_simp
        with_reducible rfl
      rotate_left
      · simp only [Act.put, List.setIfInBounds_toArray, List.set_cons_zero, List.set_cons_succ, i64_w, i32_w]
        rfl
      refine pure_ (i := 5) (N := some 37) (v := ?_) (a' := ?_) #[true, true, true, true, true, true, false, false, false, false, false, false, false, false, false, false, false, false, false, false, false, false] rfl rfl (by kernel_rfl) (fun _ _ _ h => h) (Or.inl ⟨by rfl, ?_⟩) ?_ ?_
      rotate_left
      · intro w'
        go_simp
        with_reducible rfl
      rotate_left
      · simp only [Act.put, List.setIfInBounds_toArray, List.set_cons_zero, List.set_cons_succ, i64_w, i32_w]
        rfl
      refine pure_ (i := 6) (N := some 38) (v := ?_) (a' := ?_) #[true, true, true, true, true, true, true, false, false, false, false, false, false, false, false, false, false, false, false, false, false, false] rfl rfl (by kernel_rfl) (fun _ _ _ h => h) (Or.inl ⟨by rfl, ?_⟩) ?_ ?_
      rotate_left
      · intro w'
        go_simp
        with_reducible rfl
      rotate_left
      · simp only [Act.put, List.setIfInBounds_toArray, List.set_cons_zero, List.set_cons_succ, i64_w, i32_w]
        rfl
      refine take_ (i := 7) (N := some 39) (v := ?_) (a' := ?_) #[true, true, true, true, true, true, true, true, false, false, false, false, false, false, false, false, false, false, false, false, false, false] rfl rfl (by kernel_rfl) (fun _ _ _ h => h) (Or.inl ⟨by rfl, ?_⟩) hHeld ?_ ?_
      rotate_left
      · rintro w' ⟨s0, s1, s2⟩
        go_simp
        with_reducible rfl
      rotate_left
      · simp only [Act.put, List.setIfInBounds_toArray, List.set_cons_zero, List.set_cons_succ, i64_w, i32_w]
        rfl
      refine pure_ (i := 8) (N := some 40) (v := ?_) (a' := ?_) #[true, true, true, true, true, true, true, true, true, false, false, false, false, false, false, false, false, false, false, false, false, false] rfl rfl (by kernel_rfl) (fun _ _ _ h => h) (Or.inl ⟨by rfl, ?_⟩) ?_ ?_
      rotate_left
      · intro w'
        go_simp
        with_reducible rfl
      rotate_left
      · simp only [Act.put, List.setIfInBounds_toArray, List.set_cons_zero, List.set_cons_succ, i64_w, i32_w]
        rfl
      refine pure_ (i := 9) (N := some 41) (v := ?_) (a' := ?_) #[true, true, true, true, true, true, true, true, true, true, false, false, false, false, false, false, false, false, false, false, false, false] rfl rfl (by kernel_rfl) (fun _ _ _ h => h) (Or.inl ⟨by rfl, ?_⟩) ?_ ?_
      rotate_left
      · intro w'
        go_simp
        with_reducible rfl
      rotate_left
      · simp only [Act.put, List.setIfInBounds_toArray, List.set_cons_zero, List.set_cons_succ, i64_w, i32_w]
        rfl
      refine pure_ (i := 10) (N := some 42) (v := ?_) (a' := ?_) #[true, true, true, true, true, true, true, true, true, true, true, false, false, false, false, false, false, false, false, false, false, false] rfl rfl (by kernel_rfl) (fun _ _ _ h => h) (Or.inl ⟨by rfl, ?_⟩) ?_ ?_
      rotate_left
      · intro w'
        go_simp
        with_reducible rfl
      rotate_left
      · simp only [Act.put, List.setIfInBounds_toArray, List.set_cons_zero, List.set_cons_succ, i64_w, i32_w]
        rfl
      refine take_ (i := 11) (N := some 43) (v := ?_) (a' := ?_) #[true, true, true, true, true, true, true, true, true, true, true, true, false, false, false, false, false, false, false, false, false, false] rfl rfl (by kernel_rfl) (fun _ _ _ h => h) (Or.inl ⟨by rfl, ?_⟩) hHeld ?_ ?_
      rotate_left
      · rintro w' ⟨s0, s1, s2⟩
        go_simp
        with_reducible rfl
      rotate_left
      · simp only [Act.put, List.setIfInBounds_toArray, List.set_cons_zero, List.set_cons_succ, i64_w, i32_w]
        rfl
      refine pure_ (i := 12) (N := some 44) (v := ?_) (a' := ?_) #[true, true, true, true, true, true, true, true, true, true, true, true, true, false, false, false, false, false, false, false, false, false] rfl rfl (by kernel_rfl) (fun _ _ _ h => h) (Or.inl ⟨by rfl, ?_⟩) ?_ ?_
      rotate_left
      · intro w'
        go_simp
        with_reducible rfl
      rotate_left
      · simp only [Act.put, List.setIfInBounds_toArray, List.set_cons_zero, List.set_cons_succ, i64_w, i32_w]
        rfl
      refine pure_ (i := 13) (N := some 45) (v := ?_) (a' := ?_) #[true, true, true, true, true, true, true, true, true, true, true, true, true, true, false, false, false, false, false, false, false, false] rfl rfl (by kernel_rfl) (fun _ _ _ h => h) (Or.inl ⟨by rfl, ?_⟩) ?_ ?_
      rotate_left
      · intro w'
        go_simp
        with_reducible rfl
      rotate_left
      · simp only [Act.put, List.setIfInBounds_toArray, List.set_cons_zero, List.set_cons_succ, i64_w, i32_w]
        rfl
      refine take_ (i := 14) (N := some 46) (v := ?_) (a' := ?_) #[true, true, true, true, true, true, true, true, true, true, true, true, true, true, true, false, false, false, false, false, false, false] rfl rfl (by kernel_rfl) (fun _ _ _ h => h) (Or.inl ⟨by rfl, ?_⟩) hHeld ?_ ?_
      rotate_left
      · rintro w' ⟨s0, s1, s2⟩
        go_simp
        with_reducible rfl
      rotate_left
      · simp only [Act.put, List.setIfInBounds_toArray, List.set_cons_zero, List.set_cons_succ, i64_w, i32_w]
        rfl
      refine pure_ (i := 15) (N := some 47) (v := ?_) (a' := ?_) #[true, true, true, true, true, true, true, true, true, true, true, true, true, true, true, true, false, false, false, false, false, false] rfl rfl (by kernel_rfl) (fun _ _ _ h => h) (Or.inl ⟨by rfl, ?_⟩) ?_ ?_
      rotate_left
      · intro w'
        go_simp
        with_reducible rfl
      rotate_left
      · simp only [Act.put, List.setIfInBounds_toArray, List.set_cons_zero, List.set_cons_succ, i64_w, i32_w]
        rfl
      refine pure_ (i := 16) (N := some 48) (v := ?_) (a' := ?_) #[true, true, true, true, true, true, true, true, true, true, true, true, true, true, true, true, true, false, false, false, false, false] rfl rfl (by kernel_rfl) (fun _ _ _ h => h) (Or.inl ⟨by rfl, ?_⟩) ?_ ?_
      rotate_left
      · intro w'
        go_simp
        with_reducible rfl
      rotate_left
      · simp only [Act.put, List.setIfInBounds_toArray, List.set_cons_zero, List.set_cons_succ, i64_w, i32_w]
        rfl
      refine pure_ (i := 17) (N := some 49) (v := ?_) (a' := ?_) #[true, true, true, true, true, true, true, true, true, true, true, true, true, true, true, true, true, true, false, false, false, false] rfl rfl (by kernel_rfl) (fun _ _ _ h => h) (Or.inl ⟨by rfl, ?_⟩) ?_ ?_
      rotate_left
      · intro w'
        go_simp
        with_reducible rfl
      rotate_left
      · simp only [Act.put, List.setIfInBounds_toArray, List.set_cons_zero, List.set_cons_succ, i64_w, i32_w]
        rfl
      refine pure_ (i := 18) (N := some 50) (v := ?_) (a' := ?_) #[true, true, true, true, true, true, true, true, true, true, true, true, true, true, true, true, true, true, true, false, false, false] rfl rfl (by kernel_rfl) (fun _ _ _ h => h) (Or.inl ⟨by rfl, ?_⟩) ?_ ?_
      rotate_left
      · intro w'
        go_simp
        with_reducible rfl
      rotate_left
      · simp only [Act.put, List.setIfInBounds_toArray, List.set_cons_zero, List.set_cons_succ, i64_w, i32_w]
        rfl
      refine pure_ (i := 19) (N := some 51) (v := ?_) (a' := ?_) #[true, true, true, true, true, true, true, true, true, true, true, true, true, true, true, true, true, true, true, true, false, false] rfl rfl (by kernel_rfl) (fun _ _ _ h => h) (Or.inl ⟨by rfl, ?_⟩) ?_ ?_
      rotate_left
      · intro w'
        go_simp
        with_reducible rfl
      rotate_left
      · simp only [Act.put, List.setIfInBounds_toArray, List.set_cons_zero, List.set_cons_succ, i64_w, i32_w]
        rfl
      refine pure_ (i := 20) (N := some 52) (v := ?_) (a' := ?_) #[true, true, true, true, true, true, true, true, true, true, true, true, true, true, true, true, true, true, true, true, true, false] rfl rfl (by kernel_rfl) (fun _ _ _ h => h) (Or.inl ⟨by rfl, ?_⟩) ?_ ?_
      rotate_left
      · intro w'
        go_simp
        with_reducible rfl
      rotate_left
      · simp only [Act.put, List.setIfInBounds_toArray, List.set_cons_zero, List.set_cons_succ, i64_w, i32_w]
        rfl
      refine last_ (i := 21) (N := none) #[true, true, true, true, true, true, true, true, true, true, true, true, true, true, true, true, true, true, true, true, true, true] rfl rfl (by kernel_rfl) (by decide) (fun K hK => ?_)
      refine skip_ (w1 := wr.drew.setCell ⟨g, j, none⟩ (.int .u8 (byteAt (List.take (k + 1) bs) j))) (by rfl) rfl (exec_store (vx := .pointer (some ⟨g, j, none⟩)) (vy := .int .u8 (byteAt (List.take (k + 1) bs) j)) rfl (by rfl) (by rw [← HOR.out]; rfl) (by first | (go_simp; done) | (go_simp; rfl))) ?_
      refine hK.out _ _ ?_
      clear hK K
      refine done_ (by kernel_rfl) ?_
      have hfr : Fr (fun t => t == 5) w.heap.size wr (wr.drew.setCell ⟨g, j, none⟩ (.int .u8 (byteAt (List.take (k + 1) bs) j))) := ((Fr.refl wr).drew).setCell (g := g) (j := j) (e := 5) HIW.out.blk rfl HG.out _
      have hir2 := (HIW.out.move (w1 := wr.drew) rfl).set1 j (.int .u8 (byteAt (List.take (k + 1) bs) j))
      rw [← HSET.out] at hir2
      have HIR2 := Aside0.mk (Exists.intro _ hir2)
      have HBW2 := Aside0.mk (HBW.out.trans (hfr.below HBW.out.size))
      have HRW2 := Aside0.mk (HRW.out.fr hfr HP.out (fun q hq => by injection hq with hq; rw [← hq]; exact HGB.out))
      have HRO2 := Aside0.mk (HRO.out.move (hfr.block gb HRO.out.lt (.inl HGB.out)))
      clear hfr hir2 hHeld c0 ck cb kf
      generalize wr.drew.setCell ⟨g, j, none⟩ (.int .u8 (byteAt (List.take (k + 1) bs) j)) = W2 at HIR2 HBW2 HRW2 HRO2 ⊢
      go_wp2
      go_roundw
      case rel => exact ⟨k + 1, ⟨HLT.out⟩, rfl, HBW2, HRW2, HRO2, HIR2⟩
      case measure => exact rb_meas HLT.out
    · obtain rfl := rb_stop hlt HK.out
      obtain ⟨cu, hir⟩ := HIR.out
      rw [List.take_of_length_le (Nat.le_of_eq HL.out)] at hir
      have hpl : (pk bs).length = 4 := by rw [pk_length, HL.out]
      have hcv := run_convert_bytes_arg wr 39 5 Try.underlying39 Try.underlying5 g 0 4 4 (pk bs) hpl (fun i hi => by
        rw [Nat.zero_add, pk_getD]
        exact hir.cell (four_get hi)) 9 Try.underlying9
      clear hlt hir hpl
      go_wp2
      go_ret2
      exact ⟨rfl, HBW.out⟩
end Go.Proofs.Ytokapofgbcbajaa.Fns
