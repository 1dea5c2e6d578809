/- The writer of the reference: put. -/
import Derived.Test.YtokapofgbcbajaaPut
import Derived.Test.YtokapofgbcbajaaReadPure
namespace Go.Proofs.Ytokapofgbcbajaa.Fns
open Go.RowKit Go.Proofs.YtokapofgbcbajaaW.PrintWords Go.Proofs.YtokapofgbcbajaaW.PrintLast Go.Proofs.YtokapofgbcbajaaW.PrintMore
set_option linter.unusedVariables false
set_option linter.unusedSimpArgs false
def SV : TypeId → Bool := fun t => t == 120 || t == 5
/-- The reference's writer: one bit a cell. -/
structure RW2 (w : World) (base p : Nat) (v : Value) (bs : List Int) : Prop where
  blk : w.heap[p]? = some (.cells #[v, .int .i64 0] 120 (0, 0))
  hp : base ≤ p
  own : w.ownsRow base 5 1 v bs.length (u8s bs)
theorem RW2.later {w wx : World} {base p : Nat} {v : Value} {bs : List Int} (h : RW2 w base p v bs) (hb : Below w.heap.size w wx) : RW2 wx base p v bs := ⟨blk_later hb h.blk, h.hp, own_later hb h.own⟩
theorem RW2.c0 {w : World} {base p : Nat} {v : Value} {bs : List Int} (h : RW2 w base p v bs) : w.cell? ⟨p, 0, none⟩ = some v := (blk_cell h.blk 0).trans rfl
theorem RW2.c1 {w : World} {base p : Nat} {v : Value} {bs : List Int} (h : RW2 w base p v bs) : w.cell? ⟨p, 1, none⟩ = some (.int .i64 0) := (blk_cell h.blk 1).trans rfl
theorem RW2.ne {w : World} {base p : Nat} {v : Value} {bs : List Int} (h : RW2 w base p v bs) : some p ≠ v.ownBlock := own_ne_blk h.own h.blk (by decide)
theorem RW2.append {W w1 : World} {base p : Nat} {v v1 : Value} {bs : List Int} {x : Int} (h : RW2 W base p v bs)
    (ho : w1.ownsRow base 5 1 v1 (bs.length + 1) (u8s bs ++ [.int .u8 x])) (hg : W.grownBy w1 v.ownBlock) :
    RW2 (w1.setCell ⟨p, 0, none⟩ v1) base p v1 (bs ++ [x]) ∧ Fr SV base W (w1.setCell ⟨p, 0, none⟩ v1) := by
  have hp1 : w1.heap[p]? = some (.cells #[v, .int .i64 0] 120 (0, 0)) := blk_grown h.blk hg h.ne
  refine ⟨⟨blk_put hp1 0 v1 rfl, h.hp, ?_⟩, ?_⟩
  · rw [List.length_append, List.length_singleton, u8s, List.map_append]
    refine own_move ho (fun k hk => Below.heap_setCell w1 ⟨p, 0, none⟩ v1 k ?_)
    rintro rfl
    exact own_ne_blk ho hp1 (by decide) hk.symm
  · have f2 : Fr SV base W w1 := (Fr.refl _).grown hg (fun k hk => ⟨(h.own.lt k hk).1, by obtain ⟨c, hc⟩ := own_typed h.own k hk; exact ⟨c, 5, hc, rfl⟩⟩)
    exact f2.setCell hp1 rfl h.hp v1
theorem RW2.after {W w1 : World} {base p : Nat} {v : Value} {bs : List Int} (h : RW2 W base p v bs) (hg : W.grownBy w1 v.ownBlock) :
    w1.cell? ⟨p, 0, none⟩ = some v ∧ w1.frozen? ⟨p, 0, none⟩ = false := by
  have hp1 : w1.heap[p]? = some (.cells #[v, .int .i64 0] 120 (0, 0)) := blk_grown h.blk hg h.ne
  exact ⟨(blk_cell hp1 0).trans rfl, blk_frozen hp1 0⟩
theorem RW2.drew {w : World} {base p : Nat} {v : Value} {bs : List Int} (h : RW2 w base p v bs) : RW2 w.drew base p v bs := ⟨h.blk, h.hp, own_move h.own (fun _ _ => rfl)⟩
theorem and_one64 (n : Int) (m : Nat) (hn : 0 ≤ n ∧ n < 9223372036854775808) : IntKind.u8.wrap (Go.bits .and .i64 (n / 2 ^ m) 1) = n / 2 ^ m % 2 := by
  have h := bits_mask .i64 63 (by decide) wraps_i64r 1 (by decide) (n / 2 ^ m) (Int.ediv_nonneg hn.1 (Int.le_of_lt (Int.pow_pos (by decide)))) (Int.lt_of_le_of_lt (Int.ediv_le_self _ hn.1) hn.2)
  have h' : Go.bits .and .i64 (n / 2 ^ m) 1 = n / 2 ^ m % 2 := h
  rw [h', IntKind.wrap_u8]
  omega
theorem rput_facts (width k : Nat) (hk : k < width) (hw : width ≤ 63) : ∃ m : Nat, m = width - 1 - k ∧ (width : Int) - 1 - (k : Int) = (m : Int) ∧ m ≤ 62 ∧ decide (0 ≤ (width : Int) - 1 - (k : Int)) = true ∧ m ≤ 64 := by
  exact ⟨width - 1 - k, rfl, by omega, by omega, decide_eq_true (by omega), by omega⟩
theorem rput_wrap {m : Nat} (h : m ≤ 62) : wrap64 ((m : Int) - 1) = (m : Int) - 1 := wrap_in (by omega)
theorem rput_next {width k m : Nat} (h : (width : Int) - 1 - (k : Int) = (m : Int)) : (m : Int) - 1 = (width : Int) - 1 - ((k + 1 : Nat) : Int) := by omega
theorem rput_meas {width k m : Nat} (h : (width : Int) - 1 - (k : Int) = (m : Int)) : ((m : Int) - 1 + 1).toNat < ((width : Int) - 1 - (k : Int) + 1).toNat := by omega
theorem rput_len (bs : List Int) (width : Nat) (n : Int) (k : Nat) (bk : List Int) (hbk : bk = bs ++ (bitsOf width n).take k) (hl : bs.length ≤ 1000) (hk : k ≤ width) (hw : width ≤ 63) : (bk.length + 1) * 1 ≤ 140737488355328 := by
  rw [hbk, List.length_append, List.length_take, bitsOf_length]; omega
set_option maxRecDepth 100000 in
set_option maxHeartbeats 2000000 in
theorem rput_calls (w : World) (base p width : Nat) (n : Int) (v : Value) (bs : List Int) (hbw : base ≤ w.heap.size) (hB : RW2 w base p v bs) (hw : width ≤ 63) (hn : 0 ≤ n ∧ n < 9223372036854775808) (hl : bs.length ≤ 1000) :
    Calls Try.prog 68 #[.pointer (some ⟨p, 0, none⟩), .int .i64 (width : Int), .int .i64 n] w fun e w' => e = .returned (.tuple #[]) ∧ (∃ v', RW2 w' base p v' (bs ++ bitsOf width n)) ∧ Fr SV base w w' := by
  have hw1 : wrap64 ((width : Int) - 1) = (width : Int) - 1 := wrap_in (by omega)
  have HB := Aside0.mk hB
  have HN := Aside0.mk hn
  have HW := Aside0.mk hw
  have HL := Aside0.mk hl
  have HBW := Aside0.mk hbw
  clear hB hn hw hl hbw
  go_enter Try.func68, Try.ntmps68
  go_wp2
  (try rw [hw1])
  clear hw1
  go_loopw [6] (fun t wr => ∃ k : Nat, Aside0 (k ≤ width) ∧ t = .int .i64 ((width : Int) - 1 - k) ∧ Aside0 (∃ v', RW2 wr base p v' (bs ++ (bitsOf width n).take k)) ∧ Aside0 (Fr SV base w wr)) (fun t _ => (intOf t + 1).toNat)
  case atStart => exact ⟨0, ⟨Nat.zero_le _⟩, by go_num, ⟨v, by simpa using HB.out⟩, ⟨Fr.refl _⟩⟩
  case round =>
    obtain ⟨k, HK, rfl, HV, HF⟩ := hrel
    by_cases hlt : k < width
    · obtain ⟨m, hm, hmi, hm62, hge, hm64⟩ := rput_facts width k hlt HW.out
      obtain ⟨v1, hv1⟩ := HV.out
      generalize hbk : bs ++ (bitsOf width n).take k = bk at hv1
      have hlen := rput_len bs width n k bk hbk.symm HL.out (Nat.le_of_lt hlt) HW.out
      have hbase : base ≤ wr.heap.size := Nat.le_trans HBW.out HF.out.size
      have c0 := hv1.c0
      have HV1 := Aside0.mk hv1
      have HBK := Aside0.mk hbk
      have HAO := Aside0.mk (and_one64 n m HN.out)
      have HMM := Aside0.mk hm
      have HBS := Aside0.mk hbase
      have HLN := Aside0.mk hlen
      clear hv1 hbk HV hm hbase hlen
      go_upto_region 3 with (fail)
      refine start_ (n := 15) (S := fun w' => (w'.cell? ⟨p, 0, none⟩ = some v1)) (ds := [14]) #[false, false, false, false, false, false, false, false, false, false, false, false, false, false, false] (by kernel_rfl) rfl rfl c0 (fun hHeld => ?_)
      refine pure_ (i := 0) (N := some 13) (v := ?_) (a' := ?_) #[true, false, false, false, false, false, false, false, false, false, false, false, false, false, false] rfl rfl (by kernel_rfl) (fun _ _ _ h => h) (Or.inl ⟨by rfl, ?_⟩) ?_ ?_
      rotate_left
      · intro w'
        go_simp
        with_reducible rfl
      rotate_left
      · simp only [Act.put, List.setIfInBounds_toArray, List.set_cons_zero, List.set_cons_succ, i64_w, i32_w]
        rfl
      refine pure_ (i := 1) (N := some 14) (v := ?_) (a' := ?_) #[true, true, false, false, false, false, false, false, false, false, false, false, false, false, false] rfl rfl (by kernel_rfl) (fun _ _ _ h => h) (Or.inl ⟨by rfl, ?_⟩) ?_ ?_
      rotate_left
      · intro w'
        go_simp
        with_reducible rfl
      rotate_left
      · simp only [Act.put, List.setIfInBounds_toArray, List.set_cons_zero, List.set_cons_succ, i64_w, i32_w]
        rfl
      refine pure_ (i := 2) (N := some 15) (v := ?_) (a' := ?_) #[true, true, true, false, false, false, false, false, false, false, false, false, false, false, false] rfl rfl (by kernel_rfl) (fun _ _ _ h => h) (Or.inl ⟨by rfl, ?_⟩) ?_ ?_
      rotate_left
      · intro w'
        go_simp
        with_reducible rfl
      rotate_left
      · simp only [Act.put, List.setIfInBounds_toArray, List.set_cons_zero, List.set_cons_succ, i64_w, i32_w]
        rfl
      refine pure_ (i := 3) (N := some 16) (v := ?_) (a' := ?_) #[true, true, true, true, false, false, false, false, false, false, false, false, false, false, false] rfl rfl (by kernel_rfl) (fun _ _ _ h => h) (Or.inl ⟨by rfl, ?_⟩) ?_ ?_
      rotate_left
      · intro w'
        go_simp
        with_reducible rfl
      rotate_left
      · simp only [Act.put, List.setIfInBounds_toArray, List.set_cons_zero, List.set_cons_succ, i64_w, i32_w]
        rfl
      refine take_ (i := 4) (N := some 17) (v := ?_) (a' := ?_) #[true, true, true, true, true, false, false, false, false, false, false, false, false, false, false] rfl rfl (by kernel_rfl) (fun _ _ _ h => h) (Or.inl ⟨by rfl, ?_⟩) hHeld ?_ ?_
      rotate_left
      · rintro w' s0
        go_simp
        with_reducible rfl
      rotate_left
      · simp only [Act.put, List.setIfInBounds_toArray, List.set_cons_zero, List.set_cons_succ, i64_w, i32_w]
        rfl
      refine pure_ (i := 5) (N := some 18) (v := ?_) (a' := ?_) #[true, true, true, true, true, true, false, false, false, false, false, false, false, false, false] rfl rfl (by kernel_rfl) (fun _ _ _ h => h) (Or.inl ⟨by rfl, ?_⟩) ?_ ?_
      rotate_left
      · intro w'
        go_simp
        with_reducible rfl
      rotate_left
      · simp only [Act.put, List.setIfInBounds_toArray, List.set_cons_zero, List.set_cons_succ, i64_w, i32_w]
        rfl
      refine pure_ (i := 6) (N := some 19) (v := ?_) (a' := ?_) #[true, true, true, true, true, true, true, false, false, false, false, false, false, false, false] rfl rfl (by kernel_rfl) (fun _ _ _ h => h) (Or.inl ⟨by rfl, ?_⟩) ?_ ?_
      rotate_left
      · intro w'
        go_simp
        with_reducible rfl
      rotate_left
      · simp only [Act.put, List.setIfInBounds_toArray, List.set_cons_zero, List.set_cons_succ, i64_w, i32_w]
        rfl
      refine pure_ (i := 7) (N := some 20) (v := ?_) (a' := ?_) #[true, true, true, true, true, true, true, true, false, false, false, false, false, false, false] rfl rfl (by kernel_rfl) (fun _ _ _ h => h) (Or.inl ⟨by rfl, ?_⟩) ?_ ?_
      rotate_left
      · intro w'
        go_simp
        with_reducible rfl
      rotate_left
      · simp only [Act.put, List.setIfInBounds_toArray, List.set_cons_zero, List.set_cons_succ, i64_w, i32_w]
        rfl
      refine pure_ (i := 8) (N := some 21) (v := ?_) (a' := ?_) #[true, true, true, true, true, true, true, true, true, false, false, false, false, false, false] rfl rfl (by kernel_rfl) (fun _ _ _ h => h) (Or.inl ⟨by rfl, ?_⟩) ?_ ?_
      rotate_left
      · intro w'
        go_simp
        with_reducible rfl
      rotate_left
      · simp only [Act.put, List.setIfInBounds_toArray, List.set_cons_zero, List.set_cons_succ, i64_w, i32_w]
        rfl
      refine pure_ (i := 9) (N := some 22) (v := ?_) (a' := ?_) #[true, true, true, true, true, true, true, true, true, true, false, false, false, false, false] rfl rfl (by kernel_rfl) (fun _ _ _ h => h) (Or.inl ⟨by rfl, ?_⟩) ?_ ?_
      rotate_left
      · intro w'
        go_simp
        with_reducible rfl
      rotate_left
      · simp only [Act.put, List.setIfInBounds_toArray, List.set_cons_zero, List.set_cons_succ, i64_w, i32_w]
        rfl
      refine one_ (i := 10) (N := some 23) #[true, true, true, true, true, true, true, true, true, true, true, false, false, false, false] rfl rfl (by kernel_rfl) (by decide) (fun K hK => ?_)
      refine value_ (w1 := wr.drew.alloc (.cells #[.int .u8 (n / 2 ^ m % 2)] 5)) (v := .slice (some ⟨wr.drew.heap.size, 0, none⟩) 1 1) (by rfl) rfl (by rw [← HAO.out]; first | (go_simp; done) | (go_simp; rfl)) ?_
      refine hK.out _ _ (cell_later (below_new _ _) hHeld) (fun hHeld => ?_)
      clear hK K
      refine norm_ (a' := ?_) ?_ ?_
      rotate_left
      · simp only [Act.put, List.setIfInBounds_toArray, List.set_cons_zero, List.set_cons_succ, i64_w, i32_w]
        rfl
      refine one_ (i := 11) (N := some 24) #[true, true, true, true, true, true, true, true, true, true, true, true, false, false, false] rfl rfl (by kernel_rfl) (by decide) (fun K hK => ?_)
      refine step_append_cells (W := wr.drew) base (by rfl) (.tmp 17) (.tmp 23) 39 5 (.int .u8 0) 1 1 rfl Try.underlying39 info5b rfl (by decide) (by decide) v1 bk.length (u8s bk) [.int .u8 (n / 2 ^ m % 2)] (by rfl) (by rfl) rfl (by simp [Value.oneCell']) HV1.out.drew.own (Below.refl base wr.drew) HBS.out HLN.out ?_
      intro v2 w5 ho5 hb5 hg5 hl5
      obtain ⟨A2, cc2, rfl⟩ := own_slice ho5
      obtain ⟨k0, kf⟩ := (HV1.out.drew).after hg5
      refine hK.out _ _ k0 (fun hHeld => ?_)
      clear hK K
      refine norm_ (a' := ?_) ?_ ?_
      rotate_left
      · simp only [Act.put, List.setIfInBounds_toArray, List.set_cons_zero, List.set_cons_succ, i64_w, i32_w]
        rfl
      refine pure_ (i := 12) (N := some 25) (v := ?_) (a' := ?_) #[true, true, true, true, true, true, true, true, true, true, true, true, true, false, false] rfl rfl (by kernel_rfl) (fun _ _ _ h => h) (Or.inl ⟨by rfl, ?_⟩) ?_ ?_
      rotate_left
      · intro w'
        go_simp
        with_reducible rfl
      rotate_left
      · simp only [Act.put, List.setIfInBounds_toArray, List.set_cons_zero, List.set_cons_succ, i64_w, i32_w]
        rfl
      refine pure_ (i := 13) (N := some 26) (v := ?_) (a' := ?_) #[true, true, true, true, true, true, true, true, true, true, true, true, true, true, false] rfl rfl (by kernel_rfl) (fun _ _ _ h => h) (Or.inl ⟨by rfl, ?_⟩) ?_ ?_
      rotate_left
      · intro w'
        go_simp
        with_reducible rfl
      rotate_left
      · simp only [Act.put, List.setIfInBounds_toArray, List.set_cons_zero, List.set_cons_succ, i64_w, i32_w]
        rfl
      refine last_ (i := 14) (N := none) #[true, true, true, true, true, true, true, true, true, true, true, true, true, true, true] rfl rfl (by kernel_rfl) (by decide) (fun K hK => ?_)
      refine skip_ (w1 := w5.setCell ⟨p, 0, none⟩ (.slice A2 (bk.length + 1) cc2)) (by rfl) rfl (exec_store (vx := .pointer (some ⟨p, 0, none⟩)) (vy := .slice A2 (bk.length + 1) cc2) rfl (by rfl) (by rfl) (by first | (go_simp; done) | (go_simp; rfl))) ?_
      refine hK.out _ _ ?_
      clear hK K
      refine done_ (by kernel_rfl) ?_
      have hap := (HV1.out.drew).append ho5 hg5
      have HAP := Aside0.mk hap.1
      have HFA := Aside0.mk (HF.out.trans (((Fr.refl wr).drew).trans hap.2))
      have HNX := Aside0.mk (put_next width k)
      have HME := Aside0.mk (put_meas width k hlt)
      clear hap ho5 hg5 hb5 hl5 k0 kf c0 hHeld
      generalize w5.setCell ⟨p, 0, none⟩ (.slice A2 (bk.length + 1) cc2) = W2 at HAP HFA ⊢
      have HLT := Aside0.mk hlt
      have hnx : wrap64 ((m : Int) - 1) = (m : Int) - 1 := rput_wrap hm62
      go_wp2
      go_roundw
      case rel =>
        refine ⟨k + 1, ⟨HLT.out⟩, congrArg (Value.int .i64) (rput_next hmi), ⟨⟨.slice A2 (bk.length + 1) cc2, ?_⟩⟩, HFA⟩
        rw [bitsOf_take width n k HLT.out, ← List.append_assoc, HBK.out, ← HMM.out]
        exact HAP.out
      case measure => exact rput_meas hmi
    · have HKW := Aside0.mk (Nat.le_antisymm HK.out (Nat.le_of_not_lt hlt))
      have hge : decide (0 ≤ (width : Int) - 1 - (k : Int)) = false := put_stop width k hlt
      have hge2 : decide ((k : Int) ≤ (width : Int) - 1) = false := put_stop2 width k hlt
      clear hlt
      go_wp2
      (first | go_end0 | ((try simp only [Exit.inBlock, Exit.then]); refine bodyPost_ret (results_none rfl _ _ _) rfl ?_))
      have h1 := HV.out
      rw [HKW.out, List.take_of_length_le (by rw [bitsOf_length]; exact Nat.le_refl _)] at h1
      exact ⟨rfl, h1, HF.out⟩
end Go.Proofs.Ytokapofgbcbajaa.Fns
