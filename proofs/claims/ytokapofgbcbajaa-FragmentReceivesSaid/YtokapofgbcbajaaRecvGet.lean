/- get and belongs of package fragment: their walks. -/
import Derived.Test.YtokapofgbcbajaaRecvDel
import Derived.Test.YtokapofgbcbajaaEncode
namespace Go.Proofs.Ytokapofgbcbajaa.Fns
open Go.RowKit Go.Maps Go.Proofs.YtokapofgbcbajaaW.PrintWords Go.Proofs.YtokapofgbcbajaaW.PrintLast Go.Proofs.YtokapofgbcbajaaW.PrintMore
set_option linter.unusedVariables false
set_option linter.unusedSimpArgs false
theorem drewN_below {w wx : World} (h : Below w.heap.size w wx) (n : Nat) : Below w.heap.size w (wx.drewN n) := pw_below_drewN h n
theorem part_calls (t i c s : Int) (d : ByteArray) (hd : d.size ≤ 140737488351232) (w : World) :
    Calls Try.prog 42 #[.agg #[.int .i64 t, .int .i64 i, .int .i64 c, .int .i64 s, .string d]] w fun e w' => e = .returned (.int .i64 (lenF t i c s d.size)) ∧ Below w.heap.size w w' :=
  fragment_part.calls 2 t i c s d _ w (part_eq 0 t i c s d hd)
set_option maxRecDepth 100000 in
set_option maxHeartbeats 2000000 in
theorem get_found {w : World} {base p b : Nat} {hold time : Int} {live : List Nat} {es : List Ent} (h : RW w base p b hold time live es) {e : Ent} (he : e ∈ es) (i c s : Int) (d : ByteArray) :
    Calls Try.prog 46 #[.pointer (some ⟨p, 0, none⟩), .agg #[.int .i64 e.tag, .int .i64 i, .int .i64 c, .int .i64 s, .string d]] w fun en w' => en = .returned (.pointer (some ⟨e.blk, 0, none⟩)) ∧ Below w.heap.size w w' := by
  have hu79 := Try.underlying79
  have hu23 := Try.underlying23
  have HL := Aside0.mk (show ∀ W, RW W base p b hold time live es → (Instr.lookup 77 (.map (some b)) (.int .i64 e.tag) false).run Try.prog W = .ok (.pointer (some ⟨e.blk, 0, none⟩)) W from fun W hW => by
    rcases hW.look false (wf_small (h.small e he)) with ⟨x, hx, hxt, hr⟩ | ⟨hn, _⟩
    · have hp := h.rise
      have hxe : x = e := by
        rcases List.mem_iff_getElem.1 hx with ⟨j, hj, rfl⟩
        rcases List.mem_iff_getElem.1 he with ⟨k, hk, rfl⟩
        rcases Nat.lt_trichotomy j k with hjk | hjk | hjk
        · have := List.pairwise_iff_getElem.1 hp j k hj hk hjk; omega
        · subst hjk; rfl
        · have := List.pairwise_iff_getElem.1 hp k j hk hj hjk; omega
      rw [hr, hxe]; rfl
    · exact absurd rfl (hn e he))
  have hb := below_new w (.cells #[.int .i64 e.tag, .int .i64 i, .int .i64 c, .int .i64 s, .string d] 23)
  have HB := Aside0.mk hb
  have hW := h.later hb
  have hx := Box.new w e.tag i c s d
  have HW := Aside0.mk hW
  obtain ⟨a0, _, _, _, _⟩ := hx.cells
  have c2 := hW.c2
  have hl0 := fun n => HL.out _ (hW.later (drewN_below (Below.refl _ _) n))
  have hl1 := HL.out _ hW
  clear hb hW hx h he
  go_enter Try.func46, Try.ntmps46
  go_wp2
  go_quiet (fail)
  go_wp2
  go_ret
  exact ⟨rfl, drewN_below HB.out _⟩
theorem exec_mapUpdate {P : Program} {w w1 : World} {a : Act} {o : Oper} {t : TypeId} {m k x : Operand} {vm vk vx : Value} (ho : o.op = .mapUpdate t m k x) (hm : a.eval m = vm) (hk : a.eval k = vk) (hx : a.eval x = vx)
    (h : (Instr.mapUpdate t vm vk vx).run P w = .ok () w1) : (execOp a.eval o).run P w = .ok .skip w1 := by
  unfold execOp
  simp [ho, hm, hk, hx, h]
theorem look_none {base p b : Nat} {hold time : Int} {live : List Nat} {es : List Ent} {t : Int} (ht : (Lit.int .i64 t).wf = true) (hn : ∀ e ∈ es, e.tag ≠ t) (W : World) (hW : RW W base p b hold time live es) :
    (Instr.lookup 77 (.map (some b)) (.int .i64 t) false).run Try.prog W = .ok (.pointer none) W := by
  rcases hW.look false ht with ⟨x, hx, hxt, _⟩ | ⟨_, hr⟩
  · exact absurd hxt (hn x hx)
  · exact hr
set_option maxRecDepth 100000 in
set_option maxHeartbeats 2000000 in
theorem get_full {w : World} {base p b : Nat} {hold time : Int} {live : List Nat} {es : List Ent} (h : RW w base p b hold time live es) (t i c s : Int) (d : ByteArray) (ht : 0 ≤ t ∧ t ≤ 255) (hn : ∀ e ∈ es, e.tag ≠ t) (h8 : 8 ≤ es.length) :
    Calls Try.prog 46 #[.pointer (some ⟨p, 0, none⟩), .agg #[.int .i64 t, .int .i64 i, .int .i64 c, .int .i64 s, .string d]] w fun en w' => en = .returned (.pointer none) ∧ Below w.heap.size w w' := by
  have hu79 := Try.underlying79
  have hu23 := Try.underlying23
  have hb := below_new w (.cells #[.int .i64 t, .int .i64 i, .int .i64 c, .int .i64 s, .string d] 23)
  have HB := Aside0.mk hb
  have hW := h.later hb
  have hx := Box.new w t i c s d
  obtain ⟨a0, _, _, _, _⟩ := hx.cells
  have c2 := hW.c2
  have hl0 := fun n => look_none (wf_small ht) hn _ (hW.later (drewN_below (Below.refl _ _) n))
  have hl1 := look_none (wf_small ht) hn _ hW
  have hz0 := fun n ty => (hW.later (drewN_below (Below.refl _ _) n)).len ty
  have hz1 := fun ty => hW.len ty
  have q1 : decide ((es.length : Int) < 8) = false := decide_eq_false (by omega)
  have q2 : decide (es.length < 8) = false := decide_eq_false (by omega)
  clear hb hW hx h hn ht h8
  go_enter Try.func46, Try.ntmps46
  go_wp2
  go_quiet (fail)
  go_wp2
  go_ret
  exact ⟨rfl, drewN_below HB.out _⟩
def SR : TypeId → Bool := fun t => t == 79 || t == 84
def newD (t i c s : Int) (d : ByteArray) : Dg := ⟨c, s, lenF t i c s d.size, 0, 0, List.replicate 32 ⟨#[]⟩⟩
set_option maxRecDepth 100000 in
set_option maxHeartbeats 4000000 in
theorem get_new {w : World} {base p b : Nat} {hold time : Int} {live : List Nat} {es : List Ent} (hbw : base ≤ w.heap.size) (h : RW w base p b hold time live es) (t i c s : Int) (d : ByteArray) (hd : d.size ≤ 140737488351232) (ht : 0 ≤ t ∧ t ≤ 255) (hn : ∀ e ∈ es, e.tag ≠ t) (h8 : es.length < 8) :
    Calls Try.prog 46 #[.pointer (some ⟨p, 0, none⟩), .agg #[.int .i64 t, .int .i64 i, .int .i64 c, .int .i64 s, .string d]] w fun en w' => ∃ B, en = .returned (.pointer (some ⟨B, 0, none⟩)) ∧ RW w' base p b hold time (B :: live) (insEnt ⟨t, B, newD t i c s d⟩ es) ∧ FrB SR base b w w' := by
  have hu79 := Try.underlying79
  have hu84 := Try.underlying84
  have hu23 := Try.underlying23
  have hb := below_new w (.cells #[.int .i64 t, .int .i64 i, .int .i64 c, .int .i64 s, .string d] 23)
  have HB := Aside0.mk hb
  have hW := h.later hb
  have HW := Aside0.mk hW
  have hx := Box.new w t i c s d
  have HX := Aside0.mk hx
  obtain ⟨a0, _, _, _, _⟩ := hx.cells
  have c2 := hW.c2
  have hl0 := fun n => look_none (wf_small ht) hn _ (hW.later (drewN_below (Below.refl _ _) n))
  have hl1 := look_none (wf_small ht) hn _ hW
  have hz0 := fun n ty => (hW.later (drewN_below (Below.refl _ _) n)).len ty
  have hz1 := fun ty => hW.len ty
  have q1 : decide ((es.length : Int) < 8) = true := decide_eq_true (by omega)
  have q2 : decide (es.length < 8) = true := decide_eq_true h8
  have HN := Aside0.mk hn
  have HT := Aside0.mk ht
  have H8 := Aside0.mk h8
  have HP := Aside0.mk (fun w => part_calls t i c s d hd w)
  have HBW := Aside0.mk hbw
  clear hb hW hx h hn ht h8 hd hbw
  go_enter Try.func46, Try.ntmps46
  go_wp2
  go_quiet (fail)
  go_upto_region 3 with (fail)
  refine wp_world (F := fun W => RW W base p b hold time live es ∧ Box W w.heap.size t i c s d ∧ Below w.heap.size w W) ⟨HW.out.later (drewN_below (Below.refl _ _) _), HX.out.later (drewN_below (Below.refl _ _) _), drewN_below HB.out _⟩ (fun W1 hF => ?_)
  obtain ⟨HW1, HX1, HB1⟩ : Aside0 (RW W1 base p b hold time live es) ∧ Aside0 (Box W1 w.heap.size t i c s d) ∧ Aside0 (Below w.heap.size w W1) := ⟨⟨hF.1⟩, ⟨hF.2.1⟩, ⟨hF.2.2⟩⟩
  clear hF a0 c2 hl0 hl1 hz0 hz1 q1 q2 HW HX HB
  generalize hE : w.heap.size = E at HX1 ⊢
  have HE := Aside0.mk hE
  clear hE
  obtain ⟨a0, a1, a2, a3, a4⟩ := HX1.out.cells
  refine start_ (n := 9) (S := fun w' => (w'.cell? ⟨E, 0, none⟩ = some (.int .i64 t)) ∧ (w'.cell? ⟨E, 1, none⟩ = some (.int .i64 i)) ∧ (w'.cell? ⟨E, 2, none⟩ = some (.int .i64 c)) ∧ (w'.cell? ⟨E, 3, none⟩ = some (.int .i64 s)) ∧ (w'.cell? ⟨E, 4, none⟩ = some (.string d))) (ds := [99]) #[false, false, false, false, false, false, false, false, false] (by kernel_rfl) rfl rfl ⟨a0, a1, a2, a3, a4⟩ (fun hHeld => ?_)
  refine pure_ (i := 0) (N := some 23) (v := ?_) (a' := ?_) #[true, false, false, false, false, false, false, false, false] rfl rfl (by kernel_rfl) (fun _ _ _ h => h) (Or.inl ⟨by rfl, ?_⟩) ?_ ?_
  rotate_left
  · intro w'
    go_simp
    with_reducible rfl
  rotate_left
  · simp only [Act.put, List.setIfInBounds_toArray, List.set_cons_zero, List.set_cons_succ, i64_w, i32_w]
    rfl
  refine take_ (i := 1) (N := some 24) (v := ?_) (a' := ?_) #[true, true, false, false, false, false, false, false, false] rfl rfl (by kernel_rfl) (fun _ _ _ h => h) (Or.inl ⟨by rfl, ?_⟩) hHeld ?_ ?_
  rotate_left
  · rintro w' ⟨s0, s1, s2, s3, s4⟩
    go_simp
    with_reducible rfl
  rotate_left
  · simp only [Act.put, List.setIfInBounds_toArray, List.set_cons_zero, List.set_cons_succ, i64_w, i32_w]
    rfl
  refine pure_ (i := 2) (N := some 25) (v := ?_) (a' := ?_) #[true, true, true, false, false, false, false, false, false] rfl rfl (by kernel_rfl) (fun _ _ _ h => h) (Or.inl ⟨by rfl, ?_⟩) ?_ ?_
  rotate_left
  · intro w'
    go_simp
    with_reducible rfl
  rotate_left
  · simp only [Act.put, List.setIfInBounds_toArray, List.set_cons_zero, List.set_cons_succ, i64_w, i32_w]
    rfl
  refine take_ (i := 3) (N := some 26) (v := ?_) (a' := ?_) #[true, true, true, true, false, false, false, false, false] rfl rfl (by kernel_rfl) (fun _ _ _ h => h) (Or.inl ⟨by rfl, ?_⟩) hHeld ?_ ?_
  rotate_left
  · rintro w' ⟨s0, s1, s2, s3, s4⟩
    go_simp
    with_reducible rfl
  rotate_left
  · simp only [Act.put, List.setIfInBounds_toArray, List.set_cons_zero, List.set_cons_succ, i64_w, i32_w]
    rfl
  refine take_ (i := 4) (N := some 27) (v := ?_) (a' := ?_) #[true, true, true, true, true, false, false, false, false] rfl rfl (by kernel_rfl) (fun _ _ _ h => h) (Or.inl ⟨by rfl, ?_⟩) hHeld ?_ ?_
  rotate_left
  · rintro w' ⟨s0, s1, s2, s3, s4⟩
    go_simp
    with_reducible rfl
  rotate_left
  · simp only [Act.put, List.setIfInBounds_toArray, List.set_cons_zero, List.set_cons_succ, i64_w, i32_w]
    rfl
  refine one_ (i := 5) (N := some 28) #[true, true, true, true, true, true, false, false, false] rfl rfl (by kernel_rfl) (by decide) (fun K hK => ?_)
  refine goes_ Try.func42 (by kernel_rfl) rfl #[.agg #[.int .i64 t, .int .i64 i, .int .i64 c, .int .i64 s, .string d]] (by rfl) rfl rfl (by (try simp only [List.map_toArray, List.map_cons, List.map_nil]); first | done | rfl) ?_
  with_reducible refine (HP.out _).mono ?_
  rintro e v1 ⟨rfl, hv1⟩
  refine ⟨_, rfl, ?_⟩
  refine hK.out _ _ ⟨cell_later hv1 hHeld.1, cell_later hv1 hHeld.2.1, cell_later hv1 hHeld.2.2.1, cell_later hv1 hHeld.2.2.2.1, cell_later hv1 hHeld.2.2.2.2⟩ (fun hHeld => ?_)
  clear hK K
  refine norm_ (a' := ?_) ?_ ?_
  rotate_left
  · show Act.put _ (some 28) _ = _
    simp only [Act.put, List.setIfInBounds_toArray, List.set_cons_zero, List.set_cons_succ, i64_w, i32_w]
    rfl
  refine pure_ (i := 6) (N := some 29) (v := ?_) (a' := ?_) #[true, true, true, true, true, true, true, false, false] rfl rfl (by kernel_rfl) (fun _ _ _ h => h) (Or.inl ⟨by rfl, ?_⟩) ?_ ?_
  rotate_left
  · intro w'
    go_simp
    with_reducible rfl
  rotate_left
  · simp only [Act.put, List.setIfInBounds_toArray, List.set_cons_zero, List.set_cons_succ, i64_w, i32_w]
    rfl
  refine one_ (i := 7) (N := some 30) #[true, true, true, true, true, true, true, true, false] rfl rfl (by kernel_rfl) (by decide) (fun K hK => ?_)
  refine value_ (w1 := v1.alloc (.cells (dgL (newD t i c s d)).toArray 84)) (v := .pointer (some ⟨v1.heap.size, 0, none⟩)) (by rfl) rfl (by first | (go_simp; done) | (go_simp; rfl)) ?_
  have hb5 : Below v1.heap.size v1 (v1.alloc (.cells (dgL (newD t i c s d)).toArray 84)) := below_new _ _
  refine hK.out _ _ ⟨cell_later hb5 hHeld.1, cell_later hb5 hHeld.2.1, cell_later hb5 hHeld.2.2.1, cell_later hb5 hHeld.2.2.2.1, cell_later hb5 hHeld.2.2.2.2⟩ (fun hHeld => ?_)
  clear hK K
  refine norm_ (a' := ?_) ?_ ?_
  rotate_left
  · simp only [Act.put, List.setIfInBounds_toArray, List.set_cons_zero, List.set_cons_succ, i64_w, i32_w]
    rfl
  refine pure_ (i := 8) (N := some 5) (v := ?_) (a' := ?_) #[true, true, true, true, true, true, true, true, true] rfl rfl (by kernel_rfl) (fun _ _ _ h => h) (Or.inl ⟨by rfl, ?_⟩) ?_ ?_
  rotate_left
  · intro w'
    go_simp
    with_reducible rfl
  rotate_left
  · simp only [Act.put, List.setIfInBounds_toArray, List.set_cons_zero, List.set_cons_succ, i64_w, i32_w]
    rfl
  refine done_ (by kernel_rfl) ?_
  go_upto_region 4 with (fail)
  have hb12 : Below W1.heap.size W1 (v1.alloc (.cells (dgL (newD t i c s d)).toArray 84)) := below_tr (show Below W1.heap.size W1 W1.drew from (Below.refl _ _).drew) (below_tr hv1 (below_new _ _))
  have hsz : W1.heap.size ≤ v1.heap.size := hv1.size
  have hdg : DgAt (v1.alloc (.cells (dgL (newD t i c s d)).toArray 84)) v1.heap.size (newD t i c s d) := ⟨heap_alloc_new v1 _, by simp [newD]⟩
  have hnl : v1.heap.size ∉ live := fun hB => by
    obtain ⟨_, d0, h0⟩ := HW1.out.lives _ hB
    have := (Array.getElem?_eq_some_iff.1 h0.1).1
    omega
  have hbB : base ≤ v1.heap.size := Nat.le_trans HBW.out (Nat.le_trans HB1.out.size hsz)
  refine wp_world (F := fun W => RW W base p b hold time live es ∧ Box W E t i c s d ∧ Below w.heap.size w W ∧ DgAt W v1.heap.size (newD t i c s d)) ⟨HW1.out.later hb12, HX1.out.later hb12, HB1.out.trans (hb12.mono HB1.out.size), hdg⟩ (fun W2 hF => ?_)
  generalize v1.heap.size = B at hF hnl hbB ⊢
  obtain ⟨HW2, HX2, HB2, HD2⟩ : Aside0 (RW W2 base p b hold time live es) ∧ Aside0 (Box W2 E t i c s d) ∧ Aside0 (Below w.heap.size w W2) ∧ Aside0 (DgAt W2 B (newD t i c s d)) := ⟨⟨hF.1⟩, ⟨hF.2.1⟩, ⟨hF.2.2.1⟩, ⟨hF.2.2.2⟩⟩
  obtain ⟨w3, hrun, hw3, hg3⟩ := (HW2.out.drew).insert HT.out HN.out (show DgAt W2.drew B (newD t i c s d) from HD2.out) hbB hnl (by have := H8.out; omega)
  have HR3 := Aside0.mk hrun
  have HW3 := Aside0.mk hw3
  have HG3 := Aside0.mk hg3
  clear hF hb12 hsz hdg hnl hbB hv1 hb5 hHeld a0 a1 a2 a3 a4 hrun hw3 hg3
  obtain ⟨a0, _, _, _, _⟩ := HX2.out.cells
  have c2 := HW2.out.c2
  refine start_ (n := 8) (S := fun w' => (w'.cell? ⟨E, 0, none⟩ = some (.int .i64 t)) ∧ (w'.cell? ⟨p, 2, none⟩ = some (.map (some b)))) (ds := [7]) #[false, false, false, false, false, false, false, false] (by kernel_rfl) rfl rfl ⟨a0, c2⟩ (fun hHeld => ?_)
  refine pure_ (i := 0) (N := some 31) (v := ?_) (a' := ?_) #[true, false, false, false, false, false, false, false] rfl rfl (by kernel_rfl) (fun _ _ _ h => h) (Or.inl ⟨by rfl, ?_⟩) ?_ ?_
  rotate_left
  · intro w'
    go_simp
    with_reducible rfl
  rotate_left
  · simp only [Act.put, List.setIfInBounds_toArray, List.set_cons_zero, List.set_cons_succ, i64_w, i32_w]
    rfl
  refine pure_ (i := 1) (N := some 32) (v := ?_) (a' := ?_) #[true, true, false, false, false, false, false, false] rfl rfl (by kernel_rfl) (fun _ _ _ h => h) (Or.inl ⟨by rfl, ?_⟩) ?_ ?_
  rotate_left
  · intro w'
    go_simp
    with_reducible rfl
  rotate_left
  · simp only [Act.put, List.setIfInBounds_toArray, List.set_cons_zero, List.set_cons_succ, i64_w, i32_w]
    rfl
  refine pure_ (i := 2) (N := some 33) (v := ?_) (a' := ?_) #[true, true, true, false, false, false, false, false] rfl rfl (by kernel_rfl) (fun _ _ _ h => h) (Or.inl ⟨by rfl, ?_⟩) ?_ ?_
  rotate_left
  · intro w'
    go_simp
    with_reducible rfl
  rotate_left
  · simp only [Act.put, List.setIfInBounds_toArray, List.set_cons_zero, List.set_cons_succ, i64_w, i32_w]
    rfl
  refine take_ (i := 3) (N := some 34) (v := ?_) (a' := ?_) #[true, true, true, true, false, false, false, false] rfl rfl (by kernel_rfl) (fun _ _ _ h => h) (Or.inl ⟨by rfl, ?_⟩) hHeld ?_ ?_
  rotate_left
  · rintro w' ⟨s0, s1⟩
    go_simp
    with_reducible rfl
  rotate_left
  · simp only [Act.put, List.setIfInBounds_toArray, List.set_cons_zero, List.set_cons_succ, i64_w, i32_w]
    rfl
  refine pure_ (i := 4) (N := some 35) (v := ?_) (a' := ?_) #[true, true, true, true, true, false, false, false] rfl rfl (by kernel_rfl) (fun _ _ _ h => h) (Or.inl ⟨by rfl, ?_⟩) ?_ ?_
  rotate_left
  · intro w'
    go_simp
    with_reducible rfl
  rotate_left
  · simp only [Act.put, List.setIfInBounds_toArray, List.set_cons_zero, List.set_cons_succ, i64_w, i32_w]
    rfl
  refine take_ (i := 5) (N := some 36) (v := ?_) (a' := ?_) #[true, true, true, true, true, true, false, false] rfl rfl (by kernel_rfl) (fun _ _ _ h => h) (Or.inl ⟨by rfl, ?_⟩) hHeld ?_ ?_
  rotate_left
  · rintro w' ⟨s0, s1⟩
    go_simp
    with_reducible rfl
  rotate_left
  · simp only [Act.put, List.setIfInBounds_toArray, List.set_cons_zero, List.set_cons_succ, i64_w, i32_w]
    rfl
  refine pure_ (i := 6) (N := some 37) (v := ?_) (a' := ?_) #[true, true, true, true, true, true, true, false] rfl rfl (by kernel_rfl) (fun _ _ _ h => h) (Or.inl ⟨by rfl, ?_⟩) ?_ ?_
  rotate_left
  · intro w'
    go_simp
    with_reducible rfl
  rotate_left
  · simp only [Act.put, List.setIfInBounds_toArray, List.set_cons_zero, List.set_cons_succ, i64_w, i32_w]
    rfl
  refine last_ (i := 7) (N := none) #[true, true, true, true, true, true, true, true] rfl rfl (by kernel_rfl) (by decide) (fun K hK => ?_)
  refine skip_ (w1 := w3) (by rfl) rfl (exec_mapUpdate (vm := .map (some b)) (vk := .int .i64 t) (vx := .pointer (some ⟨B, 0, none⟩)) rfl (by rfl) (by rfl) (by rfl) HR3.out) ?_
  refine hK.out _ _ ?_
  clear hK K
  refine done_ (by kernel_rfl) ?_
  go_wp2
  go_ret
  refine ⟨B, rfl, HW3.out, ?_⟩
  exact ((FrB.of_below HB2.out).drew).grown HG3.out HW2.out.hb
end Go.Proofs.Ytokapofgbcbajaa.Fns
