/- Receive of the reference: its walk. -/
import Derived.Test.YtokapofgbcbajaaXStore
import Derived.Test.YtokapofgbcbajaaWholePure
namespace Go.Proofs.Ytokapofgbcbajaa.Fns
open Go.RowKit Go.Maps Go.Proofs.YtokapofgbcbajaaW.PrintWords Go.Proofs.YtokapofgbcbajaaW.PrintLast Go.Proofs.YtokapofgbcbajaaW.PrintMore
set_option linter.unusedVariables false
set_option linter.unusedSimpArgs false
theorem rlength_calls (t i c s : Int) (d : ByteArray) (hd : d.size ≤ 140737488351232) (w : World) :
    Calls Try.prog 43 #[.agg #[.int .i64 t, .int .i64 i, .int .i64 c, .int .i64 s, .string d]] w fun e w' => e = .returned (.int .i64 (lenF t i c s d.size)) ∧ Below w.heap.size w w' :=
  hopmeshref15_Length.calls 2 t i c s d _ w (length_eq 0 t i c s d hd)
set_option maxRecDepth 100000 in
set_option maxHeartbeats 2000000 in
theorem xrecv_bad (w : World) (p : Nat) (slot t i c s : Int) (d : ByteArray) (hd : d.size ≤ 140737488351232) (hL : lenF t i c s d.size = 0) :
    Calls Try.prog 33 #[.pointer (some ⟨p, 0, none⟩), .int .i64 slot, .agg #[.int .i64 t, .int .i64 i, .int .i64 c, .int .i64 s, .string d]] w fun e w' => e = .returned (.tuple #[.string ⟨#[]⟩, .bool false, .int .i64 1]) ∧ Below w.heap.size w w' := by
  have hu23 := Try.underlying23
  have hc := fun w => rlength_calls t i c s d hd w
  rw [hL] at hc
  have HC := Aside0.mk hc
  have HW := Aside0.mk (below_new w (.cells #[.int .i64 t, .int .i64 i, .int .i64 c, .int .i64 s, .string d] 23))
  clear hc hd hL
  go_enter Try.func33, Try.ntmps33
  go_wp2_with (go_at_call 43; (with_reducible refine (HC.out _).mono ?_); rintro e w1 ⟨rfl, hb1⟩)
  go_ret3
  exact ⟨rfl, below_tr HW.out hb1⟩
set_option maxRecDepth 100000 in
set_option maxHeartbeats 2000000 in
theorem xrecv_order {w : World} {base p : Nat} {hold time : Int} {v : Value} {ds : List RD} (h : XR w base p hold time v ds) (slot t i c s : Int) (d : ByteArray) (hd : d.size ≤ 140737488351232) (hL : lenF t i c s d.size ≠ 0) (ho : slot < time ∨ 109951162 < slot) :
    Calls Try.prog 33 #[.pointer (some ⟨p, 0, none⟩), .int .i64 slot, .agg #[.int .i64 t, .int .i64 i, .int .i64 c, .int .i64 s, .string d]] w fun e w' => e = .returned (.tuple #[.string ⟨#[]⟩, .bool false, .int .i64 5]) ∧ Below w.heap.size w w' := by
  have hu23 := Try.underlying23
  have hu110 := Try.underlying110
  have hc := fun w => rlength_calls t i c s d hd w
  have hl0 : (lenF t i c s d.size == 0) = false := beq_eq_false_iff_ne.2 hL
  generalize lenF t i c s d.size = L at hc hl0
  have HC := Aside0.mk hc
  have HW := Aside0.mk (below_new w (.cells #[.int .i64 t, .int .i64 i, .int .i64 c, .int .i64 s, .string d] 23))
  have HX := Aside0.mk (h.later HW.out)
  have HO := Aside0.mk ho
  clear hc hd hL h ho
  by_cases h1 : slot < time
  · have q1 : decide (slot < time) = true := decide_eq_true h1
    clear h1
    go_enter Try.func33, Try.ntmps33
    go_wp2_with (go_at_call 43; (with_reducible refine (HC.out _).mono ?_); rintro e w1 ⟨rfl, hb1⟩; have k1 := (HX.out.later hb1).c1)
    go_ret3
    exact ⟨rfl, below_tr HW.out hb1⟩
  · have q1 : decide (slot < time) = false := decide_eq_false h1
    have q2 : decide (109951162 < slot) = true := decide_eq_true (HO.out.resolve_left h1)
    clear h1
    go_enter Try.func33, Try.ntmps33
    go_wp2_with (go_at_call 43; (with_reducible refine (HC.out _).mono ?_); rintro e w1 ⟨rfl, hb1⟩; have k1 := (HX.out.later hb1).c1)
    go_ret3
    exact ⟨rfl, below_tr HW.out hb1⟩
theorem info9 : (Try.prog.info? 9).map (fun i => (i.zero, i.size, i.bytes)) = some (some (.string ⟨#[]⟩), 1, 16) := by kernel_rfl
theorem info4 : (Try.prog.info? 4).map (fun i => (i.zero, i.size, i.bytes)) = some (some (.bool false), 1, 1) := by kernel_rfl
theorem made_rep (z : Value) (m : Nat) : madeCells #[z] m = (List.replicate m z).toArray := by
  apply Array.ext
  · simp [madeCells]
  · intro i h1 h2
    simp [madeCells, Nat.mod_one]
theorem mk_bytes {t s : Int} {j m : Nat} (h : Fine t j m s) : m * 16 ≤ 281474976710656 ∧ m * 1 ≤ 281474976710656 := by unfold Fine at h; omega
theorem refl_drewX (W : World) : Below W.heap.size W W.drew := (Below.refl _ _).drew
structure MK (W : World) (gp gh m : Nat) (wz : World) : Prop where
  bel : Below W.heap.size W wz
  bp : W.heap.size ≤ gp
  bh : W.heap.size ≤ gh
  pb : wz.heap[gp]? = some (.cells ((List.replicate m (⟨#[]⟩ : ByteArray)).map Value.string).toArray 9 (0, 0))
  hb : wz.heap[gh]? = some (.cells ((List.replicate m false).map Value.bool).toArray 4 (0, 0))
theorem mk_ph (W : World) (m : Nat) : MK W W.heap.size (W.alloc (.cells (madeCells #[.string ⟨#[]⟩] m) 9)).heap.size m ((W.alloc (.cells (madeCells #[.string ⟨#[]⟩] m) 9)).alloc (.cells (madeCells #[.bool false] m) 4)) := by
  have hb := below_tr (below_new W (.cells (madeCells #[.string ⟨#[]⟩] m) 9)) (below_new _ (.cells (madeCells #[.bool false] m) 4))
  refine ⟨hb, Nat.le_refl _, (below_new W _).size, ?_, ?_⟩
  · have h1 := blk_later (below_new (W.alloc (.cells (madeCells #[.string ⟨#[]⟩] m) 9)) (.cells (madeCells #[.bool false] m) 4)) (heap_alloc_new W (.cells (madeCells #[.string ⟨#[]⟩] m) 9))
    rw [h1, made_rep, List.map_replicate]
  · have h1 := heap_alloc_new (W.alloc (.cells (madeCells #[.string ⟨#[]⟩] m) 9)) (.cells (madeCells #[.bool false] m) 4)
    rw [h1, made_rep, List.map_replicate]
theorem mk_hp (W : World) (m : Nat) : MK W (W.alloc (.cells (madeCells #[.bool false] m) 4)).heap.size W.heap.size m ((W.alloc (.cells (madeCells #[.bool false] m) 4)).alloc (.cells (madeCells #[.string ⟨#[]⟩] m) 9)) := by
  have hb := below_tr (below_new W (.cells (madeCells #[.bool false] m) 4)) (below_new _ (.cells (madeCells #[.string ⟨#[]⟩] m) 9))
  refine ⟨hb, (below_new W _).size, Nat.le_refl _, ?_, ?_⟩
  · have h1 := heap_alloc_new (W.alloc (.cells (madeCells #[.bool false] m) 4)) (.cells (madeCells #[.string ⟨#[]⟩] m) 9)
    rw [h1, made_rep, List.map_replicate]
  · have h1 := blk_later (below_new (W.alloc (.cells (madeCells #[.bool false] m) 4)) (.cells (madeCells #[.string ⟨#[]⟩] m) 9)) (heap_alloc_new W (.cells (madeCells #[.bool false] m) 4))
    rw [h1, made_rep, List.map_replicate]
theorem enc_newX (t c s L : Int) (m gp gh : Nat) : encRD (newX t c s L m gp gh) = [.int .i64 t, .int .i64 c, .int .i64 s, .int .i64 L, .int .i64 0, .slice (some ⟨gp, 0, none⟩) m m, .slice (some ⟨gh, 0, none⟩) m m] := by
  simp [encRD, newX]
/-- The datagram of a fragment: one that is there, or a new one. -/
def GP (K : List RD) (t c s L : Int) (m : Nat) (G : List RD) (i : Nat) : Prop :=
  (findX K t = (i : Int) ∧ G = K) ∨ (findX K t = -1 ∧ K.length < 8 ∧ i = K.length ∧ ∃ gp gh, G = K ++ [newX t c s L m gp gh])
/-- What the reference's Receive answers. -/
def XP (K : List RD) (t c s L : Int) (m j : Nat) (x : ByteArray) (slot : Int) (ds' : List RD) (so : ByteArray) (ok : Bool) (err : Int) : Prop :=
  (findX K t = -1 ∧ 8 ≤ K.length ∧ ds' = K ∧ so = ⟨#[]⟩ ∧ ok = false ∧ err = 13) ∨
  ∃ G i d, GP K t c s L m G i ∧ G[i]? = some d ∧ ((okX d c s L j x = false ∧ ds' = G ∧ so = ⟨#[]⟩ ∧ ok = false ∧ err = 11) ∨ (okX d c s L j x = true ∧ ds' = G.set i (putX d slot j x) ∧ outX d (putX d slot j x) = (so, ok) ∧ err = 0))
theorem x_neg {i : Nat} : decide ((i : Int) < 0) = false := decide_eq_false (by omega)
theorem x_eight {n : Nat} (h : 8 ≤ n) : decide (8 ≤ (n : Int)) = true ∧ decide (8 ≤ n) = true := ⟨decide_eq_true (by omega), decide_eq_true h⟩
theorem x_few {n : Nat} (h : ¬ 8 ≤ n) : decide (8 ≤ (n : Int)) = false ∧ decide (8 ≤ n) = false := ⟨decide_eq_false (by omega), decide_eq_false h⟩
theorem Box.ne {w : World} {e : Nat} {t i c s : Int} {d : ByteArray} (h : Box w e t i c s d) {k : Nat} {cs : Array Value} {q : TypeId} (hk : w.heap[k]? = some (.cells cs q (0, 0))) (hq : q ≠ 23) : e ≠ k := cells_ne h hk (fun e => hq e.symm)
theorem Box.set {w : World} {e : Nat} {t i c s : Int} {d : ByteArray} (h : Box w e t i c s d) {k o : Nat} {u : Value} (hk : e ≠ k) : Box (w.setCell ⟨k, o, none⟩ u) e t i c s d := (Below.heap_setCell w ⟨k, o, none⟩ u e hk).trans h
theorem ok_a {d : RD} {c s L : Int} {j : Nat} {x : ByteArray} (h : (d.cnt == c) = false) : okX d c s L j x = false := by
  have h1 : c ≠ d.cnt := fun e => by rw [e] at h; simp at h
  simp [okX, h1]
theorem ok_b {d : RD} {c s L : Int} {j : Nat} {x : ByteArray} (h : (d.siz == s) = false) : okX d c s L j x = false := by
  have h1 : s ≠ d.siz := fun e => by rw [e] at h; simp at h
  simp [okX, h1]
theorem ok_c {d : RD} {c s L : Int} {j : Nat} {x : ByteArray} (h : (d.len == L) = false) : okX d c s L j x = false := by
  have h1 : L ≠ d.len := fun e => by rw [e] at h; simp at h
  simp [okX, h1]
theorem ok_d {d : RD} {c s L : Int} {j : Nat} {x : ByteArray} (h1 : (d.cnt == c) = true) (h2 : (d.siz == s) = true) (h3 : (d.len == L) = true) : okX d c s L j x = (!d.has.getD j false || (d.parts.getD j ⟨#[]⟩).toList == x.toList) := by
  have h1 : c = d.cnt := (beq_iff_eq.1 h1).symm
  have h2 : s = d.siz := (beq_iff_eq.1 h2).symm
  have h3 : L = d.len := (beq_iff_eq.1 h3).symm
  simp [okX, ← h1, ← h2, ← h3]
theorem drewN_bel (w : World) (q : Nat) : Below w.heap.size w (w.drewN q) := ⟨rfl, rfl, rfl, Nat.le_refl _, fun _ _ => rfl⟩
theorem ok_cnt {d : RD} {c s L : Int} {j : Nat} {x : ByteArray} (h : okX d c s L j x = true) : c = d.cnt := by
  simp only [okX, Bool.and_eq_true, decide_eq_true_eq] at h
  exact h.1.1.1
theorem XR.cells {w : World} {base p GB n cap : Nat} {hold time : Int} {ds : List RD} (h : XR w base p hold time (.slice (some ⟨GB, 0, none⟩) n cap) ds) {i : Nat} {d : RD} (hd : ds[i]? = some d) :
    w.cell? ⟨GB, i * 7 + 4, none⟩ = some (.int .i64 d.slot) ∧ w.cell? ⟨GB, i * 7 + 5, none⟩ = some (.slice (some ⟨d.gp, 0, none⟩) d.has.length d.has.length) ∧ w.cell? ⟨GB, i * 7 + 6, none⟩ = some (.slice (some ⟨d.gh, 0, none⟩) d.has.length d.has.length) ∧ w.frozen? ⟨GB, i * 7 + 4, none⟩ = false ∧ (∃ cur, w.heap[GB]? = some (.cells cur 113 (0, 0))) := by
  obtain ⟨GB', cap', cur, hv, hG, hrow⟩ := h.row (Nat.lt_of_le_of_lt (Nat.zero_le _) (List.getElem?_eq_some_iff.1 hd).1)
  injection hv with hA hn hcap
  injection hA with hA
  injection hA with hA
  subst hA; subst hn; subst hcap
  obtain ⟨r0, r1, r2, r3, r4, r5, r6⟩ := rd_cells hrow hd
  exact ⟨r4, r5, r6, blk_frozen hrow.blk _, _, hrow.blk⟩
theorem set_at {α : Type} {xs : List α} {i : Nat} {x y : α} (h : xs[i]? = some x) : (xs.set i y)[i]? = some y := by
  obtain ⟨h1, _⟩ := List.getElem?_eq_some_iff.1 h
  simp [h1]
theorem x_has {w : World} {base : Nat} {d : RD} (h : RDAt w base d) {j : Nat} (hj : j < d.has.length) : w.cell? ⟨d.gh, j, none⟩ = some (.bool (d.has.getD j false)) ∧ w.frozen? ⟨d.gh, j, none⟩ = false := ⟨h.hcell hj, blk_frozen h.hb j⟩
theorem x_part {w : World} {base : Nat} {d : RD} (h : RDAt w base d) {j : Nat} (hj : j < d.has.length) : w.cell? ⟨d.gp, j, none⟩ = some (.string (d.parts.getD j ⟨#[]⟩)) ∧ w.frozen? ⟨d.gp, j, none⟩ = false := ⟨h.pcell hj, blk_frozen h.pb j⟩
theorem out_t {d : RD} {slot : Int} {j : Nat} {x : ByteArray} (h1 : allH d.has = false) (h2 : allH (d.has.set j true) = true) : outX d (putX d slot j x) = (catP (d.parts.set j x), true) := by
  unfold outX
  rw [if_neg]
  · rfl
  · intro h
    rcases h with h | h
    · rw [h1] at h; exact absurd h (by decide)
    · rw [show (putX d slot j x).has = d.has.set j true from rfl, h2] at h; exact absurd h (by decide)
theorem cat_step {ps : List ByteArray} {k : Nat} (hk : k < ps.length) : catP (ps.take (k + 1)) = catP (ps.take k) ++ ps.getD k ⟨#[]⟩ := by
  rw [List.take_add_one, ← catP_snoc]
  simp [List.getD_eq_getElem?_getD, List.getElem?_eq_getElem hk]
def PZ (ds : List RD) : Prop := ∀ d ∈ ds, ∀ y ∈ d.parts, y.size ≤ 4095
theorem pz_kept {ds : List RD} (h : PZ ds) (a : Int) : PZ (keptX a ds) := fun d hd => h d (List.mem_filter.1 hd).1
theorem pz_gp {K G : List RD} {t c s L : Int} {m i : Nat} (h : PZ K) (hg : GP K t c s L m G i) : PZ G := by
  rcases hg with ⟨_, rfl⟩ | ⟨_, _, _, gp, gh, rfl⟩
  · exact h
  · intro d hd y hy
    rcases List.mem_append.1 hd with hd | hd
    · exact h d hd y hy
    · obtain rfl := List.mem_singleton.1 hd
      obtain ⟨_, rfl⟩ := List.mem_replicate.1 hy
      exact Nat.zero_le _
theorem pz_put {G : List RD} (h : PZ G) {i : Nat} {d : RD} (hd : G[i]? = some d) {x : ByteArray} (hx : x.size ≤ 4095) (j : Nat) : ∀ y ∈ d.parts.set j x, y.size ≤ 4095 := by
  intro y hy
  rcases List.mem_or_eq_of_mem_set hy with h1 | rfl
  · exact h d (List.mem_of_getElem? hd) y h1
  · exact hx
theorem cat_size : ∀ (ps : List ByteArray), (∀ y ∈ ps, y.size ≤ 4095) → ∀ k, (catP (ps.take k)).size ≤ 4095 * k
  | ps, h, 0 => by rw [List.take_zero]; exact Nat.zero_le _
  | ps, h, k + 1 => by
    have ih := cat_size ps h k
    by_cases hk : k < ps.length
    · rw [cat_step hk, ByteArray.size_append]
      have : (ps.getD k ⟨#[]⟩).size ≤ 4095 := by
        rw [List.getD_eq_getElem?_getD, List.getElem?_eq_getElem hk]
        exact h _ (List.getElem_mem hk)
      omega
    · rw [List.take_of_length_le (by omega)]
      rw [List.take_of_length_le (by omega)] at ih
      omega
theorem cat_fits {ps : List ByteArray} (h : ∀ y ∈ ps, y.size ≤ 4095) {k : Nat} (hk : k < ps.length) (hl : ps.length ≤ 4000) : (catP (ps.take k)).size + (ps.getD k ⟨#[]⟩).size ≤ 9223372036854775807 ∧ ¬ (catP (ps.take k)).size + (ps.getD k ⟨#[]⟩).size > 9223372036854775807 := by
  have h1 := cat_size ps h k
  have h2 : (ps.getD k ⟨#[]⟩).size ≤ 4095 := by
    rw [List.getD_eq_getElem?_getD, List.getElem?_eq_getElem hk]
    exact h _ (List.getElem_mem hk)
  omega
theorem fine32 {t s : Int} {j m : Nat} (h : Fine t j m s) : m ≤ 32 ∧ j < m := by unfold Fine at h; omega
theorem x_small {n : Nat} (h : n ≤ 2000) : (n + 1) * 88 ≤ 140737488355328 := by omega
theorem hnp_of {w : World} {base p : Nat} {hold time : Int} {v : Value} {ds : List RD} (h : XR w base p hold time v ds) {gp gh m : Nat} {wz : World} (hm : MK w gp gh m wz) : ∀ d ∈ ds, d.gp ≠ gp ∧ d.gh ≠ gh := by
  intro d hd
  have h1 := h.at_ d hd
  have h2 := (Array.getElem?_eq_some_iff.1 h1.pb).1
  have h3 := (Array.getElem?_eq_some_iff.1 h1.hb).1
  have h4 := hm.bp
  have h5 := hm.bh
  omega
theorem XR.kept0 {w w5 : World} {base p : Nat} {hold time : Int} {v : Value} {ds : List RD} (h : XR w base p hold time v ds) (hg : w.grownBy w5 v.ownBlock) {k : Nat} {cs : Array Value} {e : TypeId} (hk : w.heap[k]? = some (.cells cs e (0, 0))) (he : e ≠ 113) : w5.heap[k]? = some (.cells cs e (0, 0)) :=
  (hg.block k (Array.getElem?_eq_some_iff.1 hk).1 (fun e1 => by
      obtain ⟨cs', hc⟩ := own_typed h.own k e1.symm
      exact cells_ne hk hc he rfl)).trans hk
theorem XR.kept {w w5 : World} {base p : Nat} {hold time : Int} {v : Value} {ds : List RD} (h : XR w base p hold time v ds) (hg : w.grownBy w5 v.ownBlock) : w5.heap[p]? = some (.cells #[.int .i64 hold, .int .i64 time, v] 110 (0, 0)) := h.kept0 hg h.blk (by decide)
theorem Box.kept {w w5 : World} {base p e : Nat} {hold time : Int} {v : Value} {ds : List RD} {t i c s : Int} {d : ByteArray} (hb : Box w e t i c s d) (h : XR w base p hold time v ds) (hg : w.grownBy w5 v.ownBlock) : Box w5 e t i c s d := h.kept0 hg hb (by decide)
set_option maxRecDepth 100000 in
set_option maxHeartbeats 8000000 in
theorem xrecv_main {w : World} {base p : Nat} {hold time : Int} {v : Value} {ds : List RD} (hbw : base ≤ w.heap.size) (h : XR w base p hold time v ds) (hn : ds.length ≤ 2000) (hpz : PZ ds) (slot t c s : Int) (j m : Nat) (d : ByteArray) (hd : d.size ≤ 140737488351232) (hL : lenF t j m s d.size ≠ 0) (ho : ¬ (slot < time ∨ 109951162 < slot)) (hs : wrap64 (slot - hold) = slot - hold) (hc : c = (m : Int)) :
    Calls Try.prog 33 #[.pointer (some ⟨p, 0, none⟩), .int .i64 slot, .agg #[.int .i64 t, .int .i64 (j : Int), .int .i64 (m : Int), .int .i64 s, .string d]] w fun e w' =>
      ∃ v' ds' so ok err, e = .returned (.tuple #[.string so, .bool ok, .int .i64 err]) ∧ XR w' base p hold slot v' ds' ∧ Fr SX base w w' ∧ XP (keptX (slot - hold) ds) t m s (lenF t j m s d.size) m j d slot ds' so ok err := by
  have hu23 := Try.underlying23
  have hu110 := Try.underlying110
  have hu113 := Try.underlying113
  have hc := fun w => rlength_calls t j m s d hd w
  have hl0 : (lenF t j m s d.size == 0) = false := beq_eq_false_iff_ne.2 hL
  obtain ⟨hfm, _⟩ := lenF_fine hL
  have hsm := lenF_small hL
  have HFM := Aside0.mk hfm
  have HSM := Aside0.mk hsm.1
  have HMB := Aside0.mk (mk_bytes hfm)
  generalize lenF t j m s d.size = L at hc hl0
  have q1 : decide (slot < time) = false := decide_eq_false (fun h => ho (.inl h))
  have q2 : decide (109951162 < slot) = false := decide_eq_false (fun h => ho (.inr h))
  have HC := Aside0.mk hc
  have HW := Aside0.mk (below_new w (.cells #[.int .i64 t, .int .i64 (j : Int), .int .i64 (m : Int), .int .i64 s, .string d] 23))
  have HX := Aside0.mk (h.later HW.out)
  have HBX := Aside0.mk (Box.new w t j m s d)
  have HBW := Aside0.mk hbw
  have HS := Aside0.mk hs
  have HNN := Aside0.mk hn
  have HPZ := Aside0.mk hpz
  clear hc hd hL h ho hbw hs hn hfm hsm hpz
  go_enter Try.func33, Try.ntmps33
  go_upto_region 4 with (go_at_call 43; (with_reducible refine (HC.out _).mono ?_); rintro e w1 ⟨rfl, hb1⟩)
  have HX1 := Aside0.mk (HX.out.later hb1)
  have HB1 := Aside0.mk (HBX.out.later hb1)
  have HF1 := Aside0.mk (show Fr SX base w w1 from Fr.of_below (below_tr HW.out hb1))
  clear hb1 HC HX HBX HW
  obtain ⟨E, hE⟩ : ∃ E, w.heap.size = E := ⟨_, rfl⟩
  have HB1 := HB1.out
  rw [hE] at HB1 ⊢
  have HB1 := Aside0.mk HB1
  clear hE
  have k1 := HX1.out.c1
  have kf := blk_frozen HX1.out.blk 1
  go_upto_region 7 with (fail)
  have HX2 := Aside0.mk (HX1.out.setTime slot)
  have HB2 := Aside0.mk (HB1.out.set (k := p) (o := 1) (u := .int .i64 slot) (HB1.out.ne HX1.out.blk (by decide)))
  have HF2 := Aside0.mk (HF1.out.setCell (j := 1) HX1.out.blk rfl HX1.out.hp (.int .i64 slot))
  clear k1 kf HX1 HB1 HF1
  generalize w1.setCell ⟨p, 1, none⟩ (.int .i64 slot) = W2 at HX2 HB2 HF2 ⊢
  have HFG := Aside0.mk (forget_calls (Nat.le_trans HBW.out HF2.out.size) HX2.out (Nat.le_trans HNN.out (by decide)) HS.out)
  go_upto_region 8 with (go_at_call 63; (with_reducible refine HFG.out.mono ?_); rintro e W3 ⟨rfl, hx3, hf3⟩)
  obtain ⟨v3, hx3⟩ := hx3
  have HX3 := Aside0.mk hx3
  have HB3 := Aside0.mk (HB2.out.fr hf3 rfl)
  have HF3 := Aside0.mk (HF2.out.trans hf3)
  clear hx3 hf3 HFG HX2 HB2 HF2
  have HKL := Aside0.mk (show (keptX (slot - hold) ds).length ≤ 2000 from Nat.le_trans (List.length_filter_le _ _) HNN.out)
  obtain ⟨Ks, hK⟩ : ∃ Ks, Ks = keptX (slot - hold) ds := ⟨_, rfl⟩
  rw [← hK] at HX3 HKL
  have HK := Aside0.mk hK
  clear hK
  have HFI := Aside0.mk (find_calls HX3.out (Nat.le_trans HKL.out (by decide)) t)
  obtain ⟨a0, a1, a2, a3, a4⟩ := HB3.out.cells
  go_upto_if 40 with (go_at_call 64; (with_reducible refine HFI.out.mono ?_); rintro e w1' ⟨rfl, rfl⟩)
  clear a0 a1 a2 a3 a4 HFI
  obtain ⟨z, hz⟩ : ∃ z, findX Ks t = z := ⟨_, rfl⟩
  rw [hz]
  have HZ := Aside0.mk hz
  clear hz
  go_cut [10] from 38 to 74 (fun v10 wc => ∃ (i : Nat) (G : List RD) (d0 : RD) (v0 : Value), v10 = .int .i64 (i : Int) ∧ Aside0 (XR wc base p hold slot v0 G) ∧ Aside0 (Fr SX base w wc) ∧ Aside0 (Box wc E t j m s d) ∧ Aside0 (G[i]? = some d0) ∧ Aside0 (GP Ks t m s L m G i))
  case first =>
    rcases findX_ways Ks t with ⟨hf, hno⟩ | ⟨i, d0, hf, hd0, htag, _⟩
    · have q0 : decide (z < 0) = true := by rw [← HZ.out, hf]; rfl
      rw [q0]
      have HNO := Aside0.mk hno
      have HFX := Aside0.mk hf
      clear hno hf
      have c2 := HX3.out.c2
      obtain ⟨A3, k3, rfl⟩ := own_slice HX3.out.own
      by_cases h8 : 8 ≤ Ks.length
      · obtain ⟨q3, q3'⟩ := x_eight h8
        have H8 := Aside0.mk h8
        clear h8
        go_wp2
        go_ret3
        exact ⟨_, Ks, _, _, _, rfl, HX3.out, HF3.out, .inl ⟨by rw [← HK.out]; exact HFX.out, by rw [← HK.out]; exact H8.out, HK.out, rfl, rfl, rfl⟩⟩
      · obtain ⟨q3, q3'⟩ := x_few h8
        have H8 := Aside0.mk (Nat.lt_of_not_le h8)
        clear h8
        go_upto_region 13 with (fail)
        obtain ⟨a0, a1, a2, a3, a4⟩ := HB3.out.cells
        have hmkp : ∀ W : World, (Instr.makeSlice 89 (.int .i64 (m : Int)) (.int .i64 (m : Int))).run Try.prog W = .ok (.slice (some ⟨W.heap.size, 0, none⟩) m m) (W.alloc (.cells (madeCells #[.string ⟨#[]⟩] m) 9)) := print_make_of (P := Try.prog) 89 9 (.string ⟨#[]⟩) 16 Try.underlying89 info9 rfl (by decide) m HMB.out.1
        have hmkh : ∀ W : World, (Instr.makeSlice 111 (.int .i64 (m : Int)) (.int .i64 (m : Int))).run Try.prog W = .ok (.slice (some ⟨W.heap.size, 0, none⟩) m m) (W.alloc (.cells (madeCells #[.bool false] m) 4)) := print_make_of (P := Try.prog) 111 4 (.bool false) 1 Try.underlying111 info4 rfl (by decide) m HMB.out.2
        refine start_ (n := 24) (S := fun w' => (w'.cell? ⟨p, 2, none⟩ = some (.slice A3 Ks.length k3)) ∧ (w'.cell? ⟨E, 0, none⟩ = some (.int .i64 t)) ∧ (w'.cell? ⟨E, 2, none⟩ = some (.int .i64 (m : Int))) ∧ (w'.cell? ⟨E, 3, none⟩ = some (.int .i64 s))) (ds := [20, 23]) #[false, false, false, false, false, false, false, false, false, false, false, false, false, false, false, false, false, false, false, false, false, false, false, false] (by kernel_rfl) rfl rfl ⟨c2, a0, a2, a3⟩ (fun hHeld => ?_)
        refine pure_ (i := 0) (N := some 52) (v := ?_) (a' := ?_) #[true, false, false, false, false, false, false, false, false, false, false, false, false, false, false, false, false, false, false, false, false, false, false, false] rfl rfl (by kernel_rfl) (fun _ _ _ h => h) (Or.inl ⟨by rfl, ?_⟩) ?_ ?_
        rotate_left
        · intro w'
          go_simp
          with_reducible rfl
        rotate_left
        · simp only [Act.put, List.setIfInBounds_toArray, List.set_cons_zero, List.set_cons_succ, i64_w, i32_w]
          rfl
        refine pure_ (i := 1) (N := some 53) (v := ?_) (a' := ?_) #[true, true, false, false, false, false, false, false, false, false, false, false, false, false, false, false, false, false, false, false, false, false, false, false] rfl rfl (by kernel_rfl) (fun _ _ _ h => h) (Or.inl ⟨by rfl, ?_⟩) ?_ ?_
        rotate_left
        · intro w'
          go_simp
          with_reducible rfl
        rotate_left
        · simp only [Act.put, List.setIfInBounds_toArray, List.set_cons_zero, List.set_cons_succ, i64_w, i32_w]
          rfl
        refine pure_ (i := 2) (N := some 54) (v := ?_) (a' := ?_) #[true, true, true, false, false, false, false, false, false, false, false, false, false, false, false, false, false, false, false, false, false, false, false, false] rfl rfl (by kernel_rfl) (fun _ _ _ h => h) (Or.inl ⟨by rfl, ?_⟩) ?_ ?_
        rotate_left
        · intro w'
          go_simp
          with_reducible rfl
        rotate_left
        · simp only [Act.put, List.setIfInBounds_toArray, List.set_cons_zero, List.set_cons_succ, i64_w, i32_w]
          rfl
        refine pure_ (i := 3) (N := some 55) (v := ?_) (a' := ?_) #[true, true, true, true, false, false, false, false, false, false, false, false, false, false, false, false, false, false, false, false, false, false, false, false] rfl rfl (by kernel_rfl) (fun _ _ _ h => h) (Or.inl ⟨by rfl, ?_⟩) ?_ ?_
        rotate_left
        · intro w'
          go_simp
          with_reducible rfl
        rotate_left
        · simp only [Act.put, List.setIfInBounds_toArray, List.set_cons_zero, List.set_cons_succ, i64_w, i32_w]
          rfl
        refine take_ (i := 4) (N := some 56) (v := ?_) (a' := ?_) #[true, true, true, true, true, false, false, false, false, false, false, false, false, false, false, false, false, false, false, false, false, false, false, false] rfl rfl (by kernel_rfl) (fun _ _ _ h => h) (Or.inl ⟨by rfl, ?_⟩) hHeld ?_ ?_
        rotate_left
        · rintro w' ⟨s0, s1, s2, s3⟩
          go_simp
          with_reducible rfl
        rotate_left
        · simp only [Act.put, List.setIfInBounds_toArray, List.set_cons_zero, List.set_cons_succ, i64_w, i32_w]
          rfl
        refine pure_ (i := 5) (N := some 57) (v := ?_) (a' := ?_) #[true, true, true, true, true, true, false, false, false, false, false, false, false, false, false, false, false, false, false, false, false, false, false, false] rfl rfl (by kernel_rfl) (fun _ _ _ h => h) (Or.inl ⟨by rfl, ?_⟩) ?_ ?_
        rotate_left
        · intro w'
          go_simp
          with_reducible rfl
        rotate_left
        · simp only [Act.put, List.setIfInBounds_toArray, List.set_cons_zero, List.set_cons_succ, i64_w, i32_w]
          rfl
        refine take_ (i := 6) (N := some 58) (v := ?_) (a' := ?_) #[true, true, true, true, true, true, true, false, false, false, false, false, false, false, false, false, false, false, false, false, false, false, false, false] rfl rfl (by kernel_rfl) (fun _ _ _ h => h) (Or.inl ⟨by rfl, ?_⟩) hHeld ?_ ?_
        rotate_left
        · rintro w' ⟨s0, s1, s2, s3⟩
          go_simp
          with_reducible rfl
        rotate_left
        · simp only [Act.put, List.setIfInBounds_toArray, List.set_cons_zero, List.set_cons_succ, i64_w, i32_w]
          rfl
        refine pure_ (i := 7) (N := some 59) (v := ?_) (a' := ?_) #[true, true, true, true, true, true, true, true, false, false, false, false, false, false, false, false, false, false, false, false, false, false, false, false] rfl rfl (by kernel_rfl) (fun _ _ _ h => h) (Or.inl ⟨by rfl, ?_⟩) ?_ ?_
        rotate_left
        · intro w'
          go_simp
          with_reducible rfl
        rotate_left
        · simp only [Act.put, List.setIfInBounds_toArray, List.set_cons_zero, List.set_cons_succ, i64_w, i32_w]
          rfl
        refine take_ (i := 8) (N := some 60) (v := ?_) (a' := ?_) #[true, true, true, true, true, true, true, true, true, false, false, false, false, false, false, false, false, false, false, false, false, false, false, false] rfl rfl (by kernel_rfl) (fun _ _ _ h => h) (Or.inl ⟨by rfl, ?_⟩) hHeld ?_ ?_
        rotate_left
        · rintro w' ⟨s0, s1, s2, s3⟩
          go_simp
          with_reducible rfl
        rotate_left
        · simp only [Act.put, List.setIfInBounds_toArray, List.set_cons_zero, List.set_cons_succ, i64_w, i32_w]
          rfl
        refine pure_ (i := 9) (N := some 61) (v := ?_) (a' := ?_) #[true, true, true, true, true, true, true, true, true, true, false, false, false, false, false, false, false, false, false, false, false, false, false, false] rfl rfl (by kernel_rfl) (fun _ _ _ h => h) (Or.inl ⟨by rfl, ?_⟩) ?_ ?_
        rotate_left
        · intro w'
          go_simp
          with_reducible rfl
        rotate_left
        · simp only [Act.put, List.setIfInBounds_toArray, List.set_cons_zero, List.set_cons_succ, i64_w, i32_w]
          rfl
        refine take_ (i := 10) (N := some 62) (v := ?_) (a' := ?_) #[true, true, true, true, true, true, true, true, true, true, true, false, false, false, false, false, false, false, false, false, false, false, false, false] rfl rfl (by kernel_rfl) (fun _ _ _ h => h) (Or.inl ⟨by rfl, ?_⟩) hHeld ?_ ?_
        rotate_left
        · rintro w' ⟨s0, s1, s2, s3⟩
          go_simp
          with_reducible rfl
        rotate_left
        · simp only [Act.put, List.setIfInBounds_toArray, List.set_cons_zero, List.set_cons_succ, i64_w, i32_w]
          rfl
        refine pure_ (i := 11) (N := some 63) (v := ?_) (a' := ?_) #[true, true, true, true, true, true, true, true, true, true, true, true, false, false, false, false, false, false, false, false, false, false, false, false] rfl rfl (by kernel_rfl) (fun _ _ _ h => h) (Or.inl ⟨by rfl, ?_⟩) ?_ ?_
        rotate_left
        · intro w'
          go_simp
          with_reducible rfl
        rotate_left
        · simp only [Act.put, List.setIfInBounds_toArray, List.set_cons_zero, List.set_cons_succ, i64_w, i32_w]
          rfl
        refine pure_ (i := 12) (N := some 64) (v := ?_) (a' := ?_) #[true, true, true, true, true, true, true, true, true, true, true, true, true, false, false, false, false, false, false, false, false, false, false, false] rfl rfl (by kernel_rfl) (fun _ _ _ h => h) (Or.inl ⟨by rfl, ?_⟩) ?_ ?_
        rotate_left
        · intro w'
          go_simp
          with_reducible rfl
        rotate_left
        · simp only [Act.put, List.setIfInBounds_toArray, List.set_cons_zero, List.set_cons_succ, i64_w, i32_w]
          rfl
        refine take_ (i := 13) (N := some 65) (v := ?_) (a' := ?_) #[true, true, true, true, true, true, true, true, true, true, true, true, true, true, false, false, false, false, false, false, false, false, false, false] rfl rfl (by kernel_rfl) (fun _ _ _ h => h) (Or.inl ⟨by rfl, ?_⟩) hHeld ?_ ?_
        rotate_left
        · rintro w' ⟨s0, s1, s2, s3⟩
          go_simp
          with_reducible rfl
        rotate_left
        · simp only [Act.put, List.setIfInBounds_toArray, List.set_cons_zero, List.set_cons_succ, i64_w, i32_w]
          rfl
        refine pure_ (i := 15) (N := some 67) (v := ?_) (a' := ?_) #[true, true, true, true, true, true, true, true, true, true, true, true, true, true, false, true, false, false, false, false, false, false, false, false] rfl rfl (by kernel_rfl) (fun _ _ _ h => h) (Or.inl ⟨by rfl, ?_⟩) ?_ ?_
        rotate_left
        · intro w'
          go_simp
          with_reducible rfl
        rotate_left
        · simp only [Act.put, List.setIfInBounds_toArray, List.set_cons_zero, List.set_cons_succ, i64_w, i32_w]
          rfl
        refine take_ (i := 16) (N := some 68) (v := ?_) (a' := ?_) #[true, true, true, true, true, true, true, true, true, true, true, true, true, true, false, true, true, false, false, false, false, false, false, false] rfl rfl (by kernel_rfl) (fun _ _ _ h => h) (Or.inl ⟨by rfl, ?_⟩) hHeld ?_ ?_
        rotate_left
        · rintro w' ⟨s0, s1, s2, s3⟩
          go_simp
          with_reducible rfl
        rotate_left
        · simp only [Act.put, List.setIfInBounds_toArray, List.set_cons_zero, List.set_cons_succ, i64_w, i32_w]
          rfl
        have HX4 := Aside0.mk (HX3.out.later (refl_drewX _))
        have HB4 := Aside0.mk (HB3.out.later (refl_drewX _))
        have HF4 := Aside0.mk (HF3.out.trans (Fr.of_below (refl_drewX _)))
        generalize World.drew _ = Wd at HX4 HB4 HF4 hHeld ⊢
        refine join_ (σ := Nat × Nat) 6 #[true, true, true, true, true, true, true, true, true, true, true, true, true, true, true, true, true, true, false, false, false, false, false, false] (fun gg => [(66, .slice (some ⟨gg.1, 0, none⟩) m m), (69, .slice (some ⟨gg.2, 0, none⟩) m m)]) (fun gg wz => MK Wd gg.1 gg.2 m wz) (fun gg wz hF => ?_) (fun hJ => ?_)
        rotate_left
        · skip
          refine two_ (i := 14) (j := 17) (Ni := some 66) (Nj := some 69) #[true, true, true, true, true, true, true, true, true, true, true, true, true, true, true, true, true, false, false, false, false, false, false, false] #[true, true, true, true, true, true, true, true, true, true, true, true, true, true, false, true, true, true, false, false, false, false, false, false] rfl rfl rfl rfl (by kernel_rfl) (by decide) (by decide) (fun K hK => ?_) (fun K hK => ?_)
          · skip
            refine value_ (w1 := (Wd).alloc (.cells (madeCells #[.string ⟨#[]⟩] m) 9)) (v := .slice (some ⟨(Wd).heap.size, 0, none⟩) m m) (by rfl) rfl (by first | (go_simp; done) | (go_simp; rfl)) ?_
            have hb5 := below_new (Wd) (.cells (madeCells #[.string ⟨#[]⟩] m) 9)
            refine hK.out _ _ ⟨cell_later hb5 hHeld.1, cell_later hb5 hHeld.2.1, cell_later hb5 hHeld.2.2.1, cell_later hb5 hHeld.2.2.2⟩ (fun hHeld => ?_)
            clear hK K hb5
            refine norm_ (a' := ?_) ?_ ?_
            rotate_left
            · show Act.put _ (some 66) _ = _
              simp only [Act.put, List.setIfInBounds_toArray, List.set_cons_zero, List.set_cons_succ, i64_w, i32_w]
              rfl
            refine one_ (i := 17) (N := some 69) #[true, true, true, true, true, true, true, true, true, true, true, true, true, true, true, true, true, true, false, false, false, false, false, false] rfl rfl (by kernel_rfl) (by decide) (fun K hK => ?_)
            refine value_ (w1 := (Wd.alloc (.cells (madeCells #[.string ⟨#[]⟩] m) 9)).alloc (.cells (madeCells #[.bool false] m) 4)) (v := .slice (some ⟨(Wd.alloc (.cells (madeCells #[.string ⟨#[]⟩] m) 9)).heap.size, 0, none⟩) m m) (by rfl) rfl (by first | (go_simp; done) | (go_simp; rfl)) ?_
            have hb5 := below_new (Wd.alloc (.cells (madeCells #[.string ⟨#[]⟩] m) 9)) (.cells (madeCells #[.bool false] m) 4)
            refine hK.out _ _ ⟨cell_later hb5 hHeld.1, cell_later hb5 hHeld.2.1, cell_later hb5 hHeld.2.2.1, cell_later hb5 hHeld.2.2.2⟩ (fun hHeld => ?_)
            clear hK K hb5
            refine norm_ ?_ (hJ (Wd.heap.size, (Wd.alloc (.cells (madeCells #[.string ⟨#[]⟩] m) 9)).heap.size) _ (mk_ph Wd m))
            simp only [putAll, Act.put, List.setIfInBounds_toArray, List.set_cons_zero, List.set_cons_succ]
          · skip
            refine value_ (w1 := (Wd).alloc (.cells (madeCells #[.bool false] m) 4)) (v := .slice (some ⟨(Wd).heap.size, 0, none⟩) m m) (by rfl) rfl (by first | (go_simp; done) | (go_simp; rfl)) ?_
            have hb5 := below_new (Wd) (.cells (madeCells #[.bool false] m) 4)
            refine hK.out _ _ ⟨cell_later hb5 hHeld.1, cell_later hb5 hHeld.2.1, cell_later hb5 hHeld.2.2.1, cell_later hb5 hHeld.2.2.2⟩ (fun hHeld => ?_)
            clear hK K hb5
            refine norm_ (a' := ?_) ?_ ?_
            rotate_left
            · show Act.put _ (some 69) _ = _
              simp only [Act.put, List.setIfInBounds_toArray, List.set_cons_zero, List.set_cons_succ, i64_w, i32_w]
              rfl
            refine one_ (i := 14) (N := some 66) #[true, true, true, true, true, true, true, true, true, true, true, true, true, true, true, true, true, true, false, false, false, false, false, false] rfl rfl (by kernel_rfl) (by decide) (fun K hK => ?_)
            refine value_ (w1 := (Wd.alloc (.cells (madeCells #[.bool false] m) 4)).alloc (.cells (madeCells #[.string ⟨#[]⟩] m) 9)) (v := .slice (some ⟨(Wd.alloc (.cells (madeCells #[.bool false] m) 4)).heap.size, 0, none⟩) m m) (by rfl) rfl (by first | (go_simp; done) | (go_simp; rfl)) ?_
            have hb5 := below_new (Wd.alloc (.cells (madeCells #[.bool false] m) 4)) (.cells (madeCells #[.string ⟨#[]⟩] m) 9)
            refine hK.out _ _ ⟨cell_later hb5 hHeld.1, cell_later hb5 hHeld.2.1, cell_later hb5 hHeld.2.2.1, cell_later hb5 hHeld.2.2.2⟩ (fun hHeld => ?_)
            clear hK K hb5
            refine norm_ ?_ (hJ ((Wd.alloc (.cells (madeCells #[.bool false] m) 4)).heap.size, Wd.heap.size) _ (mk_hp Wd m))
            simp only [putAll, Act.put, List.setIfInBounds_toArray, List.set_cons_zero, List.set_cons_succ]
        refine norm_ (a' := ?_) ?_ ?_
        rotate_left
        · simp only [putAll, Act.put, List.setIfInBounds_toArray, List.set_cons_zero, List.set_cons_succ]
          rfl
        obtain ⟨gp, gh⟩ := gg
        have hHz := And.intro (cell_later hF.bel hHeld.1) (And.intro (cell_later hF.bel hHeld.2.1) (And.intro (cell_later hF.bel hHeld.2.2.1) (cell_later hF.bel hHeld.2.2.2)))
        have HBd := Aside0.mk (Nat.le_trans HBW.out HF4.out.size)
        have HBz := Aside0.mk (Nat.le_trans HBW.out (Nat.le_trans HF4.out.size hF.bel.size))
        have HXz := Aside0.mk (HX4.out.later hF.bel)
        have HFz := Aside0.mk (HF4.out.trans (Fr.of_below hF.bel))
        have HEz := Aside0.mk (HB4.out.later hF.bel)
        have HNP := Aside0.mk (hnp_of HX4.out hF)
        have HMK := Aside0.mk hF
        clear hHeld hF HX4 HB4 HF4
        refine pure_ (i := 18) (N := some 70) (v := ?_) (a' := ?_) #[true, true, true, true, true, true, true, true, true, true, true, true, true, true, true, true, true, true, true, false, false, false, false, false] rfl rfl (by kernel_rfl) (fun _ _ _ h => h) (Or.inl ⟨by rfl, ?_⟩) ?_ ?_
        rotate_left
        · intro w'
          go_simp
          with_reducible rfl
        rotate_left
        · simp only [Act.put, List.setIfInBounds_toArray, List.set_cons_zero, List.set_cons_succ, i64_w, i32_w]
          rfl
        refine one_ (i := 19) (N := some 71) #[true, true, true, true, true, true, true, true, true, true, true, true, true, true, true, true, true, true, true, true, false, false, false, false] rfl rfl (by kernel_rfl) (by decide) (fun K hK => ?_)
        refine value_ (w1 := wz.alloc (.cells #[.int .i64 t, .int .i64 (m : Int), .int .i64 s, .int .i64 L, .int .i64 0, .slice (some ⟨gp, 0, none⟩) m m, .slice (some ⟨gh, 0, none⟩) m m] 113)) (v := .slice (some ⟨wz.heap.size, 0, none⟩) 1 1) (by rfl) rfl (by first | (go_simp; done) | (go_simp; rfl)) ?_
        have hb5 := below_new wz (.cells #[.int .i64 t, .int .i64 (m : Int), .int .i64 s, .int .i64 L, .int .i64 0, .slice (some ⟨gp, 0, none⟩) m m, .slice (some ⟨gh, 0, none⟩) m m] 113)
        refine hK.out _ _ ⟨cell_later hb5 hHz.1, cell_later hb5 hHz.2.1, cell_later hb5 hHz.2.2.1, cell_later hb5 hHz.2.2.2⟩ (fun hHeld => ?_)
        clear hK K hb5
        refine norm_ (a' := ?_) ?_ ?_
        rotate_left
        · simp only [Act.put, List.setIfInBounds_toArray, List.set_cons_zero, List.set_cons_succ, i64_w, i32_w]
          rfl
        refine last_ (i := 20) (N := some 72) #[true, true, true, true, true, true, true, true, true, true, true, true, true, true, true, true, true, true, true, true, true, false, false, false] rfl rfl (by kernel_rfl) (by decide) (fun K hK => ?_)
        refine step_append_cells (W := wz) base (by rfl) (.tmp 56) (.tmp 71) 108 113 (.agg #[.int .i64 0, .int .i64 0, .int .i64 0, .int .i64 0, .int .i64 0, .slice none 0 0, .slice none 0 0]) 7 88 rfl Try.underlying108 info113 rfl (by decide) (by decide) (.slice A3 Ks.length k3) Ks.length (flat encRD Ks) [.int .i64 t, .int .i64 (m : Int), .int .i64 s, .int .i64 L, .int .i64 0, .slice (some ⟨gp, 0, none⟩) m m, .slice (some ⟨gh, 0, none⟩) m m] (by rfl) (by rfl) rfl (by simp [Value.oneCell']) HXz.out.own (Below.refl base wz) HBz.out (x_small HKL.out) ?_
        intro v2 w5 ho5 hb5 hg5 hl5
        obtain ⟨A2, cc2, rfl⟩ := own_slice ho5
        have kf := blk_frozen (HXz.out.kept hg5) 2
        have kc : w5.cell? ⟨p, 2, none⟩ = some (.slice A3 Ks.length k3) := (blk_cell (HXz.out.kept hg5) 2).trans rfl
        refine hK.out _ _ ?_
        clear hK K
        refine norm_ (a' := ?_) ?_ ?_
        rotate_left
        · simp only [Act.put, List.setIfInBounds_toArray, List.set_cons_zero, List.set_cons_succ, i64_w, i32_w]
          rfl
        refine pure_ (i := 21) (N := some 73) (v := ?_) (a' := ?_) #[true, true, true, true, true, true, true, true, true, true, true, true, true, true, true, true, true, true, true, true, true, true, false, false] rfl rfl (by kernel_rfl) (fun _ _ _ h => h) (Or.inl ⟨by rfl, ?_⟩) ?_ ?_
        rotate_left
        · intro w'
          go_simp
          with_reducible rfl
        rotate_left
        · simp only [Act.put, List.setIfInBounds_toArray, List.set_cons_zero, List.set_cons_succ, i64_w, i32_w]
          rfl
        refine pure_ (i := 22) (N := some 74) (v := ?_) (a' := ?_) #[true, true, true, true, true, true, true, true, true, true, true, true, true, true, true, true, true, true, true, true, true, true, true, false] rfl rfl (by kernel_rfl) (fun _ _ _ h => h) (Or.inl ⟨by rfl, ?_⟩) ?_ ?_
        rotate_left
        · intro w'
          go_simp
          with_reducible rfl
        rotate_left
        · simp only [Act.put, List.setIfInBounds_toArray, List.set_cons_zero, List.set_cons_succ, i64_w, i32_w]
          rfl
        refine last_ (i := 23) (N := none) #[true, true, true, true, true, true, true, true, true, true, true, true, true, true, true, true, true, true, true, true, true, true, true, true] rfl rfl (by kernel_rfl) (by decide) (fun K hK => ?_)
        refine skip_ (w1 := w5.setCell ⟨p, 2, none⟩ (.slice A2 (Ks.length + 1) cc2)) (by rfl) rfl (exec_store (vx := .pointer (some ⟨p, 2, none⟩)) (vy := .slice A2 (Ks.length + 1) cc2) rfl (by rfl) (by rfl) (by first | (go_simp; done) | (go_simp; rfl))) ?_
        refine hK.out _ _ ?_
        clear hK K
        refine done_ (by kernel_rfl) ?_
        have hap := HXz.out.appended (c := (m : Int)) HMK.out.pb HMK.out.hb (Nat.le_trans HBd.out HMK.out.bp) (Nat.le_trans HBd.out HMK.out.bh) HNP.out rfl (fine32 HFM.out).1 (by rw [enc_newX]; exact ho5) hg5
        have HAX := Aside0.mk hap.1
        have HAF := Aside0.mk (HFz.out.trans hap.2)
        have HAB := Aside0.mk ((HEz.out.kept HXz.out hg5).set (k := p) (o := 2) (u := .slice A2 (Ks.length + 1) cc2) ((HEz.out.kept HXz.out hg5).ne (HXz.out.kept hg5) (by decide)))
        clear hap ho5 hb5 hg5 hl5 kf kc
        go_wp2
        go_meet
        case rel => exact ⟨Ks.length, Ks ++ [newX t m s L m gp gh], newX t m s L m gp gh, _, rfl, HAX, HAF, HAB, ⟨by simp⟩, ⟨.inr ⟨HFX.out, H8.out, rfl, gp, gh, rfl⟩⟩⟩
    · have q0 : decide (z < 0) = false := by rw [← HZ.out, hf]; exact x_neg
      rw [q0]
      have HFX := Aside0.mk hf
      have HD0 := Aside0.mk hd0
      clear hf hd0 htag
      go_wp2
      go_meet
      case rel => exact ⟨i, Ks, d0, v3, congrArg (Value.int .i64) (HZ.out.symm.trans HFX.out), HX3, HF3, HB3, HD0, ⟨.inl ⟨HFX.out, rfl⟩⟩⟩
  case rest =>
    obtain ⟨i, G, d0, v0, rfl, HX4, HF4, HB4, HD, HG⟩ := hcut
    have c2 := HX4.out.c2
    obtain ⟨GB, cap, cur, rfl, hGB, hrow⟩ := HX4.out.row (Nat.lt_of_le_of_lt (Nat.zero_le _) (List.getElem?_eq_some_iff.1 HD.out).1)
    obtain ⟨r0, r1, r2, r3, r4, r5, r6⟩ := rd_cells hrow HD.out
    obtain ⟨i0, i1, i2⟩ := bm_idx (List.getElem?_eq_some_iff.1 HD.out).1
    clear hrow
    obtain ⟨n, hn⟩ : ∃ n, G.length = n := ⟨_, rfl⟩
    rw [hn] at c2 i1 i2 HX4
    have HN := Aside0.mk hn
    clear hn
    go_upto_region 15 with (fail)
    obtain ⟨a0, a1, a2, a3, a4⟩ := HB4.out.cells
    go_cut [127] from 81 to 127 (fun v127 wx => v127 = .bool (!okX d0 m s L j d) ∧ ∃ q : Nat, wx = wc.drewN q)
    case first =>
      cases qa : (d0.cnt == (m : Int)) with
      | false =>
        have qa' : (d0.cnt != (m : Int)) = true := by rw [bne, qa]; rfl
        go_quiet (fail)
        go_wp2
        go_meet
        case rel => exact ⟨by rw [ok_a qa]; rfl, _, rfl⟩
      | true =>
        have qa' : (d0.cnt != (m : Int)) = false := by rw [bne, qa]; rfl
        have hml : d0.has.length = m := by
          have := (HX4.out.at_ d0 (List.mem_of_getElem? HD.out)).cnt
          have h2 := beq_iff_eq.1 qa
          omega
        rw [hml] at r5 r6
        have hjm := (fine32 HFM.out).2
        have hcell := (HX4.out.at_ d0 (List.mem_of_getElem? HD.out)).hcell (j := j) (by rw [hml]; exact hjm)
        have pcell := (HX4.out.at_ d0 (List.mem_of_getElem? HD.out)).pcell (j := j) (by rw [hml]; exact hjm)
        obtain ⟨j0, j1, j2⟩ := bm_idx hjm
        clear hml hjm
        cases qb : (d0.siz == s) with
        | false =>
          have qb' : (d0.siz != s) = true := by rw [bne, qb]; rfl
          go_quiet (fail)
          go_wp2
          go_meet
          case rel => exact ⟨by rw [ok_b qb]; rfl, _, rfl⟩
        | true =>
          have qb' : (d0.siz != s) = false := by rw [bne, qb]; rfl
          cases qc : (d0.len == L) with
          | false =>
            have qc' : (d0.len != L) = true := by rw [bne, qc]; rfl
            go_quiet (fail)
            go_wp2
            go_meet
            case rel => exact ⟨by rw [ok_c qc]; rfl, _, rfl⟩
          | true =>
            have qc' : (d0.len != L) = false := by rw [bne, qc]; rfl
            have HOK := Aside0.mk (ok_d (j := j) (x := d) qa qb qc)
            generalize d0.parts.getD j ⟨#[]⟩ = y at HOK pcell
            cases qh : d0.has.getD j false with
            | false =>
              rw [qh] at HOK hcell
              go_quiet (fail)
              go_wp2
              go_meet
              case rel => exact ⟨by rw [HOK.out]; rfl, _, rfl⟩
            | true =>
              rw [qh] at HOK hcell
              cases qe : (y.toList == d.toList) with
              | false =>
                rw [qe] at HOK
                have qe' : (y.toList != d.toList) = true := by rw [bne, qe]; rfl
                go_quiet (fail)
                go_wp2
                go_meet
                case rel => exact ⟨by rw [HOK.out]; rfl, _, rfl⟩
              | true =>
                rw [qe] at HOK
                have qe' : (y.toList != d.toList) = false := by rw [bne, qe]; rfl
                go_quiet (fail)
                go_wp2
                go_meet
                case rel => exact ⟨by rw [HOK.out]; rfl, _, rfl⟩
    case rest =>
      obtain ⟨rfl, q, rfl⟩ := hcut
      clear r0 r1 r2 r3 r4 r5 r6 c2 a0 a1 a2 a3 a4
      have HX5 := Aside0.mk (HX4.out.later (drewN_bel wc q))
      have HB5 := Aside0.mk (HB4.out.later (drewN_bel wc q))
      have HF5 := Aside0.mk (HF4.out.trans (Fr.of_below (drewN_bel wc q)))
      clear HX4 HB4 HF4
      generalize wc.drewN q = w5 at HX5 HB5 HF5 ⊢
      cases hok : okX d0 m s L j d with
      | false =>
        have HOK := Aside0.mk hok
        clear hok
        go_wp2
        go_ret3
        exact ⟨_, G, ⟨#[]⟩, false, 11, rfl, HX5.out, HF5.out, .inr ⟨G, i, d0, by rw [← HK.out]; exact HG.out, HD.out, .inl ⟨HOK.out, rfl, rfl, rfl, rfl⟩⟩⟩
      | true =>
        have HOK := Aside0.mk hok
        have hml : d0.has.length = m := by
          have := (HX5.out.at_ d0 (List.mem_of_getElem? HD.out)).cnt
          have h2 := ok_cnt hok
          omega
        have hjm := (fine32 HFM.out).2
        obtain ⟨j0, j1, j2⟩ := bm_idx hjm
        have HML := Aside0.mk hml
        clear hml hok hjm
        obtain ⟨r4, -, -, kf, hbl⟩ := HX5.out.cells HD.out
        have HBL := Aside0.mk hbl
        clear hbl
        go_upto_region 18 with (fail)
        have hs6 := HX5.out.setSlot HD.out slot
        have HX6 := Aside0.mk hs6.1
        have HF6 := Aside0.mk (HF5.out.trans hs6.2)
        have HB6 := Aside0.mk (by obtain ⟨cur, hc⟩ := HBL.out; exact HB5.out.set (k := GB) (o := i * 7 + 4) (u := .int .i64 slot) (HB5.out.ne hc (by decide)))
        clear hs6 HX5 HF5 HB5 r4 kf HBL
        have HD6 := Aside0.mk (set_at (y := { d0 with slot := slot }) HD.out)
        generalize w5.setCell ⟨GB, i * 7 + 4, none⟩ (.int .i64 slot) = w6 at HX6 HB6 HF6 ⊢
        obtain ⟨-, r5, r6, -, -⟩ := HX6.out.cells HD6.out
        have HW6 := Aside0.mk (whole_calls (w := w6) (g := d0.gh) (c := m) HML.out (Nat.le_trans (fine32 HFM.out).1 (by decide)) (fun j hj => (HX6.out.at_ _ (List.mem_of_getElem? HD6.out)).hcell (j := j) (by rw [← HML.out] at hj; exact hj)))
        have hml : ({ d0 with slot := slot } : RD).has.length = m := HML.out
        rw [hml] at r5 r6
        clear hml
        go_upto_region 19 with (go_at_call 65; (with_reducible refine HW6.out.mono ?_); rintro e w1' ⟨rfl, rfl⟩)
        clear HW6
        obtain ⟨wh, hwh⟩ : ∃ wh, allH d0.has = wh := ⟨_, rfl⟩
        rw [hwh]
        have HWH := Aside0.mk hwh
        clear hwh
        obtain ⟨a0, a1, a2, a3, a4⟩ := HB6.out.cells
        obtain ⟨hcell, kf⟩ := x_has (HX6.out.at_ _ (List.mem_of_getElem? HD6.out)) (j := j) (by rw [HML.out]; exact j2)
        refine start_ (n := 8) (S := fun w' => (w'.cell? ⟨GB, i * 7 + 6, none⟩ = some (.slice (some ⟨d0.gh, 0, none⟩) m m)) ∧ (w'.cell? ⟨E, 1, none⟩ = some (.int .i64 (j : Int)))) (ds := [7]) #[false, false, false, false, false, false, false, false] (by kernel_rfl) rfl rfl ⟨r6, a1⟩ (fun hHeld => ?_)
        refine pure_ (i := 0) (N := some 137) (v := ?_) (a' := ?_) #[true, false, false, false, false, false, false, false] rfl rfl (by kernel_rfl) (fun _ _ _ h => h) (Or.inl ⟨by rfl, ?_⟩) ?_ ?_
        rotate_left
        · intro w'
          go_simp
          with_reducible rfl
        rotate_left
        · simp only [Act.put, List.setIfInBounds_toArray, List.set_cons_zero, List.set_cons_succ, i64_w, i32_w]
          rfl
        refine pure_ (i := 1) (N := some 138) (v := ?_) (a' := ?_) #[true, true, false, false, false, false, false, false] rfl rfl (by kernel_rfl) (fun _ _ _ h => h) (Or.inl ⟨by rfl, ?_⟩) ?_ ?_
        rotate_left
        · intro w'
          go_simp
          with_reducible rfl
        rotate_left
        · simp only [Act.put, List.setIfInBounds_toArray, List.set_cons_zero, List.set_cons_succ, i64_w, i32_w]
          rfl
        refine pure_ (i := 2) (N := some 139) (v := ?_) (a' := ?_) #[true, true, true, false, false, false, false, false] rfl rfl (by kernel_rfl) (fun _ _ _ h => h) (Or.inl ⟨by rfl, ?_⟩) ?_ ?_
        rotate_left
        · intro w'
          go_simp
          with_reducible rfl
        rotate_left
        · simp only [Act.put, List.setIfInBounds_toArray, List.set_cons_zero, List.set_cons_succ, i64_w, i32_w]
          rfl
        refine take_ (i := 3) (N := some 140) (v := ?_) (a' := ?_) #[true, true, true, true, false, false, false, false] rfl rfl (by kernel_rfl) (fun _ _ _ h => h) (Or.inl ⟨by rfl, ?_⟩) hHeld ?_ ?_
        rotate_left
        · rintro w' ⟨s0, s1⟩
          go_simp
          with_reducible rfl
        rotate_left
        · simp only [Act.put, List.setIfInBounds_toArray, List.set_cons_zero, List.set_cons_succ, i64_w, i32_w]
          rfl
        refine pure_ (i := 4) (N := some 141) (v := ?_) (a' := ?_) #[true, true, true, true, true, false, false, false] rfl rfl (by kernel_rfl) (fun _ _ _ h => h) (Or.inl ⟨by rfl, ?_⟩) ?_ ?_
        rotate_left
        · intro w'
          go_simp
          with_reducible rfl
        rotate_left
        · simp only [Act.put, List.setIfInBounds_toArray, List.set_cons_zero, List.set_cons_succ, i64_w, i32_w]
          rfl
        refine take_ (i := 5) (N := some 142) (v := ?_) (a' := ?_) #[true, true, true, true, true, true, false, false] rfl rfl (by kernel_rfl) (fun _ _ _ h => h) (Or.inl ⟨by rfl, ?_⟩) hHeld ?_ ?_
        rotate_left
        · rintro w' ⟨s0, s1⟩
          go_simp
          with_reducible rfl
        rotate_left
        · simp only [Act.put, List.setIfInBounds_toArray, List.set_cons_zero, List.set_cons_succ, i64_w, i32_w]
          rfl
        refine pure_ (i := 6) (N := some 143) (v := ?_) (a' := ?_) #[true, true, true, true, true, true, true, false] rfl rfl (by kernel_rfl) (fun _ _ _ h => h) (Or.inl ⟨by rfl, ?_⟩) ?_ ?_
        rotate_left
        · intro w'
          go_simp
          with_reducible rfl
        rotate_left
        · simp only [Act.put, List.setIfInBounds_toArray, List.set_cons_zero, List.set_cons_succ, i64_w, i32_w]
          rfl
        refine last_ (i := 7) (N := none) #[true, true, true, true, true, true, true, true] rfl rfl (by kernel_rfl) (by decide) (fun K hK => ?_)
        refine skip_ (w1 := w1'.drew.setCell ⟨d0.gh, j, none⟩ (.bool true)) (by rfl) rfl (exec_store (vx := .pointer (some ⟨d0.gh, j, none⟩)) (vy := .bool true) rfl (by rfl) (by rfl) (by first | (go_simp; done) | (go_simp; rfl))) ?_
        refine hK.out _ _ ?_
        clear hK K
        refine done_ (by kernel_rfl) ?_
        have hx6 := HX6.out.later (refl_drewX _)
        have hb6 := HB6.out.later (refl_drewX _)
        have hs7 := hx6.setHas HD6.out j
        rw [List.set_set] at hs7
        have HX7 := Aside0.mk hs7.1
        have HF7 := Aside0.mk ((HF6.out.trans (Fr.of_below (refl_drewX _))).trans hs7.2)
        have HB7 := Aside0.mk (hb6.set (k := d0.gh) (o := j) (u := .bool true) (hb6.ne (hx6.at_ _ (List.mem_of_getElem? HD6.out)).hb (by decide)))
        clear hx6 hb6 hs7 HX6 HF6 HB6 HD6 hcell kf a0 a1 a2 a3 a4 r5 r6 hHeld
        have HD7 := Aside0.mk (set_at (y := { d0 with slot := slot, has := d0.has.set j true }) HD.out)
        have HX7 : Aside0 (XR (w1'.drew.setCell ⟨d0.gh, j, none⟩ (.bool true)) base p hold slot (.slice (some ⟨GB, 0, none⟩) n cap) (G.set i { d0 with slot := slot, has := d0.has.set j true })) := HX7
        generalize w1'.drew.setCell ⟨d0.gh, j, none⟩ (.bool true) = w7 at HX7 HB7 HF7 ⊢
        have HL7 := Aside0.mk (show (d0.has.set j true).length = m by rw [List.length_set]; exact HML.out)
        obtain ⟨-, r5', -, -, -⟩ := HX7.out.cells HD7.out
        have r5 : w7.cell? ⟨GB, i * 7 + 5, none⟩ = some (.slice (some ⟨d0.gp, 0, none⟩) m m) := by rw [← HL7.out]; exact r5'
        clear r5'
        obtain ⟨a0, a1, a2, a3, a4⟩ := HB7.out.cells
        obtain ⟨pcell, kf⟩ := x_part (HX7.out.at_ _ (List.mem_of_getElem? HD7.out)) (j := j) (by rw [HL7.out]; exact j2)
        go_upto_region 20 with (fail)
        refine start_ (n := 10) (S := fun w' => (w'.cell? ⟨GB, i * 7 + 5, none⟩ = some (.slice (some ⟨d0.gp, 0, none⟩) m m)) ∧ (w'.cell? ⟨E, 1, none⟩ = some (.int .i64 (j : Int))) ∧ (w'.cell? ⟨E, 4, none⟩ = some (.string d))) (ds := [9]) #[false, false, false, false, false, false, false, false, false, false] (by kernel_rfl) rfl rfl ⟨r5, a1, a4⟩ (fun hHeld => ?_)
        refine pure_ (i := 0) (N := some 144) (v := ?_) (a' := ?_) #[true, false, false, false, false, false, false, false, false, false] rfl rfl (by kernel_rfl) (fun _ _ _ h => h) (Or.inl ⟨by rfl, ?_⟩) ?_ ?_
        rotate_left
        · intro w'
          go_simp
          with_reducible rfl
        rotate_left
        · simp only [Act.put, List.setIfInBounds_toArray, List.set_cons_zero, List.set_cons_succ, i64_w, i32_w]
          rfl
        refine pure_ (i := 1) (N := some 145) (v := ?_) (a' := ?_) #[true, true, false, false, false, false, false, false, false, false] rfl rfl (by kernel_rfl) (fun _ _ _ h => h) (Or.inl ⟨by rfl, ?_⟩) ?_ ?_
        rotate_left
        · intro w'
          go_simp
          with_reducible rfl
        rotate_left
        · simp only [Act.put, List.setIfInBounds_toArray, List.set_cons_zero, List.set_cons_succ, i64_w, i32_w]
          rfl
        refine pure_ (i := 2) (N := some 146) (v := ?_) (a' := ?_) #[true, true, true, false, false, false, false, false, false, false] rfl rfl (by kernel_rfl) (fun _ _ _ h => h) (Or.inl ⟨by rfl, ?_⟩) ?_ ?_
        rotate_left
        · intro w'
          go_simp
          with_reducible rfl
        rotate_left
        · simp only [Act.put, List.setIfInBounds_toArray, List.set_cons_zero, List.set_cons_succ, i64_w, i32_w]
          rfl
        refine take_ (i := 3) (N := some 147) (v := ?_) (a' := ?_) #[true, true, true, true, false, false, false, false, false, false] rfl rfl (by kernel_rfl) (fun _ _ _ h => h) (Or.inl ⟨by rfl, ?_⟩) hHeld ?_ ?_
        rotate_left
        · rintro w' ⟨s0, s1, s2⟩
          go_simp
          with_reducible rfl
        rotate_left
        · simp only [Act.put, List.setIfInBounds_toArray, List.set_cons_zero, List.set_cons_succ, i64_w, i32_w]
          rfl
        refine pure_ (i := 4) (N := some 148) (v := ?_) (a' := ?_) #[true, true, true, true, true, false, false, false, false, false] rfl rfl (by kernel_rfl) (fun _ _ _ h => h) (Or.inl ⟨by rfl, ?_⟩) ?_ ?_
        rotate_left
        · intro w'
          go_simp
          with_reducible rfl
        rotate_left
        · simp only [Act.put, List.setIfInBounds_toArray, List.set_cons_zero, List.set_cons_succ, i64_w, i32_w]
          rfl
        refine take_ (i := 5) (N := some 149) (v := ?_) (a' := ?_) #[true, true, true, true, true, true, false, false, false, false] rfl rfl (by kernel_rfl) (fun _ _ _ h => h) (Or.inl ⟨by rfl, ?_⟩) hHeld ?_ ?_
        rotate_left
        · rintro w' ⟨s0, s1, s2⟩
          go_simp
          with_reducible rfl
        rotate_left
        · simp only [Act.put, List.setIfInBounds_toArray, List.set_cons_zero, List.set_cons_succ, i64_w, i32_w]
          rfl
        refine pure_ (i := 6) (N := some 150) (v := ?_) (a' := ?_) #[true, true, true, true, true, true, true, false, false, false] rfl rfl (by kernel_rfl) (fun _ _ _ h => h) (Or.inl ⟨by rfl, ?_⟩) ?_ ?_
        rotate_left
        · intro w'
          go_simp
          with_reducible rfl
        rotate_left
        · simp only [Act.put, List.setIfInBounds_toArray, List.set_cons_zero, List.set_cons_succ, i64_w, i32_w]
          rfl
        refine take_ (i := 7) (N := some 151) (v := ?_) (a' := ?_) #[true, true, true, true, true, true, true, true, false, false] rfl rfl (by kernel_rfl) (fun _ _ _ h => h) (Or.inl ⟨by rfl, ?_⟩) hHeld ?_ ?_
        rotate_left
        · rintro w' ⟨s0, s1, s2⟩
          go_simp
          with_reducible rfl
        rotate_left
        · simp only [Act.put, List.setIfInBounds_toArray, List.set_cons_zero, List.set_cons_succ, i64_w, i32_w]
          rfl
        refine pure_ (i := 8) (N := some 152) (v := ?_) (a' := ?_) #[true, true, true, true, true, true, true, true, true, false] rfl rfl (by kernel_rfl) (fun _ _ _ h => h) (Or.inl ⟨by rfl, ?_⟩) ?_ ?_
        rotate_left
        · intro w'
          go_simp
          with_reducible rfl
        rotate_left
        · simp only [Act.put, List.setIfInBounds_toArray, List.set_cons_zero, List.set_cons_succ, i64_w, i32_w]
          rfl
        refine last_ (i := 9) (N := none) #[true, true, true, true, true, true, true, true, true, true] rfl rfl (by kernel_rfl) (by decide) (fun K hK => ?_)
        refine skip_ (w1 := w7.drew.setCell ⟨d0.gp, j, none⟩ (.string d)) (by rfl) rfl (exec_store (vx := .pointer (some ⟨d0.gp, j, none⟩)) (vy := .string d) rfl (by rfl) (by rfl) (by first | (go_simp; done) | (go_simp; rfl))) ?_
        refine hK.out _ _ ?_
        clear hK K
        refine done_ (by kernel_rfl) ?_
        have hx7 := HX7.out.later (refl_drewX _)
        have hs8 := hx7.setPart HD7.out j d
        rw [List.set_set] at hs8
        have HX8 : Aside0 (XR (w7.drew.setCell ⟨d0.gp, j, none⟩ (.string d)) base p hold slot (.slice (some ⟨GB, 0, none⟩) n cap) (G.set i (putX d0 slot j d))) := ⟨hs8.1⟩
        have HF8 := Aside0.mk ((HF7.out.trans (Fr.of_below (refl_drewX _))).trans hs8.2)
        clear hx7 hs8 HX7 HF7 HB7 HD7 pcell kf a0 a1 a2 a3 a4 r5 hHeld
        have HF8 : Aside0 (Fr SX base w (w7.drew.setCell ⟨d0.gp, j, none⟩ (.string d))) := HF8
        generalize w7.drew.setCell ⟨d0.gp, j, none⟩ (.string d) = w8 at HX8 HF8 ⊢
        have HD8 := Aside0.mk (set_at (y := putX d0 slot j d) HD.out)
        have HA8 := Aside0.mk (HX8.out.at_ _ (List.mem_of_getElem? HD8.out))
        obtain ⟨-, r5', r6', -, -⟩ := HX8.out.cells HD8.out
        have r5 : w8.cell? ⟨GB, i * 7 + 5, none⟩ = some (.slice (some ⟨d0.gp, 0, none⟩) m m) := by rw [← HL7.out]; exact r5'
        have r6 : w8.cell? ⟨GB, i * 7 + 6, none⟩ = some (.slice (some ⟨d0.gh, 0, none⟩) m m) := by rw [← HL7.out]; exact r6'
        clear r5' r6'
        have HXP : Aside0 (∀ so ok, outX d0 (putX d0 slot j d) = (so, ok) → XP (keptX (slot - hold) ds) t m s L m j d slot (G.set i (putX d0 slot j d)) so ok 0) := ⟨fun so ok h => .inr ⟨G, i, d0, by rw [← HK.out]; exact HG.out, HD.out, .inr ⟨HOK.out, rfl, h, rfl⟩⟩⟩
        cases wh with
        | true =>
          have HO := Aside0.mk (show outX d0 (putX d0 slot j d) = (⟨#[]⟩, false) by unfold outX; rw [if_pos (.inl HWH.out)])
          go_wp2
          go_ret3
          first | exact ⟨_, _, ⟨#[]⟩, false, 0, rfl, HX8.out, HF8.out, HXP.out _ _ HO.out⟩ | exact ⟨_, _, ⟨#[]⟩, .inl ⟨0, rfl, HX8.out, HF8.out, HXP.out _ _ HO.out⟩⟩
        | false =>
          have HW8 := Aside0.mk (whole_calls (w := w8) (g := d0.gh) (c := m) HL7.out (Nat.le_trans (fine32 HFM.out).1 (by decide)) (fun j' hj => HA8.out.hcell (j := j') (by show j' < (d0.has.set j true).length; rw [HL7.out]; exact hj)))
          cases hw8 : allH (d0.has.set j true) with
          | false =>
            rw [hw8] at HW8
            have HO := Aside0.mk (show outX d0 (putX d0 slot j d) = (⟨#[]⟩, false) by unfold outX; rw [if_pos (.inr hw8)])
            clear hw8
            go_wp2_with (go_at_call 65; (with_reducible refine HW8.out.mono ?_); rintro e w1' ⟨rfl, rfl⟩)
            go_ret3
            exact ⟨_, _, ⟨#[]⟩, false, 0, rfl, HX8.out, HF8.out, HXP.out _ _ HO.out⟩
          | true =>
            rw [hw8] at HW8
            have HO := Aside0.mk (show outX d0 (putX d0 slot j d) = (catP (d0.parts.set j d), true) from out_t HWH.out hw8)
            clear hw8
            go_wp2_with (go_at_call 65; (with_reducible refine HW8.out.mono ?_); rintro e w1' ⟨rfl, rfl⟩)
            clear HW8 r6
            have HPL := Aside0.mk (show (d0.parts.set j d).length = m by rw [← HL7.out]; exact HA8.out.len)
            have HPC : Aside0 (∀ k, k < m → w1'.cell? ⟨d0.gp, k, none⟩ = some (.string ((d0.parts.set j d).getD k ⟨#[]⟩))) := ⟨fun k hk => HA8.out.pcell (j := k) (by show k < (d0.has.set j true).length; rw [HL7.out]; exact hk)⟩
            have HMM := Aside0.mk (Nat.le_trans (fine32 HFM.out).1 (show 32 ≤ 4000 by decide))
            have HSZ := Aside0.mk (pz_put (pz_gp (by rw [HK.out]; exact pz_kept HPZ.out _) HG.out) HD.out (x := d) (by have := HSM.out; omega) j)
            generalize d0.parts.set j d = ps at HO HPL HPC HSZ
            go_loop [13, 14] (fun t13 t14 => ∃ k : Nat, Aside0 (k ≤ m) ∧ t14 = .int .i64 (k : Int) ∧ t13 = .string (catP (ps.take k))) (fun _ t14 => ((m : Int) - intOf t14).toNat)
            case atStart => exact ⟨0, ⟨Nat.zero_le _⟩, rfl, by rw [List.take_zero]; rfl⟩
            case round =>
              obtain ⟨k, HKM, rfl, rfl⟩ := hrel
              by_cases hlt : k < m
              · have hcell := HPC.out k hlt
                obtain ⟨h1, h2, h3, h4, h5⟩ := x_step hlt HMM.out
                obtain ⟨f1, f2⟩ := cat_fits HSZ.out (k := k) (by rw [HPL.out]; exact hlt) (by rw [HPL.out]; exact HMM.out)
                have HST := Aside0.mk (cat_step (ps := ps) (k := k) (by rw [HPL.out]; exact hlt))
                have HLT := Aside0.mk hlt
                clear hlt
                generalize ps.getD k ⟨#[]⟩ = y at hcell HST f1 f2
                generalize catP (ps.take k) = x at HST f1 f2 ⊢
                go_wp2
                go_round
                case rel => exact ⟨k + 1, ⟨HLT.out⟩, congrArg (Value.int .i64) h1, by rw [HST.out]⟩
                case measure => rw [h1]; exact x_meas HLT.out
              · obtain ⟨h1, h2⟩ := x_stop hlt
                have HE := Aside0.mk (Nat.le_antisymm HKM.out (Nat.le_of_not_lt hlt))
                clear hlt
                go_wp2
                go_ret3
                exact ⟨_, _, _, .inr ⟨0, rfl, HX8.out, HF8.out, HXP.out _ _ (by rw [HO.out, HE.out, List.take_of_length_le (by rw [HPL.out]; exact Nat.le_refl _)])⟩⟩
end Go.Proofs.Ytokapofgbcbajaa.Fns
