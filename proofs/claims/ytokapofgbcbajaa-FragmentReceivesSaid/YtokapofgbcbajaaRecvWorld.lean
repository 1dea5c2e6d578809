/- What a *fragment.Receiver holds in memory: its struct, its map of pointers, the datagrams; and how it changes. -/
import Derived.Test.YtokapofgbcbajaaFBase
import Derived.Test.YtokapofgbcbajaaSpec
import Derived.Maps.OwnSet
import Derived.Lib.SlMapFilter
namespace Go.Proofs.Ytokapofgbcbajaa.Fns
open Go.RowKit Go.Maps Go.Proofs.YtokapofgbcbajaaW.PrintWords Go.Proofs.YtokapofgbcbajaaW.PrintLast Go.Proofs.YtokapofgbcbajaaW.PrintMore
set_option linter.unusedVariables false
set_option linter.unusedSimpArgs false
/-- What a receiver has of a datagram. -/
structure Dg where
  cnt : Int
  siz : Int
  prt : Int
  lst : Int
  bmp : Nat
  parts : List ByteArray
def dgL (d : Dg) : List Value := [.int .i64 d.cnt, .int .i64 d.siz, .int .i64 d.prt, .int .i64 d.lst, .int .i64 (d.bmp : Int)] ++ d.parts.map Value.string
structure Ent where
  tag : Int
  blk : Nat
  d : Dg
/-- How a pointer to one of some blocks reads: as the block's number. -/
def pR (live : List Nat) (v : Value) : Option (DataW Unit × List MemPlace) :=
  match v with
  | .pointer (some ⟨B, 0, none⟩) => if B ∈ live then some (.lit (.int .i64 (B : Int)), []) else none
  | _ => none
theorem pR_mk {live : List Nat} {B : Nat} (h : B ∈ live) : pR live (.pointer (some ⟨B, 0, none⟩)) = some (.lit (.int .i64 (B : Int)), []) := by simp [pR, h]
theorem pR_inv {live : List Nat} {v : Value} {z : DataW Unit × List MemPlace} (h : pR live v = some z) : ∃ B, B ∈ live ∧ v = .pointer (some ⟨B, 0, none⟩) ∧ z = (.lit (.int .i64 (B : Int)), []) := by
  unfold pR at h
  split at h
  · rename_i B
    split at h
    · rename_i hB
      exact ⟨B, hB, rfl, (Option.some.inj h).symm⟩
    · cases h
  · cases h
theorem pR_mono {live live' : List Nat} (hl : ∀ B ∈ live, B ∈ live') {v : Value} {z : DataW Unit × List MemPlace} (h : pR live v = some z) : pR live' v = some z := by
  obtain ⟨B, hB, rfl, rfl⟩ := pR_inv h
  exact pR_mk (hl B hB)
def kv (e : Ent) : Lit × DataW Unit := (.int .i64 e.tag, .lit (.int .i64 (e.blk : Int)))
def mD (es : List Ent) : DataW Unit := .map (es.map kv)
def DgAt (w : World) (B : Nat) (d : Dg) : Prop := w.heap[B]? = some (.cells (dgL d).toArray 84 (0, 0)) ∧ d.parts.length = 32
structure RW (w : World) (base p b : Nat) (hold time : Int) (live : List Nat) (es : List Ent) : Prop where
  blk : w.heap[p]? = some (.cells #[.int .i64 hold, .int .i64 time, .map (some b)] 79 (0, 0))
  hp : base ≤ p
  hb : base ≤ b
  map : w.ownsMap Try.prog 3 (pR live) b es.length (mD es)
  lives : ∀ B ∈ live, base ≤ B ∧ ∃ d, DgAt w B d
  dgs : ∀ e ∈ es, e.blk ∈ live ∧ DgAt w e.blk e.d
  rise : es.Pairwise (fun x y => x.tag < y.tag)
  apart : es.Pairwise (fun x y => x.blk ≠ y.blk)
  small : ∀ e ∈ es, 0 ≤ e.tag ∧ e.tag ≤ 255
theorem grown_of_below {a c : World} (h : Below a.heap.size a c) (row : Option Nat) : a.grownBy c row := ⟨h.os, h.tape, h.output, h.size, fun k hk _ => h.block k hk⟩
theorem owns_tight {H : Type} {P : Program} {k : TypeId} {R : Value → Option (DataW H × List MemPlace)} {w : World} {b n : Nat} {D : DataW H} (h : w.ownsMap P k R b n D) : w.ownsMap P k R b (Maps.size D) D := by
  obtain ⟨es, clock, hb, F, hs, rfl⟩ := h
  refine ⟨es, clock, hb, F, ?_, rfl⟩
  simp [Maps.size, length_sorted]
theorem owns_stay {H : Type} {P : Program} {k : TypeId} {R R' : Value → Option (DataW H × List MemPlace)} {w : World} {b n : Nat} {D : DataW H} (h : w.ownsMap P k R b n D) (hR : ∀ v z, R v = some z → R' v = some z) : w.ownsMap P k R' b n D := by
  obtain ⟨es, clock, hb, F, hs, rfl⟩ := h
  obtain ⟨F', e1, _⟩ := F.stay (R' := R') (fun x _ z hz => hR _ z hz)
  exact ⟨es, clock, hb, F', hs, by rw [e1]⟩
theorem owns_map {H : Type} {P : Program} {k : TypeId} {R : Value → Option (DataW H × List MemPlace)} {w : World} {b n : Nat} {D : DataW H} (h : w.ownsMap P k R b n D) : ∃ es clock, w.heap[b]? = some (.map es clock) := by
  obtain ⟨es, clock, hb, _⟩ := h
  exact ⟨es, clock, hb⟩
theorem key3 : Keyed Try.prog 3 := Maps.int_keyed Try.underlying3
theorem wf_small {t : Int} (h : 0 ≤ t ∧ t ≤ 255) : (Lit.int .i64 t).wf = true := by
  unfold Lit.wf
  simp [IntKind.min, IntKind.max, IntKind.bits, IntKind.signed]
  omega
theorem key_of {t : Int} (h : (Lit.int .i64 t).wf = true) : keyOf Try.prog 3 (.int .i64 t) = some (.int .i64 t) := Maps.keyOf_int_mk Try.underlying3 h
section
variable {w wx : World} {base p b : Nat} {hold time : Int} {live : List Nat} {es : List Ent}
theorem DgAt.later {w wx : World} {B : Nat} {d : Dg} (h : DgAt w B d) (hb : Below w.heap.size w wx) : DgAt wx B d := ⟨blk_later hb h.1, h.2⟩
theorem DgAt.move {w wx : World} {B : Nat} {d : Dg} (h : DgAt w B d) (hb : wx.heap[B]? = w.heap[B]?) : DgAt wx B d := ⟨hb.trans h.1, h.2⟩
theorem RW.later (h : RW w base p b hold time live es) (hb : Below w.heap.size w wx) : RW wx base p b hold time live es :=
  ⟨blk_later hb h.blk, h.hp, h.hb, h.map.kept (grown_of_below hb none) (by simp), fun B hB => ⟨(h.lives B hB).1, (h.lives B hB).2.imp fun d hd => hd.later hb⟩, fun e he => ⟨(h.dgs e he).1, (h.dgs e he).2.later hb⟩, h.rise, h.apart, h.small⟩
theorem RW.drew (h : RW w base p b hold time live es) : RW w.drew base p b hold time live es := h.later (Below.refl _ _).drew
theorem RW.mapblk (h : RW w base p b hold time live es) : ∃ a c, w.heap[b]? = some (.map a c) := owns_map h.map
theorem RW.ne_dg (h : RW w base p b hold time live es) {B : Nat} (hB : B ∈ live) : B ≠ b ∧ B ≠ p := by
  obtain ⟨_, d, hd⟩ := h.lives B hB
  obtain ⟨a, c, hm⟩ := h.mapblk
  constructor
  · rintro rfl
    rw [hd.1] at hm
    cases hm
  · rintro rfl
    have := hd.1
    rw [h.blk] at this
    injection this with this; injection this with _ h2; exact absurd h2 (by decide)
theorem RW.ne_pb (h : RW w base p b hold time live es) : p ≠ b := by
  obtain ⟨a, c, hm⟩ := h.mapblk
  rintro rfl
  rw [h.blk] at hm
  cases hm
theorem RW.c0 (h : RW w base p b hold time live es) : w.cell? ⟨p, 0, none⟩ = some (.int .i64 hold) := (blk_cell h.blk 0).trans rfl
theorem RW.c1 (h : RW w base p b hold time live es) : w.cell? ⟨p, 1, none⟩ = some (.int .i64 time) := (blk_cell h.blk 1).trans rfl
theorem RW.c2 (h : RW w base p b hold time live es) : w.cell? ⟨p, 2, none⟩ = some (.map (some b)) := (blk_cell h.blk 2).trans rfl
theorem DgAt.cells {B : Nat} {d : Dg} (h : DgAt w B d) : w.cell? ⟨B, 0, none⟩ = some (.int .i64 d.cnt) ∧ w.cell? ⟨B, 1, none⟩ = some (.int .i64 d.siz) ∧ w.cell? ⟨B, 2, none⟩ = some (.int .i64 d.prt) ∧ w.cell? ⟨B, 3, none⟩ = some (.int .i64 d.lst) ∧ w.cell? ⟨B, 4, none⟩ = some (.int .i64 (d.bmp : Int)) :=
  ⟨(blk_cell h.1 0).trans rfl, (blk_cell h.1 1).trans rfl, (blk_cell h.1 2).trans rfl, (blk_cell h.1 3).trans rfl, (blk_cell h.1 4).trans rfl⟩
theorem DgAt.part {B : Nat} {d : Dg} (h : DgAt w B d) {i : Nat} (hi : i < 32) : w.cell? ⟨B, 5 + i, none⟩ = some (.string (d.parts.getD i ⟨#[]⟩)) := by
  rw [blk_cell h.1 (5 + i)]
  have hl : i < d.parts.length := by rw [h.2]; exact hi
  rw [show 5 + i = i + 1 + 1 + 1 + 1 + 1 by omega]
  simp [dgL, List.getD_eq_getElem?_getD, hl]
theorem mD_at (hr : es.Pairwise (fun x y => x.tag < y.tag)) {e : Ent} (he : e ∈ es) (hw : (Lit.int .i64 e.tag).wf = true) (z : DataW Unit) : (mD es).atKey (.int .i64 e.tag) z = .lit (.int .i64 (e.blk : Int)) := by
  refine WideAt.atKey_mem z (key3.key (key_of hw)) ?_ (List.mem_map.2 ⟨e, he, rfl⟩)
  rw [List.pairwise_map]
  refine hr.imp (fun hlt => ?_)
  intro he2
  simp only [kv, Lit.int.injEq, true_and] at he2
  omega
theorem mD_none {t : Int} (h : ∀ e ∈ es, e.tag ≠ t) (z : DataW Unit) : (mD es).atKey (.int .i64 t) z = z := by
  unfold mD DataW.atKey
  have : (es.map kv).find? (fun p => p.1.sameKey (.int .i64 t)) = none := by
    refine List.find?_eq_none.2 (fun q hq => ?_)
    obtain ⟨e, he, rfl⟩ := List.mem_map.1 hq
    simp [kv, Lit.sameKey, h e he]
  simp only [this]
/-- The map is asked. -/
theorem RW.look (h : RW w base p b hold time live es) (c : Bool) {t : Int} (ht : (Lit.int .i64 t).wf = true) :
    (∃ e ∈ es, e.tag = t ∧ (Instr.lookup 77 (.map (some b)) (.int .i64 t) c).run Try.prog w = .ok (if c then .tuple #[.pointer (some ⟨e.blk, 0, none⟩), .bool true] else .pointer (some ⟨e.blk, 0, none⟩)) w) ∨
    ((∀ e ∈ es, e.tag ≠ t) ∧ (Instr.lookup 77 (.map (some b)) (.int .i64 t) c).run Try.prog w = .ok (if c then .tuple #[.pointer none, .bool false] else .pointer none) w) := by
  obtain ⟨a, clock, hb, F, _, hD⟩ := h.map
  rcases Maps.fit_look c key3 Try.underlying77 (Try.zeroValue81 w) hb F (key_of ht) with ⟨hrun, _, hat⟩ | ⟨e0, y, _, _, hrun, hRv, hat, _⟩
  · rw [← hD] at hat
    refine .inr ⟨fun e he hte => ?_, hrun⟩
    have h1 := mD_at h.rise he (by rw [hte]; exact ht) .nil
    rw [hte, hat .nil] at h1
    cases h1
  · rw [← hD] at hat
    obtain ⟨B, hB, hv, rfl⟩ := pR_inv hRv
    by_cases hex : ∃ e ∈ es, e.tag = t
    · obtain ⟨e, he, hte⟩ := hex
      have h1 := mD_at h.rise he (by rw [hte]; exact ht) .nil
      rw [hte, hat .nil] at h1
      have h2 : B = e.blk := by
        simp only [DataW.lit.injEq, Lit.int.injEq, true_and] at h1
        omega
      subst h2
      refine .inl ⟨e, he, hte, ?_⟩
      rw [hrun, hv]
    · have h1 := mD_none (es := es) (fun e he hte => hex ⟨e, he, hte⟩) (t := t) .nil
      rw [hat .nil] at h1
      cases h1
theorem RW.len (h : RW w base p b hold time live es) (ty : TypeId) : (Builtin.len_ #[77] ty #[.map (some b)]).run Try.prog w = .ok (.int .i64 (es.length : Int)) w := by
  have := h.map.len Try.underlying77 ty
  rw [this]
  simp [mD, Maps.size]
/-- One field of a datagram is written. -/
def upd (es : List Ent) (B : Nat) (d : Dg) : List Ent := es.map fun x => if x.blk = B then { x with d := d } else x
theorem upd_length (es : List Ent) (B : Nat) (d : Dg) : (upd es B d).length = es.length := by simp [upd]
theorem upd_mD (es : List Ent) (B : Nat) (d : Dg) : mD (upd es B d) = mD es := by
  unfold mD upd
  rw [List.map_map]
  congr 1
  refine List.map_congr_left (fun x _ => ?_)
  simp only [Function.comp]
  split <;> rfl
theorem upd_tag (x : Ent) (B : Nat) (d : Dg) : (if x.blk = B then { x with d := d } else x : Ent).tag = x.tag ∧ (if x.blk = B then { x with d := d } else x : Ent).blk = x.blk := by split <;> exact ⟨rfl, rfl⟩
theorem RW.setDg (h : RW w base p b hold time live es) {e : Ent} (he : e ∈ es) {d0 : Dg} (h0 : DgAt w e.blk d0) (j : Nat) (u : Value) (d : Dg) (hd : (dgL d0).toArray.setIfInBounds j u = (dgL d).toArray) (hl : d.parts.length = 32) :
    RW (w.setCell ⟨e.blk, j, none⟩ u) base p b hold time live (upd es e.blk d) := by
  obtain ⟨hlv, _⟩ := h.dgs e he
  obtain ⟨n1, n2⟩ := h.ne_dg hlv
  have hnew : (w.setCell ⟨e.blk, j, none⟩ u).heap[e.blk]? = some (.cells (dgL d).toArray 84 (0, 0)) := blk_put h0.1 j u hd
  have hoth : ∀ k, k ≠ e.blk → (w.setCell ⟨e.blk, j, none⟩ u).heap[k]? = w.heap[k]? := fun k hk => Below.heap_setCell w ⟨e.blk, j, none⟩ u k hk
  have hlen : w.heap.size = (w.setCell ⟨e.blk, j, none⟩ u).heap.size := by simp
  refine ⟨(hoth p n2.symm).trans h.blk, h.hp, h.hb, ?_, ?_, ?_, ?_, ?_, ?_⟩
  · rw [upd_length, upd_mD]
    exact h.map.kept (row := some e.blk) ⟨rfl, rfl, rfl, by rw [← hlen]; exact Nat.le_refl _, fun k _ hk => hoth k (fun e1 => hk (by rw [e1]))⟩ (by simpa using n1.symm)
  · intro B hB
    obtain ⟨g1, d1, g2⟩ := h.lives B hB
    refine ⟨g1, ?_⟩
    by_cases e1 : B = e.blk
    · subst e1; exact ⟨d, hnew, hl⟩
    · exact ⟨d1, g2.move (hoth B e1)⟩
  · intro x hx
    obtain ⟨y, hy, rfl⟩ := List.mem_map.1 hx
    obtain ⟨g1, g2⟩ := h.dgs y hy
    by_cases e1 : y.blk = e.blk
    · rw [if_pos e1]
      refine ⟨g1, ?_⟩
      show DgAt _ y.blk d
      rw [e1]
      exact ⟨hnew, hl⟩
    · rw [if_neg e1]
      exact ⟨g1, g2.move (hoth _ e1)⟩
  · unfold upd
    rw [List.pairwise_map]
    refine h.rise.imp (fun hlt => ?_)
    rw [(upd_tag _ _ _).1, (upd_tag _ _ _).1]; exact hlt
  · unfold upd
    rw [List.pairwise_map]
    refine h.apart.imp (fun hlt => ?_)
    rw [(upd_tag _ _ _).2, (upd_tag _ _ _).2]; exact hlt
  · intro x hx
    obtain ⟨y, hy, rfl⟩ := List.mem_map.1 hx
    rw [(upd_tag _ _ _).1]
    exact h.small y hy
/-- The time is written. -/
theorem RW.setTime (h : RW w base p b hold time live es) (t : Int) : RW (w.setCell ⟨p, 1, none⟩ (.int .i64 t)) base p b hold t live es := by
  have hoth : ∀ k, k ≠ p → (w.setCell ⟨p, 1, none⟩ (.int .i64 t)).heap[k]? = w.heap[k]? := fun k hk => Below.heap_setCell w ⟨p, 1, none⟩ _ k hk
  refine ⟨blk_put h.blk 1 _ rfl, h.hp, h.hb, ?_, ?_, ?_, h.rise, h.apart, h.small⟩
  · exact h.map.kept (row := some p) ⟨rfl, rfl, rfl, by simp, fun k _ hk => hoth k (fun e1 => hk (by rw [e1]))⟩ (by simpa using h.ne_pb.symm)
  · intro B hB
    obtain ⟨g1, d1, g2⟩ := h.lives B hB
    exact ⟨g1, d1, g2.move (hoth B (h.ne_dg hB).2)⟩
  · intro x hx
    obtain ⟨g1, g2⟩ := h.dgs x hx
    exact ⟨g1, g2.move (hoth _ (h.ne_dg g1).2)⟩
end
end Go.Proofs.Ytokapofgbcbajaa.Fns
