/- The reference's receiver: what its stores do. -/
import Derived.Test.YtokapofgbcbajaaXBitmap
namespace Go.Proofs.Ytokapofgbcbajaa.Fns
open Go.RowKit Go.Maps Go.Proofs.YtokapofgbcbajaaW.PrintWords Go.Proofs.YtokapofgbcbajaaW.PrintLast Go.Proofs.YtokapofgbcbajaaW.PrintMore
set_option linter.unusedVariables false
set_option linter.unusedSimpArgs false
theorem IsRow.setc {w : World} {e : TypeId} {size g n cap : Nat} {xs : List Value} {cur : Array Value} (h : IsRow w e size g n cap xs cur) (m : Nat) (u : Value) :
    IsRow (w.setCell ⟨g, m, none⟩ u) e size g n cap (xs.set m u) (cur.setIfInBounds m u) := by
  have hf := h.full
  have hl := h.len
  refine ⟨blk_set h.blk m u, h.le, h.small, by simp [hf], ?_, by simp [hl]⟩
  rw [Array.toList_setIfInBounds, List.take_set, h.take]
theorem flat_set {α : Type} {enc : α → List Value} {size : Nat} (he : ∀ x, (enc x).length = size) : ∀ (xs : List α) (i j : Nat) (x y : α) (u : Value), xs[i]? = some x → j < size → (enc x).set j u = enc y → (flat enc xs).set (i * size + j) u = flat enc (xs.set i y)
  | [], i, j, x, y, u, h, _, _ => by simp at h
  | z :: r, 0, j, x, y, u, h, hj, hu => by
    obtain rfl : z = x := by simpa using h
    simp only [flat, List.flatMap_cons, Nat.zero_mul, Nat.zero_add, List.set_cons_zero]
    rw [List.set_append_left _ _ (by rw [he]; exact hj), hu]
  | z :: r, i + 1, j, x, y, u, h, hj, hu => by
    have h' : r[i]? = some x := by simpa using h
    have ih := flat_set he r i j x y u h' hj hu
    simp only [flat, List.flatMap_cons, List.set_cons_succ] at ih ⊢
    rw [List.set_append_right _ _ (by rw [he, Nat.add_mul]; omega), he, show (i + 1) * size + j - size = i * size + j by rw [Nat.add_mul]; omega, ih]
theorem flat_same {α : Type} {enc : α → List Value} : ∀ (xs : List α) (i : Nat) (x y : α), xs[i]? = some x → enc y = enc x → flat enc (xs.set i y) = flat enc xs
  | [], i, x, y, h, _ => by simp at h
  | z :: r, 0, x, y, h, hu => by
    obtain rfl : z = x := by simpa using h
    simp only [flat, List.flatMap_cons, List.set_cons_zero]
    rw [hu]
  | z :: r, i + 1, x, y, h, hu => by
    have h' : r[i]? = some x := by simpa using h
    have ih := flat_same r i x y h' hu
    simp only [flat, List.flatMap_cons, List.set_cons_succ] at ih ⊢
    rw [ih]
theorem pair_set {α : Type} {R : α → α → Prop} : ∀ {xs : List α} {i : Nat} {x y : α}, xs.Pairwise R → xs[i]? = some x → (∀ z, R x z → R y z) → (∀ z, R z x → R z y) → (xs.set i y).Pairwise R
  | [], i, x, y, h, hx, _, _ => by simp at hx
  | z :: r, 0, x, y, h, hx, h1, h2 => by
    obtain rfl : z = x := by simpa using hx
    obtain ⟨h3, h4⟩ := List.pairwise_cons.1 h
    exact List.pairwise_cons.2 ⟨fun a ha => h1 a (h3 a ha), h4⟩
  | z :: r, i + 1, x, y, h, hx, h1, h2 => by
    obtain ⟨h3, h4⟩ := List.pairwise_cons.1 h
    have hx' : r[i]? = some x := by simpa using hx
    refine List.pairwise_cons.2 ⟨fun a ha => ?_, pair_set h4 hx' h1 h2⟩
    rcases List.mem_or_eq_of_mem_set ha with ha | rfl
    · exact h3 a ha
    · exact h2 z (h3 x (List.mem_of_getElem? hx'))
theorem set_mem {α : Type} {xs : List α} {i : Nat} {y z : α} (hz : z ∈ xs.set i y) : z = y ∨ ∃ j, j ≠ i ∧ xs[j]? = some z := by
  obtain ⟨j, hj, rfl⟩ := List.mem_iff_getElem.1 hz
  rw [List.getElem_set]
  rw [List.length_set] at hj
  by_cases e : i = j
  · rw [if_pos e]; exact .inl rfl
  · rw [if_neg e]; exact .inr ⟨j, fun h => e h.symm, List.getElem?_eq_getElem hj⟩
theorem apart_of {ds : List RD} (h : ds.Pairwise (fun x y => x.gp ≠ y.gp ∧ x.gh ≠ y.gh)) {i j : Nat} {x y : RD} (hx : ds[i]? = some x) (hy : ds[j]? = some y) (hij : j ≠ i) : y.gp ≠ x.gp ∧ y.gh ≠ x.gh := by
  obtain ⟨h1, rfl⟩ := List.getElem?_eq_some_iff.1 hx
  obtain ⟨h2, rfl⟩ := List.getElem?_eq_some_iff.1 hy
  rcases Nat.lt_or_gt_of_ne hij with h3 | h3
  · exact List.pairwise_iff_getElem.1 h j i h2 h1 h3
  · have := List.pairwise_iff_getElem.1 h i j h1 h2 h3
    exact ⟨fun e => this.1 e.symm, fun e => this.2 e.symm⟩
section
variable {w : World} {base p : Nat} {hold time : Int} {GB n cap : Nat} {ds : List RD}
theorem cells_ne {k k' : Nat} {c c' : Array Value} {e e' : TypeId} {q q' : Nat × Nat} (h : w.heap[k]? = some (.cells c e q)) (h' : w.heap[k']? = some (.cells c' e' q')) (he : e ≠ e') : k ≠ k' := by
  rintro rfl
  rw [h] at h'
  injection h' with h'; injection h' with _ h2
  exact he h2
/-- The slot of a datagram is written. -/
theorem XR.setSlot (h : XR w base p hold time (.slice (some ⟨GB, 0, none⟩) n cap) ds) {i : Nat} {d : RD} (hd : ds[i]? = some d) (t : Int) :
    XR (w.setCell ⟨GB, i * 7 + 4, none⟩ (.int .i64 t)) base p hold time (.slice (some ⟨GB, 0, none⟩) n cap) (ds.set i { d with slot := t }) ∧ Fr SX base w (w.setCell ⟨GB, i * 7 + 4, none⟩ (.int .i64 t)) := by
  obtain ⟨G', cap', cur, hv, hG, hrow⟩ := h.row (Nat.lt_of_le_of_lt (Nat.zero_le _) (List.getElem?_eq_some_iff.1 hd).1)
  injection hv with hA hn hcap
  injection hA with hA
  injection hA with hA
  subst hA; subst hn; subst hcap
  have hoth : ∀ k, k ≠ GB → (w.setCell ⟨GB, i * 7 + 4, none⟩ (.int .i64 t)).heap[k]? = w.heap[k]? := fun k hk => Below.heap_setCell w ⟨GB, i * 7 + 4, none⟩ _ k hk
  have hr := hrow.setc (i * 7 + 4) (.int .i64 t)
  rw [flat_set encRD_length ds i 4 d { d with slot := t } _ hd (by decide) rfl] at hr
  refine ⟨⟨(hoth p (cells_ne h.blk hrow.blk (by decide))).trans h.blk, h.hp, ?_, ?_, ?_⟩, (Fr.refl w).setCell hrow.blk rfl hG _⟩
  · rw [List.length_set]; exact hr.own hG
  · intro z hz
    rcases set_mem hz with rfl | ⟨j, hj, hz⟩
    · have h1 := h.at_ d (List.mem_of_getElem? hd)
      exact ⟨h1.bp, h1.bh, (hoth _ (cells_ne h1.pb hrow.blk (by decide))).trans h1.pb, (hoth _ (cells_ne h1.hb hrow.blk (by decide))).trans h1.hb, h1.len, h1.cnt, h1.c32⟩
    · have h1 := h.at_ z (List.mem_of_getElem? hz)
      exact h1.move (hoth _ (cells_ne h1.pb hrow.blk (by decide))) (hoth _ (cells_ne h1.hb hrow.blk (by decide)))
  · exact pair_set h.apart hd (fun z hz => hz) (fun z hz => hz)
/-- A part is marked as there. -/
theorem XR.setHas (h : XR w base p hold time (.slice (some ⟨GB, 0, none⟩) n cap) ds) {i : Nat} {d : RD} (hd : ds[i]? = some d) (j : Nat) :
    XR (w.setCell ⟨d.gh, j, none⟩ (.bool true)) base p hold time (.slice (some ⟨GB, 0, none⟩) n cap) (ds.set i { d with has := d.has.set j true }) ∧ Fr SX base w (w.setCell ⟨d.gh, j, none⟩ (.bool true)) := by
  have h0 := h.at_ d (List.mem_of_getElem? hd)
  have hoth : ∀ k, k ≠ d.gh → (w.setCell ⟨d.gh, j, none⟩ (.bool true)).heap[k]? = w.heap[k]? := fun k hk => Below.heap_setCell w ⟨d.gh, j, none⟩ _ k hk
  have henc : encRD { d with has := d.has.set j true } = encRD d := by simp [encRD]
  refine ⟨⟨(hoth p (cells_ne h.blk h0.hb (by decide))).trans h.blk, h.hp, ?_, ?_, ?_⟩, (Fr.refl w).setCell h0.hb rfl h0.bh _⟩
  · rw [List.length_set, flat_same ds i d _ hd henc]
    refine own_move h.own (fun k hk => hoth k ?_)
    obtain ⟨c, hc⟩ := own_typed h.own k hk
    exact cells_ne hc h0.hb (by decide)
  · intro z hz
    rcases set_mem hz with rfl | ⟨j', hj, hz⟩
    · refine ⟨h0.bp, h0.bh, (hoth _ (cells_ne h0.pb h0.hb (by decide))).trans h0.pb, ?_, ?_, ?_, ?_⟩
      · refine blk_put h0.hb j _ ?_
        rw [List.setIfInBounds_toArray, ← List.map_set]
      · rw [List.length_set]; exact h0.len
      · rw [List.length_set]; exact h0.cnt
      · rw [List.length_set]; exact h0.c32
    · have h1 := h.at_ z (List.mem_of_getElem? hz)
      exact h1.move (hoth _ (cells_ne h1.pb h0.hb (by decide))) (hoth _ (apart_of h.apart hd hz hj).2)
  · exact pair_set h.apart hd (fun z hz => hz) (fun z hz => hz)
/-- A part is written. -/
theorem XR.setPart (h : XR w base p hold time (.slice (some ⟨GB, 0, none⟩) n cap) ds) {i : Nat} {d : RD} (hd : ds[i]? = some d) (j : Nat) (x : ByteArray) :
    XR (w.setCell ⟨d.gp, j, none⟩ (.string x)) base p hold time (.slice (some ⟨GB, 0, none⟩) n cap) (ds.set i { d with parts := d.parts.set j x }) ∧ Fr SX base w (w.setCell ⟨d.gp, j, none⟩ (.string x)) := by
  have h0 := h.at_ d (List.mem_of_getElem? hd)
  have hoth : ∀ k, k ≠ d.gp → (w.setCell ⟨d.gp, j, none⟩ (.string x)).heap[k]? = w.heap[k]? := fun k hk => Below.heap_setCell w ⟨d.gp, j, none⟩ _ k hk
  refine ⟨⟨(hoth p (cells_ne h.blk h0.pb (by decide))).trans h.blk, h.hp, ?_, ?_, ?_⟩, (Fr.refl w).setCell h0.pb rfl h0.bp _⟩
  · rw [List.length_set, flat_same ds i d { d with parts := d.parts.set j x } hd rfl]
    refine own_move h.own (fun k hk => hoth k ?_)
    obtain ⟨c, hc⟩ := own_typed h.own k hk
    exact cells_ne hc h0.pb (by decide)
  · intro z hz
    rcases set_mem hz with rfl | ⟨j', hj, hz⟩
    · refine ⟨h0.bp, h0.bh, ?_, (hoth _ (cells_ne h0.hb h0.pb (by decide))).trans h0.hb, ?_, h0.cnt, h0.c32⟩
      · refine blk_put h0.pb j _ ?_
        rw [List.setIfInBounds_toArray, ← List.map_set]
      · rw [List.length_set]; exact h0.len
    · have h1 := h.at_ z (List.mem_of_getElem? hz)
      exact h1.move (hoth _ (apart_of h.apart hd hz hj).1) (hoth _ (cells_ne h1.hb h0.pb (by decide)))
  · exact pair_set h.apart hd (fun z hz => hz) (fun z hz => hz)
end
def putX (d : RD) (slot : Int) (j : Nat) (x : ByteArray) : RD := { d with slot := slot, parts := d.parts.set j x, has := d.has.set j true }
def newX (t c s L : Int) (n gp gh : Nat) : RD := ⟨t, c, s, L, 0, gp, gh, List.replicate n ⟨#[]⟩, List.replicate n false⟩
def okX (d : RD) (c s L : Int) (j : Nat) (x : ByteArray) : Bool :=
  decide (c = d.cnt) && decide (s = d.siz) && decide (L = d.len) && (!d.has.getD j false || (d.parts.getD j ⟨#[]⟩).toList == x.toList)
def outX (d0 d1 : RD) : ByteArray × Bool := if allH d0.has = true ∨ allH d1.has = false then (⟨#[]⟩, false) else (catP d1.parts, true)
/-- A new datagram is appended. -/
theorem XR.appended {base p : Nat} {hold time : Int} {ds : List RD} {W W5 : World} {v v1 : Value} {t c s L : Int} {m gp gh : Nat} (h : XR W base p hold time v ds) (hp : W.heap[gp]? = some (.cells ((List.replicate m (⟨#[]⟩ : ByteArray)).map Value.string).toArray 9 (0, 0))) (hh : W.heap[gh]? = some (.cells ((List.replicate m false).map Value.bool).toArray 4 (0, 0)))
    (hbp : base ≤ gp) (hbh : base ≤ gh) (hnp : ∀ d ∈ ds, d.gp ≠ gp ∧ d.gh ≠ gh) (hm : c = (m : Int)) (hm32 : m ≤ 32) (ho : W5.ownsRow base 113 7 v1 (ds.length + 1) (flat encRD ds ++ encRD (newX t c s L m gp gh))) (hg : W.grownBy W5 v.ownBlock) :
    XR (W5.setCell ⟨p, 2, none⟩ v1) base p hold time v1 (ds ++ [newX t c s L m gp gh]) ∧ Fr SX base W (W5.setCell ⟨p, 2, none⟩ v1) := by
  have hown : ∀ k, v.ownBlock = some k → base ≤ k ∧ ∃ cs, W.heap[k]? = some (.cells cs 113 (0, 0)) := fun k hk => ⟨(h.own.lt k hk).1, own_typed h.own k hk⟩
  have hoth : ∀ (k : Nat) (cs : Array Value) (e : TypeId), W.heap[k]? = some (Obj.cells cs e (0, 0)) → e ≠ 113 → W5.heap[k]? = some (Obj.cells cs e (0, 0)) := fun k cs e hk he =>
    (hg.block k (Array.getElem?_eq_some_iff.1 hk).1 (fun e1 => by
      obtain ⟨_, cs', hc⟩ := hown k e1.symm
      exact cells_ne hk hc he rfl)).trans hk
  have hat : ∀ d ∈ ds ++ [newX t c s L m gp gh], RDAt W5 base d := by
    intro d hd
    rcases List.mem_append.1 hd with hd | hd
    · have h1 := h.at_ d hd
      exact ⟨h1.bp, h1.bh, hoth _ _ _ h1.pb (by decide), hoth _ _ _ h1.hb (by decide), h1.len, h1.cnt, h1.c32⟩
    · obtain rfl := List.mem_singleton.1 hd
      exact ⟨hbp, hbh, hoth _ _ _ hp (by decide), hoth _ _ _ hh (by decide), by simp [newX], by simp [newX, hm], by simp [newX]; exact hm32⟩
  have h5 : XR W5 base p hold time v1 (ds ++ [newX t c s L m gp gh]) → True := fun _ => trivial
  have hb5 : W5.heap[p]? = some (.cells #[.int .i64 hold, .int .i64 time, v] 110 (0, 0)) := hoth _ _ _ h.blk (by decide)
  have hlen : (ds ++ [newX t c s L m gp gh]).length = ds.length + 1 := by rw [List.length_append]; rfl
  have hfl : flat encRD (ds ++ [newX t c s L m gp gh]) = flat encRD ds ++ encRD (newX t c s L m gp gh) := by rw [flat_append, flat_one]
  have hap : (ds ++ [newX t c s L m gp gh]).Pairwise (fun x y => x.gp ≠ y.gp ∧ x.gh ≠ y.gh) := by
    rw [List.pairwise_append]
    refine ⟨h.apart, List.pairwise_singleton _ _, ?_⟩
    intro a ha b hb
    obtain rfl := List.mem_singleton.1 hb
    exact hnp a ha
  have hne : ∀ k, k ≠ p → (W5.setCell ⟨p, 2, none⟩ v1).heap[k]? = W5.heap[k]? := fun k hk => Below.heap_setCell W5 ⟨p, 2, none⟩ v1 k hk
  refine ⟨⟨blk_put hb5 2 v1 rfl, h.hp, ?_, ?_, hap⟩, ?_⟩
  · rw [hlen, hfl]
    refine own_move ho (fun k hk => hne k ?_)
    obtain ⟨cs, hc⟩ := own_typed ho k hk
    exact cells_ne hc hb5 (by decide)
  · intro d hd
    have h1 := hat d hd
    exact h1.move (hne _ (cells_ne h1.pb hb5 (by decide))) (hne _ (cells_ne h1.hb hb5 (by decide)))
  · exact ((Fr.refl W).grown hg (fun k hk => by obtain ⟨h1, cs, hc⟩ := hown k hk; exact ⟨h1, cs, 113, hc, rfl⟩)).setCell hb5 rfl h.hp v1
end Go.Proofs.Ytokapofgbcbajaa.Fns
