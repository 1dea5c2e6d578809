/- Small laws on worlds: rows that a call owns, read and written; what a call leaves alone. -/
import Derived.Test.YtokapofgbcbajaaFx0
namespace Go.Proofs.Ytokapofgbcbajaa.Fns
open Go.RowKit Go.Proofs.YtokapofgbcbajaaW.PrintWords Go.Proofs.YtokapofgbcbajaaW.PrintLast Go.Proofs.YtokapofgbcbajaaW.PrintMore
theorem cell_later {w wx : World} {a : Addr} {v : Value} (hb : Below w.heap.size w wx) (h : w.cell? a = some v) : wx.cell? a = some v :=
  (hb.cell (World.block_lt_of_cell? _ _ h)).trans h
theorem blk_later {w wx : World} {g : Nat} {o : Obj} (hb : Below w.heap.size w wx) (h : w.heap[g]? = some o) : wx.heap[g]? = some o :=
  (hb.block g (Array.getElem?_eq_some_iff.1 h).1).trans h
theorem own_later {w wx : World} {base : Nat} {e : TypeId} {size n : Nat} {v : Value} {xs : List Value} (hb : Below w.heap.size w wx) (h : w.ownsRow base e size v n xs) : wx.ownsRow base e size v n xs :=
  own_move h (fun k hk => hb.block k (h.lt k hk).2)
theorem below_new (w : World) (o : Obj) : Below w.heap.size w (w.alloc o) := (Below.refl _ _).alloc (Nat.le_refl _) o
theorem below_tr {a b c : World} (h1 : Below a.heap.size a b) (h2 : Below b.heap.size b c) : Below a.heap.size a c := h1.trans (h2.mono h1.size)
theorem cell_grown {w w1 : World} {b i : Nat} {u : Value} {row : Option Nat} (h : w.cell? ⟨b, i, none⟩ = some u) (hg : w.grownBy w1 row) (hne : row ≠ some b) : w1.cell? ⟨b, i, none⟩ = some u := by
  have hb := World.block_lt_of_cell? _ _ h
  have he := hg.block b hb (fun e => hne e.symm)
  rw [← h]
  unfold World.cell?
  simp only [he]
theorem own_ne_blk {w : World} {base : Nat} {e t : TypeId} {size n g : Nat} {v : Value} {xs : List Value} {cs : Array Value} (h : w.ownsRow base e size v n xs) (hg : w.heap[g]? = some (.cells cs t (0, 0))) (ht : e ≠ t) : some g ≠ v.ownBlock := by
  intro e1
  obtain ⟨c, hc⟩ := own_typed h g e1.symm
  rw [hg] at hc
  injection hc with hc; injection hc with _ h2; exact ht h2.symm
/-- A row of n elements in block g. -/
structure IsRow (w : World) (e : TypeId) (size g n cap : Nat) (xs : List Value) (cur : Array Value) : Prop where
  blk : w.heap[g]? = some (.cells cur e (0, 0))
  le : n ≤ cap
  small : cap ≤ maxLen
  full : cur.size = cap * size
  take : cur.toList.take (n * size) = xs
  len : xs.length = n * size
theorem IsRow.own {w : World} {e : TypeId} {size g n cap base : Nat} {xs : List Value} {cur : Array Value} (h : IsRow w e size g n cap xs cur) (hg : base ≤ g) :
    w.ownsRow base e size (.slice (some ⟨g, 0, none⟩) n cap) n xs := ⟨h.len, .inr ⟨g, cap, cur, rfl, hg, h.blk, h.le, h.small, h.full, h.take⟩⟩
theorem own_row {w : World} {base : Nat} {e : TypeId} {size n : Nat} {v : Value} {xs : List Value} (h : w.ownsRow base e size v n xs) (hn : 0 < n) :
    ∃ g cap cur, v = .slice (some ⟨g, 0, none⟩) n cap ∧ base ≤ g ∧ IsRow w e size g n cap xs cur := by
  rcases h.2 with ⟨_, rfl⟩ | ⟨g, cap, cur, hv, hb, hg, h1, h2, h3, h4⟩
  · omega
  · exact ⟨g, cap, cur, hv, hb, hg, h1, h2, h3, h4, h.1⟩
theorem IsRow.cell {w : World} {e : TypeId} {size g n cap : Nat} {xs : List Value} {cur : Array Value} (h : IsRow w e size g n cap xs cur) {j : Nat} {u : Value} (hu : xs[j]? = some u) :
    w.cell? ⟨g, j, none⟩ = some u := by
  rw [cell_of_row w g j cur e (0, 0) h.blk]
  have := h.take
  rw [← this, List.getElem?_take] at hu
  split at hu
  · simpa using hu
  · cases hu
theorem IsRow.lt {w : World} {e : TypeId} {size g n cap : Nat} {xs : List Value} {cur : Array Value} (h : IsRow w e size g n cap xs cur) : g < w.heap.size :=
  (Array.getElem?_eq_some_iff.1 h.blk).1
theorem IsRow.move {w w1 : World} {e : TypeId} {size g n cap : Nat} {xs : List Value} {cur : Array Value} (h : IsRow w e size g n cap xs cur) (hm : w1.heap[g]? = w.heap[g]?) : IsRow w1 e size g n cap xs cur :=
  ⟨hm.trans h.blk, h.le, h.small, h.full, h.take, h.len⟩
/-- One cell of a row of one-cell elements is written. -/
theorem IsRow.set1 {w : World} {e : TypeId} {g n cap : Nat} {xs : List Value} {cur : Array Value} (h : IsRow w e 1 g n cap xs cur) (i : Nat) (u : Value) :
    IsRow (w.setCell ⟨g, i, none⟩ u) e 1 g n cap (xs.set i u) (cur.setIfInBounds i u) := by
  have hf := h.full
  have hl := h.len
  refine ⟨blk_set h.blk i u, h.le, h.small, by simp [hf], ?_, by simp [hl]⟩
  rw [Array.toList_setIfInBounds, List.take_set, h.take]
/-- What is no block of a type in S, and whatever lies below 'base', is left alone. -/
def Other (S : TypeId → Bool) (w : World) (k : Nat) : Prop := ∀ c e f, w.heap[k]? = some (.cells c e f) → S e = false
structure Fr (S : TypeId → Bool) (base : Nat) (w w' : World) : Prop where
  os : w'.os = w.os
  tape : w'.tape = w.tape
  output : w'.output = w.output
  size : w.heap.size ≤ w'.heap.size
  block : ∀ k, k < w.heap.size → k < base ∨ Other S w k → w'.heap[k]? = w.heap[k]?
section
variable {S : TypeId → Bool} {base : Nat}
theorem Fr.refl (w : World) : Fr S base w w := ⟨rfl, rfl, rfl, Nat.le_refl _, fun _ _ _ => rfl⟩
theorem Fr.trans {a b c : World} (h : Fr S base a b) (k : Fr S base b c) : Fr S base a c :=
  ⟨k.os.trans h.os, k.tape.trans h.tape, k.output.trans h.output, Nat.le_trans h.size k.size, fun i hi ho =>
    (k.block i (Nat.lt_of_lt_of_le hi h.size) (ho.imp id (fun ho c e f hc => ho c e f ((h.block i hi (.inr ho)).symm.trans hc)))).trans (h.block i hi ho)⟩
theorem Fr.of_below {a b : World} (h : Below a.heap.size a b) : Fr S base a b := ⟨h.os, h.tape, h.output, h.size, fun k hk _ => h.block k hk⟩
theorem Fr.below {a b : World} (h : Fr S base a b) (hb : base ≤ a.heap.size) : Below base a b := ⟨h.os, h.tape, h.output, h.size, fun k hk => h.block k (by omega) (.inl hk)⟩
theorem Fr.drew {a b : World} (h : Fr S base a b) : Fr S base a b.drew := ⟨h.os, h.tape, h.output, h.size, h.block⟩
theorem Fr.alloc {a b : World} (h : Fr S base a b) (o : Obj) : Fr S base a (b.alloc o) := h.trans (Fr.of_below (below_new _ o))
theorem Fr.setCell {a b : World} (h : Fr S base a b) {g j : Nat} {cur : Array Value} {e : TypeId} (hg : b.heap[g]? = some (.cells cur e (0, 0))) (he : S e = true) (hb : base ≤ g) (u : Value) : Fr S base a (b.setCell ⟨g, j, none⟩ u) :=
  h.trans ⟨rfl, rfl, rfl, by simp, fun k _ hk => by
    by_cases hkg : k = g
    · subst hkg
      rcases hk with hk | hk
      · omega
      · have := hk _ _ _ hg
        rw [he] at this
        cases this
    · exact Below.heap_setCell b ⟨g, j, none⟩ u k hkg⟩
theorem Fr.grown {a b c : World} (h : Fr S base a b) {row : Option Nat} (hg : b.grownBy c row) (hr : ∀ k, row = some k → base ≤ k ∧ ∃ cur e, b.heap[k]? = some (.cells cur e (0, 0)) ∧ S e = true) : Fr S base a c :=
  h.trans ⟨hg.os, hg.tape, hg.output, hg.size, fun k hk ho => hg.block k hk (fun e => by
    obtain ⟨h1, cur, t, h2, h3⟩ := hr k e.symm
    rcases ho with ho | ho
    · omega
    · have := ho _ _ _ h2
      rw [h3] at this
      cases this)⟩
theorem other_of {w : World} {k : Nat} {c : Array Value} {e : TypeId} {f : Nat × Nat} (h : w.heap[k]? = some (.cells c e f)) (he : S e = false) : Other S w k := by
  intro c1 e1 f1 h1
  rw [h] at h1
  injection h1 with h1; injection h1 with _ h2
  subst h2; exact he
theorem blk_fr {w w1 : World} {k : Nat} {c : Array Value} {e : TypeId} {f : Nat × Nat} (hf : Fr S base w w1) (h : w.heap[k]? = some (.cells c e f)) (he : S e = false) : w1.heap[k]? = some (.cells c e f) :=
  (hf.block k (Array.getElem?_eq_some_iff.1 h).1 (.inr (other_of h he))).trans h
end
theorem exec_store {P : Program} {w w1 : World} {a : Act} {o : Oper} {t : TypeId} {x y : Operand} {vx vy : Value} (ho : o.op = .store t x y) (hx : a.eval x = vx) (hy : a.eval y = vy)
    (h : (Instr.storeAt t vx vy).run P w = .ok () w1) : (execOp a.eval o).run P w = .ok .skip w1 := by
  unfold execOp
  simp [ho, hx, hy, h]
theorem wp_world {P : Program} {c : Code} {Q : Exit → Act → World → Prop} {a : Act} {W : World} (F : World → Prop) (hF : F W) (h : ∀ wz, F wz → Code.wp P c Q a wz) : Code.wp P c Q a W := h W hF
section
variable {P : Program} {ops : Array Oper} {Q : Exit → Act → World → Prop} {rest : List Oper}
/-- One operation of a plain region that leaves a value. -/
theorem stepL_value {o : Oper} {a : Act} {w w1 : World} {v : Value} {N : Option Tmp} (hg : o.guard = none) (hd : o.dst = N) (hrun : (execOp a.eval o).run P w = .ok (.value v) w1)
    (h : wpList P ops Q rest (a.put N v) w1) : wpList P ops Q (o :: rest) a w := by
  refine wpList_plain hg fun K hK => ?_
  subst hd
  unfold Oper.wp
  rw [hrun]
  exact hK _ _ h
/-- One operation of a plain region that only writes. -/
theorem stepL_skip {o : Oper} {a : Act} {w w1 : World} (hg : o.guard = none) (hd : o.dst = none) (hrun : (execOp a.eval o).run P w = .ok .skip w1)
    (h : wpList P ops Q rest a w1) : wpList P ops Q (o :: rest) a w := by
  refine wpList_plain hg fun K hK => ?_
  unfold Oper.wp
  rw [hrun]
  refine hK _ _ ?_
  rw [hd]
  exact h
end
end Go.Proofs.Ytokapofgbcbajaa.Fns
