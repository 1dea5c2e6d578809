/- Small laws on worlds: rows of structs that a call owns, read and written; what a call leaves alone. -/
import Derived.Test.YtigobnphenhkjaaFx0
namespace Go.Proofs.Ytigobnphenhkjaa.Fns
open Go.RowKit Go.Proofs.YtigobnphenhkjaaW.PrintWords Go.Proofs.YtigobnphenhkjaaW.PrintLast Go.Proofs.YtigobnphenhkjaaW.PrintMore

theorem cell_later {w wx : World} {a : Addr} {v : Value} (hb : Below w.heap.size w wx) (h : w.cell? a = some v) : wx.cell? a = some v :=
  (hb.cell (World.block_lt_of_cell? _ _ h)).trans h
theorem blk_later {w wx : World} {g : Nat} {o : Obj} (hb : Below w.heap.size w wx) (h : w.heap[g]? = some o) : wx.heap[g]? = some o :=
  (hb.block g (Array.getElem?_eq_some_iff.1 h).1).trans h
theorem own_later {w wx : World} {base : Nat} {e : TypeId} {size n : Nat} {v : Value} {xs : List Value} (hb : Below w.heap.size w wx) (h : w.ownsRow base e size v n xs) : wx.ownsRow base e size v n xs :=
  own_move h (fun k hk => hb.block k (h.lt k hk).2)

/-! Rows of structs: the cells one behind the other. -/
def flat {α : Type} (enc : α → List Value) (xs : List α) : List Value := xs.flatMap enc
section
variable {α : Type} {enc : α → List Value} {size : Nat}
theorem flat_length (he : ∀ x, (enc x).length = size) : ∀ xs : List α, (flat enc xs).length = xs.length * size
  | [] => by simp [flat]
  | x :: r => by
    have := flat_length he r
    simp only [flat, List.flatMap_cons, List.length_append, he, List.length_cons] at this ⊢
    rw [this, Nat.add_mul, Nat.one_mul, Nat.add_comm]
theorem flat_append (xs ys : List α) : flat enc (xs ++ ys) = flat enc xs ++ flat enc ys := by simp [flat]
theorem flat_one (x : α) : flat enc [x] = enc x := by simp [flat]
theorem flat_get (he : ∀ x, (enc x).length = size) : ∀ (xs : List α) (i j : Nat) (x : α) (u : Value), xs[i]? = some x → (enc x)[j]? = some u → (flat enc xs)[i * size + j]? = some u
  | [], i, j, x, u, h, _ => by simp at h
  | y :: r, 0, j, x, u, h, hu => by
    obtain rfl : y = x := by simpa using h
    have hj : j < (enc y).length := (List.getElem?_eq_some_iff.1 hu).1
    simp only [flat, List.flatMap_cons, Nat.zero_mul, Nat.zero_add]
    rw [List.getElem?_append_left hj]; exact hu
  | y :: r, i + 1, j, x, u, h, hu => by
    have h' : r[i]? = some x := by simpa using h
    have := flat_get he r i j x u h' hu
    simp only [flat, List.flatMap_cons]
    rw [List.getElem?_append_right (by rw [he, Nat.add_mul]; omega), he, show (i + 1) * size + j - size = i * size + j by rw [Nat.add_mul]; omega]
    exact this
theorem flat_set (he : ∀ x, (enc x).length = size) : ∀ (xs : List α) (i : Nat) (y : α), i < xs.length →
    flat enc (xs.set i y) = (flat enc xs).take (i * size) ++ enc y ++ (flat enc xs).drop (i * size + size)
  | [], i, y, h => by simp at h
  | x :: r, 0, y, _ => by
    simp only [flat, List.set_cons_zero, List.flatMap_cons, Nat.zero_mul, List.take_zero, List.nil_append, Nat.zero_add]
    rw [List.drop_append, he, Nat.sub_self, List.drop_zero, List.drop_of_length_le (by rw [he]; exact Nat.le_refl _), List.nil_append]
  | x :: r, i + 1, y, h => by
    have hi := flat_set he r i y (by simpa using h)
    simp only [flat, List.set_cons_succ, List.flatMap_cons] at hi ⊢
    have e1 : (i + 1) * size = size + i * size := by rw [Nat.add_mul, Nat.one_mul, Nat.add_comm]
    rw [hi, e1, List.take_append, List.drop_append, he, show size + i * size - size = i * size by omega, show size + i * size + size - size = i * size + size by omega,
      List.take_of_length_le (l := enc x) (by rw [he]; omega), List.drop_of_length_le (l := enc x) (by rw [he]; omega)]
    simp
end

/-- A row of n elements in block g. -/
structure IsRow (w : World) (e : TypeId) (size g n cap : Nat) (xs : List Value) (cur : Array Value) : Prop where
  blk : w.heap[g]? = some (.cells cur e (0, 0))
  le : n ≤ cap
  small : cap ≤ maxLen
  full : cur.size = cap * size
  take : cur.toList.take (n * size) = xs
  len : xs.length = n * size
theorem IsRow.own {w : World} {e : TypeId} {size g n cap base : Nat} {xs : List Value} {cur : Array Value} (h : IsRow w e size g n cap xs cur) (hg : base ≤ g) :
    w.ownsRow base e size (.slice (some ⟨g, 0, none⟩) n cap) n xs := ⟨h.len, .inr ⟨g, cap, cur, rfl, hg, h.blk, h.le, h.small, h.full, h.take⟩⟩
theorem own_row {w : World} {base : Nat} {e : TypeId} {size n : Nat} {v : Value} {xs : List Value} (h : w.ownsRow base e size v n xs) (hn : 0 < n) :
    ∃ g cap cur, v = .slice (some ⟨g, 0, none⟩) n cap ∧ base ≤ g ∧ IsRow w e size g n cap xs cur := by
  rcases h.2 with ⟨_, rfl⟩ | ⟨g, cap, cur, hv, hb, hg, h1, h2, h3, h4⟩
  · omega
  · exact ⟨g, cap, cur, hv, hb, hg, h1, h2, h3, h4, h.1⟩
theorem IsRow.cell {w : World} {e : TypeId} {size g n cap : Nat} {xs : List Value} {cur : Array Value} (h : IsRow w e size g n cap xs cur) {j : Nat} {u : Value} (hu : xs[j]? = some u) :
    w.cell? ⟨g, j, none⟩ = some u := by
  rw [cell_of_row w g j cur e (0, 0) h.blk]
  have := h.take
  rw [← this, List.getElem?_take] at hu
  split at hu
  · simpa using hu
  · cases hu
theorem IsRow.lt {w : World} {e : TypeId} {size g n cap : Nat} {xs : List Value} {cur : Array Value} (h : IsRow w e size g n cap xs cur) : g < w.heap.size :=
  (Array.getElem?_eq_some_iff.1 h.blk).1
/-- An element is written. -/
theorem IsRow.set {α : Type} {enc : α → List Value} {w : World} {e : TypeId} {size g n cap : Nat} {xs : List α} {cur : Array Value} (he : ∀ x, (enc x).length = size) (h : IsRow w e size g n cap (flat enc xs) cur) (hn : xs.length = n)
    {i : Nat} (hi : i < n) (y : α) :
    IsRow (w.setRow g (cur.toList.take (i * size) ++ enc y ++ cur.toList.drop (i * size + (enc y).length)).toArray) e size g n cap (flat enc (xs.set i y)) (cur.toList.take (i * size) ++ enc y ++ cur.toList.drop (i * size + (enc y).length)).toArray := by
  have hin : i * size + size ≤ n * size := by have := Nat.mul_le_mul_right size (show i + 1 ≤ n by omega); rw [Nat.add_mul] at this; omega
  have hnc : n * size ≤ cap * size := Nat.mul_le_mul_right size h.le
  have hs := h.full
  refine ⟨setRow_heap w g cur _ e _ h.blk, h.le, h.small, ?_, ?_, ?_⟩
  · simp only [List.size_toArray, List.length_append, List.length_take, List.length_drop, Array.length_toList, he]
    omega
  · rw [flat_set he xs i y (by omega), ← h.take, he]
    simp only [List.take_append, List.length_append, List.length_take, Array.length_toList, he, List.take_take, List.drop_take]
    rw [show min (n * size) (i * size) = i * size by omega, show min (i * size) (n * size) = i * size by omega, List.take_of_length_le (l := enc y) (by rw [he]; omega)]
    congr 2
    omega
  · rw [flat_length he, List.length_set, hn]

/-- What is no block of a type 60, 23 or 69, and whatever lies below 'base', is left alone. -/
def Other (w : World) (k : Nat) : Prop := ∀ c e f, w.heap[k]? = some (.cells c e f) → e ≠ 60 ∧ e ≠ 23 ∧ e ≠ 69
structure Fr (base : Nat) (w w' : World) : Prop where
  os : w'.os = w.os
  tape : w'.tape = w.tape
  output : w'.output = w.output
  size : w.heap.size ≤ w'.heap.size
  block : ∀ k, k < w.heap.size → k < base ∨ Other w k → w'.heap[k]? = w.heap[k]?
theorem Fr.refl (base : Nat) (w : World) : Fr base w w := ⟨rfl, rfl, rfl, Nat.le_refl _, fun _ _ _ => rfl⟩
theorem Fr.trans {base : Nat} {a b c : World} (h : Fr base a b) (k : Fr base b c) : Fr base a c :=
  ⟨k.os.trans h.os, k.tape.trans h.tape, k.output.trans h.output, Nat.le_trans h.size k.size, fun i hi ho =>
    (k.block i (Nat.lt_of_lt_of_le hi h.size) (ho.imp id (fun ho c e f hc => ho c e f ((h.block i hi (.inr ho)).symm.trans hc)))).trans (h.block i hi ho)⟩
theorem Fr.of_below {base : Nat} {a b : World} (h : Below a.heap.size a b) : Fr base a b := ⟨h.os, h.tape, h.output, h.size, fun k hk _ => h.block k hk⟩
theorem Fr.below {base : Nat} {a b : World} (h : Fr base a b) (hb : base ≤ a.heap.size) : Below base a b := ⟨h.os, h.tape, h.output, h.size, fun k hk => h.block k (by omega) (.inl hk)⟩
theorem Fr.drew {base : Nat} {a b : World} (h : Fr base a b) : Fr base a b.drew := ⟨h.os, h.tape, h.output, h.size, h.block⟩
theorem Fr.alloc {base : Nat} {a b : World} (h : Fr base a b) (o : Obj) : Fr base a (b.alloc o) := h.trans (Fr.of_below ((Below.refl _ _).alloc (Nat.le_refl _) o))
/-- A row of type 23 or 69 is written. -/
theorem Fr.setRow {base : Nat} {a b : World} (h : Fr base a b) {g : Nat} {cur : Array Value} {e : TypeId} (hg : b.heap[g]? = some (.cells cur e (0, 0))) (he : e = 60 ∨ e = 23 ∨ e = 69) (hb : base ≤ g) (cs : Array Value) : Fr base a (b.setRow g cs) :=
  h.trans ⟨rfl, rfl, rfl, by simp, fun k _ hk => by
    by_cases hkg : k = g
    · subst hkg
      rcases hk with hk | hk
      · omega
      · have := hk _ _ _ hg; rcases he with rfl | rfl | rfl
        · exact absurd rfl this.1
        · exact absurd rfl this.2.1
        · exact absurd rfl this.2.2
    · exact setRow_other b g k cs hkg⟩
theorem Fr.setCell {base : Nat} {a b : World} (h : Fr base a b) {g j : Nat} {cur : Array Value} {e : TypeId} (hg : b.heap[g]? = some (.cells cur e (0, 0))) (he : e = 60 ∨ e = 23 ∨ e = 69) (hb : base ≤ g) (u : Value) : Fr base a (b.setCell ⟨g, j, none⟩ u) :=
  h.trans ⟨rfl, rfl, rfl, by simp, fun k _ hk => by
    by_cases hkg : k = g
    · subst hkg
      rcases hk with hk | hk
      · omega
      · have := hk _ _ _ hg; rcases he with rfl | rfl | rfl
        · exact absurd rfl this.1
        · exact absurd rfl this.2.1
        · exact absurd rfl this.2.2
    · exact Below.heap_setCell b ⟨g, j, none⟩ u k hkg⟩
theorem Fr.grown {base : Nat} {a b c : World} (h : Fr base a b) {row : Option Nat} (hg : b.grownBy c row) (hr : ∀ k, row = some k → base ≤ k ∧ ∃ cur e, b.heap[k]? = some (.cells cur e (0, 0)) ∧ (e = 60 ∨ e = 23 ∨ e = 69)) : Fr base a c :=
  h.trans ⟨hg.os, hg.tape, hg.output, hg.size, fun k hk ho => hg.block k hk (fun e => by
    obtain ⟨h1, cur, t, h2, h3⟩ := hr k e.symm
    rcases ho with ho | ho
    · omega
    · have := ho _ _ _ h2; rcases h3 with rfl | rfl | rfl
      · exact absurd rfl this.1
      · exact absurd rfl this.2.1
      · exact absurd rfl this.2.2)⟩

/-- A struct of type 23 is stored into a row. -/
def vS (s : S23) : Value := .agg #[.int .i64 s.f0, .int .i64 s.f1, .int .i64 s.f2, .int .i64 s.f3, .int .i64 s.f4, .int .i64 s.f5]
def cS (s : S23) : List Value := [.int .i64 s.f0, .int .i64 s.f1, .int .i64 s.f2, .int .i64 s.f3, .int .i64 s.f4, .int .i64 s.f5]
theorem cS_length (s : S23) : (cS s).length = 6 := rfl
theorem run_store23 {w : World} {g i : Nat} {cur : Array Value} (hg : w.heap[g]? = some (.cells cur 23 (0, 0))) (hi : i + 6 ≤ cur.size) (s : S23) :
    (Instr.storeAt 23 (.pointer (some ⟨g, i, none⟩)) (vS s)).run Try.prog w = .ok () (w.setRow g (cur.toList.take i ++ cS s ++ cur.toList.drop (i + (cS s).length)).toArray) := by
  have h := run_storeCells_at Try.prog g i 23 (cS s) 0 cur w hg (by simpa [cS] using hi) (by simp [cS, Value.oneCell'])
  rw [Nat.add_zero] at h
  have hu := Try.underlying23
  have hz : (sizeOf 23).run Try.prog w = .ok 6 w := by
    obtain ⟨i0, hi0, _, hs, _⟩ := info_parts info23
    simp [sizeOf, typeInfo, hi0, hs]
  simp only [Instr.storeAt, Instr.sureAddr, vS, storeVar, Sem.run_bind, Sem.run_pure, Result.andThen_ok, hz, Value.cells]
  simpa [cS] using h
end Go.Proofs.Ytigobnphenhkjaa.Fns
