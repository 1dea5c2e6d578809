/- slices.Sort at a row of numbers of the call's own. -/
import Derived.Test.YtokapofgbcbajaaTags
namespace Go.Proofs.Ytokapofgbcbajaa.Fns
open Go.RowKit Go.Proofs.YtokapofgbcbajaaW.PrintWords Go.Proofs.YtokapofgbcbajaaW.PrintLast Go.Proofs.YtokapofgbcbajaaW.PrintMore
open Go.Sort (Holds putRow putCells mapBlock onCells grow)
def srt (zs : List Int) : List Int := zs.mergeSort fun x y => decide (x ≤ y)
theorem IsRow.holds {w : World} {g cap : Nat} {zs : List Int} {cur : Array Value} (h : IsRow w 3 1 g zs.length cap (zs.map (Value.int .i64)) cur) : Holds (Value.int .i64) w g 0 zs.toArray := by
  intro j hj
  have hj' : j < zs.length := by simpa using hj
  refine ⟨?_, ?_⟩
  · rw [Nat.zero_add]
    refine h.cell ?_
    simp [hj']
  · rw [Nat.zero_add]; exact blk_frozen h.blk j
theorem putCells_size {α : Type} [Inhabited α] (enc : α → Value) (off : Nat) (d : Array α) (c : Array Value) : (putCells enc off d c).size = c.size := by simp [putCells]
theorem heap_putRow {w : World} {g : Nat} {cur : Array Value} {e : TypeId} {f : Nat × Nat} (hb : w.heap[g]? = some (.cells cur e f)) (d : Array Int) :
    (putRow (Value.int .i64) w g 0 d).heap[g]? = some (.cells (putCells (Value.int .i64) 0 d cur) e f) := by
  simp [putRow, mapBlock, Array.getElem?_modify, hb, onCells]
theorem heap_putRow_other (w : World) (g : Nat) (d : Array Int) {k : Nat} (hk : k ≠ g) : (putRow (Value.int .i64) w g 0 d).heap[k]? = w.heap[k]? := by
  simp [putRow, mapBlock, Array.getElem?_modify, Ne.symm hk]
theorem size_putRow (w : World) (g : Nat) (d : Array Int) : (putRow (Value.int .i64) w g 0 d).heap.size = w.heap.size := by simp [putRow, mapBlock]
theorem putCells_take (d : List Int) (cur : Array Value) (h : d.length ≤ cur.size) : (putCells (Value.int .i64) 0 d.toArray cur).toList.take d.length = d.map (Value.int .i64) := by
  apply List.ext_getElem?
  intro j
  rw [List.getElem?_take]
  split
  · rename_i hj
    have hjc : j < cur.size := by omega
    simp [putCells, hjc, hj]
  · rename_i hj
    rw [List.getElem?_eq_none (by rw [List.length_map]; omega)]
theorem IsRow.put {w : World} {g cap n : Nat} {xs : List Value} {cur : Array Value} (h : IsRow w 3 1 g n cap xs cur) (d : List Int) (hd : d.length = n) :
    IsRow (putRow (Value.int .i64) w g 0 d.toArray) 3 1 g n cap (d.map (Value.int .i64)) (putCells (Value.int .i64) 0 d.toArray cur) := by
  have h1 := h.full; have h2 := h.le
  refine ⟨heap_putRow h.blk _, h2, h.small, by rw [putCells_size]; exact h.full, ?_, ?_⟩
  · have h3 := putCells_take d cur (by omega)
    rw [Nat.mul_one, ← h3, hd]
  · rw [List.length_map, Nat.mul_one]; exact hd
theorem grownBy_put (w : World) (g n : Nat) (d : Array Int) (os : Array Obj) : w.grownBy (grow (putRow (Value.int .i64) (Go.Sort.ahead w n) g 0 d) os) (some g) := by
  refine ⟨rfl, rfl, rfl, ?_, fun k hk hne => ?_⟩
  · simp only [grow, Array.size_append, size_putRow]
    exact Nat.le_add_right _ _
  · have hkg : k ≠ g := fun e => hne (by rw [e])
    simp only [grow]
    rw [Array.getElem?_append_left (by rw [size_putRow]; exact hk), heap_putRow_other _ _ _ hkg]
    rfl
theorem IsRow.grow {w : World} {g cap n : Nat} {xs : List Value} {cur : Array Value} (h : IsRow w 3 1 g n cap xs cur) (os : Array Obj) : IsRow (grow w os) 3 1 g n cap xs cur := by
  refine ⟨?_, h.le, h.small, h.full, h.take, h.len⟩
  have hg := h.lt
  simp only [Go.Sort.grow]
  rw [Array.getElem?_append_left hg]
  exact h.blk
def SortPost (g cap : Nat) (zs : List Int) (w : World) (e : Ending) (w' : World) : Prop :=
  e = .returned (.tuple #[]) ∧ (∃ cur, IsRow w' 3 1 g zs.length cap ((srt zs).map (Value.int .i64)) cur) ∧ w.grownBy w' (some g)
theorem sort_calls (w : World) (g cap : Nat) (zs : List Int) (cur : Array Value) (hs : zs.length ≤ 100000) (h : IsRow w 3 1 g zs.length cap (zs.map (Value.int .i64)) cur) :
    Calls Try.prog 30 #[.slice (some ⟨g, 0, none⟩) zs.length cap] w (SortPost g cap zs w) := by
  have h1 := h.le; have h2 := h.small
  refine (AnyM.slices_Sort_int Try.sortL g 0 cap zs w h.holds h.lt (by omega)).mono ?_
  rintro e w' ⟨he, n, os, rfl⟩
  refine ⟨he, ?_, grownBy_put w g n _ os⟩
  have h3 : IsRow (Go.Sort.ahead w n) 3 1 g zs.length cap (zs.map (Value.int .i64)) cur := ⟨h.blk, h.le, h.small, h.full, h.take, h.len⟩
  have hl : (srt zs).length = zs.length := List.length_mergeSort _
  have h4 := (h3.put (srt zs) hl).grow os
  exact ⟨_, h4⟩
end Go.Proofs.Ytokapofgbcbajaa.Fns
