/- The laws' own maps: a set of numbers (map[int]bool), a table of numbers (map[int]int). -/
import Derived.Test.YtokapofgbcbajaaRecvWorld
namespace Go.Proofs.Ytokapofgbcbajaa.Fns
open Go.RowKit Go.Maps Go.Proofs.YtokapofgbcbajaaW.PrintWords
/-- How an element reads. -/
def eR (v : Value) : Option (DataW Unit × List MemPlace) :=
  match v with
  | .bool x => some (.lit (.bool x), [])
  | .int .i64 x => some (.lit (.int .i64 x), [])
  | _ => none
theorem eR_bool {v : Value} {x : Bool} {ps : List MemPlace} (h : eR v = some (.lit (.bool x), ps)) : v = .bool x := by
  unfold eR at h
  split at h
  · injection h with h; injection h with h _; injection h with h; injection h with h; rw [h]
  · injection h with h; injection h with h _; injection h with h; cases h
  · cases h
theorem eR_int {v : Value} {x : Int} {ps : List MemPlace} (h : eR v = some (.lit (.int .i64 x), ps)) : v = .int .i64 x := by
  unfold eR at h
  split at h
  · injection h with h; injection h with h _; injection h with h; cases h
  · injection h with h; injection h with h _; injection h with h; injection h with _ h; rw [h]
  · cases h
theorem isKey (t : Int) : WideAt.IsKeyLit (.int .i64 t) := by unfold WideAt.IsKeyLit; exact ⟨⟩
theorem lit_ne {s t : Int} (h : s ≠ t) : (Lit.int .i64 s) ≠ .int .i64 t := fun e => by injection e with _ e; exact h e
theorem lit_ne' {s t : Int} (h : s ≠ t) : (Lit.int .i64 s) ≠ .int .i64 t := lit_ne h
/-- A set of numbers, as a map[int]bool. -/
def BSet (w : World) (b : Nat) (S : Int → Bool) (n : Nat) : Prop :=
  ∃ D : DataW Unit, w.ownsMap Try.prog 3 eR b n D ∧ Maps.size D = n ∧ (∀ t, has D (.int .i64 t) = S t) ∧ (∀ t, S t = true → ∀ z, D.atKey (.int .i64 t) z = .lit (.bool true))
theorem owns_move {H : Type} {P : Program} {k : TypeId} {R : Value → Option (DataW H × List MemPlace)} {w w1 : World} {b n : Nat} {D : DataW H} (h : w.ownsMap P k R b n D) (hm : w1.heap[b]? = w.heap[b]?) : w1.ownsMap P k R b n D := by
  obtain ⟨es, clock, hb, r⟩ := h
  exact ⟨es, clock, hm.trans hb, r⟩
section
variable {w w1 : World} {b n : Nat} {S : Int → Bool}
theorem BSet.move (h : BSet w b S n) (hm : w1.heap[b]? = w.heap[b]?) : BSet w1 b S n := by
  obtain ⟨D, ho, r⟩ := h
  exact ⟨D, owns_move ho hm, r⟩
theorem BSet.lt (h : BSet w b S n) : b < w.heap.size := by
  obtain ⟨D, ho, _⟩ := h
  exact ho.lt
theorem BSet.later (h : BSet w b S n) (hb : Below w.heap.size w w1) : BSet w1 b S n := h.move (hb.block b h.lt)
theorem BSet.blk (h : BSet w b S n) : ∃ a c, w.heap[b]? = some (.map a c) := by
  obtain ⟨D, ho, _⟩ := h
  exact owns_map ho
theorem BSet.made (w : World) : BSet (w.alloc (.map #[] 0)) w.heap.size (fun _ => false) 0 :=
  ⟨.map [], World.ownsMap_made w _ _ _, rfl, fun _ => rfl, fun _ h => by cases h⟩
theorem BSet.look (h : BSet w b S n) {t : Int} (ht : (Lit.int .i64 t).wf = true) : (Instr.lookup 43 (.map (some b)) (.int .i64 t) false).run Try.prog w = .ok (.bool (S t)) w := by
  obtain ⟨D, ho, _, hh, ha⟩ := h
  obtain ⟨v, ps, hrun, hv⟩ := ho.lookup key3 Try.underlying43 (Try.zeroValue4 w) (zd := .lit (.bool false)) (zp := []) rfl (key_of ht)
  rw [hrun]
  cases hs : S t with
  | true => rw [ha t hs] at hv; rw [eR_bool hv]
  | false =>
    rw [atKey_of_not_has ((hh t).trans hs)] at hv
    rw [eR_bool hv]
theorem BSet.len (h : BSet w b S n) (ty : TypeId) : (Builtin.len_ #[43] ty #[.map (some b)]).run Try.prog w = .ok (.int .i64 (n : Int)) w := by
  obtain ⟨D, ho, hs, _⟩ := h
  rw [ho.len Try.underlying43 ty, hs]
theorem BSet.put (h : BSet w b S n) {t : Int} (ht : (Lit.int .i64 t).wf = true) (hn : n < 1000) :
    ∃ w', (Instr.mapUpdate 43 (.map (some b)) (.int .i64 t) (.bool true)).run Try.prog w = .ok () w' ∧ BSet w' b (fun x => decide (x = t) || S x) (if S t then n else n + 1) ∧ w.grownBy w' (some b) := by
  obtain ⟨D, ho, hs, hh, ha⟩ := h
  obtain ⟨w', hrun, hown, hg⟩ := ho.update key3 Try.underlying43 (by unfold maxLen; omega) (key_of ht) (val := .bool true) (d := .lit (.bool true)) (ps := []) rfl
  refine ⟨w', hrun, ⟨D.put (.int .i64 t) (.lit (.bool true)), ?_, ?_, ?_, ?_⟩, hg⟩
  · have h1 := owns_tight hown
    have h2 : Maps.size (D.put (.int .i64 t) (.lit (.bool true))) = if S t then n else n + 1 := by
      rw [size_put (ho.tidy key3), hh, hs]
    rw [h2] at h1
    exact h1
  · rw [size_put (ho.tidy key3), hh, hs]
  · intro s
    dsimp only
    by_cases e : s = t
    · subst e
      rw [has_put_same ho.isMap (isKey _), decide_eq_true rfl, Bool.true_or]
    · rw [has_put_other (lit_ne e), decide_eq_false e, Bool.false_or, hh]
  · intro s hS z
    dsimp only at hS
    by_cases e : s = t
    · subst e
      exact atKey_put_same ho.isMap (isKey _) _ _
    · rw [atKey_put_other (lit_ne e)]
      rw [decide_eq_false e, Bool.false_or] at hS
      exact ha s hS z
end
/-- A table of numbers, as a map[int]int; what is not there reads as 0. -/
def IMap (w : World) (b : Nat) (f : Int → Int) (n : Nat) : Prop :=
  ∃ D : DataW Unit, w.ownsMap Try.prog 3 eR b n D ∧ ∀ t, D.atKey (.int .i64 t) (.lit (.int .i64 0)) = .lit (.int .i64 (f t))
section
variable {w w1 : World} {b n : Nat} {f : Int → Int}
theorem IMap.move (h : IMap w b f n) (hm : w1.heap[b]? = w.heap[b]?) : IMap w1 b f n := by
  obtain ⟨D, ho, r⟩ := h
  exact ⟨D, owns_move ho hm, r⟩
theorem IMap.lt (h : IMap w b f n) : b < w.heap.size := by
  obtain ⟨D, ho, _⟩ := h
  exact ho.lt
theorem IMap.later (h : IMap w b f n) (hb : Below w.heap.size w w1) : IMap w1 b f n := h.move (hb.block b h.lt)
theorem IMap.blk (h : IMap w b f n) : ∃ a c, w.heap[b]? = some (.map a c) := by
  obtain ⟨D, ho, _⟩ := h
  exact owns_map ho
theorem IMap.made (w : World) : IMap (w.alloc (.map #[] 0)) w.heap.size (fun _ => 0) 0 := ⟨.map [], World.ownsMap_made w _ _ _, fun _ => rfl⟩
theorem IMap.look (h : IMap w b f n) {t : Int} (ht : (Lit.int .i64 t).wf = true) : (Instr.lookup 58 (.map (some b)) (.int .i64 t) false).run Try.prog w = .ok (.int .i64 (f t)) w := by
  obtain ⟨D, ho, ha⟩ := h
  obtain ⟨v, ps, hrun, hv⟩ := ho.lookup key3 Try.underlying58 (Try.zeroValue3 w) (zd := .lit (.int .i64 0)) (zp := []) rfl (key_of ht)
  rw [ha t] at hv
  rw [hrun, eR_int hv]
theorem IMap.put (h : IMap w b f n) {t : Int} (ht : (Lit.int .i64 t).wf = true) (hn : n < 1000) (v : Int) :
    ∃ w', (Instr.mapUpdate 58 (.map (some b)) (.int .i64 t) (.int .i64 v)).run Try.prog w = .ok () w' ∧ IMap w' b (fun x => if x = t then v else f x) (n + 1) ∧ w.grownBy w' (some b) := by
  obtain ⟨D, ho, ha⟩ := h
  obtain ⟨w', hrun, hown, hg⟩ := ho.update key3 Try.underlying58 (by unfold maxLen; omega) (key_of ht) (val := .int .i64 v) (d := .lit (.int .i64 v)) (ps := []) rfl
  refine ⟨w', hrun, ⟨_, hown, ?_⟩, hg⟩
  intro s
  dsimp only
  by_cases e : s = t
  · subst e
    rw [atKey_put_same ho.isMap (isKey _), if_pos rfl]
  · rw [atKey_put_other (lit_ne e), if_neg e, ha]
end
end Go.Proofs.Ytokapofgbcbajaa.Fns
