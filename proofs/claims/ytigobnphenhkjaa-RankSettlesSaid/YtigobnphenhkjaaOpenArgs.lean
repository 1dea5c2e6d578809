/- The laws' arguments, opened: a state by value, a slice of events. -/
import Derived.Test.YtigobnphenhkjaaBase
import Derived.Lib.SmallJoins
import Derived.Deep.Slices
import Derived.Deep.Fields
import Derived.ChangeSame
import Derived.ChangeOld
import Derived.OpenShut
namespace Go.Proofs.Ytigobnphenhkjaa.Fns
open Go.RowKit Go.Proofs.YtigobnphenhkjaaW.PrintWords Go.Joins Go.ChangeShapes Go.WideShapes Go.Deep
section
variable {H : Type} {enc : TypeId × Value → H} {P : Program} {w : World} {base : Nat} {spare : Nat → Bool} {held : Bool}
theorem array6 {α : Type} {cs : Array α} (h : cs.size = 6) : ∃ c0 c1 c2 c3 c4 c5, cs = #[c0, c1, c2, c3, c4, c5] := by
  obtain ⟨l⟩ := cs
  match l, h with
  | [c0, c1, c2, c3, c4, c5], _ => exact ⟨c0, c1, c2, c3, c4, c5, rfl⟩
/-- A state by value, opened: six whole numbers. -/
theorem open_s23 {r : Reach} {b0 : Nat} {v : Value} {d : DataW H} {p : List MemPlace} (hC : Try.prog.cellsOf 23 = 6) (hk : Try.prog.cellsOf 3 = 1)
    (hv : Value.okWide Try.prog w r b0 23 v) (h : DataW.Trod enc Try.prog w base spare held 23 v d p) : ∃ s : S23, v = vS s := by
  obtain ⟨cs, rfl, hsz⟩ := okWide_struct Try.underlying23 hv
  obtain ⟨c0, c1, c2, c3, c4, c5, rfl⟩ := array6 (hsz.trans hC)
  obtain ⟨fuel, hf⟩ := h
  obtain ⟨xs, n, _, hx, _, hlen, hg⟩ := DataW.trod_struct Try.underlying23 hf
  have g0 := hg 0 _ rfl
  have g1 := hg 1 _ rfl
  have g2 := hg 2 _ rfl
  have g3 := hg 3 _ rfl
  have g4 := hg 4 _ rfl
  have g5 := hg 5 _ rfl
  have e0 : xs[0]? = some (xs[0]'(by rw [hlen]; decide)) := List.getElem?_eq_getElem _
  have e1 : xs[1]? = some (xs[1]'(by rw [hlen]; decide)) := List.getElem?_eq_getElem _
  have e2 : xs[2]? = some (xs[2]'(by rw [hlen]; decide)) := List.getElem?_eq_getElem _
  have e3 : xs[3]? = some (xs[3]'(by rw [hlen]; decide)) := List.getElem?_eq_getElem _
  have e4 : xs[4]? = some (xs[4]'(by rw [hlen]; decide)) := List.getElem?_eq_getElem _
  have e5 : xs[5]? = some (xs[5]'(by rw [hlen]; decide)) := List.getElem?_eq_getElem _
  obtain ⟨n0, h0, _⟩ := DataW.trod_int Try.underlying3 (g0.trans e0)
  obtain ⟨n1, h1, _⟩ := DataW.trod_int Try.underlying3 (g1.trans e1)
  obtain ⟨n2, h2, _⟩ := DataW.trod_int Try.underlying3 (g2.trans e2)
  obtain ⟨n3, h3, _⟩ := DataW.trod_int Try.underlying3 (g3.trans e3)
  obtain ⟨n4, h4, _⟩ := DataW.trod_int Try.underlying3 (g4.trans e4)
  obtain ⟨n5, h5, _⟩ := DataW.trod_int Try.underlying3 (g5.trans e5)
  have a0 : c0 = .int .i64 n0 := by simpa [hk, Value.cells] using h0
  have a1 : c1 = .int .i64 n1 := by simpa [hk, Value.cells] using h1
  have a2 : c2 = .int .i64 n2 := by simpa [hk, Value.cells] using h2
  have a3 : c3 = .int .i64 n3 := by simpa [hk, Value.cells] using h3
  have a4 : c4 = .int .i64 n4 := by simpa [hk, Value.cells] using h4
  have a5 : c5 = .int .i64 n5 := by simpa [hk, Value.cells] using h5
  exact ⟨⟨n0, n1, n2, n3, n4, n5⟩, by rw [a0, a1, a2, a3, a4, a5]; rfl⟩
/-- An event's four cells. -/
theorem open_cells50 {n : Nat} {cs : List Value} {y : DataW H × List MemPlace} (hC : Try.prog.cellsOf 50 = 4) (hk : Try.prog.cellsOf 3 = 1)
    (h : DataW.trod enc Try.prog w base spare held n 50 cs = some y) : ∃ x : S50, cs = [.int .i64 x.f0, .int .i64 x.f1, .int .i64 x.f2, .int .i64 x.f3] := by
  obtain ⟨xs, m, _, hx, hl, hlen, hg⟩ := DataW.trod_struct Try.underlying50 h
  rw [hC] at hl
  have g0 := hg 0 _ rfl
  have g1 := hg 1 _ rfl
  have g2 := hg 2 _ rfl
  have g3 := hg 3 _ rfl
  have e0 : xs[0]? = some (xs[0]'(by rw [hlen]; decide)) := List.getElem?_eq_getElem _
  have e1 : xs[1]? = some (xs[1]'(by rw [hlen]; decide)) := List.getElem?_eq_getElem _
  have e2 : xs[2]? = some (xs[2]'(by rw [hlen]; decide)) := List.getElem?_eq_getElem _
  have e3 : xs[3]? = some (xs[3]'(by rw [hlen]; decide)) := List.getElem?_eq_getElem _
  obtain ⟨n0, h0, _⟩ := DataW.trod_int Try.underlying3 (g0.trans e0)
  obtain ⟨n1, h1, _⟩ := DataW.trod_int Try.underlying3 (g1.trans e1)
  obtain ⟨n2, h2, _⟩ := DataW.trod_int Try.underlying3 (g2.trans e2)
  obtain ⟨n3, h3, _⟩ := DataW.trod_int Try.underlying3 (g3.trans e3)
  match cs, hl with
  | [c0, c1, c2, c3], _ =>
    have a0 : c0 = .int .i64 n0 := by simpa [hk, Value.cells] using h0
    have a1 : c1 = .int .i64 n1 := by simpa [hk, Value.cells] using h1
    have a2 : c2 = .int .i64 n2 := by simpa [hk, Value.cells] using h2
    have a3 : c3 = .int .i64 n3 := by simpa [hk, Value.cells] using h3
    exact ⟨⟨n0, n1, n2, n3⟩, by rw [a0, a1, a2, a3]⟩
/-- A slice of events, opened: its row. -/
theorem open_l50 {r : Reach} {b0 : Nat} {t : TypeId} {v : Value} {d : DataW H} {p : List MemPlace} (ht : Try.prog.underlying t = some (.slice 50)) (hC : Try.prog.cellsOf 50 = 4) (hk : Try.prog.cellsOf 3 = 1)
    (hv : Value.okWide Try.prog w r b0 t v) (h : DataW.Trod enc Try.prog w base spare held t v d p) :
    ∃ (A : Option Addr) (l : List S50) (c : Nat), v = .slice A l.length c ∧ Kd.C k50 w A l.length l ∧ l.length ≤ c ∧ c ≤ maxLen := by
  obtain ⟨A, len, cap, rfl⟩ := okWide_slice ht hv
  obtain ⟨fuel, hf⟩ := h
  rcases open_slice ht hf with ⟨hcs, _⟩ | ⟨a, l, c, m, n, D, Pl, hcs, _, hl, hm, hmm, _, hi⟩
  · simp [Value.cells] at hcs
    obtain ⟨rfl, rfl, rfl⟩ := hcs
    exact ⟨none, [], 0, rfl, ⟨rfl, Nat.zero_le _, fun h => absurd h (Nat.lt_irrefl 0)⟩, Nat.le_refl _, Nat.zero_le _⟩
  · simp [Value.cells] at hcs
    obtain ⟨rfl, rfl, rfl⟩ := hcs
    have hle : len ≤ m := by rw [hmm]; split <;> omega
    rw [hC] at hi
    have hq : ∀ i, i < len → ∃ x : S50, ∀ (j : Nat) u, ([.int .i64 x.f0, .int .i64 x.f1, .int .i64 x.f2, .int .i64 x.f3] : List Value)[j]? = some u → w.cell? (a.add (i * 4 + j)) = some u := by
      intro i hi'
      obtain ⟨cs', hc, ht'⟩ := hi i (by omega)
      obtain ⟨x, rfl⟩ := open_cells50 hC hk ht'
      obtain ⟨_, hcl, hat⟩ := World.cells?_some hc
      refine ⟨x, fun j u hu => ?_⟩
      have hj : j < 4 := by
        have := (List.getElem?_eq_some_iff.1 hu).1
        simpa using this
      have h1 := hat j hj
      rw [Go.Deep.add_add] at h1
      exact h1.trans hu
    let f : Nat → S50 := fun i => if h : i < len then (hq i h).choose else ⟨0, 0, 0, 0⟩
    have hf' : ∀ i (h : i < len) (j : Nat) u, ([.int .i64 (f i).f0, .int .i64 (f i).f1, .int .i64 (f i).f2, .int .i64 (f i).f3] : List Value)[j]? = some u → w.cell? (a.add (i * 4 + j)) = some u := by
      intro i h
      have := (hq i h).choose_spec
      simpa only [f, dif_pos h] using this
    refine ⟨some a, (List.range len).map f, cap, by simp, ⟨by simp, ?_, fun hn => ⟨a, rfl, fun j q hq2 => ?_⟩⟩, by simpa using hl, hm⟩
    · have : maxLen = 9223372036854775807 := rfl
      simp only [List.length_map, List.length_range]
      omega
    · have hjl : j < len := by
        have := (List.getElem?_eq_some_iff.1 hq2).1
        simpa using this
      have hqe : q = f j := by
        simp [hjl] at hq2
        exact hq2.symm
      subst hqe
      exact ⟨_, rfl, k50_mk w (f j), fun i u hu => hf' j hjl i u hu⟩
end
end Go.Proofs.Ytigobnphenhkjaa.Fns
