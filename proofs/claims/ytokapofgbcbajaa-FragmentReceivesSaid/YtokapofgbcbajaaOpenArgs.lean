/- The laws' arguments, opened: a fragment by value, arrays of numbers, a slice of bytes. -/
import Derived.Test.YtokapofgbcbajaaFBase
import Derived.Lib.SmallJoins
import Derived.Deep.Slices
import Derived.Deep.Fields
import Derived.ChangeSame
import Derived.ChangeOld
import Derived.OpenShut
import Derived.ChangeSlices
namespace Go.Proofs.Ytokapofgbcbajaa.Fns
open Go.RowKit Go.Proofs.YtokapofgbcbajaaW.PrintWords Go.Joins Go.ChangeShapes Go.WideShapes Go.Deep
section
variable {H : Type} {enc : TypeId × Value → H} {P : Program} {w : World} {base : Nat} {spare : Nat → Bool} {held : Bool}
theorem okWide_array {r : Reach} {b0 : Nat} {t e : TypeId} {n : Nat} {v : Value} (ht : P.underlying t = some (.array n e)) (h : Value.okWide P w r b0 t v) : ∃ cs, v = .agg cs ∧ cs.size = P.cellsOf t := by
  simp only [Value.okWide, ht] at h
  obtain ⟨cs, h1, h2, _⟩ := h
  exact ⟨cs, h1, h2⟩
theorem arr2 {α : Type} {cs : Array α} (h : cs.size = 2) : ∃ c0 c1, cs = #[c0, c1] := by
  obtain ⟨l⟩ := cs
  match l, h with
  | [c0, c1], _ => exact ⟨c0, c1, rfl⟩
theorem arr4 {α : Type} {cs : Array α} (h : cs.size = 4) : ∃ c0 c1 c2 c3, cs = #[c0, c1, c2, c3] := by
  obtain ⟨l⟩ := cs
  match l, h with
  | [c0, c1, c2, c3], _ => exact ⟨c0, c1, c2, c3, rfl⟩
theorem arr5 {α : Type} {cs : Array α} (h : cs.size = 5) : ∃ c0 c1 c2 c3 c4, cs = #[c0, c1, c2, c3, c4] := by
  obtain ⟨l⟩ := cs
  match l, h with
  | [c0, c1, c2, c3, c4], _ => exact ⟨c0, c1, c2, c3, c4, rfl⟩
/-- An array of numbers, opened at one place. -/
theorem at_array {t : TypeId} {n fuel : Nat} {cs : List Value} {x : DataW H × List MemPlace} (ht : Try.prog.underlying t = some (.array n 3)) (hk : Try.prog.cellsOf 3 = 1)
    (h : DataW.trod enc Try.prog w base spare held fuel t cs = some x) {i : Nat} (hi : i < n) {u : Value} (hu : cs[i]? = some u) : ∃ z : Int, u = .int .i64 z ∧ (Lit.int .i64 z).wf = true := by
  obtain ⟨xs, m, _, _, hl, hlen, hg⟩ := DataW.trod_array ht h
  have g0 := hg i hi
  rw [hk, Nat.mul_one] at g0
  have e0 : xs[i]? = some (xs[i]'(by rw [hlen]; exact hi)) := List.getElem?_eq_getElem _
  obtain ⟨z, hz, _, hw⟩ := DataW.trod_int Try.underlying3 (g0.trans e0)
  have hd : (cs.drop i).take 1 = [u] := by
    have hlt : i < cs.length := (List.getElem?_eq_some_iff.1 hu).1
    rw [List.drop_eq_getElem_cons hlt, List.take_succ_cons, List.take_zero]
    rw [List.getElem?_eq_getElem hlt] at hu
    rw [Option.some.inj hu]
  rw [hd] at hz
  exact ⟨z, by simpa using hz, hw⟩
set_option maxRecDepth 100000 in
theorem open_a4 {r : Reach} {b0 : Nat} {v : Value} {d : DataW H} {p : List MemPlace} (hC : Try.prog.cellsOf 24 = 4) (hk : Try.prog.cellsOf 3 = 1)
    (hv : Value.okWide Try.prog w r b0 24 v) (h : DataW.Trod enc Try.prog w base spare held 24 v d p) : ∃ x0 x1 x2 x3 : Int, v = .agg #[.int .i64 x0, .int .i64 x1, .int .i64 x2, .int .i64 x3] := by
  obtain ⟨cs, rfl, hsz⟩ := okWide_array Try.underlying24 hv
  obtain ⟨c0, c1, c2, c3, rfl⟩ := arr4 (hsz.trans hC)
  obtain ⟨fuel, hf⟩ := h
  have hf' : DataW.trod enc Try.prog w base spare held fuel 24 [c0, c1, c2, c3] = some (d, p) := hf
  obtain ⟨x0, rfl, _⟩ := at_array Try.underlying24 hk hf' (i := 0) (by decide) rfl
  obtain ⟨x1, rfl, _⟩ := at_array Try.underlying24 hk hf' (i := 1) (by decide) rfl
  obtain ⟨x2, rfl, _⟩ := at_array Try.underlying24 hk hf' (i := 2) (by decide) rfl
  obtain ⟨x3, rfl, _⟩ := at_array Try.underlying24 hk hf' (i := 3) (by decide) rfl
  exact ⟨x0, x1, x2, x3, rfl⟩
set_option maxRecDepth 100000 in
theorem open_a2 {r : Reach} {b0 : Nat} {v : Value} {d : DataW H} {p : List MemPlace} (hC : Try.prog.cellsOf 54 = 2) (hk : Try.prog.cellsOf 3 = 1)
    (hv : Value.okWide Try.prog w r b0 54 v) (h : DataW.Trod enc Try.prog w base spare held 54 v d p) : ∃ x0 x1 : Int, v = .agg #[.int .i64 x0, .int .i64 x1] := by
  obtain ⟨cs, rfl, hsz⟩ := okWide_array Try.underlying54 hv
  obtain ⟨c0, c1, rfl⟩ := arr2 (hsz.trans hC)
  obtain ⟨fuel, hf⟩ := h
  have hf' : DataW.trod enc Try.prog w base spare held fuel 54 [c0, c1] = some (d, p) := hf
  obtain ⟨x0, rfl, _⟩ := at_array Try.underlying54 hk hf' (i := 0) (by decide) rfl
  obtain ⟨x1, rfl, _⟩ := at_array Try.underlying54 hk hf' (i := 1) (by decide) rfl
  exact ⟨x0, x1, rfl⟩
set_option maxRecDepth 100000 in
/-- A fragment by value, opened. -/
theorem open_frag {r : Reach} {b0 : Nat} {v : Value} {d : DataW H} {p : List MemPlace} (hC : Try.prog.cellsOf 23 = 5) (hk : Try.prog.cellsOf 3 = 1) (hk9 : Try.prog.cellsOf 9 = 1)
    (hv : Value.okWide Try.prog w r b0 23 v) (h : DataW.Trod enc Try.prog w base spare held 23 v d p) : ∃ (t i c s : Int) (x : ByteArray), v = .agg #[.int .i64 t, .int .i64 i, .int .i64 c, .int .i64 s, .string x] := by
  obtain ⟨cs, rfl, hsz⟩ := okWide_struct Try.underlying23 hv
  obtain ⟨c0, c1, c2, c3, c4, rfl⟩ := arr5 (hsz.trans hC)
  obtain ⟨fuel, hf⟩ := h
  obtain ⟨xs, n, _, hx, _, hlen, hg⟩ := DataW.trod_struct Try.underlying23 hf
  have g0 := hg 0 _ rfl
  have g1 := hg 1 _ rfl
  have g2 := hg 2 _ rfl
  have g3 := hg 3 _ rfl
  have g4 := hg 4 _ rfl
  have e0 : xs[0]? = some (xs[0]'(by rw [hlen]; decide)) := List.getElem?_eq_getElem _
  have e1 : xs[1]? = some (xs[1]'(by rw [hlen]; decide)) := List.getElem?_eq_getElem _
  have e2 : xs[2]? = some (xs[2]'(by rw [hlen]; decide)) := List.getElem?_eq_getElem _
  have e3 : xs[3]? = some (xs[3]'(by rw [hlen]; decide)) := List.getElem?_eq_getElem _
  have e4 : xs[4]? = some (xs[4]'(by rw [hlen]; decide)) := List.getElem?_eq_getElem _
  obtain ⟨n0, h0, _⟩ := DataW.trod_int Try.underlying3 (g0.trans e0)
  obtain ⟨n1, h1, _⟩ := DataW.trod_int Try.underlying3 (g1.trans e1)
  obtain ⟨n2, h2, _⟩ := DataW.trod_int Try.underlying3 (g2.trans e2)
  obtain ⟨n3, h3, _⟩ := DataW.trod_int Try.underlying3 (g3.trans e3)
  obtain ⟨n4, h4, _⟩ := DataW.trod_string Try.underlying9 (g4.trans e4)
  have a0 : c0 = .int .i64 n0 := by simpa [hk, Value.cells] using h0
  have a1 : c1 = .int .i64 n1 := by simpa [hk, Value.cells] using h1
  have a2 : c2 = .int .i64 n2 := by simpa [hk, Value.cells] using h2
  have a3 : c3 = .int .i64 n3 := by simpa [hk, Value.cells] using h3
  have a4 : c4 = .string n4 := by simpa [hk9, Value.cells] using h4
  exact ⟨n0, n1, n2, n3, n4, by rw [a0, a1, a2, a3, a4]⟩
set_option maxRecDepth 100000 in
theorem open_lu8 {r : Reach} {b0 : Nat} {t e : TypeId} {v : Value} {d : DataW H} {p : List MemPlace} (ht : Try.prog.underlying t = some (.slice e)) (he : Try.prog.underlying e = some (.int .u8)) (hk : Try.prog.cellsOf e = 1)
    (hv : Value.okWide Try.prog w r b0 t v) (h : DataW.Trod enc Try.prog w base spare held t v d p) :
    ∃ (A : Option Addr) (l : List Int) (c : Nat), v = .slice A l.length c ∧ Kd.C (Kd.int .u8) w A l.length l ∧ l.length ≤ c ∧ ∀ x ∈ l, (Lit.int .u8 x).wf = true := by
  obtain ⟨A, len, cap, rfl⟩ := okWide_slice ht hv
  obtain ⟨fuel, hf⟩ := h
  rcases Go.ChangeShapes.open_ints ht he hk hf with ⟨hcs, _⟩ | ⟨a, l, c, zs, hcs, _, hl, hm, hz, _, hcell, hwf⟩
  · simp [Value.cells] at hcs
    obtain ⟨rfl, rfl, rfl⟩ := hcs
    exact ⟨none, [], 0, rfl, ⟨rfl, Nat.zero_le _, fun h => absurd h (Nat.lt_irrefl 0)⟩, Nat.le_refl _, by simp⟩
  · simp [Value.cells] at hcs
    obtain ⟨rfl, rfl, rfl⟩ := hcs
    have hle : len ≤ zs.length := by rw [hz]; split <;> omega
    have hlen : (zs.take len).length = len := by rw [List.length_take]; omega
    have hmx : maxLen = 9223372036854775807 := rfl
    refine ⟨some a, zs.take len, cap, by rw [hlen], ⟨rfl, by omega, fun hn => ⟨a, rfl, fun j q hq => ?_⟩⟩, by omega, fun x hx => hwf x (List.mem_of_mem_take hx)⟩
    have hj : j < len := by
      have := (List.getElem?_eq_some_iff.1 hq).1
      omega
    refine ⟨[.int .u8 q], rfl, rfl, fun i u hu => ?_⟩
    have hi : i = 0 := by
      have := (List.getElem?_eq_some_iff.1 hu).1
      simp at this
      exact this
    subst hi
    have hu' : u = .int .u8 q := by simpa using hu.symm
    subst hu'
    have h1 := hcell j (by omega)
    have h2 : zs.getD j 0 = q := by
      rw [List.getElem?_take] at hq
      rw [if_pos hj] at hq
      rw [List.getD_eq_getElem?_getD, hq]
      rfl
    rw [h2] at h1
    show w.cell? (a.add (j * 1 + 0)) = _
    rw [Nat.mul_one, Nat.add_zero]
    exact h1
end
end Go.Proofs.Ytokapofgbcbajaa.Fns
