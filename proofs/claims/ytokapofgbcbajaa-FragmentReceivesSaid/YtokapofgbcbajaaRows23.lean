/- Rows of fragments. -/
import Derived.Test.YtokapofgbcbajaaFBase
namespace Go.Proofs.Ytokapofgbcbajaa.Fns
open Go.RowKit Go.Proofs.YtokapofgbcbajaaW.PrintWords Go.Proofs.YtokapofgbcbajaaW.PrintLast Go.Proofs.YtokapofgbcbajaaW.PrintMore
def flat {α : Type} (enc : α → List Value) (xs : List α) : List Value := xs.flatMap enc
section
variable {α : Type} {enc : α → List Value} {size : Nat}
theorem flat_length (he : ∀ x, (enc x).length = size) : ∀ xs : List α, (flat enc xs).length = xs.length * size
  | [] => by simp [flat]
  | x :: r => by
    have := flat_length he r
    simp only [flat, List.flatMap_cons, List.length_append, he, List.length_cons] at this ⊢
    rw [this, Nat.add_mul, Nat.one_mul, Nat.add_comm]
theorem flat_append (xs ys : List α) : flat enc (xs ++ ys) = flat enc xs ++ flat enc ys := by simp [flat]
theorem flat_one (x : α) : flat enc [x] = enc x := by simp [flat]
theorem flat_get (he : ∀ x, (enc x).length = size) : ∀ (xs : List α) (i j : Nat) (x : α) (u : Value), xs[i]? = some x → (enc x)[j]? = some u → (flat enc xs)[i * size + j]? = some u
  | [], i, j, x, u, h, _ => by simp at h
  | y :: r, 0, j, x, u, h, hu => by
    obtain rfl : y = x := by simpa using h
    have hj : j < (enc y).length := (List.getElem?_eq_some_iff.1 hu).1
    simp only [flat, List.flatMap_cons, Nat.zero_mul, Nat.zero_add]
    rw [List.getElem?_append_left hj]; exact hu
  | y :: r, i + 1, j, x, u, h, hu => by
    have h' : r[i]? = some x := by simpa using h
    have := flat_get he r i j x u h' hu
    simp only [flat, List.flatMap_cons]
    rw [List.getElem?_append_right (by rw [he, Nat.add_mul]; omega), he, show (i + 1) * size + j - size = i * size + j by rw [Nat.add_mul]; omega]
    exact this
theorem reps_flat {R : α → List Value → Prop} (hR : ∀ p c, R p c → c = enc p) : ∀ (xs : List α) (cs : List Value), Reps R size xs cs → cs = flat enc xs
  | [], cs, h => by
    have := h.1
    simp at this
    simpa [flat] using this
  | x :: r, cs, h => by
    have h0 := hR _ _ (h.2 0 x rfl)
    rw [Nat.zero_mul, List.drop_zero] at h0
    have h1 : Reps R size r (cs.drop size) := by
      refine ⟨?_, fun j p hj => ?_⟩
      · rw [List.length_drop, h.1, List.length_cons, Nat.add_mul]; omega
      · have := h.2 (j + 1) p (by simpa using hj)
        rw [List.drop_drop, show size + j * size = (j + 1) * size by rw [Nat.add_mul]; omega]
        exact this
    have h2 := reps_flat hR r _ h1
    rw [flat, List.flatMap_cons, ← h0]
    have h3 := (List.take_append_drop size cs).symm
    rw [h2] at h3
    exact h3
end
def cF (x : S23) : List Value := [.int .i64 x.f0, .int .i64 x.f1, .int .i64 x.f2, .int .i64 x.f3, .string x.f4]
theorem cF_length (x : S23) : (cF x).length = 5 := rfl
theorem row23 {w : World} {base : Nat} {ok : Nat → Prop} {v : Value} {xs : List S23} (h : Kd.R k23 23 w base ok v xs) : w.ownsRow base 23 5 v xs.length (flat cF xs) := by
  obtain ⟨_, cs, hown, hr⟩ := h
  have e := reps_flat (enc := cF) (size := 5) (fun p c hc => k23_openM hc) xs cs hr
  rw [e] at hown
  exact hown
/-- A row of fragments in block g. -/
def FRow (w : World) (g cap : Nat) (cur : Array Value) (xs : List S23) : Prop := IsRow w 23 5 g xs.length cap (flat cF xs) cur
theorem FRow.later {w wx : World} {g cap : Nat} {cur : Array Value} {xs : List S23} (h : FRow w g cap cur xs) (hb : Below w.heap.size w wx) : FRow wx g cap cur xs := IsRow.move h (hb.block g h.lt)
theorem FRow.at {w : World} {g cap : Nat} {cur : Array Value} {xs : List S23} (h : FRow w g cap cur xs) {i : Nat} {x : S23} (hx : xs[i]? = some x) :
    w.cell? ⟨g, i * 5, none⟩ = some (.int .i64 x.f0) ∧ w.cell? ⟨g, i * 5 + 1, none⟩ = some (.int .i64 x.f1) ∧ w.cell? ⟨g, i * 5 + 2, none⟩ = some (.int .i64 x.f2) ∧ w.cell? ⟨g, i * 5 + 3, none⟩ = some (.int .i64 x.f3) ∧ w.cell? ⟨g, i * 5 + 4, none⟩ = some (.string x.f4) :=
  ⟨IsRow.cell h (flat_get cF_length xs i 0 x _ hx rfl), IsRow.cell h (flat_get cF_length xs i 1 x _ hx rfl), IsRow.cell h (flat_get cF_length xs i 2 x _ hx rfl), IsRow.cell h (flat_get cF_length xs i 3 x _ hx rfl), IsRow.cell h (flat_get cF_length xs i 4 x _ hx rfl)⟩
/-- What a read row of numbers says. -/
theorem C_of_row {w : World} {g n cap : Nat} {xs : List Int} {cur : Array Value} (h : IsRow w 3 1 g n cap (xs.map (Value.int .i64)) cur) (hn : xs.length = n) : Kd.C (Kd.int .i64) w (some ⟨g, 0, none⟩) n xs := by
  have hs := h.small
  have hl := h.le
  unfold maxLen at hs
  refine ⟨hn, by omega, fun _ => ⟨_, rfl, fun j p hj => ⟨[.int .i64 p], rfl, rfl, fun i u hu => ?_⟩⟩⟩
  have hi : i = 0 := by
    have := (List.getElem?_eq_some_iff.1 hu).1
    simp at this
    exact this
  subst hi
  have hu' : u = .int .i64 p := by simpa using hu.symm
  subst hu'
  show w.cell? ((⟨g, 0, none⟩ : Addr).add (j * 1 + 0)) = _
  rw [Nat.mul_one, Nat.add_zero]
  have h2 : (⟨g, 0, none⟩ : Addr).add j = ⟨g, j, none⟩ := by unfold Addr.add; split <;> simp_all
  rw [h2]
  exact h.cell (by rw [List.getElem?_map, hj]; rfl)
end Go.Proofs.Ytokapofgbcbajaa.Fns
