/- A slice of arrivals, and few. -/
import Derived.Test.YtokapofgbcbajaaOpenArgs
import Derived.Test.YtokapofgbcbajaaContains
import Derived.Test.YtokapofgbcbajaaRecvAll
namespace Go.Proofs.Ytokapofgbcbajaa.Fns
open Go.RowKit Go.Maps Go.Proofs.YtokapofgbcbajaaW.PrintWords Go.Proofs.YtokapofgbcbajaaW.PrintLast Go.Proofs.YtokapofgbcbajaaW.PrintMore Go.Joins Go.ChangeShapes Go.WideShapes Go.Deep
set_option linter.unusedVariables false
set_option linter.unusedSimpArgs false
structure Arv where
  la : Int
  t : Int
  i : Int
  c : Int
  s : Int
  d : ByteArray
def arvL (a : Arv) : List Value := [.int .i64 a.la, .int .i64 a.t, .int .i64 a.i, .int .i64 a.c, .int .i64 a.s, .string a.d]
def AC (w : World) (A : Option Addr) (l : List Arv) : Prop := ∀ j a, l[j]? = some a → ∃ ad, A = some ad ∧ ∀ i u, (arvL a)[i]? = some u → w.cell? (ad.add (j * 6 + i)) = some u
theorem AC.later {w wx : World} {A : Option Addr} {l : List Arv} (h : AC w A l) (hb : Below w.heap.size w wx) : AC wx A l := fun j a ha => by
  obtain ⟨ad, e, hc⟩ := h j a ha
  exact ⟨ad, e, fun i u hu => cell_later hb (hc i u hu)⟩
theorem AC.at {w : World} {A : Option Addr} {l : List Arv} (h : AC w A l) {j : Nat} {a : Arv} (ha : l[j]? = some a) : ∃ ad, A = some ad ∧ w.cell? (ad.add (j * 6)) = some (.int .i64 a.la) ∧ w.cell? ⟨(ad.add (j * 6)).block, (ad.add (j * 6)).off + 1, none⟩ = some (.int .i64 a.t) ∧ w.cell? ⟨(ad.add (j * 6)).block, (ad.add (j * 6)).off + 2, none⟩ = some (.int .i64 a.i) ∧ w.cell? ⟨(ad.add (j * 6)).block, (ad.add (j * 6)).off + 3, none⟩ = some (.int .i64 a.c) ∧ w.cell? ⟨(ad.add (j * 6)).block, (ad.add (j * 6)).off + 4, none⟩ = some (.int .i64 a.s) ∧ w.cell? ⟨(ad.add (j * 6)).block, (ad.add (j * 6)).off + 5, none⟩ = some (.string a.d) := by
  obtain ⟨ad, e, hc⟩ := h j a ha
  exact ⟨ad, e, hc 0 _ rfl, by rw [← add_field _ _ 1 (by omega)]; exact hc 1 _ rfl, by rw [← add_field _ _ 2 (by omega)]; exact hc 2 _ rfl, by rw [← add_field _ _ 3 (by omega)]; exact hc 3 _ rfl, by rw [← add_field _ _ 4 (by omega)]; exact hc 4 _ rfl, by rw [← add_field _ _ 5 (by omega)]; exact hc 5 _ rfl⟩
section
variable {H : Type} {enc : TypeId × Value → H} {w : World} {base : Nat} {spare : Nat → Bool} {held : Bool}
set_option maxRecDepth 100000 in
theorem open_cells68 {n : Nat} {cs : List Value} {y : DataW H × List MemPlace} (hC : Try.prog.cellsOf 68 = 6) (hC2 : Try.prog.cellsOf 23 = 5) (hk : Try.prog.cellsOf 3 = 1) (hk9 : Try.prog.cellsOf 9 = 1)
    (h : DataW.trod enc Try.prog w base spare held n 68 cs = some y) : ∃ x : Arv, cs = arvL x ∧ (Lit.int .i64 x.la).wf = true ∧ (Lit.int .i64 x.t).wf = true := by
  obtain ⟨xs, m, _, hx, hl, hlen, hg⟩ := DataW.trod_struct Try.underlying68 h
  rw [hC] at hl
  have g0 := hg 0 _ rfl
  have g1 := hg 1 _ rfl
  have e0 : xs[0]? = some (xs[0]'(by rw [hlen]; decide)) := List.getElem?_eq_getElem _
  have e1 : xs[1]? = some (xs[1]'(by rw [hlen]; decide)) := List.getElem?_eq_getElem _
  obtain ⟨n0, h0, _, w0⟩ := DataW.trod_int Try.underlying3 (g0.trans e0)
  obtain ⟨ys, m', _, hy, hl', hlen', hg'⟩ := DataW.trod_struct Try.underlying23 (g1.trans e1)
  have f0 := hg' 0 _ rfl
  have f1 := hg' 1 _ rfl
  have f2 := hg' 2 _ rfl
  have f3 := hg' 3 _ rfl
  have f4 := hg' 4 _ rfl
  have q0 : ys[0]? = some (ys[0]'(by rw [hlen']; decide)) := List.getElem?_eq_getElem _
  have q1 : ys[1]? = some (ys[1]'(by rw [hlen']; decide)) := List.getElem?_eq_getElem _
  have q2 : ys[2]? = some (ys[2]'(by rw [hlen']; decide)) := List.getElem?_eq_getElem _
  have q3 : ys[3]? = some (ys[3]'(by rw [hlen']; decide)) := List.getElem?_eq_getElem _
  have q4 : ys[4]? = some (ys[4]'(by rw [hlen']; decide)) := List.getElem?_eq_getElem _
  obtain ⟨n1, h1, _, w1⟩ := DataW.trod_int Try.underlying3 (f0.trans q0)
  obtain ⟨n2, h2, _⟩ := DataW.trod_int Try.underlying3 (f1.trans q1)
  obtain ⟨n3, h3, _⟩ := DataW.trod_int Try.underlying3 (f2.trans q2)
  obtain ⟨n4, h4, _⟩ := DataW.trod_int Try.underlying3 (f3.trans q3)
  obtain ⟨n5, h5, _⟩ := DataW.trod_string Try.underlying9 (f4.trans q4)
  match cs, hl with
  | [c0, c1, c2, c3, c4, c5], _ =>
    have a0 : c0 = .int .i64 n0 := by simpa [hk, hC2] using h0
    have a1 : c1 = .int .i64 n1 := by simpa [hk, hC2] using h1
    have a2 : c2 = .int .i64 n2 := by simpa [hk, hC2] using h2
    have a3 : c3 = .int .i64 n3 := by simpa [hk, hC2] using h3
    have a4 : c4 = .int .i64 n4 := by simpa [hk, hC2] using h4
    have a5 : c5 = .string n5 := by simpa [hk9, hC2] using h5
    exact ⟨⟨n0, n1, n2, n3, n4, n5⟩, by rw [a0, a1, a2, a3, a4, a5]; rfl, w0, w1⟩
set_option maxRecDepth 100000 in
/-- A slice of arrivals, opened: its row. -/
theorem open_arr {r : Reach} {b0 : Nat} {v : Value} {d : DataW H} {p : List MemPlace} (hC : Try.prog.cellsOf 68 = 6) (hC2 : Try.prog.cellsOf 23 = 5) (hk : Try.prog.cellsOf 3 = 1) (hk9 : Try.prog.cellsOf 9 = 1)
    (hv : Value.okWide Try.prog w r b0 62 v) (h : DataW.Trod enc Try.prog w base spare held 62 v d p) :
    ∃ (A : Option Addr) (l : List Arv) (c : Nat), v = .slice A l.length c ∧ AC w A l ∧ l.length ≤ c ∧ c ≤ maxLen ∧ ∀ a ∈ l, (Lit.int .i64 a.la).wf = true ∧ (Lit.int .i64 a.t).wf = true := by
  obtain ⟨A, len, cap, rfl⟩ := okWide_slice Try.underlying62 hv
  obtain ⟨fuel, hf⟩ := h
  rcases open_slice Try.underlying62 hf with ⟨hcs, _⟩ | ⟨a, l, c, m, n, D, Pl, hcs, _, hl, hm, hmm, _, hi⟩
  · simp [Value.cells] at hcs
    obtain ⟨rfl, rfl, rfl⟩ := hcs
    exact ⟨none, [], 0, rfl, fun j a h => by simp at h, Nat.le_refl _, Nat.zero_le _, by simp⟩
  · simp [Value.cells] at hcs
    obtain ⟨rfl, rfl, rfl⟩ := hcs
    have hle : len ≤ m := by rw [hmm]; split <;> omega
    rw [hC] at hi
    have hq : ∀ i, i < len → ∃ x : Arv, (∀ (j : Nat) u, (arvL x)[j]? = some u → w.cell? (a.add (i * 6 + j)) = some u) ∧ (Lit.int .i64 x.la).wf = true ∧ (Lit.int .i64 x.t).wf = true := by
      intro i hi'
      obtain ⟨cs', hc, ht'⟩ := hi i (by omega)
      obtain ⟨x, rfl, hw1, hw2⟩ := open_cells68 hC hC2 hk hk9 ht'
      obtain ⟨_, hcl, hat⟩ := World.cells?_some hc
      refine ⟨x, fun j u hu => ?_, hw1, hw2⟩
      have hj : j < 6 := by
        have := (List.getElem?_eq_some_iff.1 hu).1
        simpa [arvL] using this
      have h1 := hat j hj
      rw [Go.Deep.add_add] at h1
      exact h1.trans hu
    let f : Nat → Arv := fun i => if h : i < len then (hq i h).choose else ⟨0, 0, 0, 0, 0, ⟨#[]⟩⟩
    have hf' : ∀ i (h : i < len), (∀ (j : Nat) u, (arvL (f i))[j]? = some u → w.cell? (a.add (i * 6 + j)) = some u) ∧ (Lit.int .i64 (f i).la).wf = true ∧ (Lit.int .i64 (f i).t).wf = true := by
      intro i h
      have := (hq i h).choose_spec
      simpa only [f, dif_pos h] using this
    refine ⟨some a, (List.range len).map f, cap, by simp, fun j q hq2 => ?_, by simpa using hl, hm, ?_⟩
    · have hjl : j < len := by
        have := (List.getElem?_eq_some_iff.1 hq2).1
        simpa using this
      have hqe : q = f j := by
        simp [hjl] at hq2
        exact hq2.symm
      subst hqe
      exact ⟨a, rfl, (hf' j hjl).1⟩
    · intro q hq2
      obtain ⟨j, hj, rfl⟩ := List.mem_map.1 hq2
      exact (hf' j (List.mem_range.1 hj)).2
end
def longA (a : Arv) : Bool := decide (200 < a.d.size)
theorem long_num (a : Arv) : decide (200 < (a.d.size : Int)) = longA a := by unfold longA; exact decide_eq_decide.2 (by omega)
set_option maxRecDepth 100000 in
set_option maxHeartbeats 1000000 in
theorem long_calls (w : World) (a : Arv) : Calls Try.prog 62 #[.agg #[.int .i64 a.la, .int .i64 a.t, .int .i64 a.i, .int .i64 a.c, .int .i64 a.s, .string a.d]] w fun e w' => e = .returned (.bool (longA a)) ∧ Below w.heap.size w w' := by
  have hu68 := Try.underlying68
  have hu23 := Try.underlying23
  have HB := Aside0.mk (below_new w (.cells #[.int .i64 a.la, .int .i64 a.t, .int .i64 a.i, .int .i64 a.c, .int .i64 a.s, .string a.d] 68))
  have hq := long_num a
  go_enter Try.func62, Try.ntmps62
  go_wp2
  go_ret
  exact ⟨rfl, HB.out⟩
theorem any_hit {l : List Arv} {k : Nat} {a : Arv} (h : l[k]? = some a) (ha : longA a = true) : l.any longA = true := List.any_eq_true.2 ⟨a, List.mem_of_getElem? h, ha⟩
theorem any_miss {l : List Arv} (h : ∀ j a, j < l.length → l[j]? = some a → longA a = false) : l.any longA = false := by
  rw [List.any_eq_false]
  intro a ha
  obtain ⟨j, hj, rfl⟩ := List.mem_iff_getElem.1 ha
  rw [h j _ hj (List.getElem?_eq_getElem hj)]
  decide
theorem any_more {l : List Arv} {k : Nat} {a : Arv} (h : ∀ j x, j < k → l[j]? = some x → longA x = false) (hk : l[k]? = some a) (ha : longA a = false) : ∀ j x, j < k + 1 → l[j]? = some x → longA x = false := by
  intro j x hj hx
  by_cases e : j = k
  · subst e
    rw [hk] at hx
    rw [← Option.some.inj hx]; exact ha
  · exact h j x (by omega) hx
set_option maxRecDepth 100000 in
set_option maxHeartbeats 1000000 in
theorem index_long (w : World) (A : Option Addr) (c : Nat) (l : List Arv) (hC : AC w A l) (hl : l.length ≤ 4000) :
    Calls Try.prog 92 #[.slice A l.length c, .func (.func 62) #[] #[]] w fun e w' => ∃ z : Int, e = .returned (.int .i64 z) ∧ decide (0 ≤ z) = l.any longA ∧ Below w.heap.size w w' := by
  have e62 : ∀ args w, (callFunc 62 args).run Try.prog w = .ok (.enter 62 args) w := Go.Proofs.enters_of Try.func62 (by kernel_rfl) rfl
  have hu68 := Try.underlying68
  have HC := Aside0.mk hC
  have HL := Aside0.mk hl
  clear hC hl
  obtain ⟨m, hm⟩ : ∃ m, l.length = m := ⟨_, rfl⟩
  rw [hm]
  have HM := Aside0.mk hm
  clear hm
  go_enter Try.func92, Try.ntmps92
  go_wp2
  go_loopw [5, 8] (fun t5 t8 wr => ∃ k : Nat, Aside0 (k ≤ m) ∧ t8 = .int .i64 (k : Int) ∧ Aside0 (∀ j a, j < k → l[j]? = some a → longA a = false) ∧ Aside0 (Below w.heap.size w wr)) (fun _ t8 _ => ((m : Int) - intOf t8).toNat)
  case atStart => exact ⟨0, ⟨Nat.zero_le _⟩, rfl, ⟨fun j a hj => absurd hj (Nat.not_lt_zero j)⟩, ⟨Below.refl _ _⟩⟩
  case round =>
    obtain ⟨k, HK, rfl, HN, HB⟩ := hrel
    by_cases hlt : k < m
    · obtain ⟨a, ha⟩ : ∃ a, l[k]? = some a := ⟨_, List.getElem?_eq_getElem (by rw [HM.out]; exact hlt)⟩
      obtain ⟨ad, rfl, x0, x1, x2, x3, x4, x5⟩ := (HC.out.later HB.out).at ha
      have hcall := Aside0.mk (long_calls wr a)
      obtain ⟨h1, h2, h3, h4, h5⟩ := in_step hlt (by rw [← HM.out]; exact HL.out)
      have HLT := Aside0.mk hlt
      have HA := Aside0.mk ha
      clear ha hlt
      cases hq : longA a with
      | true =>
        rw [hq] at hcall
        have HQ := Aside0.mk hq
        clear hq
        go_wp2_with (go_at_fn 62; refine hcall.out.mono ?_; rintro e w' ⟨rfl, hb1⟩)
        go_ret
        exact ⟨_, rfl, by rw [any_hit HA.out HQ.out]; exact decide_eq_true h5, HB.out.trans (hb1.mono HB.out.size)⟩
      | false =>
        rw [hq] at hcall
        have HQ := Aside0.mk hq
        clear hq
        go_wp2_with (go_at_fn 62; refine hcall.out.mono ?_; rintro e w' ⟨rfl, hb1⟩)
        go_roundw
        case rel => exact ⟨k + 1, ⟨HLT.out⟩, by go_num, ⟨any_more HN.out HA.out HQ.out⟩, ⟨HB.out.trans (hb1.mono HB.out.size)⟩⟩
        case measure => rw [h1]; exact in_meas HLT.out
    · obtain ⟨h1, h2⟩ := in_stop hlt
      have HE := Aside0.mk (Nat.le_antisymm HK.out (Nat.le_of_not_lt hlt))
      clear hlt
      go_wp2
      go_ret
      exact ⟨_, rfl, by rw [any_miss (fun j a hj ha => HN.out j a (by rw [HE.out, ← HM.out]; exact hj) ha)]; rfl, HB.out⟩
set_option maxRecDepth 100000 in
set_option maxHeartbeats 1000000 in
theorem contains_long (w : World) (A : Option Addr) (c : Nat) (l : List Arv) (hC : AC w A l) (hl : l.length ≤ 4000) :
    Calls Try.prog 61 #[.slice A l.length c, .func (.func 62) #[] #[]] w fun e w' => e = .returned (.bool (l.any longA)) ∧ Below w.heap.size w w' := by
  have HI := Aside0.mk (index_long w A c l hC hl)
  clear hC hl
  generalize l.length = m at HI ⊢
  go_enter Try.func61, Try.ntmps61
  go_wp2_with (go_at_call 92; refine HI.out.mono ?_; rintro e w' ⟨z, rfl, hz, hb⟩)
  go_ret
  exact ⟨rfl, hb⟩
def fewB (l : List Arv) : Bool := decide (l.length ≤ 60) && !l.any longA
set_option maxRecDepth 100000 in
set_option maxHeartbeats 1000000 in
theorem few_calls (w : World) (A : Option Addr) (c : Nat) (l : List Arv) (hC : AC w A l) :
    Calls Try.prog 31 #[.slice A l.length c] w fun e w' => e = .returned (.bool (fewB l)) ∧ Below w.heap.size w w' := by
  by_cases h : l.length ≤ 60
  · have HI := Aside0.mk (contains_long w A c l hC (by omega))
    have hf : fewB l = !l.any longA := by unfold fewB; rw [decide_eq_true h]; rfl
    have q1 : decide ((l.length : Int) ≤ 60) = true := decide_eq_true (by omega)
    have q2 : decide (l.length ≤ 60) = true := decide_eq_true h
    rw [hf]
    clear hf hC h
    generalize l.any longA = b at HI ⊢
    generalize l.length = m at HI q1 q2 ⊢
    go_enter Try.func31, Try.ntmps31
    go_wp2_with (go_at_call 61; refine HI.out.mono ?_; rintro e w' ⟨rfl, hb⟩)
    go_ret
    exact ⟨rfl, hb⟩
  · have hf : fewB l = false := by unfold fewB; rw [decide_eq_false h]; rfl
    have q1 : decide ((l.length : Int) ≤ 60) = false := decide_eq_false (by omega)
    have q2 : decide (l.length ≤ 60) = false := decide_eq_false h
    rw [hf]
    clear hf hC h
    generalize l.length = m at q1 q2 ⊢
    go_enter Try.func31, Try.ntmps31
    go_wp2
    go_ret
    exact ⟨rfl, Below.refl _ _⟩
theorem few_true {l : List Arv} (h : fewB l = true) : l.length ≤ 60 ∧ ∀ a ∈ l, a.d.size ≤ 200 := by
  unfold fewB at h
  rw [Bool.and_eq_true, decide_eq_true_eq] at h
  refine ⟨h.1, fun a ha => ?_⟩
  have h2 : l.any longA = false := by simpa using h.2
  have h3 := List.any_eq_false.1 h2 a ha
  unfold longA at h3
  simp at h3
  exact h3
end Go.Proofs.Ytokapofgbcbajaa.Fns
