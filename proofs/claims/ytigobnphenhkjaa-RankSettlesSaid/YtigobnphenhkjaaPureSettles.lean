/- RankSettles: the plain law. -/
import Derived.Test.YtigobnphenhkjaaPlayInv
import Derived.Test.YtigobnphenhkjaaPureSmall
namespace Go.Proofs.Ytigobnphenhkjaa.Fns
open Go.RowKit Go.Proofs.YtigobnphenhkjaaW.PrintWords Go.Proofs.YtigobnphenhkjaaW.PrintLast Go.Proofs.YtigobnphenhkjaaW.PrintMore
theorem good_root {s : S23} (h : Good s) (h0 : s.f0 = 0) : 1 ≤ s.f1 ∧ s.f2 = -1 ∧ s.f3 = 0 ∧ s.f4 = 0 := by
  rcases h.2 with h | h | h
  · exact ⟨h.2.1, h.2.2.1, h.2.2.2.1, h.2.2.2.2.1⟩
  · exact absurd h0 h.1
  · exact absurd h0 h.1
theorem hear_root {s : S23} {m : Adv} {c : Int} {p : Nat} (h : Good s) (h0 : s.f0 = 0) (hm : m.src = (p : Int)) : hearS m c 0 s = s := by
  obtain ⟨_, h2, _⟩ := good_root h h0
  unfold hearS
  split
  · rfl
  · split
    · rename_i h1 h3
      rw [h2] at h3
      omega
    · split
      · rename_i h3
        exact absurd h0 (adopt_ok h3.1).2.2.2.2.2.1.2.1
      · rfl
theorem advertise_err {s : S23} (h : Good s) (h4 : s.f4 ≠ 65535) : (advertise s).2.2.2 = 0 := by
  unfold advertise
  rw [if_neg (not_not_intro h), if_neg h4]
theorem advertise_err' {s : S23} (h4 : s.f4 = 65535) : (advertise s).2.2.2 ≠ 0 := by
  intro h
  exact (advertise_ok h).2.1 h4
theorem advS_f1 (s : S23) : (advS s).f1 = s.f1 := by
  unfold advS
  split
  · rename_i h
    exact (advertise_good h).2.2.1
  · rfl
theorem ev_node {n : Nat} {x : S50} (hx : evErr (n : Int) x = 0) : x.f1.toNat < n ∧ ((x.f1.toNat : Nat) : Int) = x.f1 := by
  unfold evErr at hx
  split at hx
  · exact absurd hx (by decide)
  · split at hx
    · exact absurd hx (by decide)
    · rename_i h1 h2
      have hr : 0 ≤ x.f1 ∧ x.f1 ≤ (n : Int) - 1 := Classical.byContradiction fun hc => h2 (.inl hc)
      exact ⟨by omega, Int.toNat_of_nonneg hr.1⟩
theorem ev_which {n : Nat} {x : S50} (hx : evErr (n : Int) x = 0) (h2 : x.f0 = 2) : 0 ≤ x.f2 := by
  unfold evErr at hx
  split at hx
  · exact absurd hx (by decide)
  · split at hx
    · exact absurd hx (by decide)
    · rename_i h1 h3
      exact Classical.byContradiction fun hc => h3 (.inr ⟨h2, .inl (by omega)⟩)
/-- An event raises the root's epoch by one at most. -/
theorem root_step {n : Nat} {st : List S23 × List Adv} (h : Inv n st.1 st.2) (hn : 1 ≤ n) {x : S50} (hx : evErr (n : Int) x = 0) :
    ((stepE x st).1.getD 0 z23).f1 ≤ (st.1.getD 0 z23).f1 + 1 := by
  obtain ⟨hi, he⟩ := ev_node hx
  have hL : x.f1.toNat < st.1.length := by rw [h.len]; exact hi
  have hg := h.good 0 hn
  have key : ∀ t : S23, (x.f1.toNat = 0 → t.f1 ≤ (st.1.getD 0 z23).f1 + 1) → ((st.1.set x.f1.toNat t).getD 0 z23).f1 ≤ (st.1.getD 0 z23).f1 + 1 := by
    intro t ht
    rw [getD_set hL]
    split
    · rename_i h0
      exact ht h0.symm
    · omega
  unfold stepE
  split
  · refine key _ (fun h0 => ?_)
    rw [advS_f1, h0]
    omega
  · split
    · rename_i h2
      split
      · omega
      · rename_i h5
        refine key _ (fun h0 => ?_)
        have hw := ev_which hx h2
        have hl : 0 < st.2.length := List.length_pos_iff.2 h5
        have q1 : 0 ≤ x.f2.tmod (st.2.length : Int) := Int.tmod_nonneg _ hw
        have q2 : x.f2.tmod (st.2.length : Int) < (st.2.length : Int) := Int.tmod_lt_of_pos _ (by omega)
        have hk : (x.f2.tmod (st.2.length : Int)).toNat < st.2.length := by omega
        obtain ⟨p, _, hp, _⟩ := h.said (st.2.getD (x.f2.tmod (st.2.length : Int)).toNat ⟨0, 0, 0⟩) (by rw [List.getD_eq_getElem?_getD, List.getElem?_eq_getElem hk]; exact List.getElem_mem hk)
        have hf : x.f1 = 0 := by omega
        rw [h0, hf, hear_root hg.1 hg.2 hp]
        omega
    · split
      · refine key _ (fun h0 => ?_)
        rw [h0]
        unfold renewS
        split
        · rename_i h1
          rw [(renew_ok h1).2.2.2]
          exact Int.le_refl _
        · omega
      · refine key _ (fun h0 => ?_)
        rw [h0, (lose_good hg.1).2.2.1]
        omega
theorem root_fold {n : Nat} (hn : 1 ≤ n) : ∀ (l : List S50) {st : List S23 × List Adv} (_ : Inv n st.1 st.2) (_ : ∀ x ∈ l, evErr (n : Int) x = 0),
    ((foldE l st).1.getD 0 z23).f1 ≤ (st.1.getD 0 z23).f1 + l.length
  | [], _, _, _ => by simp [foldE]
  | x :: r, st, h, hx => by
    have h1 := root_step h hn (hx x (by simp))
    have h2 := root_fold hn r (h.step (hx x (by simp))) (fun y hy => hx y (by simp [hy]))
    have h3 : foldE (x :: r) st = foldE r (stepE x st) := rfl
    rw [h3, List.length_cons]
    omega
/-- How many advertisements there are behind an event. -/
theorem said_step {n : Nat} {st : List S23 × List Adv} (h : Inv n st.1 st.2) {x : S50} (hx : evErr (n : Int) x = 0) :
    (stepE x st).2.length = if x.f0 = 1 ∧ (st.1.getD x.f1.toNat z23).f4 ≠ 65535 then st.2.length + 1 else st.2.length := by
  obtain ⟨hi, he⟩ := ev_node hx
  have hg := (h.good _ hi).1
  unfold stepE
  by_cases h1 : x.f0 = 1
  · rw [if_pos h1]
    by_cases h4 : (st.1.getD x.f1.toNat z23).f4 = 65535
    · rw [if_neg (fun h2 : x.f0 = 1 ∧ (st.1.getD x.f1.toNat z23).f4 ≠ 65535 => h2.2 h4)]
      show (advM _ _ _).length = _
      rw [advM, if_neg (advertise_err' h4)]
    · rw [if_pos ⟨h1, h4⟩]
      show (advM _ _ _).length = _
      rw [advM, if_pos (advertise_err hg h4), List.length_append, List.length_singleton]
  · rw [if_neg h1, if_neg (fun h2 : x.f0 = 1 ∧ (st.1.getD x.f1.toNat z23).f4 ≠ 65535 => h1 h2.1)]
    split
    · split <;> rfl
    · split <;> rfl
theorem foldE_append (a b : List S50) (st : List S23 × List Adv) : foldE (a ++ b) st = foldE b (foldE a st) := by simp [foldE]
theorem foldE_take {l : List S50} {i : Nat} (hi : i < l.length) (st : List S23 × List Adv) : foldE (l.take (i + 1)) st = stepE (l[i]) (foldE (l.take i) st) := by
  rw [List.take_succ_eq_append_getElem hi, foldE_append]
  rfl
/-- The line: k nodes have their ranks, the last one has advertised. -/
structure Line (n k : Nat) (E : Int) (want : Nat → Int) (L : List S23) (M : List Adv) : Prop where
  inv : Inv n L M
  ep : 1 ≤ E ∧ E ≤ 65535
  last : ∃ M', M = M' ++ [⟨(k : Int) - 1, E, want (k - 1)⟩]
  done : ∀ j, j < k → (L.getD j z23).f1 = E ∧ (L.getD j z23).f4 = want j ∧ (L.getD j z23).f2 = (j : Int) - 1
  late : ∀ j, k ≤ j → j < n → (L.getD j z23).f1 < E
theorem ev_ok {n k i wh c : Int} (hk : 1 ≤ k ∧ k ≤ 5) (hi : 0 ≤ i ∧ i ≤ n - 1) (hh : k = 2 → 0 ≤ wh ∧ okCost c) : evErr n ⟨k, i, wh, c⟩ = 0 := by
  unfold evErr
  rw [if_neg (not_not_intro hk)]
  refine if_neg ?_
  rintro (h1 | ⟨h1, h2 | h2⟩)
  · exact h1 hi
  · have := (hh h1).1
    have h3 : wh < 0 := h2
    omega
  · exact h2 (hh h1).2
def renewE : S50 := ⟨5, 0, 0, 0⟩
def advE (i : Int) : S50 := ⟨1, i, 0, 0⟩
theorem line_start {n : Nat} {st : List S23 × List Adv} (h : Inv n st.1 st.2) (hn : 1 ≤ n) (hr : (st.1.getD 0 z23).f1 ≤ 1000) {want : Nat → Int} (h0 : want 0 = 0) :
    ∃ E, Line n 1 E want (foldE [renewE, advE 0] st).1 (foldE [renewE, advE 0] st).2 := by
  have e1 : evErr (n : Int) renewE = 0 := ev_ok ⟨by decide, by decide⟩ ⟨by omega, by omega⟩ (by decide)
  have e2 : evErr (n : Int) (advE 0) = 0 := ev_ok ⟨by decide, by decide⟩ ⟨by omega, by omega⟩ (by decide)
  obtain ⟨L, M⟩ := st
  have hg := h.good 0 hn
  obtain ⟨g1, g2, g3, g4⟩ := good_root hg.1 hg.2
  have hL : 0 < L.length := by have := h.len; simp only at this; omega
  -- the renewal
  have hne : (renew (L.getD 0 z23)).2 = 0 := by
    have hz : (L.getD 0 z23).f0 = 0 := hg.2
    unfold renew
    rw [if_neg (not_not_intro hg.1), if_neg (not_not_intro hz), if_neg (by simp only at hr; omega)]
  have s1 : stepE renewE (L, M) = (L.set 0 ⟨0, (L.getD 0 z23).f1 + 1, -1, 0, 0, 65535⟩, M) := by
    unfold stepE
    rw [if_neg (by decide), if_neg (by decide), if_pos (by decide)]
    show (L.set 0 (renewS (L.getD 0 z23)), M) = _
    unfold renewS
    rw [if_pos hne, (renew_ok hne).2.2.2]
    simp only [show (L.getD 0 z23).f0 = 0 from hg.2, show (L.getD 0 z23).f2 = -1 from g2, show (L.getD 0 z23).f3 = 0 from g3, show (L.getD 0 z23).f4 = 0 from g4]
  have i1 := h.step e1
  rw [s1] at i1
  have q0 : (L.set 0 ⟨0, (L.getD 0 z23).f1 + 1, -1, 0, 0, 65535⟩).getD 0 z23 = ⟨0, (L.getD 0 z23).f1 + 1, -1, 0, 0, 65535⟩ := by rw [getD_set hL, if_pos rfl]
  have a1 := advertise_err (i1.good 0 hn).1 (by simp only [q0]; decide)
  simp only [q0] at a1
  have s2 : stepE (advE 0) (L.set 0 ⟨0, (L.getD 0 z23).f1 + 1, -1, 0, 0, 65535⟩, M) = ((L.set 0 ⟨0, (L.getD 0 z23).f1 + 1, -1, 0, 0, 65535⟩).set 0 ⟨0, (L.getD 0 z23).f1 + 1, -1, 0, 0, 0⟩, M ++ [⟨0, (L.getD 0 z23).f1 + 1, 0⟩]) := by
    unfold stepE
    rw [if_pos (by decide)]
    show ((L.set 0 _).set 0 (advS ((L.set 0 ⟨0, (L.getD 0 z23).f1 + 1, -1, 0, 0, 65535⟩).getD 0 z23)), advM 0 ((L.set 0 ⟨0, (L.getD 0 z23).f1 + 1, -1, 0, 0, 65535⟩).getD 0 z23) M) = _
    rw [q0]
    unfold advS advM
    rw [if_pos a1, if_pos a1, (advertise_ok a1).2.2]
    rfl
  have i2 := i1.step e2
  rw [s2] at i2
  have hf : foldE [renewE, advE 0] (L, M) = ((L.set 0 ⟨0, (L.getD 0 z23).f1 + 1, -1, 0, 0, 65535⟩).set 0 ⟨0, (L.getD 0 z23).f1 + 1, -1, 0, 0, 0⟩, M ++ [⟨0, (L.getD 0 z23).f1 + 1, 0⟩]) := by
    show stepE (advE 0) (stepE renewE (L, M)) = _
    rw [s1, s2]
  rw [hf]
  have hL2 : 0 < (L.set 0 ⟨0, (L.getD 0 z23).f1 + 1, -1, 0, 0, 65535⟩).length := by rw [List.length_set]; exact hL
  refine ⟨(L.getD 0 z23).f1 + 1, i2, ⟨by simp only at g1; omega, by simp only at hr; omega⟩, ⟨M, by simp [h0]⟩, ?_, ?_⟩
  · intro j hj
    obtain rfl : j = 0 := by omega
    show (((L.set 0 _).set 0 _).getD 0 z23).f1 = _ ∧ (((L.set 0 _).set 0 _).getD 0 z23).f4 = _ ∧ (((L.set 0 _).set 0 _).getD 0 z23).f2 = _
    rw [getD_set hL2, if_pos rfl]
    exact ⟨rfl, h0.symm, rfl⟩
  · intro j hj hjn
    show (((L.set 0 _).set 0 _).getD j z23).f1 < _
    rw [getD_set hL2, if_neg (by omega), getD_set hL, if_neg (by omega)]
    have := h.top j hjn
    simp only at this
    omega
def hearE (i : Int) (which cost : Int) : S50 := ⟨2, i, which, cost⟩
theorem line_step {n k : Nat} {E : Int} {want : Nat → Int} {L : List S23} {M : List Adv} (h : Line n k E want L M) (hk : 1 ≤ k) (hkn : k < n) {c : Int} (hc : 1 ≤ c ∧ c ≤ 1023) (hw : want k = want (k - 1) + c)
    (h0 : 0 ≤ want (k - 1)) (h1 : want k < 65535) :
    evErr (n : Int) (hearE k ((M.length : Int) - 1) c) = 0 ∧ evErr (n : Int) (advE k) = 0 ∧
    Line n (k + 1) E want (foldE [hearE k ((M.length : Int) - 1) c, advE k] (L, M)).1 (foldE [hearE k ((M.length : Int) - 1) c, advE k] (L, M)).2 ∧
    (foldE [hearE k ((M.length : Int) - 1) c, advE k] (L, M)).2.length = M.length + 1 := by
  obtain ⟨M', hM⟩ := h.last
  have hlen : M.length = M'.length + 1 := by rw [hM]; simp
  have e1 : evErr (n : Int) (hearE k ((M.length : Int) - 1) c) = 0 := ev_ok ⟨by decide, by decide⟩ ⟨by omega, by omega⟩ (fun _ => ⟨by omega, hc⟩)
  have e2 : evErr (n : Int) (advE k) = 0 := ev_ok ⟨by decide, by decide⟩ ⟨by omega, by omega⟩ (by decide)
  have hkL : k < L.length := by rw [h.inv.len]; exact hkn
  have hg := h.inv.good k hkn
  have hlate := h.late k (Nat.le_refl _) hkn
  have hsm := h.inv.small
  have hep := h.ep
  generalize hs : L.getD k z23 = s at hg hlate
  -- it adopts
  have had : (adopt s ((k : Int) - 1) E (want (k - 1)) c).2 = 0 := by
    refine adopt_does hg.1 ⟨⟨by omega, by omega⟩, by rw [hg.2]; omega, ⟨hep, by omega, by omega⟩, hc⟩ ⟨hg.1, by rw [hg.2]; omega, ⟨hep, by omega, by omega⟩, .inl hlate⟩ (by omega)
  have hao := (adopt_ok had).2.2.2.2.2.2.2
  rw [if_pos hlate, hg.2, ← hw] at hao
  have hh : hearS ⟨(k : Int) - 1, E, want (k - 1)⟩ c (k : Int) s = ⟨(k : Int), E, (k : Int) - 1, want (k - 1), want k, 65535⟩ := by
    unfold hearS
    rw [if_neg (by show ¬ ((k : Int) - 1 = (k : Int)); omega)]
    by_cases hp : (k : Int) - 1 = s.f2
    · rw [if_pos hp]
      show (update s E (want (k - 1)) c).1 = _
      unfold update
      rw [if_neg (not_not_intro hg.1), if_neg (not_not_intro ⟨⟨hep, by omega, by omega⟩, hc⟩), if_neg (by omega), if_neg (by omega), ← hp, if_pos had]
      exact hao
    · rw [if_neg hp, if_pos ⟨had, .inr (.inl hlate)⟩]
      exact hao
  have s1 : stepE (hearE k ((M.length : Int) - 1) c) (L, M) = (L.set k ⟨(k : Int), E, (k : Int) - 1, want (k - 1), want k, 65535⟩, M) := by
    unfold stepE
    rw [if_neg (by show ¬ ((2 : Int) = 1); decide), if_pos (by rfl)]
    rw [if_neg (by rw [hM]; simp)]
    have ht : ((M.length : Int) - 1).tmod (M.length : Int) = ((M'.length : Nat) : Int) := by
      rw [Int.tmod_eq_emod_of_nonneg (by omega), Int.emod_eq_of_lt (by omega) (by omega)]
      omega
    show (L.set (k : Int).toNat (hearS (M.getD (((M.length : Int) - 1).tmod (M.length : Int)).toNat ⟨0, 0, 0⟩) c (k : Int) (L.getD (k : Int).toNat z23)), M) = _
    rw [ht, Int.toNat_natCast, Int.toNat_natCast, hs]
    have hl : M.getD M'.length ⟨0, 0, 0⟩ = ⟨(k : Int) - 1, E, want (k - 1)⟩ := by rw [hM]; simp
    rw [hl, hh]
  have i1 := Inv.step (st := (L, M)) h.inv e1
  rw [s1] at i1
  have q0 : (L.set k ⟨(k : Int), E, (k : Int) - 1, want (k - 1), want k, 65535⟩).getD k z23 = ⟨(k : Int), E, (k : Int) - 1, want (k - 1), want k, 65535⟩ := by rw [getD_set hkL, if_pos rfl]
  have a1 := advertise_err (i1.good k hkn).1 (by simp only [q0]; omega)
  simp only [q0] at a1
  have s2 : stepE (advE k) (L.set k ⟨(k : Int), E, (k : Int) - 1, want (k - 1), want k, 65535⟩, M) = ((L.set k ⟨(k : Int), E, (k : Int) - 1, want (k - 1), want k, 65535⟩).set k ⟨(k : Int), E, (k : Int) - 1, want (k - 1), want k, mn 65535 (want k)⟩, M ++ [⟨(k : Int), E, want k⟩]) := by
    unfold stepE
    rw [if_pos (by rfl)]
    show ((L.set k _).set (k : Int).toNat (advS ((L.set k ⟨(k : Int), E, (k : Int) - 1, want (k - 1), want k, 65535⟩).getD (k : Int).toNat z23)), advM (k : Int).toNat ((L.set k ⟨(k : Int), E, (k : Int) - 1, want (k - 1), want k, 65535⟩).getD (k : Int).toNat z23) M) = _
    rw [Int.toNat_natCast, q0]
    unfold advS advM
    rw [if_pos a1, if_pos a1, (advertise_ok a1).2.2]
  have i2 := i1.step e2
  rw [s2] at i2
  have hf : foldE [hearE k ((M.length : Int) - 1) c, advE k] (L, M) = ((L.set k ⟨(k : Int), E, (k : Int) - 1, want (k - 1), want k, 65535⟩).set k ⟨(k : Int), E, (k : Int) - 1, want (k - 1), want k, mn 65535 (want k)⟩, M ++ [⟨(k : Int), E, want k⟩]) := by
    show stepE (advE k) (stepE (hearE k ((M.length : Int) - 1) c) (L, M)) = _
    rw [s1, s2]
  rw [hf]
  have hL2 : k < (L.set k ⟨(k : Int), E, (k : Int) - 1, want (k - 1), want k, 65535⟩).length := by rw [List.length_set]; exact hkL
  refine ⟨e1, e2, ⟨i2, hep, ⟨M, ?_⟩, ?_, ?_⟩, by simp⟩
  · show M ++ _ = M ++ _
    rw [show ((k + 1 : Nat) : Int) - 1 = (k : Int) by omega, show k + 1 - 1 = k by omega]
  · intro j hj
    show (((L.set k _).set k _).getD j z23).f1 = _ ∧ (((L.set k _).set k _).getD j z23).f4 = _ ∧ (((L.set k _).set k _).getD j z23).f2 = _
    rw [getD_set hL2]
    by_cases e : j = k
    · subst e
      rw [if_pos rfl]
      exact ⟨rfl, rfl, rfl⟩
    · rw [if_neg e, getD_set hkL, if_neg e]
      exact h.done j (by omega)
  · intro j hj hjn
    show (((L.set k _).set k _).getD j z23).f1 < _
    rw [getD_set hL2, if_neg (by omega), getD_set hkL, if_neg (by omega)]
    exact h.late j (by omega) hjn
end Go.Proofs.Ytigobnphenhkjaa.Fns
