/- What holds behind any events: every parent is later than what was heard of it. -/
import Derived.Test.YtigobnphenhkjaaKeeps
import Derived.Test.YtigobnphenhkjaaPlaySpec
namespace Go.Proofs.Ytigobnphenhkjaa.Fns
open Go.RowKit Go.Proofs.YtigobnphenhkjaaW.PrintWords Go.Proofs.YtigobnphenhkjaaW.PrintLast Go.Proofs.YtigobnphenhkjaaW.PrintMore
/-- a state has come by a pair (epoch, number): it is in a later epoch, or in that one with Least at most the number -/
def Past (s : S23) (e r : Int) : Prop := e < s.f1 ∨ (s.f1 = e ∧ s.f5 ≤ r)
theorem Past.later {s t : S23} {e r : Int} (h : Past s e r) (hl : Later s t) : Past t e r := by
  unfold Past at *
  rcases hl.2 with h1 | h1 <;> rcases h with h | h <;> omega
structure Inv (n : Nat) (L : List S23) (M : List Adv) : Prop where
  len : L.length = n
  good : ∀ i, i < n → Good (L.getD i z23) ∧ (L.getD i z23).f0 = (i : Int)
  par : ∀ i, i < n → (L.getD i z23).f2 = -1 ∨ ∃ p : Nat, p < n ∧ (L.getD i z23).f2 = (p : Int) ∧ Past (L.getD p z23) (L.getD i z23).f1 (L.getD i z23).f3
  said : ∀ m ∈ M, ∃ p : Nat, p < n ∧ m.src = (p : Int) ∧ okAdv m.ep m.rk ∧ Past (L.getD p z23) m.ep m.rk
  top : ∀ i, i < n → (L.getD i z23).f1 ≤ (L.getD 0 z23).f1
  small : n ≤ 32
theorem getD_set {L : List S23} {i : Nat} (hi : i < L.length) (t : S23) (j : Nat) : (L.set i t).getD j z23 = if j = i then t else L.getD j z23 := by
  simp only [List.getD_eq_getElem?_getD, List.getElem?_set]
  by_cases h : i = j
  · subst h; simp [hi]
  · rw [if_neg h, if_neg (fun e => h e.symm)]
theorem good_parent {s : S23} (h : Good s) (h2 : s.f2 ≠ -1) : s.f0 ≠ 0 ∧ okNode s.f2 ∧ s.f2 ≠ s.f0 ∧ 1 ≤ s.f1 ∧ 0 ≤ s.f3 ∧ s.f3 < s.f4 ∧ s.f3 < s.f5 ∧ s.f4 < 65535 := by
  rcases h.2 with h | h | h
  · exact absurd h.2.2.1 h2
  · exact absurd h.2.1 h2
  · exact ⟨h.1, h.2.2.1, h.2.2.2.1, h.2.2.2.2.1, h.2.2.2.2.2.1, h.2.2.2.2.2.2.1, h.2.2.2.2.2.2.2.1, h.2.2.2.2.2.2.2.2⟩
theorem Inv.set {n : Nat} {L : List S23} {M : List Adv} (h : Inv n L M) {i : Nat} (hi : i < n) {t : S23} (hg : Good t) (hl : Later (L.getD i z23) t)
    (hp : t.f2 = -1 ∨ (t.f2 = (L.getD i z23).f2 ∧ t.f1 = (L.getD i z23).f1 ∧ t.f3 = (L.getD i z23).f3) ∨ ∃ p : Nat, p < n ∧ t.f2 = (p : Int) ∧ Past (L.getD p z23) t.f1 t.f3)
    (ht : i = 0 ∨ t.f1 ≤ (L.getD 0 z23).f1) : Inv n (L.set i t) M := by
  have hL : i < L.length := by rw [h.len]; exact hi
  have h0 : t.f0 = (i : Int) := hl.1.trans (h.good i hi).2
  have hq : ∀ j, Later (L.getD j z23) ((L.set i t).getD j z23) := by
    intro j
    rw [getD_set hL]
    split
    · rename_i e; subst e; exact hl
    · exact Later.refl _
  refine ⟨by rw [List.length_set]; exact h.len, ?_, ?_, ?_, ?_, h.small⟩
  · intro j hj
    rw [getD_set hL]
    split
    · rename_i e; subst e; exact ⟨hg, h0⟩
    · exact h.good j hj
  · intro j hj
    by_cases e : j = i
    · subst e
      rw [show (L.set j t).getD j z23 = t by rw [getD_set hL, if_pos rfl]]
      rcases hp with hp | hp | ⟨p, hp1, hp2, hp3⟩
      · exact .inl hp
      · rcases h.par j hj with h3 | ⟨p, h3, h4, h5⟩
        · exact .inl (hp.1.trans h3)
        · refine .inr ⟨p, h3, hp.1.trans h4, ?_⟩
          rw [hp.2.1, hp.2.2]
          exact h5.later (hq p)
      · exact .inr ⟨p, hp1, hp2, hp3.later (hq p)⟩
    · rw [show (L.set i t).getD j z23 = L.getD j z23 by rw [getD_set hL, if_neg e]]
      rcases h.par j hj with h3 | ⟨p, h3, h4, h5⟩
      · exact .inl h3
      · exact .inr ⟨p, h3, h4, h5.later (hq p)⟩
  · intro m hm
    obtain ⟨p, h1, h2, h3, h4⟩ := h.said m hm
    exact ⟨p, h1, h2, h3, h4.later (hq p)⟩
  · intro j hj
    have h1 := h.top j hj
    rw [getD_set hL, getD_set hL]
    by_cases e : j = i
    · rw [if_pos e]
      by_cases e0 : 0 = i
      · rw [if_pos e0]; exact Int.le_refl _
      · rw [if_neg e0]
        rcases ht with ht | ht
        · exact absurd ht.symm e0
        · exact ht
    · rw [if_neg e]
      by_cases e0 : 0 = i
      · rw [if_pos e0]
        subst e0
        rcases hl.2 with h2 | h2 <;> omega
      · rw [if_neg e0]; exact h1
theorem Inv.say {n : Nat} {L : List S23} {M : List Adv} (h : Inv n L M) {i : Nat} (hi : i < n) {e r : Int} (ha : okAdv e r) (hp : Past (L.getD i z23) e r) : Inv n L (M ++ [⟨(i : Int), e, r⟩]) := by
  refine ⟨h.len, h.good, h.par, ?_, h.top, h.small⟩
  intro m hm
  rcases List.mem_append.1 hm with h1 | h1
  · exact h.said m h1
  · obtain rfl := List.mem_singleton.1 h1
    exact ⟨i, hi, rfl, ha, hp⟩
theorem Inv.same {n : Nat} {L : List S23} {M : List Adv} (h : Inv n L M) {i : Nat} (hi : i < n) : Inv n (L.set i (L.getD i z23)) M := by
  refine h.set hi (h.good i hi).1 (Later.refl _) (.inr (.inl ⟨rfl, rfl, rfl⟩)) ?_
  exact .inr (h.top i hi)
theorem Inv.advertise {n : Nat} {L : List S23} {M : List Adv} (h : Inv n L M) {i : Nat} (hi : i < n) : Inv n (L.set i (advS (L.getD i z23))) (advM i (L.getD i z23) M) := by
  have hL : i < L.length := by rw [h.len]; exact hi
  unfold advS advM
  by_cases h1 : (Fns.advertise (L.getD i z23)).2.2.2 = 0
  · rw [if_pos h1, if_pos h1]
    obtain ⟨g1, g2, g3, g4, g5, _⟩ := advertise_good h1
    have ho := (advertise_ok h1).2.2
    have hs : Inv n (L.set i (Fns.advertise (L.getD i z23)).1) M := by
      refine h.set hi g1 g2 (.inr (.inl ?_)) (.inr ?_)
      · rw [ho]; exact ⟨rfl, rfl, rfl⟩
      · rw [g3]; exact h.top i hi
    have h2 : (Fns.advertise (L.getD i z23)).2.1 = (L.getD i z23).f1 := by rw [ho]
    have h3 : (Fns.advertise (L.getD i z23)).2.2.1 = (L.getD i z23).f4 := by rw [ho]
    rw [h2, h3]
    refine hs.say hi g5 ?_
    rw [getD_set hL, if_pos rfl]
    exact .inr ⟨g3, g4⟩
  · rw [if_neg h1, if_neg h1]
    exact h.same hi
theorem Inv.lose {n : Nat} {L : List S23} {M : List Adv} (h : Inv n L M) {i : Nat} (hi : i < n) : Inv n (L.set i (lose (L.getD i z23))) M := by
  obtain ⟨g1, g2, g3, g4, g5⟩ := lose_good (h.good i hi).1
  refine h.set hi g1 ⟨g2, .inr ⟨g3, by rw [g4]; exact Int.le_refl _⟩⟩ (.inl g5) (.inr ?_)
  rw [g3]
  exact h.top i hi
theorem Inv.renew {n : Nat} {L : List S23} {M : List Adv} (h : Inv n L M) {i : Nat} (hi : i < n) : Inv n (L.set i (renewS (L.getD i z23))) M := by
  unfold renewS
  by_cases h1 : (Fns.renew (L.getD i z23)).2 = 0
  · rw [if_pos h1]
    obtain ⟨g1, g2⟩ := renew_good h1
    obtain ⟨k1, k2, k3, k4⟩ := renew_ok h1
    refine h.set hi g1 g2 (.inl ?_) (.inl ?_)
    · rw [k4]
      rcases k1.2 with h2 | h2 | h2
      · exact h2.2.2.1
      · exact absurd k2 h2.1
      · exact absurd k2 h2.1
    · have := (h.good i hi).2
      omega
  · rw [if_neg h1]
    exact h.same hi
theorem Inv.adopt {n : Nat} {L : List S23} {M : List Adv} (h : Inv n L M) {i : Nat} (hi : i < n) {m : Adv} (hm : m ∈ M) {c : Int} (ha : (adopt (L.getD i z23) m.src m.ep m.rk c).2 = 0) :
    Inv n (L.set i (adopt (L.getD i z23) m.src m.ep m.rk c).1) M := by
  obtain ⟨p, h1, h2, h3, h4⟩ := h.said m hm
  obtain ⟨g1, g2⟩ := adopt_good ha
  have ho := (adopt_ok ha).2.2.2.2.2.2.2
  refine h.set hi g1 g2 (.inr (.inr ⟨p, h1, ?_, ?_⟩)) (.inr ?_)
  · rw [ho]; exact h2
  · rw [ho]; exact h4
  · rw [ho]
    have := h.top p h1
    show m.ep ≤ _
    rcases h4 with h4 | h4 <;> omega
theorem Inv.hear {n : Nat} {L : List S23} {M : List Adv} (h : Inv n L M) {i : Nat} (hi : i < n) {m : Adv} (hm : m ∈ M) {c : Int} (hc : okCost c) : Inv n (L.set i (hearS m c (i : Int) (L.getD i z23))) M := by
  unfold hearS
  split
  · exact h.same hi
  · split
    · rename_i h1 h2
      obtain ⟨p, k1, k2, k3, k4⟩ := h.said m hm
      have hne : (L.getD i z23).f2 ≠ -1 := by omega
      have hu := update_does (h.good i hi).1 ⟨k3, hc⟩ hne
      obtain ⟨g1, g2⟩ := update_good hu
      obtain ⟨_, _, _, _, h5 | ⟨h5, h6⟩ | h5⟩ := update_ok hu
      · rw [h5]; exact h.same hi
      · rw [h6]
        rw [← h2] at h5 ⊢
        exact h.adopt hi hm h5
      · refine h.set hi g1 g2 (.inl ?_) (.inr ?_)
        · rw [h5]
          exact (lose_good (begin_good (h.good i hi).1 k3.1 hne).1).2.2.2.2
        · rw [h5, (lose_good (begin_good (h.good i hi).1 k3.1 hne).1).2.2.1]
          have t1 := h.top p k1
          have t2 := h.top i hi
          unfold begin_
          split
          · show m.ep ≤ _
            rcases k4 with k4 | k4 <;> omega
          · exact t2
    · split
      · rename_i h3
        exact h.adopt hi hm h3.1
      · exact h.same hi
theorem Inv.step {n : Nat} {st : List S23 × List Adv} (h : Inv n st.1 st.2) {x : S50} (hx : evErr (n : Int) x = 0) : Inv n (stepE x st).1 (stepE x st).2 := by
  unfold evErr at hx
  split at hx
  · exact absurd hx (by decide)
  · split at hx
    · exact absurd hx (by decide)
    · rename_i h1 h2
      have hr : 0 ≤ x.f1 ∧ x.f1 ≤ (n : Int) - 1 := Classical.byContradiction fun hc => h2 (.inl hc)
      have hi : x.f1.toNat < n := by omega
      have he : ((x.f1.toNat : Nat) : Int) = x.f1 := Int.toNat_of_nonneg hr.1
      unfold stepE
      split
      · exact h.advertise hi
      · split
        · rename_i h4
          split
          · exact h
          · rename_i h5
            have hc : okCost x.f3 := Classical.byContradiction fun hc => h2 (.inr ⟨h4, .inr hc⟩)
            have hw : 0 ≤ x.f2 := Classical.byContradiction fun hc => h2 (.inr ⟨h4, .inl (by omega)⟩)
            have hl : 0 < st.2.length := List.length_pos_iff.2 h5
            have q1 : 0 ≤ x.f2.tmod (st.2.length : Int) := Int.tmod_nonneg _ hw
            have q2 : x.f2.tmod (st.2.length : Int) < (st.2.length : Int) := Int.tmod_lt_of_pos _ (by omega)
            have hk : (x.f2.tmod (st.2.length : Int)).toNat < st.2.length := by omega
            have := h.hear hi (m := st.2.getD (x.f2.tmod (st.2.length : Int)).toNat ⟨0, 0, 0⟩) (by rw [List.getD_eq_getElem?_getD, List.getElem?_eq_getElem hk]; exact List.getElem_mem hk) hc
            rw [he] at this
            exact this
        · split
          · exact h.renew hi
          · exact h.lose hi
def foldE (l : List S50) (st : List S23 × List Adv) : List S23 × List Adv := l.foldl (fun st x => stepE x st) st
theorem runE_all (n : Int) : ∀ (l : List S50) (st : List S23 × List Adv), (∀ x ∈ l, evErr n x = 0) → runE n l st = ((foldE l st).1, 0)
  | [], st, _ => rfl
  | x :: r, st, h => by
    rw [runE, if_pos (h x (by simp)), runE_all n r _ (fun y hy => h y (by simp [hy]))]
    rfl
theorem runE_ok (n : Int) : ∀ (l : List S50) (st : List S23 × List Adv), (runE n l st).2 = 0 → ∀ x ∈ l, evErr n x = 0
  | [], st, _ => by simp
  | x :: r, st, h => by
    rw [runE] at h
    by_cases h1 : evErr n x = 0
    · rw [if_pos h1] at h
      intro y hy
      rcases List.mem_cons.1 hy with rfl | hy
      · exact h1
      · exact runE_ok n r _ h y hy
    · rw [if_neg h1] at h
      exact absurd h h1
theorem runE_err (n : Int) : ∀ (l : List S50) (st : List S23 × List Adv), (runE n l st).2 ≠ 0 → (runE n l st).1 = []
  | [], st, h => absurd rfl h
  | x :: r, st, h => by
    rw [runE] at h ⊢
    by_cases h1 : evErr n x = 0
    · rw [if_pos h1] at h ⊢; exact runE_err n r _ h
    · rw [if_neg h1]
theorem Inv.fold {n : Nat} : ∀ (l : List S50) {st : List S23 × List Adv} (_ : Inv n st.1 st.2) (_ : ∀ x ∈ l, evErr (n : Int) x = 0), Inv n (foldE l st).1 (foldE l st).2
  | [], _, h, _ => h
  | x :: r, _, h, hx => Inv.fold r (h.step (hx x (by simp))) (fun y hy => hx y (by simp [hy]))
theorem start_good (i : Nat) (hi : i < 32) : Good (start (i : Int)).1 ∧ (start (i : Int)).1.f0 = (i : Int) ∧ (start (i : Int)).1.f2 = -1 ∧ (start (i : Int)).1.f1 = (if i = 0 then 1 else 0) := by
  unfold start
  rw [if_neg (not_not_intro (show okNode (i : Int) from ⟨by omega, by omega⟩))]
  by_cases h : (i : Int) = 0
  · rw [if_pos h, if_pos (by omega)]
    refine ⟨by decide, h.symm, rfl, rfl⟩
  · rw [if_neg h, if_neg (by omega)]
    refine ⟨⟨⟨⟨by show 0 ≤ (i : Int); omega, by show (i : Int) ≤ 31; omega⟩, ⟨by show (0 : Int) ≤ 0; decide, by show (0 : Int) ≤ 65535; decide⟩, .inl ⟨by show (1 : Int) ≤ 65535; decide, by show (65535 : Int) ≤ 65535; decide⟩⟩, .inr (.inl ⟨h, rfl, rfl, rfl, .inr rfl⟩)⟩, rfl, rfl, rfl⟩
theorem startL_getD {n i : Nat} (hi : i < n) : (startL n).getD i z23 = (start (i : Int)).1 := by
  simp [startL, List.getD_eq_getElem?_getD, hi]
theorem Inv.start {n : Nat} (h1 : 1 ≤ n) (hn : n ≤ 32) : Inv n (startL n) [] := by
  refine ⟨by simp [startL], ?_, ?_, by simp, ?_, hn⟩
  · intro i hi
    rw [startL_getD hi]
    exact ⟨(start_good i (by omega)).1, (start_good i (by omega)).2.1⟩
  · intro i hi
    rw [startL_getD hi]
    exact .inl (start_good i (by omega)).2.2.1
  · intro i hi
    rw [startL_getD hi, startL_getD (show 0 < n by omega), (start_good i (by omega)).2.2.2, (start_good 0 (by omega)).2.2.2]
    split <;> simp
/-- Behind a run without an error. -/
theorem play_inv {n : Nat} {l : List S50} (h1 : 1 ≤ n) (hn : n ≤ 32) (hl : l.length ≤ 4096) (h : (play (n : Int) l).2 = 0) :
    (∀ x ∈ l, evErr (n : Int) x = 0) ∧ (play (n : Int) l).1 = (foldE l (startL n, [])).1 ∧ Inv n (foldE l (startL n, [])).1 (foldE l (startL n, [])).2 := by
  have hp : play (n : Int) l = runE (n : Int) l (startL n, []) := by
    unfold play
    rw [if_neg (not_not_intro ⟨by omega, by omega⟩), if_neg (by omega), Int.toNat_natCast]
  rw [hp] at h ⊢
  have ha := runE_ok _ _ _ h
  rw [runE_all _ _ _ ha]
  exact ⟨ha, rfl, Inv.fold l (Inv.start h1 hn) ha⟩
theorem play_all {n : Nat} {l : List S50} (h1 : 1 ≤ n) (hn : n ≤ 32) (hl : l.length ≤ 4096) (h : ∀ x ∈ l, evErr (n : Int) x = 0) : play (n : Int) l = ((foldE l (startL n, [])).1, 0) := by
  unfold play
  rw [if_neg (not_not_intro ⟨by omega, by omega⟩), if_neg (by omega), Int.toNat_natCast, runE_all _ _ _ h]
theorem play_err {n : Nat} {l : List S50} (h1 : 1 ≤ n) (hn : n ≤ 32) (hl : l.length ≤ 4096) (h : (play (n : Int) l).2 ≠ 0) : (play (n : Int) l).1 = [] := by
  have hp : play (n : Int) l = runE (n : Int) l (startL n, []) := by
    unfold play
    rw [if_neg (not_not_intro ⟨by omega, by omega⟩), if_neg (by omega), Int.toNat_natCast]
  rw [hp] at h ⊢
  exact runE_err _ _ _ h
end Go.Proofs.Ytigobnphenhkjaa.Fns
