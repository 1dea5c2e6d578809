/- What the functions of package rank keep: a right state leads to a right one; the epoch does not fall, and Least not grow in an epoch. -/
import Derived.Test.YtigobnphenhkjaaSpec
namespace Go.Proofs.Ytigobnphenhkjaa.Fns
open Go.RowKit Go.Proofs.YtigobnphenhkjaaW.PrintWords Go.Proofs.YtigobnphenhkjaaW.PrintLast Go.Proofs.YtigobnphenhkjaaW.PrintMore
def Later (s t : S23) : Prop := t.f0 = s.f0 ∧ (s.f1 < t.f1 ∨ (t.f1 = s.f1 ∧ t.f5 ≤ s.f5))
theorem Later.refl (s : S23) : Later s s := ⟨rfl, .inr ⟨rfl, Int.le_refl _⟩⟩
theorem lose_good {s : S23} (h : Good s) : Good (lose s) ∧ (lose s).f0 = s.f0 ∧ (lose s).f1 = s.f1 ∧ (lose s).f5 = s.f5 ∧ ((lose s).f2 = -1) := by
  unfold lose
  by_cases h1 : s.f0 ≠ 0
  · rw [if_pos ⟨h, h1⟩]
    refine ⟨⟨h.1, .inr (.inl ⟨h1, rfl, rfl, rfl, ?_⟩)⟩, rfl, rfl, rfl, rfl⟩
    rcases h.2 with h2 | h2 | h2
    · exact absurd h2.1 h1
    · exact h2.2.2.2.2
    · exact .inl (show 0 < s.f1 by have := h2.2.2.2.2.1; omega)
  · rw [if_neg (fun h2 => h1 h2.2)]
    refine ⟨h, rfl, rfl, rfl, ?_⟩
    rcases h.2 with h2 | h2 | h2
    · exact h2.2.2.1
    · exact h2.2.1
    · exact absurd h2.1 h1
theorem adopt_ok {s : S23} {fr e r c : Int} (h : (adopt s fr e r c).2 = 0) :
    Good s ∧ okNode fr ∧ fr ≠ s.f0 ∧ okAdv e r ∧ okCost c ∧ Feas s e r ∧ r + c < 65535 ∧ (adopt s fr e r c).1 = ⟨s.f0, e, fr, r, r + c, if e > s.f1 then 65535 else s.f5⟩ := by
  unfold adopt at h ⊢
  by_cases h0 : Good s
  · rw [if_neg (not_not_intro h0)] at h ⊢
    by_cases h1 : okNode fr ∧ fr ≠ s.f0 ∧ okAdv e r ∧ okCost c
    · rw [if_neg (not_not_intro h1)] at h ⊢
      by_cases h2 : Feas s e r
      · rw [if_neg (not_not_intro h2)] at h ⊢
        by_cases h3 : r + c ≥ 65535
        · rw [if_pos h3] at h; exact absurd h (by decide)
        · rw [if_neg h3]
          refine ⟨h0, h1.1, h1.2.1, h1.2.2.1, h1.2.2.2, h2, by omega, ?_⟩
          unfold begin_
          by_cases h4 : e > s.f1
          · rw [if_pos h4, if_pos h4]
          · rw [if_neg h4, if_neg h4]
            have : s.f1 = e := by
              rcases h2.2.2.2 with h5 | h5
              · exact absurd h5 h4
              · exact h5.1.symm
            simp only [this]
      · rw [if_pos h2] at h; exact absurd h (by decide)
    · rw [if_pos h1] at h; exact absurd h (by decide)
  · rw [if_pos h0] at h; exact absurd h (by decide)
theorem adopt_does {s : S23} {fr e r c : Int} (h0 : Good s) (h1 : okNode fr ∧ fr ≠ s.f0 ∧ okAdv e r ∧ okCost c) (h2 : Feas s e r) (h3 : r + c < 65535) : (adopt s fr e r c).2 = 0 := by
  unfold adopt
  rw [if_neg (not_not_intro h0), if_neg (not_not_intro h1), if_neg (not_not_intro h2), if_neg (by omega)]
theorem adopt_good {s : S23} {fr e r c : Int} (h : (adopt s fr e r c).2 = 0) : Good (adopt s fr e r c).1 ∧ Later s (adopt s fr e r c).1 := by
  obtain ⟨h0, h1, h2, h3, h4, h5, h6, h7⟩ := adopt_ok h
  rw [h7]
  have hf := h5.2.1
  have he := h5.2.2.2
  unfold okCost at h4
  unfold okAdv at h3
  have hl : r < (if e > s.f1 then 65535 else s.f5) := by
    split
    · omega
    · rcases he with he | he
      · omega
      · exact he.2
  have hr : (1 ≤ (if e > s.f1 then 65535 else s.f5) ∧ (if e > s.f1 then 65535 else s.f5) ≤ 65535) ∨ (s.f0 = 0 ∧ (if e > s.f1 then 65535 else s.f5) = 0) := by
    split
    · exact .inl ⟨by decide, by decide⟩
    · exact h0.1.2.2
  refine ⟨⟨⟨h0.1.1, ⟨by show 0 ≤ e; omega, by show e ≤ 65535; omega⟩, hr⟩, .inr (.inr ⟨hf, ?_, h1, h2, h3.1.1, h3.2.1, by show r < r + c; omega, hl, h6⟩)⟩, rfl, ?_⟩
  · show fr ≠ -1
    unfold okNode at h1
    omega
  · show s.f1 < e ∨ (e = s.f1 ∧ (if e > s.f1 then 65535 else s.f5) ≤ s.f5)
    rcases he with he | he
    · exact .inl he
    · exact .inr ⟨he.1, by rw [if_neg (by omega)]; exact Int.le_refl _⟩
theorem begin_good {s : S23} {e : Int} (h0 : Good s) (he : 1 ≤ e ∧ e ≤ 65535) (h5 : s.f2 ≠ -1) : Good (begin_ s e) ∧ Later s (begin_ s e) := by
  unfold begin_
  by_cases h7 : e > s.f1
  · rw [if_pos h7]
    refine ⟨?_, rfl, .inl h7⟩
    obtain ⟨⟨a1, a2, a3⟩, a4⟩ := h0
    refine ⟨⟨a1, ⟨by have := a2.1; show 0 ≤ e; omega, he.2⟩, .inl ⟨by show (1 : Int) ≤ 65535; decide, Int.le_refl _⟩⟩, ?_⟩
    rcases a4 with h | h | h
    · exact absurd h.2.2.1 h5
    · exact absurd h.2.1 h5
    · obtain ⟨b1, b2, b3, b4, b5, b6, b7, b8, b9⟩ := h
      exact .inr (.inr ⟨b1, b2, b3, b4, he.1, b6, b7, by show s.f3 < 65535; omega, b9⟩)
  · rw [if_neg h7]
    exact ⟨h0, Later.refl s⟩
/-- What an update does, where it is in order. -/
theorem update_ok {s : S23} {e r c : Int} (h : (update s e r c).2 = 0) :
    Good s ∧ okAdv e r ∧ okCost c ∧ s.f2 ≠ -1 ∧ ((update s e r c).1 = s ∨ ((adopt s s.f2 e r c).2 = 0 ∧ (update s e r c).1 = (adopt s s.f2 e r c).1) ∨ (update s e r c).1 = lose (begin_ s e)) := by
  unfold update at h ⊢
  by_cases h0 : Good s
  · rw [if_neg (not_not_intro h0)] at h ⊢
    by_cases h1 : okAdv e r ∧ okCost c
    · rw [if_neg (not_not_intro h1)] at h ⊢
      by_cases h2 : s.f2 = -1
      · rw [if_pos h2] at h; exact absurd h (by decide)
      · rw [if_neg h2]
        refine ⟨h0, h1.1, h1.2, h2, ?_⟩
        split
        · exact .inl rfl
        · split
          · rename_i h4; exact .inr (.inl ⟨h4, rfl⟩)
          · exact .inr (.inr rfl)
    · rw [if_pos h1] at h; exact absurd h (by decide)
  · rw [if_pos h0] at h; exact absurd h (by decide)
theorem update_does {s : S23} {e r c : Int} (h0 : Good s) (h1 : okAdv e r ∧ okCost c) (h2 : s.f2 ≠ -1) : (update s e r c).2 = 0 := by
  unfold update
  rw [if_neg (not_not_intro h0), if_neg (not_not_intro h1), if_neg h2]
  split
  · rfl
  · split <;> rfl
theorem update_good {s : S23} {e r c : Int} (h : (update s e r c).2 = 0) : Good (update s e r c).1 ∧ Later s (update s e r c).1 := by
  obtain ⟨h0, h1, h2, h3, h4 | ⟨h4, h5⟩ | h4⟩ := update_ok h
  · rw [h4]; exact ⟨h0, Later.refl s⟩
  · rw [h5]; exact adopt_good h4
  · rw [h4]
    obtain ⟨g1, g2⟩ := begin_good h0 h1.1 h3
    obtain ⟨k1, k2, k3, k4, _⟩ := lose_good g1
    refine ⟨k1, k2.trans g2.1, ?_⟩
    rw [k3, k4]
    exact g2.2
theorem advertise_ok {s : S23} (h : (advertise s).2.2.2 = 0) : Good s ∧ s.f4 ≠ 65535 ∧ advertise s = (⟨s.f0, s.f1, s.f2, s.f3, s.f4, mn s.f5 s.f4⟩, s.f1, s.f4, 0) := by
  unfold advertise at h ⊢
  by_cases h0 : Good s
  · rw [if_neg (not_not_intro h0)] at h ⊢
    by_cases h1 : s.f4 = 65535
    · rw [if_pos h1] at h; exact absurd h (by decide)
    · rw [if_neg h1]; exact ⟨h0, h1, rfl⟩
  · rw [if_pos h0] at h; exact absurd h (by decide)
theorem mn_le (a b : Int) : mn a b ≤ a ∧ mn a b ≤ b ∧ (mn a b = a ∨ mn a b = b) := by
  unfold mn; split <;> omega
theorem advertise_good {s : S23} (h : (advertise s).2.2.2 = 0) : Good (advertise s).1 ∧ Later s (advertise s).1 ∧ (advertise s).1.f1 = s.f1 ∧ (advertise s).1.f5 ≤ s.f4 ∧ okAdv s.f1 s.f4 ∧ (s.f0 ≠ 0 → s.f3 < s.f4) := by
  obtain ⟨h0, h1, h2⟩ := advertise_ok h
  rw [h2]
  obtain ⟨m1, m2, m3⟩ := mn_le s.f5 s.f4
  refine ⟨?_, ⟨rfl, .inr ⟨rfl, m1⟩⟩, rfl, m2, ?_, ?_⟩
  · obtain ⟨⟨a1, a2, a3⟩, a4⟩ := h0
    rcases a4 with h | h | h
    · obtain ⟨b1, b2, b3, b4, b5, b6⟩ := h
      have h7 : mn s.f5 s.f4 = 0 := by rcases b6 with b6 | b6 <;> omega
      refine ⟨⟨a1, a2, .inr ⟨b1, h7⟩⟩, .inl ⟨b1, b2, b3, b4, b5, .inl h7⟩⟩
    · exact absurd h.2.2.2.1 h1
    · obtain ⟨b1, b2, b3, b4, b5, b6, b7, b8, b9⟩ := h
      refine ⟨⟨a1, a2, .inl ⟨?_, ?_⟩⟩, .inr (.inr ⟨b1, b2, b3, b4, b5, b6, b7, ?_, b9⟩)⟩
      · show 1 ≤ mn s.f5 s.f4
        rcases a3 with a3 | a3
        · rcases m3 with m3 | m3 <;> omega
        · exact absurd a3.1 b1
      · show mn s.f5 s.f4 ≤ 65535
        omega
      · show s.f3 < mn s.f5 s.f4
        rcases m3 with m3 | m3 <;> omega
  · have a2 := h0.1.2.1
    rcases h0.2 with h | h | h
    · obtain ⟨b1, b2, b3, b4, b5, b6⟩ := h
      exact ⟨⟨b2, a2.2⟩, by omega, by omega⟩
    · exact absurd h.2.2.2.1 h1
    · obtain ⟨b1, b2, b3, b4, b5, b6, b7, b8, b9⟩ := h
      exact ⟨⟨b5, a2.2⟩, by omega, by omega⟩
  · intro h5
    rcases h0.2 with h | h | h
    · exact absurd h.1 h5
    · exact absurd h.2.2.2.1 h1
    · exact h.2.2.2.2.2.2.1
theorem renew_ok {s : S23} (h : (renew s).2 = 0) : Good s ∧ s.f0 = 0 ∧ s.f1 ≠ 65535 ∧ renew s = (⟨s.f0, s.f1 + 1, s.f2, s.f3, s.f4, 65535⟩, 0) := by
  unfold renew at h ⊢
  by_cases h0 : Good s
  · rw [if_neg (not_not_intro h0)] at h ⊢
    by_cases h1 : s.f0 ≠ 0
    · rw [if_pos h1] at h; exact absurd h (by decide)
    · rw [if_neg h1] at h ⊢
      by_cases h2 : s.f1 = 65535
      · rw [if_pos h2] at h; exact absurd h (by decide)
      · rw [if_neg h2]; exact ⟨h0, by omega, h2, rfl⟩
  · rw [if_pos h0] at h; exact absurd h (by decide)
theorem renew_good {s : S23} (h : (renew s).2 = 0) : Good (renew s).1 ∧ Later s (renew s).1 := by
  obtain ⟨h0, h1, h2, h3⟩ := renew_ok h
  rw [h3]
  refine ⟨?_, rfl, .inl (by show s.f1 < s.f1 + 1; omega)⟩
  obtain ⟨⟨a1, a2, a3⟩, a4⟩ := h0
  rcases a4 with h | h | h
  · obtain ⟨b1, b2, b3, b4, b5, b6⟩ := h
    exact ⟨⟨a1, ⟨by show 0 ≤ s.f1 + 1; omega, by show s.f1 + 1 ≤ 65535; omega⟩, .inl ⟨by show (1 : Int) ≤ 65535; decide, Int.le_refl _⟩⟩, .inl ⟨b1, by show 1 ≤ s.f1 + 1; omega, b3, b4, b5, .inr rfl⟩⟩
  · exact absurd h1 h.1
  · exact absurd h1 h.1
end Go.Proofs.Ytigobnphenhkjaa.Fns
