/- FragmentTags in plain lists. -/
import Derived.Test.YtokapofgbcbajaaRecvMore
import Derived.Test.YtokapofgbcbajaaFx16
import Derived.Lib.SlKeysI
namespace Go.Proofs.Ytokapofgbcbajaa.Fns
open Go.RowKit Go.Maps Go.Proofs.YtokapofgbcbajaaW.PrintWords
set_option linter.unusedVariables false
/-- The datagram of tag t. -/
def dt (t : Nat) : ByteArray := ⟨#[97, 98, UInt8.ofNat (97 + t)]⟩
theorem dt_size (t : Nat) : (dt t).size = 3 := rfl
theorem cnt_dt (t : Nat) : cntS (dt t).size 2 = 2 := by
  rw [dt_size]; decide
theorem split_dt (t : Nat) (ht : t ≤ 9) : fragment_Split.f 40 t (dt t) 2 = some (pieces t (dt t) 2 2, 0) := by
  rw [split_eq _ _ _ (by rw [dt_size]; decide)]
  unfold splitF errS
  rw [dt_size, if_neg (show ¬ ((t : Int) < 0 ∨ (t : Int) > 255 ∨ (2 : Int) < 1 ∨ (2 : Int) > 120) by omega)]
  rfl
theorem index_loop (l : List Int) (t : Int) (hl : l.length ≤ 4000) : ∀ (r j k : Nat), r + 1 ≤ k → j + r = l.length → (∀ i, i < j → l[i]? ≠ some t) →
    ∃ z, slices_Index_int_int.l0 k l t (l.length : Int) j = some z ∧ (0 ≤ z ↔ t ∈ l) := by
  intro r
  induction r with
  | zero =>
    intro j k hk hj hno
    obtain ⟨k, rfl⟩ : ∃ k', k = k' + 1 := ⟨k - 1, by omega⟩
    rw [slices_Index_int_int.l0, if_neg (by omega)]
    refine ⟨_, rfl, ?_⟩
    constructor
    · intro h; omega
    · intro h
      obtain ⟨i, hi, he⟩ := List.mem_iff_getElem.1 h
      exact absurd (by rw [List.getElem?_eq_getElem hi, he]) (hno i (by omega))
  | succ r ih =>
    intro j k hk hj hno
    obtain ⟨k, rfl⟩ : ∃ k', k = k' + 1 := ⟨k - 1, by omega⟩
    have hjl : j < l.length := by omega
    have hr : rd l (j : Int) = l[j] := by
      unfold rd
      rw [Int.toNat_natCast, List.getD_eq_getElem?_getD, List.getElem?_eq_getElem hjl]; rfl
    rw [slices_Index_int_int.l0, if_pos (by omega), if_pos (by omega), if_pos (by omega), hr]
    by_cases he : t = l[j]
    · first
        | rw [if_pos he]
        | rw [if_pos he.symm]
      exact ⟨_, rfl, by constructor
                        · intro _; rw [he]; exact List.getElem_mem hjl
                        · intro _; omega⟩
    · first
        | rw [if_neg he]
        | rw [if_neg (fun h => he h.symm)]
      rw [show wrap64 ((j : Int) + 1) = ((j + 1 : Nat) : Int) by rw [wrap_in (by omega)]; omega]
      refine ih (j + 1) k (by omega) (by omega) (fun i hi => ?_)
      by_cases e : i = j
      · subst e
        rw [List.getElem?_eq_getElem hjl]
        exact fun h => he (Option.some.inj h).symm
      · exact hno i (by omega)
theorem contains_eq (l : List Int) (t : Int) (hl : l.length ≤ 4000) : slices_Contains_int_int.f (l.length + 1) l t = some (decide (t ∈ l)) := by
  obtain ⟨z, h1, h2⟩ := index_loop l t hl l.length 0 (l.length + 1) (by omega) (by omega) (fun i hi => by omega)
  unfold slices_Contains_int_int.f slices_Index_int_int.f
  have h1' : slices_Index_int_int.l0 (l.length + 1) l t (l.length : Int) 0 = some z := h1
  rw [h1', Option.bind_some]
  congr 1
  exact decide_eq_decide.2 h2
/-! lists of datagrams by their tags -/
theorem lookP_iff {l : List (Int × Dg)} {t : Int} : lookP l t = none ↔ t ∉ l.map (·.1) := by
  rw [lookP_none]
  simp only [List.mem_map, not_exists, not_and]
theorem insP_fst (t : Int) (D : Dg) : ∀ l : List (Int × Dg), (insP (t, D) l).map (·.1) = (insP (t, zD) l).map (·.1)
  | [] => rfl
  | y :: r => by
    rw [insP, insP]
    split
    · rfl
    · rw [List.map_cons, List.map_cons, insP_fst t D r]
theorem insP_perm (x : Int × Dg) : ∀ l : List (Int × Dg), (insP x l).Perm (x :: l)
  | [] => List.Perm.refl _
  | y :: r => by
    rw [insP]
    split
    · exact List.Perm.refl _
    · exact ((insP_perm x r).cons y).trans (List.Perm.swap x y r)
theorem insP_rise (x : Int × Dg) : ∀ l : List (Int × Dg), l.Pairwise (fun a b => a.1 < b.1) → (∀ e ∈ l, e.1 ≠ x.1) → (insP x l).Pairwise (fun a b => a.1 < b.1)
  | [], _, _ => by simp [insP]
  | y :: r, h, hn => by
    obtain ⟨h1, h2⟩ := List.pairwise_cons.1 h
    rw [insP]
    split
    · rename_i hlt
      refine List.pairwise_cons.2 ⟨fun e he => ?_, h⟩
      rcases List.mem_cons.1 he with rfl | he
      · exact hlt
      · have := h1 e he; omega
    · rename_i hlt
      refine List.pairwise_cons.2 ⟨fun e he => ?_, insP_rise x r h2 (fun e he => hn e (List.mem_cons_of_mem _ he))⟩
      rcases (insP_mem x r e).1 he with rfl | he
      · have := hn y (by simp); omega
      · exact h1 e he
theorem updP_ins {t : Int} {D D' : Dg} : ∀ {l : List (Int × Dg)}, lookP l t = none → updP (insP (t, D) l) t D' = insP (t, D') l
  | [], _ => by simp [updP, insP]
  | (s, y) :: r, h => by
    rw [lookP_cons] at h
    by_cases e : s = t
    · rw [if_pos e] at h; cases h
    · rw [if_neg e] at h
      have ih := updP_ins (D := D) (D' := D') h
      have hr : updP r t D' = r := by
        unfold updP
        have := lookP_none.1 h
        exact (List.map_congr_left (fun x hx => by rw [if_neg (this x hx)])).trans (List.map_id' r)
      rw [insP, insP]
      by_cases hlt : t < s
      · rw [if_pos hlt, if_pos hlt]
        show updP ((t, D) :: (s, y) :: r) t D' = _
        unfold updP at hr ⊢
        rw [List.map_cons, List.map_cons, if_pos rfl, if_neg e, hr]
      · rw [if_neg hlt, if_neg hlt]
        unfold updP at ih ⊢
        rw [List.map_cons, if_neg e, ih]
theorem updP_fst (l : List (Int × Dg)) (t : Int) (D : Dg) : (updP l t D).map (·.1) = l.map (·.1) := by
  unfold updP
  rw [List.map_map]
  refine List.map_congr_left (fun x _ => ?_)
  simp only [Function.comp]
  by_cases h : x.1 = t
  · rw [if_pos h]; exact h.symm
  · rw [if_neg h]
/-- What FragmentTags' receiver has: f tells the bits by the tag. -/
structure TL (f : Int → Int) (l : List (Int × Dg)) : Prop where
  rise : l.Pairwise (fun a b => a.1 < b.1)
  ent : ∀ x ∈ l, ∃ (t b : Nat) (last : Int), x = ((t : Int), dgW (dt t) 2 b last) ∧ t ≤ 9 ∧ f t = (b : Int) ∧ 1 ≤ b ∧ b ≤ 3 ∧ 0 ≤ last
  out : ∀ t : Int, lookP l t = none → f t = 0
  few : l.length ≤ 8
theorem TL.nil : TL (fun _ => 0) [] := ⟨List.Pairwise.nil, fun x hx => by simp at hx, fun _ _ => rfl, by decide⟩
theorem TL.kept {f : Int → Int} {l : List (Int × Dg)} (h : TL f l) {i : Int} (hi : i ≤ 60) : keptP (i - 100) l = l := by
  unfold keptP
  refine List.filter_eq_self.2 (fun x hx => ?_)
  obtain ⟨t, b, last, rfl, _, _, _, _, hl⟩ := h.ent x hx
  have hd : decide (last < i - 100) = false := decide_eq_false (by omega)
  show (!decide (last < i - 100)) = true
  rw [hd]; rfl
theorem TL.has {f : Int → Int} {l : List (Int × Dg)} (h : TL f l) {t : Nat} {D : Dg} (hD : lookP l (t : Int) = some D) : ∃ (b : Nat) (last : Int), D = dgW (dt t) 2 b last ∧ f t = (b : Int) ∧ 1 ≤ b ∧ b ≤ 3 := by
  obtain ⟨s, b, last, he, h1, h2, h3, h4, _⟩ := h.ent _ (lookP_mem hD)
  injection he with he1 he2
  obtain rfl : t = s := by omega
  exact ⟨b, last, he2, h2, h3, h4⟩
theorem TL.upd {f : Int → Int} {l : List (Int × Dg)} (h : TL f l) {t b : Nat} {i : Int} (hD : lookP l (t : Int) ≠ none) (ht : t ≤ 9) (hb : 1 ≤ b ∧ b ≤ 3) (hi : 0 ≤ i) :
    TL (fun x => if x = (t : Int) then (b : Int) else f x) (updP l t (dgW (dt t) 2 b i)) := by
  refine ⟨?_, ?_, ?_, ?_⟩
  · have h1 : (l.map (·.1)).Pairwise (· < ·) := List.pairwise_map.2 h.rise
    rw [← updP_fst l t (dgW (dt t) 2 b i)] at h1
    exact List.pairwise_map.1 h1
  · intro x hx
    obtain ⟨y, hy, rfl⟩ := List.mem_map.1 hx
    by_cases e : y.1 = (t : Int)
    · rw [if_pos e]
      exact ⟨t, b, i, rfl, ht, by simp, hb.1, hb.2, hi⟩
    · rw [if_neg e]
      obtain ⟨s, b', last, rfl, h1, h2, h3, h4, h5⟩ := h.ent y hy
      exact ⟨s, b', last, rfl, h1, by rw [if_neg e]; exact h2, h3, h4, h5⟩
  · intro s hs
    rw [lookP_iff, updP_fst, ← lookP_iff] at hs
    by_cases e : s = (t : Int)
    · subst e; exact absurd hs hD
    · rw [if_neg e]; exact h.out s hs
  · unfold updP; rw [List.length_map]; exact h.few
theorem TL.ins {f : Int → Int} {l : List (Int × Dg)} (h : TL f l) {t b : Nat} {i : Int} (hD : lookP l (t : Int) = none) (h8 : l.length < 8) (ht : t ≤ 9) (hb : 1 ≤ b ∧ b ≤ 3) (hi : 0 ≤ i) :
    TL (fun x => if x = (t : Int) then (b : Int) else f x) (insP ((t : Int), dgW (dt t) 2 b i) l) := by
  refine ⟨insP_rise _ _ h.rise (lookP_none.1 hD), ?_, ?_, ?_⟩
  · intro x hx
    rcases (insP_mem _ _ x).1 hx with rfl | hx
    · exact ⟨t, b, i, rfl, ht, by simp, hb.1, hb.2, hi⟩
    · obtain ⟨s, b', last, rfl, h1, h2, h3, h4, h5⟩ := h.ent x hx
      have e : (s : Int) ≠ (t : Int) := lookP_none.1 hD _ hx
      exact ⟨s, b', last, rfl, h1, by rw [if_neg e]; exact h2, h3, h4, h5⟩
  · intro s hs
    rw [lookP_iff] at hs
    have hm : ∀ z, z ∈ (insP ((t : Int), dgW (dt t) 2 b i) l).map (·.1) ↔ z = (t : Int) ∨ z ∈ l.map (·.1) := fun z => by
      rw [((insP_perm ((t : Int), dgW (dt t) 2 b i) l).map (·.1)).mem_iff, List.map_cons, List.mem_cons]
    have h1 : ¬ (s = (t : Int) ∨ s ∈ l.map (·.1)) := fun h => hs ((hm s).2 h)
    rw [if_neg (fun e => h1 (.inl e))]
    exact h.out s (lookP_iff.2 (fun h2 => h1 (.inr h2)))
  · rw [(insP_perm _ l).length_eq, List.length_cons]; omega
theorem tags_sorted {f : Int → Int} {l : List (Int × Dg)} (h : TL f l) {t : Int} {D : Dg} (hD : lookP l t = none) : (l.map (·.1) ++ [t]).mergeSort (fun x y => decide (x ≤ y)) = (insP (t, D) l).map (·.1) := by
  have hp : (l.map (·.1) ++ [t]).Perm ((insP (t, D) l).map (·.1)) :=
    (List.perm_append_singleton t _).trans (show (t :: l.map (·.1)).Perm ((insP (t, D) l).map (·.1)) from (List.Perm.map (fun x : Int × Dg => x.1) (insP_perm (t, D) l)).symm)
  rw [mergeSort_of_perm_i hp]
  refine List.mergeSort_of_pairwise ?_
  rw [List.pairwise_map]
  exact (insP_rise (t, D) l h.rise (lookP_none.1 hD)).imp (fun h => decide_eq_true (by omega))
end Go.Proofs.Ytokapofgbcbajaa.Fns
