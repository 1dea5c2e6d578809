/- The program's receiver and the reference's: what they have is the same, in plain lists. -/
import Derived.Test.YtokapofgbcbajaaXRecv
import Derived.Test.YtokapofgbcbajaaTagsPure
namespace Go.Proofs.Ytokapofgbcbajaa.Fns
open Go.RowKit Go.Maps Go.Proofs.YtokapofgbcbajaaW.PrintWords
set_option linter.unusedVariables false
set_option linter.unusedSimpArgs false
def absD (d : RD) : Int × Dg := (d.tag, ⟨d.cnt, d.siz, d.len, d.slot, bmpH d.has, d.parts ++ List.replicate (32 - d.has.length) ⟨#[]⟩⟩)
structure XO (d : RD) : Prop where
  tag : 0 ≤ d.tag ∧ d.tag ≤ 255
  cnt : d.cnt = (d.has.length : Int)
  len : d.parts.length = d.has.length
  c32 : d.has.length ≤ 32
structure XL (l : List (Int × Dg)) (ds : List RD) : Prop where
  perm : (ds.map absD).Perm l
  rise : l.Pairwise (fun a b => a.1 < b.1)
  ok : ∀ d ∈ ds, XO d
  pz : PZ ds
theorem XL.nil : XL [] [] := ⟨List.Perm.refl _, List.Pairwise.nil, fun d hd => by simp at hd, fun d hd => by simp at hd⟩
theorem bmpH_bit (hs : List Bool) (i : Nat) : (bmpH hs).testBit i = hs.getD i false := by
  unfold bmpH
  rw [bmpK_bit]
  by_cases h : i < hs.length
  · rw [decide_eq_true h, Bool.true_and]
  · rw [decide_eq_false h, Bool.false_and, List.getD_eq_getElem?_getD, List.getElem?_eq_none (by omega)]; rfl
theorem bmpH_lt (hs : List Bool) : bmpH hs < 2 ^ hs.length := bmpK_lt hs hs.length
theorem bmpH_false (m : Nat) : bmpH (List.replicate m false) = 0 := by
  apply Nat.eq_of_testBit_eq
  intro i
  rw [bmpH_bit, Nat.zero_testBit, List.getD_eq_getElem?_getD, List.getElem?_replicate]
  split <;> rfl
theorem bmpH_set {hs : List Bool} {j : Nat} (hj : j < hs.length) : bmpH (hs.set j true) = bmpH hs ||| 2 ^ j := by
  apply Nat.eq_of_testBit_eq
  intro i
  rw [bmpH_bit, bit_or, bmpH_bit, List.getD_eq_getElem?_getD, List.getElem?_set, List.getD_eq_getElem?_getD]
  by_cases e : j = i
  · subst e
    rw [if_pos rfl, if_pos hj, decide_eq_true rfl, Bool.or_true]; rfl
  · rw [if_neg e, decide_eq_false e, Bool.or_false]
theorem rep_getD (ps : List ByteArray) (n j : Nat) : (ps ++ List.replicate n (⟨#[]⟩ : ByteArray)).getD j ⟨#[]⟩ = ps.getD j ⟨#[]⟩ := by
  rw [List.getD_eq_getElem?_getD, List.getD_eq_getElem?_getD]
  by_cases h : j < ps.length
  · rw [List.getElem?_append_left h]
  · rw [List.getElem?_append_right (by omega), List.getElem?_replicate, List.getElem?_eq_none (by omega)]
    split <;> rfl
theorem ok_same (d : RD) (t c s : Int) (j : Nat) (x : ByteArray) : okF (absD d).2 t j c s x = okX d c s (lenF t j c s x.size) j x := by
  unfold okF okX absD
  simp only [Int.toNat_natCast]
  rw [bmpH_bit, rep_getD]
theorem put_same {d : RD} (h : XO d) (slot : Int) {j : Nat} (hj : j < d.has.length) (x : ByteArray) : putF (absD d).2 slot j x = (absD (putX d slot j x)).2 := by
  unfold putF putX absD
  simp only
  rw [bmpH_set hj, List.set_append_left _ _ (by rw [h.len]; exact hj), List.length_set]
theorem put_ok {d : RD} (h : XO d) (slot : Int) (j : Nat) (x : ByteArray) : XO (putX d slot j x) := by
  refine ⟨h.tag, ?_, ?_, ?_⟩
  · show d.cnt = ((d.has.set j true).length : Int)
    rw [List.length_set]; exact h.cnt
  · show (d.parts.set j x).length = (d.has.set j true).length
    rw [List.length_set, List.length_set]; exact h.len
  · show (d.has.set j true).length ≤ 32
    rw [List.length_set]; exact h.c32
theorem new_abs (t s : Int) (m i : Nat) (x : ByteArray) (gp gh : Nat) (hm : m ≤ 32) : absD (newX t m s (lenF t i m s x.size) m gp gh) = (t, newD t i m s x) := by
  unfold absD newX newD
  simp only [List.length_replicate]
  rw [bmpH_false, List.replicate_append_replicate, show m + (32 - m) = 32 by omega]
theorem new_ok {t s L : Int} {m gp gh : Nat} (ht : 0 ≤ t ∧ t ≤ 255) (hm : m ≤ 32) : XO (newX t m s L m gp gh) := ⟨ht, by simp [newX], by simp [newX], by simpa [newX] using hm⟩
theorem allH_iff (hs : List Bool) : allH hs = true ↔ ∀ i, i < hs.length → hs.getD i false = true := by
  constructor
  · intro h i hi
    cases hb : hs.getD i false with
    | true => rfl
    | false => rw [all_hit hb hi] at h; cases h
  · exact all_miss
theorem all_same {d : RD} (h : XO d) : (absD d).2.bmp = allB (absD d).2.cnt ↔ allH d.has = true := by
  unfold absD allB
  simp only
  rw [h.cnt, Int.toNat_natCast, all_bits (bmpH_lt d.has), allH_iff]
  constructor <;> intro h1 i hi
  · rw [← bmpH_bit]; exact h1 i hi
  · rw [bmpH_bit]; exact h1 i hi
theorem out_same {d d1 : RD} (h : XO d) (h1 : XO d1) (hl : d1.has.length = d.has.length) : outF (absD d).2 (absD d1).2 = outX d d1 := by
  have hc : (absD d).2.cnt = (absD d1).2.cnt := by
    show d.cnt = d1.cnt
    rw [h.cnt, h1.cnt, hl]
  have e1 := all_same h
  have e2 := all_same h1
  rw [← hc] at e2
  unfold outF outX
  by_cases ha : allH d.has = true
  · rw [if_pos (.inl (e1.2 ha)), if_pos (.inl ha)]
  · by_cases hb : allH d1.has = true
    · rw [if_neg (fun hh => hh.elim (fun x => ha (e1.1 x)) (fun x => x (e2.2 hb))), if_neg (fun hh => hh.elim ha (fun x => by rw [hb] at x; cases x))]
      have : (absD d1).2.parts.take (absD d).2.cnt.toNat = d1.parts := by
        show (d1.parts ++ List.replicate (32 - d1.has.length) (⟨#[]⟩ : ByteArray)).take d.cnt.toNat = d1.parts
        rw [h.cnt, Int.toNat_natCast, ← hl, ← h1.len, List.take_left']
        rfl
      rw [this]
    · have hb' : allH d1.has = false := by simpa using hb
      rw [if_pos (.inr (fun x => hb (e2.1 x))), if_pos (.inr hb')]
/-! the lists -/
theorem lookP_in {l : List (Int × Dg)} (hr : l.Pairwise (fun a b => a.1 < b.1)) {t : Int} {D : Dg} (h : (t, D) ∈ l) : lookP l t = some D := by
  induction l with
  | nil => simp at h
  | cons x r ih =>
    obtain ⟨s, y⟩ := x
    obtain ⟨h1, h2⟩ := List.pairwise_cons.1 hr
    rw [lookP_cons]
    rcases List.mem_cons.1 h with e | h
    · injection e with e1 e2
      subst e1; subst e2
      rw [if_pos rfl]
    · have := h1 _ h
      simp only at this
      rw [if_neg (by omega)]
      exact ih h2 h
section
variable {l : List (Int × Dg)} {ds : List RD}
theorem XL.len (h : XL l ds) : l.length = ds.length := by rw [← h.perm.length_eq, List.length_map]
theorem XL.look (h : XL l ds) {i : Nat} {d : RD} (hd : ds[i]? = some d) : lookP l d.tag = some (absD d).2 := by
  refine lookP_in h.rise (h.perm.mem_iff.1 ?_)
  exact List.mem_map.2 ⟨d, List.mem_of_getElem? hd, rfl⟩
theorem XL.miss (h : XL l ds) {t : Int} : lookP l t = none ↔ ∀ d ∈ ds, d.tag ≠ t := by
  rw [lookP_none]
  constructor
  · intro h1 d hd
    exact h1 (absD d) (h.perm.mem_iff.1 (List.mem_map.2 ⟨d, hd, rfl⟩))
  · intro h1 x hx
    obtain ⟨d, hd, rfl⟩ := List.mem_map.1 (h.perm.mem_iff.2 hx)
    exact h1 d hd
theorem XL.none_iff (h : XL l ds) {t : Int} : lookP l t = none ↔ findX ds t = -1 := by
  rw [h.miss]
  rcases findX_ways ds t with ⟨h1, h2⟩ | ⟨i, d, h1, h2, h3, _⟩
  · exact ⟨fun _ => h1, fun _ => h2⟩
  · constructor
    · intro h4; exact absurd h3 (h4 d (List.mem_of_getElem? h2))
    · intro h4; rw [h1] at h4; omega
theorem XL.kept (h : XL l ds) (lim : Int) : XL (keptP lim l) (keptX lim ds) := by
  refine ⟨?_, h.rise.filter _, fun d hd => h.ok d (List.mem_filter.1 hd).1, pz_kept h.pz lim⟩
  have h1 : (keptX lim ds).map absD = (ds.map absD).filter fun x => !decide (x.2.lst < lim) := by
    rw [List.filter_map]
    unfold keptX
    congr 1
    refine List.filter_congr (fun d _ => ?_)
    show decide (lim ≤ d.slot) = !decide (d.slot < lim)
    by_cases hh : d.slot < lim
    · rw [decide_eq_true hh, decide_eq_false (by omega)]; rfl
    · rw [decide_eq_false hh, decide_eq_true (by omega)]; rfl
  rw [h1]
  exact h.perm.filter _
theorem XL.ins (h : XL l ds) {n : RD} {D : Dg} (hn : XO n) (hz : ∀ y ∈ n.parts, y.size ≤ 4095) (ha : absD n = (n.tag, D)) (hno : lookP l n.tag = none) : XL (insP (n.tag, D) l) (ds ++ [n]) := by
  refine ⟨?_, insP_rise _ _ h.rise (lookP_none.1 hno), ?_, ?_⟩
  · rw [List.map_append, List.map_singleton, ha]
    exact (List.perm_append_singleton _ _).trans ((h.perm.cons _).trans (insP_perm _ _).symm)
  · intro d hd
    rcases List.mem_append.1 hd with hd | hd
    · exact h.ok d hd
    · obtain rfl := List.mem_singleton.1 hd; exact hn
  · intro d hd
    rcases List.mem_append.1 hd with hd | hd
    · exact h.pz d hd
    · obtain rfl := List.mem_singleton.1 hd; exact hz
theorem XL.tags (h : XL l ds) : (ds.map (·.tag)).Perm (l.map (·.1)) := by
  have := h.perm.map (fun x : Int × Dg => x.1)
  rw [List.map_map] at this
  exact this
theorem XL.nodup (h : XL l ds) : (ds.map (·.tag)).Nodup := by
  rw [h.tags.nodup_iff]
  have h1 : (l.map (·.1)).Pairwise (· < ·) := List.pairwise_map.2 h.rise
  exact h1.imp (fun h => by omega)
theorem XL.only (h : XL l ds) {i j : Nat} {x y : RD} (hx : ds[i]? = some x) (hy : ds[j]? = some y) (e : x.tag = y.tag) : i = j := by
  have hn := h.nodup
  obtain ⟨h1, rfl⟩ := List.getElem?_eq_some_iff.1 hx
  obtain ⟨h2, rfl⟩ := List.getElem?_eq_some_iff.1 hy
  have hp := List.pairwise_iff_getElem.1 hn
  rcases Nat.lt_trichotomy i j with h3 | h3 | h3
  · exact absurd (by rw [List.getElem_map, List.getElem_map]; exact e) (hp i j (by simpa using h1) (by simpa using h2) h3)
  · exact h3
  · exact absurd (by rw [List.getElem_map, List.getElem_map]; exact e.symm) (hp j i (by simpa using h2) (by simpa using h1) h3)
theorem XL.upd (h : XL l ds) {i : Nat} {d d' : RD} {D : Dg} (hd : ds[i]? = some d) (ht : d'.tag = d.tag) (ha : absD d' = (d.tag, D)) (hx : XO d') (hz : ∀ y ∈ d'.parts, y.size ≤ 4095) : XL (updP l d.tag D) (ds.set i d') := by
  refine ⟨?_, ?_, ?_, ?_⟩
  · have h1 : (ds.set i d').map absD = (ds.map absD).map fun x => if x.1 = d.tag then (d.tag, D) else x := by
      apply List.ext_getElem?
      intro j
      rw [List.map_map, List.getElem?_map, List.getElem?_map, List.getElem?_set]
      by_cases e : i = j
      · subst e
        have hi := (List.getElem?_eq_some_iff.1 hd).1
        rw [if_pos rfl, if_pos hi, hd, Option.map_some, Option.map_some, ha]
        show _ = some (if d.tag = d.tag then _ else _)
        rw [if_pos rfl]
      · rw [if_neg e]
        cases hj : ds[j]? with
        | none => rfl
        | some y =>
          rw [Option.map_some, Option.map_some]
          show _ = some (if y.tag = d.tag then _ else _)
          rw [if_neg (fun e2 => e (h.only hd hj e2.symm))]
    rw [h1]
    exact h.perm.map _
  · have h1 : (l.map (·.1)).Pairwise (· < ·) := List.pairwise_map.2 h.rise
    rw [← updP_fst l d.tag D] at h1
    exact List.pairwise_map.1 h1
  · intro y hy
    rcases List.mem_or_eq_of_mem_set hy with hy | rfl
    · exact h.ok y hy
    · exact hx
  · intro y hy
    rcases List.mem_or_eq_of_mem_set hy with hy | rfl
    · exact h.pz y hy
    · exact hz
/-- The tags that are there, by the reference and by the program. -/
theorem XL.keys (h : XL l ds) : tagK ds 256 = l.map (·.1) := by
  have h1 : (l.map (·.1)).Pairwise (· < ·) := List.pairwise_map.2 h.rise
  have h2 : (tagK ds 256).Pairwise (· < ·) := by
    unfold tagK
    rw [List.pairwise_map]
    exact (List.pairwise_lt_range.filter _).imp (fun hh => by omega)
  have hn1 : (l.map (·.1)).Nodup := h1.imp (fun hh => by omega)
  have hn2 : (tagK ds 256).Nodup := h2.imp (fun hh => by omega)
  have hm : ∀ t, t ∈ tagK ds 256 ↔ t ∈ l.map (·.1) := by
    intro t
    rw [← h.tags.mem_iff]
    unfold tagK
    rw [List.mem_map, List.mem_map]
    constructor
    · rintro ⟨k, hk, rfl⟩
      rw [List.mem_filter] at hk
      rcases findX_ways ds (k : Int) with ⟨e1, _⟩ | ⟨i, d, _, e2, e3, _⟩
      · rw [e1] at hk
        exact absurd (of_decide_eq_true hk.2) (by decide)
      · exact ⟨d, List.mem_of_getElem? e2, e3⟩
    · rintro ⟨d, hd, rfl⟩
      have h0 := (h.ok d hd).tag
      refine ⟨d.tag.toNat, ?_, by omega⟩
      rw [List.mem_filter, List.mem_range, Int.toNat_of_nonneg h0.1]
      refine ⟨by omega, ?_⟩
      rcases findX_ways ds d.tag with ⟨_, e2⟩ | ⟨i, _, e1, _, _, _⟩
      · exact absurd rfl (e2 d hd)
      · rw [e1]; exact decide_eq_true (by omega)
  have hp : (tagK ds 256).Perm (l.map (·.1)) := (List.perm_ext_iff_of_nodup hn2 hn1).2 hm
  exact hp.eq_of_pairwise (fun a b _ _ h3 h4 => by omega) h2 h1
/-- The bits of a tag. -/
theorem XL.bits_none (h : XL l ds) {t : Int} (hf : findX ds t = -1) : bmpF l t = 0 ∧ bmpE l t = 7 := by
  have := h.none_iff.2 hf
  unfold bmpF bmpE
  rw [this]
  exact ⟨rfl, rfl⟩
theorem XL.bits_some (h : XL l ds) {t : Int} {i : Nat} {d : RD} (hd : ds[i]? = some d) (ht : d.tag = t) : bmpF l t = (bmpH d.has : Nat) ∧ bmpE l t = 0 := by
  have := h.look hd
  rw [ht] at this
  unfold bmpF bmpE
  rw [this]
  exact ⟨rfl, rfl⟩
/-- Both receive alike. -/
theorem XL.recv (h : XL l ds) {hold time slot t s L : Int} {j m : Nat} {x : ByteArray} (hL : lenF t j m s x.size = L) (hL0 : L ≠ 0) (ho : ¬ (slot < time ∨ 109951162 < slot)) {ds' : List RD} {so : ByteArray} {ok : Bool} {err : Int}
    (hx : XP (keptX (slot - hold) ds) t m s L m j x slot ds' so ok err) :
    (recvF hold time l slot t j m s x).s = so ∧ (recvF hold time l slot t j m s x).ok = ok ∧ (recvF hold time l slot t j m s x).err = err ∧ (recvF hold time l slot t j m s x).time = slot ∧ XL (recvF hold time l slot t j m s x).l ds' := by
  have hk := h.kept (slot - hold)
  obtain ⟨hfm, _⟩ := lenF_fine (show lenF t j m s x.size ≠ 0 by rw [hL]; exact hL0)
  have hsz := (lenF_small (show lenF t j m s x.size ≠ 0 by rw [hL]; exact hL0)).1
  have hm32 := fine32 hfm
  have ht : 0 ≤ t ∧ t ≤ 255 := by unfold Fine at hfm; omega
  generalize keptX (slot - hold) ds = Ks at hk hx
  unfold recvF
  rw [hL, if_neg hL0, if_neg ho]
  generalize keptP (slot - hold) l = K at hk ⊢
  rcases hx with ⟨hf, h8, rfl, rfl, rfl, rfl⟩ | ⟨G, i, d, hg, hd, hx⟩
  · rw [if_pos ⟨hk.none_iff.2 hf, by rw [hk.len]; exact h8⟩]
    exact ⟨rfl, rfl, rfl, rfl, hk⟩
  · have hgo : ¬ (lookP K t = none ∧ 8 ≤ K.length) := by
      rintro ⟨h1, h2⟩
      have h3 := hk.none_iff.1 h1
      rw [hk.len] at h2
      rcases hg with ⟨h4, _⟩ | ⟨_, h4, _⟩
      · rw [h3] at h4; omega
      · omega
    rw [if_neg hgo]
    have hG : XL (getP K t (newD t j m s x)) G ∧ d.tag = t := by
      unfold getP
      rcases hg with ⟨hf, rfl⟩ | ⟨hf, _, rfl, gp, gh, rfl⟩
      · have hne : lookP K t ≠ none := fun e => by
          have := hk.none_iff.1 e
          rw [this] at hf; omega
        rw [if_pos (by rw [Option.isSome_iff_ne_none]; exact hne)]
        refine ⟨hk, ?_⟩
        rcases findX_ways G t with ⟨e1, _⟩ | ⟨i', d', e1, e2, e3, _⟩
        · rw [e1] at hf; omega
        · obtain rfl : i' = i := by rw [e1] at hf; omega
          rw [hd] at e2
          rw [Option.some.inj e2]; exact e3
      · have hno := hk.none_iff.2 hf
        rw [hno, Option.isSome_none, if_neg (by decide)]
        have hdn : d = newX t m s L m gp gh := by
          rw [List.getElem?_append_right (Nat.le_refl _), Nat.sub_self] at hd
          exact (Option.some.inj hd).symm
        refine ⟨?_, by rw [hdn]; rfl⟩
        have := hk.ins (n := newX t m s L m gp gh) (D := newD t j m s x) (new_ok ht hm32.1) (fun y hy => by
          obtain ⟨_, rfl⟩ := List.mem_replicate.1 hy
          exact Nat.zero_le _) (by rw [← hL]; exact new_abs t s m j x gp gh hm32.1) hno
        exact this
    obtain ⟨hG, hdt⟩ := hG
    generalize getP K t (newD t j m s x) = GG at hG
    have hlk := hG.look hd
    rw [hdt] at hlk
    simp only
    rw [hlk, Option.getD_some, ok_same, hL]
    rcases hx with ⟨hok, rfl, rfl, rfl, rfl⟩ | ⟨hok, rfl, hout, rfl⟩
    · rw [hok, if_pos rfl]
      exact ⟨rfl, rfl, rfl, rfl, hG⟩
    · have hxo := hG.ok d (List.mem_of_getElem? hd)
      have hjl : j < d.has.length := by
        have h1 := ok_cnt hok
        rw [hxo.cnt] at h1
        omega
      have hpo := put_ok hxo slot j x
      have hos := out_same hxo hpo (by show (d.has.set j true).length = _; rw [List.length_set])
      rw [hok, if_neg (by decide), Int.toNat_natCast, put_same hxo slot hjl, hos, hout]
      refine ⟨rfl, rfl, rfl, rfl, ?_⟩
      have := hG.upd (d' := putX d slot j x) (D := (absD (putX d slot j x)).2) hd rfl rfl hpo (pz_put hG.pz hd (by omega) j)
      rw [hdt] at this
      exact this
end
end Go.Proofs.Ytokapofgbcbajaa.Fns
