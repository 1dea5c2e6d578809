/- What a receiver does, in plain lists. -/
import Derived.Test.YtokapofgbcbajaaRecvBel
import Derived.Lib.Join
namespace Go.Proofs.Ytokapofgbcbajaa.Fns
open Go.RowKit Go.Maps Go.Proofs.YtokapofgbcbajaaW.PrintWords
set_option linter.unusedVariables false
def er (es : List Ent) : List (Int × Dg) := es.map fun e => (e.tag, e.d)
def lookP (l : List (Int × Dg)) (t : Int) : Option Dg := (l.find? fun x => x.1 == t).map (·.2)
def keptP (lim : Int) (l : List (Int × Dg)) : List (Int × Dg) := l.filter fun x => !decide (x.2.lst < lim)
def insP (x : Int × Dg) : List (Int × Dg) → List (Int × Dg)
  | [] => [x]
  | y :: r => if x.1 < y.1 then x :: y :: r else y :: insP x r
def updP (l : List (Int × Dg)) (t : Int) (d : Dg) : List (Int × Dg) := l.map fun x => if x.1 = t then (t, d) else x
def getP (l : List (Int × Dg)) (t : Int) (nd : Dg) : List (Int × Dg) := if (lookP l t).isSome then l else insP (t, nd) l
def okF (d0 : Dg) (t i c s : Int) (d : ByteArray) : Bool :=
  decide (c = d0.cnt) && decide (s = d0.siz) && decide (lenF t i c s d.size = d0.prt) && (!d0.bmp.testBit i.toNat || (d0.parts.getD i.toNat ⟨#[]⟩).toList == d.toList)
def putF (d0 : Dg) (slot : Int) (j : Nat) (d : ByteArray) : Dg := { d0 with lst := slot, parts := d0.parts.set j d, bmp := d0.bmp ||| 2 ^ j }
def allB (c : Int) : Nat := 2 ^ c.toNat - 1
def catP (xs : List ByteArray) : ByteArray := ⟨(Lib.join (xs.map (·.data.toList)) []).toArray⟩
def outF (d0 d1 : Dg) : ByteArray × Bool := if d0.bmp = allB d0.cnt ∨ d1.bmp ≠ allB d0.cnt then (⟨#[]⟩, false) else (catP (d1.parts.take d0.cnt.toNat), true)
def zD : Dg := ⟨0, 0, 0, 0, 0, []⟩
structure Res where
  s : ByteArray
  ok : Bool
  err : Int
  time : Int
  l : List (Int × Dg)
def recvF (hold time : Int) (l : List (Int × Dg)) (slot t i c s : Int) (d : ByteArray) : Res :=
  if lenF t i c s d.size = 0 then ⟨⟨#[]⟩, false, 1, time, l⟩
  else if slot < time ∨ 109951162 < slot then ⟨⟨#[]⟩, false, 5, time, l⟩
  else if lookP (keptP (slot - hold) l) t = none ∧ 8 ≤ (keptP (slot - hold) l).length then ⟨⟨#[]⟩, false, 13, slot, keptP (slot - hold) l⟩
  else
    let G := getP (keptP (slot - hold) l) t (newD t i c s d)
    let d0 := (lookP G t).getD zD
    if okF d0 t i c s d = false then ⟨⟨#[]⟩, false, 11, slot, G⟩
    else ⟨(outF d0 (putF d0 slot i.toNat d)).1, (outF d0 (putF d0 slot i.toNat d)).2, 0, slot, updP G t (putF d0 slot i.toNat d)⟩
structure DgOk (d : Dg) : Prop where
  cnt : 1 ≤ d.cnt ∧ d.cnt ≤ 32
  bmp : d.bmp < 4294967296
  part : ∀ x ∈ d.parts, x.size ≤ 120
  len : d.parts.length = 32
theorem er_kept (lim : Int) (es : List Ent) : er (kept lim es) = keptP lim (er es) := by
  unfold er kept keptP
  rw [List.filter_map]
  rfl
theorem er_ins (x : Ent) : ∀ es : List Ent, er (insEnt x es) = insP (x.tag, x.d) (er es)
  | [] => rfl
  | y :: r => by
    show er (insEnt x (y :: r)) = insP (x.tag, x.d) ((y.tag, y.d) :: er r)
    rw [insEnt, insP]
    by_cases h : x.tag < y.tag
    · rw [if_pos h, if_pos h]; rfl
    · rw [if_neg h, if_neg h, ← er_ins x r]; rfl
theorem er_length (es : List Ent) : (er es).length = es.length := by simp [er]
theorem rise_one {es : List Ent} (hr : es.Pairwise (fun x y => x.tag < y.tag)) {x e : Ent} (hx : x ∈ es) (he : e ∈ es) (h : x.tag = e.tag) : x = e := by
  rcases List.mem_iff_getElem.1 hx with ⟨j, hj, rfl⟩
  rcases List.mem_iff_getElem.1 he with ⟨k, hk, rfl⟩
  rcases Nat.lt_trichotomy j k with hjk | hjk | hjk
  · have := List.pairwise_iff_getElem.1 hr j k hj hk hjk; omega
  · subst hjk; rfl
  · have := List.pairwise_iff_getElem.1 hr k j hk hj hjk; omega
theorem lookP_er {es : List Ent} (hr : es.Pairwise (fun x y => x.tag < y.tag)) {e : Ent} (he : e ∈ es) : lookP (er es) e.tag = some e.d := by
  unfold lookP er
  cases hf : (es.map fun e => (e.tag, e.d)).find? (fun x => x.1 == e.tag) with
  | none =>
    have := List.find?_eq_none.1 hf (e.tag, e.d) (List.mem_map.2 ⟨e, he, rfl⟩)
    simp at this
  | some q =>
    have h1 := List.mem_of_find?_eq_some hf
    have h2 := List.find?_some hf
    obtain ⟨x, hx, rfl⟩ := List.mem_map.1 h1
    have h3 : x.tag = e.tag := by simpa using h2
    rw [rise_one hr hx he h3]
    rfl
theorem lookP_er_none {es : List Ent} {t : Int} : lookP (er es) t = none ↔ ∀ e ∈ es, e.tag ≠ t := by
  unfold lookP er
  rw [Option.map_eq_none_iff, List.find?_eq_none]
  constructor
  · intro h e he hte
    have := h (e.tag, e.d) (List.mem_map.2 ⟨e, he, rfl⟩)
    simp [hte] at this
  · intro h x hx
    obtain ⟨e, he, rfl⟩ := List.mem_map.1 hx
    simpa using h e he
theorem er_upd {es : List Ent} (hr : es.Pairwise (fun x y => x.tag < y.tag)) (ha : es.Pairwise (fun x y => x.blk ≠ y.blk)) {e : Ent} (he : e ∈ es) (d : Dg) : er (upd es e.blk d) = updP (er es) e.tag d := by
  unfold er upd updP
  rw [List.map_map, List.map_map]
  refine List.map_congr_left (fun x hx => ?_)
  simp only [Function.comp]
  by_cases h : x.tag = e.tag
  · have hxe := rise_one hr hx he h
    subst hxe
    rw [if_pos rfl, if_pos rfl]
  · rw [if_neg h]
    have hb : x.blk ≠ e.blk := by
      intro hb
      have hxe : x = e := by
        rcases List.mem_iff_getElem.1 hx with ⟨j, hj, rfl⟩
        rcases List.mem_iff_getElem.1 he with ⟨k, hk, rfl⟩
        rcases Nat.lt_trichotomy j k with hjk | hjk | hjk
        · exact absurd hb (List.pairwise_iff_getElem.1 ha j k hj hk hjk)
        · subst hjk; rfl
        · exact absurd hb.symm (List.pairwise_iff_getElem.1 ha k j hk hj hjk)
      exact h (by rw [hxe])
    rw [if_neg hb]
end Go.Proofs.Ytokapofgbcbajaa.Fns
