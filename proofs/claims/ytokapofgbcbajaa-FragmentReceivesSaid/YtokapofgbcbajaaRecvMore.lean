/- What a receiver does with a piece of a datagram, whatever else it has. -/
import Derived.Test.YtokapofgbcbajaaWholePure
namespace Go.Proofs.Ytokapofgbcbajaa.Fns
open Go.RowKit Go.Maps Go.Proofs.YtokapofgbcbajaaW.PrintWords
theorem lookP_cons (t s : Int) (x : Dg) (l : List (Int × Dg)) : lookP ((s, x) :: l) t = if s = t then some x else lookP l t := by
  unfold lookP
  by_cases h : s = t
  · rw [List.find?_cons_of_pos (by simpa using h), if_pos h]; rfl
  · rw [List.find?_cons_of_neg (by simpa using h), if_neg h]
theorem lookP_insP {t : Int} {x : Dg} : ∀ {l : List (Int × Dg)}, lookP l t = none → lookP (insP (t, x) l) t = some x
  | [], _ => by rw [insP, lookP_cons, if_pos rfl]
  | (s, y) :: r, h => by
    rw [lookP_cons] at h
    by_cases e : s = t
    · rw [if_pos e] at h; cases h
    · rw [if_neg e] at h
      rw [insP]
      split
      · rw [lookP_cons, if_pos rfl]
      · rw [lookP_cons, if_neg e]; exact lookP_insP h
section
variable {d : ByteArray} {m b k : Nat} {t hold time slot last : Int} {l : List (Int × Dg)}
theorem recv_have (ht : 0 ≤ t ∧ t ≤ 255) (hs : 1 ≤ d.size ∧ d.size ≤ 4095) (hm : 1 ≤ m ∧ m ≤ 120) (hc : cntS d.size m ≤ 32) (hk : k < cntS d.size m) (hb : b < 2 ^ cntS d.size m) (htm : time ≤ slot) (hsl : slot ≤ 109951162)
    (hl : lookP (keptP (slot - hold) l) t = some (dgW d m b last)) :
    recvF hold time l slot t k (cntS d.size m : Nat) (d.size : Nat) (pcs d m k) = ⟨(outW d m b k).1, (outW d m b k).2, 0, slot, updP (keptP (slot - hold) l) t (dgW d m (b ||| 2 ^ k) slot)⟩ := by
  have hlen := (pcs_len ht hs hm hc hk).1
  have hp := prtS_ne hs.1 hm.1
  unfold recvF
  rw [hlen, if_neg hp, if_neg (show ¬ (slot < time ∨ 109951162 < slot) by omega), if_neg (by rw [hl]; simp)]
  simp only
  have hg : ∀ nd, getP (keptP (slot - hold) l) t nd = keptP (slot - hold) l := fun nd => by unfold getP; rw [hl, Option.isSome_some, if_pos rfl]
  rw [hg, hl, Option.getD_some, okF_W ht hs hm hc hk, if_neg (by decide), Int.toNat_natCast, putF_W d m b _ slot k (by omega), outF_W hs hm hc hk hb]
theorem recv_new (ht : 0 ≤ t ∧ t ≤ 255) (hs : 1 ≤ d.size ∧ d.size ≤ 4095) (hm : 1 ≤ m ∧ m ≤ 120) (hc : cntS d.size m ≤ 32) (hk : k < cntS d.size m) (htm : time ≤ slot) (hsl : slot ≤ 109951162)
    (hl : lookP (keptP (slot - hold) l) t = none) (h8 : (keptP (slot - hold) l).length < 8) :
    recvF hold time l slot t k (cntS d.size m : Nat) (d.size : Nat) (pcs d m k) = ⟨(outW d m 0 k).1, (outW d m 0 k).2, 0, slot, updP (insP (t, dgW d m 0 0) (keptP (slot - hold) l)) t (dgW d m (0 ||| 2 ^ k) slot)⟩ := by
  have hlen := (pcs_len ht hs hm hc hk).1
  have hp := prtS_ne hs.1 hm.1
  unfold recvF
  rw [hlen, if_neg hp, if_neg (show ¬ (slot < time ∨ 109951162 < slot) by omega), if_neg (by omega)]
  simp only
  have hg : getP (keptP (slot - hold) l) t (newD t k (cntS d.size m : Nat) (d.size : Nat) (pcs d m k)) = insP (t, dgW d m 0 0) (keptP (slot - hold) l) := by
    unfold getP
    rw [hl, Option.isSome_none, if_neg (by decide), newD_W ht hs hm hc hk]
  rw [hg, lookP_insP hl, Option.getD_some, okF_W ht hs hm hc hk, if_neg (by decide), Int.toNat_natCast, putF_W d m 0 _ slot k (by omega), outF_W hs hm hc hk (Nat.pow_pos (by decide))]
theorem recv_full (ht : 0 ≤ t ∧ t ≤ 255) (hs : 1 ≤ d.size ∧ d.size ≤ 4095) (hm : 1 ≤ m ∧ m ≤ 120) (hc : cntS d.size m ≤ 32) (hk : k < cntS d.size m) (htm : time ≤ slot) (hsl : slot ≤ 109951162)
    (hl : lookP (keptP (slot - hold) l) t = none) (h8 : 8 ≤ (keptP (slot - hold) l).length) :
    recvF hold time l slot t k (cntS d.size m : Nat) (d.size : Nat) (pcs d m k) = ⟨⟨#[]⟩, false, 13, slot, keptP (slot - hold) l⟩ := by
  have hlen := (pcs_len ht hs hm hc hk).1
  have hp := prtS_ne hs.1 hm.1
  unfold recvF
  rw [hlen, if_neg hp, if_neg (show ¬ (slot < time ∨ 109951162 < slot) by omega), if_pos ⟨hl, h8⟩]
end
end Go.Proofs.Ytokapofgbcbajaa.Fns
