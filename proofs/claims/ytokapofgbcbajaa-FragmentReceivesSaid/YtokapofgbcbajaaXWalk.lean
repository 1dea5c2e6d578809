/- The law FragmentReceives: both receivers side by side. -/
import Derived.Test.YtokapofgbcbajaaXPure
import Derived.Test.YtokapofgbcbajaaArrivals
import Derived.Test.YtokapofgbcbajaaTags
import Derived.Test.YtokapofgbcbajaaAwake
namespace Go.Proofs.Ytokapofgbcbajaa.Fns
open Go.RowKit Go.Maps Go.Proofs.YtokapofgbcbajaaW.PrintWords Go.Proofs.YtokapofgbcbajaaW.PrintLast Go.Proofs.YtokapofgbcbajaaW.PrintMore
set_option linter.unusedVariables false
set_option linter.unusedSimpArgs false
/-- The program's receiver stays, whatever the reference's does. -/
theorem RW.besideX {w w1 : World} {base base1 p b : Nat} {hold time : Int} {live : List Nat} {es : List Ent} (h : RW w base p b hold time live es) (hf : Fr SX base1 w w1) : RW w1 base p b hold time live es := by
  refine ⟨blk_fr hf h.blk rfl, h.hp, h.hb, ?_, ?_, ?_, h.rise, h.apart, h.small⟩
  · obtain ⟨a, clock, hb, F, hs, e⟩ := h.map
    refine ⟨a, clock, ?_, F, hs, e⟩
    exact (hf.block b (Array.getElem?_eq_some_iff.1 hb).1 (.inr (fun c e f hc => by rw [hb] at hc; cases hc))).trans hb
  · intro B hB
    obtain ⟨g1, d, g2⟩ := h.lives B hB
    exact ⟨g1, d, blk_fr hf g2.1 rfl, g2.2⟩
  · intro e he
    obtain ⟨g1, g2⟩ := h.dgs e he
    exact ⟨g1, blk_fr hf g2.1 rfl, g2.2⟩
theorem RS.besideX {w w1 : World} {base base1 p b : Nat} {hold time : Int} {l : List (Int × Dg)} (h : RS w base p b hold time l) (hf : Fr SX base1 w w1) : RS w1 base p b hold time l := by
  obtain ⟨live, es, h1, h2⟩ := h.ex
  exact ⟨h.hh, h.ht, h.ok, live, es, h1.besideX hf, h2⟩
/-- The reference's receiver stays, whatever the program's does. -/
theorem XR.besideR {w w1 : World} {base base0 q bm : Nat} {hold time : Int} {v : Value} {ds : List RD} (h : XR w base q hold time v ds) (hf : FrB SR base0 bm w w1) (hm : ∃ a c, w.heap[bm]? = some (.map a c)) : XR w1 base q hold time v ds := by
  refine h.keep (fun k c e hk he => ?_)
  refine hf.block k (Array.getElem?_eq_some_iff.1 hk).1 (.inr ⟨other_of hk ?_, ?_⟩)
  · unfold SX at he
    unfold SR
    simp only [Bool.or_eq_true, beq_iff_eq] at he
    rcases he with ((rfl | rfl) | rfl) | rfl <;> rfl
  · rintro rfl
    obtain ⟨a, c', hm⟩ := hm
    rw [hk] at hm
    cases hm
structure QS (w W : World) (b0 p bm b1 q : Nat) (hold : Int) (time : Int) (l : List (Int × Dg)) (xt : Int) (v : Value) (ds : List RD) : Prop where
  bel : Below w.heap.size w W
  rs : RS W b0 p bm hold time l
  xr : XR W b1 q hold xt v ds
  wb : w.heap.size ≤ b0 ∧ w.heap.size ≤ b1
  h0 : b0 ≤ W.heap.size
  h1 : b1 ≤ W.heap.size
/-- An arrival's own block stays. -/
def K68 (W Wx : World) : Prop := ∀ (B : Nat) (cs : Array Value), W.heap[B]? = some (.cells cs 68 (0, 0)) → Wx.heap[B]? = some (.cells cs 68 (0, 0))
theorem K68.below {W Wx : World} (hb : Below W.heap.size W Wx) : K68 W Wx := fun B cs h => blk_later hb h
theorem K68.fr {base : Nat} {W Wx : World} (hf : Fr SX base W Wx) : K68 W Wx := fun B cs h => blk_fr hf h rfl
theorem K68.frB {base bm : Nat} {W Wx : World} (hf : FrB SR base bm W Wx) (hm : ∃ a c, W.heap[bm]? = some (.map a c)) : K68 W Wx := fun B cs h => blk_frB hf h rfl (by
  rintro rfl
  obtain ⟨a, c, hm⟩ := hm
  rw [h] at hm
  cases hm)
section
variable {w W Wx : World} {b0 p bm b1 q : Nat} {hold time xt : Int} {l l0 : List (Int × Dg)} {v : Value} {ds : List RD}
theorem QS.later (h : QS w W b0 p bm b1 q hold time l xt v ds) (hb : Below W.heap.size W Wx) : QS w Wx b0 p bm b1 q hold time l xt v ds :=
  ⟨h.bel.trans (hb.mono h.bel.size), h.rs.later hb, h.xr.later hb, h.wb, Nat.le_trans h.h0 hb.size, Nat.le_trans h.h1 hb.size⟩
theorem QS.recv (h : QS w W b0 p bm b1 q hold time l xt v ds) (slot t i c s : Int) (d : ByteArray) (hd : d.size ≤ 140737488351232) {r : Res} (hr : recvF hold time l slot t i c s d = r) :
    Calls Try.prog 22 #[.pointer (some ⟨p, 0, none⟩), .int .i64 slot, .agg #[.int .i64 t, .int .i64 i, .int .i64 c, .int .i64 s, .string d]] W fun e w' =>
      e = .returned (.tuple #[.string r.s, .bool r.ok, .int .i64 r.err]) ∧ QS w w' b0 p bm b1 q hold r.time r.l xt v ds ∧ K68 W w' := by
  subst hr
  refine (recv_calls h.h0 h.rs slot t i c s d hd).mono ?_
  rintro e w' ⟨rfl, hrs, hfr⟩
  exact ⟨rfl, ⟨hfr.toBelow h.bel h.wb.1 h.h0, hrs, h.xr.besideR hfr h.rs.blk, h.wb, Nat.le_trans h.h0 hfr.size, Nat.le_trans h.h1 hfr.size⟩, K68.frB hfr h.rs.blk⟩
theorem QS.fr (h : QS w W b0 p bm b1 q hold time l xt v ds) {xt' : Int} {v' : Value} {ds' : List RD} (hx : XR Wx b1 q hold xt' v' ds') (hf : Fr SX b1 W Wx) : QS w Wx b0 p bm b1 q hold time l xt' v' ds' :=
  ⟨h.bel.trans ((hf.below h.h1).mono h.wb.2), h.rs.besideX hf, hx, h.wb, Nat.le_trans h.h0 hf.size, Nat.le_trans h.h1 hf.size⟩
theorem QS.recvx (h : QS w W b0 p bm b1 q hold time l xt v ds) (hx : XL l0 ds) (h8 : l0.length ≤ 8) (slot t i c s : Int) (d : ByteArray) (hd : d.size ≤ 140737488351232) (hxt : 0 ≤ xt) {r : Res} (hr : recvF hold xt l0 slot t i c s d = r) :
    Calls Try.prog 33 #[.pointer (some ⟨q, 0, none⟩), .int .i64 slot, .agg #[.int .i64 t, .int .i64 i, .int .i64 c, .int .i64 s, .string d]] W fun e w' =>
      ∃ v' ds', e = .returned (.tuple #[.string r.s, .bool r.ok, .int .i64 r.err]) ∧ QS w w' b0 p bm b1 q hold time l r.time v' ds' ∧ XL r.l ds' ∧ K68 W w' := by
  subst hr
  by_cases hL : lenF t i c s d.size = 0
  · refine (xrecv_bad W q slot t i c s d hd hL).mono ?_
    rintro e w' ⟨rfl, hb⟩
    have e1 : recvF hold xt l0 slot t i c s d = ⟨⟨#[]⟩, false, 1, xt, l0⟩ := by unfold recvF; rw [if_pos hL]
    rw [e1]
    exact ⟨v, ds, rfl, h.later hb, hx, K68.below hb⟩
  · by_cases ho : slot < xt ∨ 109951162 < slot
    · refine (xrecv_order h.xr slot t i c s d hd hL ho).mono ?_
      rintro e w' ⟨rfl, hb⟩
      have e1 : recvF hold xt l0 slot t i c s d = ⟨⟨#[]⟩, false, 5, xt, l0⟩ := by unfold recvF; rw [if_neg hL, if_pos ho]
      rw [e1]
      exact ⟨v, ds, rfl, h.later hb, hx, K68.below hb⟩
    · obtain ⟨hfm, _⟩ := lenF_fine hL
      obtain ⟨j, rfl⟩ : ∃ j : Nat, i = (j : Int) := ⟨i.toNat, by unfold Fine at hfm; omega⟩
      obtain ⟨m, rfl⟩ : ∃ m : Nat, c = (m : Int) := ⟨c.toNat, by unfold Fine at hfm; omega⟩
      have hh := h.rs.hh
      have hlen := hx.len
      refine (xrecv_main h.h1 h.xr (by omega) hx.pz slot t (m : Int) s j m d hd hL ho (wrap_in (by omega)) rfl).mono ?_
      rintro e w' ⟨v', ds', so, ok, err, rfl, hxr, hfr, hxp⟩
      obtain ⟨e1, e2, e3, e4, e5⟩ := hx.recv rfl hL ho hxp
      rw [e1, e2, e3, e4]
      exact ⟨v', ds', rfl, h.fr hxr hfr, e5, K68.fr hfr⟩
theorem QS.bits (h : QS w W b0 p bm b1 q hold time l xt v ds) (t : Int) (ht : (Lit.int .i64 t).wf = true) :
    Calls Try.prog 23 #[.pointer (some ⟨p, 0, none⟩), .int .i64 t] W fun e w' => e = .returned (.tuple #[.int .i64 (bmpF l t), .int .i64 (bmpE l t)]) ∧ w' = W := bitmap_calls h.rs t ht
theorem QS.bitsx (h : QS w W b0 p bm b1 q hold time l xt v ds) (hx : XL l0 ds) (h8 : l0.length ≤ 8) (t : Int) :
    Calls Try.prog 34 #[.pointer (some ⟨q, 0, none⟩), .int .i64 t] W fun e w' => e = .returned (.tuple #[.int .i64 (bmpF l0 t), .int .i64 (bmpE l0 t)]) ∧ w' = W := by
  have hlen := hx.len
  rcases findX_ways ds t with ⟨h1, _⟩ | ⟨i, d, h1, h2, h3, _⟩
  · rw [(hx.bits_none h1).1, (hx.bits_none h1).2]
    exact bitmapX_none h.xr (by omega) h1
  · rw [(hx.bits_some h2 h3).1, (hx.bits_some h2 h3).2]
    exact bitmapX_some h.xr (by omega) h1 h2
theorem own_C {w : World} {base : Nat} {A : Option Addr} {n c : Nat} {xs : List Int} (h : w.ownsRow base 3 1 (.slice A n c) xs.length (xs.map (Value.int .i64))) (hn : xs.length = n) (h8 : n ≤ 4000) : n ≤ c ∧ Kd.C (Kd.int .i64) w A xs.length xs := by
  rcases h.2 with ⟨hv, hn0⟩ | ⟨g, cap, cur, hv, hg, k1, k2, k3, k4, k5⟩
  · injection hv with e1 e2 e3
    subst e1; subst e3
    exact ⟨by omega, rfl, by omega, fun hh => by omega⟩
  · injection hv with e1 e2 e3
    subst e1; subst e3
    exact ⟨by rw [← hn]; exact k2, C_of_row (IsRow.mk k1 k2 k3 k4 k5 h.1) rfl⟩
/-- The tags of both, and that they are equal. -/
theorem QS.tags (h : QS w W b0 p bm b1 q hold time l xt v ds) (h8 : l.length ≤ 8) :
    Calls Try.prog 29 #[.pointer (some ⟨p, 0, none⟩)] W (fun e w' => ∃ (A : Option Addr) (c : Nat), e = .returned (.slice A l.length c) ∧ QS w w' b0 p bm b1 q hold time l xt v ds ∧ l.length ≤ c ∧ Kd.C (Kd.int .i64) w' A (l.map (·.1)).length (l.map (·.1))) := by
  have hml : (l.map (·.1)).length = l.length := List.length_map _
  refine (tags_calls h.rs (by omega)).mono ?_
  rintro e w' ⟨v', rfl, hrow, hb⟩
  obtain ⟨A, c, rfl⟩ := own_slice hrow
  have := own_C (xs := l.map (·.1)) (by rw [hml]; exact hrow) hml (by omega)
  exact ⟨A, c, rfl, h.later hb, this.1, this.2⟩
theorem QS.tagsx (h : QS w W b0 p bm b1 q hold time l xt v ds) (hx : XL l ds) (h8 : l.length ≤ 8) {A : Option Addr} {c : Nat} (hc : l.length ≤ c) (hC : Kd.C (Kd.int .i64) W A (l.map (·.1)).length (l.map (·.1))) :
    Calls Try.prog 35 #[.pointer (some ⟨q, 0, none⟩)] W (fun e w' => ∃ (A' : Option Addr) (c' : Nat), e = .returned (.slice A' l.length c') ∧ QS w w' b0 p bm b1 q hold time l xt v ds ∧
      Calls Try.prog 20 #[.slice A l.length c, .slice A' l.length c'] w' fun e w2 => e = .returned (.bool true) ∧ QS w w2 b0 p bm b1 q hold time l xt v ds) := by
  have hml : (l.map (·.1)).length = l.length := List.length_map _
  have hlen := hx.len
  refine (tagsX_calls h.xr (by omega)).mono ?_
  rintro e w' ⟨v', rfl, hrow, hb⟩
  rw [hx.keys] at hrow
  obtain ⟨A', c', rfl⟩ := own_slice hrow
  have h2 := own_C (xs := l.map (·.1)) hrow rfl (by omega)
  rw [hml] at h2
  refine ⟨A', c', by rw [hml], h.later hb, ?_⟩
  have he := slices_Equal_int_int.calls _ A c (l.map (·.1)) A' c' (l.map (·.1)) true w' (Kd.C_below hC hb) (by rw [hml]; exact hc) (by rw [hml]; exact h2.2) (by rw [hml]; exact h2.1) (eqI_refl _ (by omega))
  rw [hml] at he
  refine he.mono ?_
  rintro e w2 ⟨rfl, hd⟩
  exact ⟨rfl, (h.later hb).later hd.below⟩
end
theorem keptP_len (lim : Int) (l : List (Int × Dg)) : (keptP lim l).length ≤ l.length := List.length_filter_le _ _
theorem recvF_few {hold time slot t i c s : Int} {l : List (Int × Dg)} {d : ByteArray} (h : l.length ≤ 8) : (recvF hold time l slot t i c s d).l.length ≤ 8 := by
  unfold recvF
  split
  · exact h
  · split
    · exact h
    · split
      · exact Nat.le_trans (keptP_len _ _) h
      · rename_i hno
        have hk := keptP_len (slot - hold) l
        have hg : (getP (keptP (slot - hold) l) t (newD t i c s d)).length ≤ 8 := by
          unfold getP
          split
          · omega
          · rename_i h1
            have h2 : lookP (keptP (slot - hold) l) t = none := by simpa using h1
            have h3 : ¬ 8 ≤ (keptP (slot - hold) l).length := fun h4 => hno ⟨h2, h4⟩
            rw [(insP_perm _ _).length_eq, List.length_cons]; omega
        simp only
        split
        · exact hg
        · show (updP _ _ _).length ≤ 8
          unfold updP
          rw [List.length_map]
          exact hg
theorem recvF_time0 {hold time slot t i c s : Int} {l : List (Int × Dg)} {d : ByteArray} (h : 0 ≤ time) : 0 ≤ (recvF hold time l slot t i c s d).time := by
  unfold recvF
  split
  · exact h
  · split
    · exact h
    · rename_i ho
      split
      · show 0 ≤ slot; omega
      · simp only
        split <;> (show 0 ≤ slot; omega)
end Go.Proofs.Ytokapofgbcbajaa.Fns
