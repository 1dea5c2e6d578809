/- The law FragmentReceives: its walk. -/
import Derived.Test.YtokapofgbcbajaaXWalk
namespace Go.Proofs.Ytokapofgbcbajaa.Fns
open Go.RowKit Go.Maps Go.Proofs.YtokapofgbcbajaaW.PrintWords Go.Proofs.YtokapofgbcbajaaW.PrintLast Go.Proofs.YtokapofgbcbajaaW.PrintMore
attribute [local go_sem high] eqA23
set_option linter.unusedVariables false
set_option linter.unusedSimpArgs false
theorem tags60 {i nx : Nat} (h : i < nx) (h60 : nx ≤ 60) : wrap64 ((i : Int) + 1) = ((i + 1 : Nat) : Int) ∧ decide ((i : Int) < (nx : Int)) = true ∧ decide (i < nx) = true ∧ (i : Int) < (nx : Int) :=
  ⟨by rw [wrap_in (by omega)]; omega, decide_eq_true (by omega), decide_eq_true h, by omega⟩
def Bx (W : World) (B : Nat) (a : Arv) : Prop := W.heap[B]? = some (.cells #[.int .i64 a.la, .int .i64 a.t, .int .i64 a.i, .int .i64 a.c, .int .i64 a.s, .string a.d] 68 (0, 0))
theorem Bx.cells {W : World} {B : Nat} {a : Arv} (h : Bx W B a) : W.cell? ⟨B, 0, none⟩ = some (.int .i64 a.la) ∧ W.cell? ⟨B, 1, none⟩ = some (.int .i64 a.t) ∧ W.cell? ⟨B, 2, none⟩ = some (.int .i64 a.i) ∧ W.cell? ⟨B, 3, none⟩ = some (.int .i64 a.c) ∧ W.cell? ⟨B, 4, none⟩ = some (.int .i64 a.s) ∧ W.cell? ⟨B, 5, none⟩ = some (.string a.d) :=
  ⟨(blk_cell h 0).trans rfl, (blk_cell h 1).trans rfl, (blk_cell h 2).trans rfl, (blk_cell h 3).trans rfl, (blk_cell h 4).trans rfl, (blk_cell h 5).trans rfl⟩
theorem slot_max {s2 tm : Int} {k : Nat} (h : s2 ≤ 100000 * ((k + 1 : Nat) : Int)) (ht : 0 ≤ tm) : 0 ≤ max s2 0 ∧ max s2 0 ≤ 100000 * ((k + 1 : Nat) : Int) ∧ 0 ≤ tm := by
  refine ⟨Int.le_max_right _ _, Int.max_le.2 ⟨h, by omega⟩, ht⟩
theorem slot_next {slot la : Int} {k : Nat} (hk : k < 61) (hs : 0 ≤ slot ∧ slot ≤ 100000 * (k : Int)) : ∃ s2, wrap64 (slot + la.tmod 100000) = s2 ∧ s2 ≤ 100000 * ((k + 1 : Nat) : Int) ∧ -100000 ≤ s2 := by
  have h1 := Int.tmod_lt_of_pos la (show (0 : Int) < 100000 by decide)
  have h2 : -100000 < la.tmod 100000 := by
    have h3 := Int.tmod_lt_of_pos (-la) (show (0 : Int) < 100000 by decide)
    rw [Int.neg_tmod] at h3
    omega
  refine ⟨_, rfl, ?_⟩
  rw [wrap_in (by omega)]
  omega
set_option maxRecDepth 100000 in
set_option maxHeartbeats 8000000 in
theorem receives_walk (hold : Int) (A : Option Addr) (xs : List Arv) (c2 : Nat) (w : World) (hC : AC w A xs) (hwf : ∀ a ∈ xs, (Lit.int .i64 a.la).wf = true ∧ (Lit.int .i64 a.t).wf = true) :
    Calls Try.prog 9 #[.int .i64 hold, .slice A xs.length c2] w fun e w' => e = .returned (.bool true) ∧ Below w.heap.size w w' := by
  have hu23 := Try.underlying23
  have hu68 := Try.underlying68
  have HA := Aside0.mk (show ∀ w, Calls Try.prog 10 #[] w fun e w' => e = .returned (.bool true) ∧ Below w.heap.size w w' from awake_walk)
  have HFW := Aside0.mk (show ∀ w', Below w.heap.size w w' → Calls Try.prog 31 #[.slice A xs.length c2] w' fun e w2 => e = .returned (.bool (fewB xs)) ∧ Below w'.heap.size w' w2 from fun w' hb => few_calls w' A c2 xs (hC.later hb))
  obtain ⟨nx, hnx⟩ : ∃ nx, xs.length = nx := ⟨_, rfl⟩
  rw [hnx] at HFW ⊢
  cases hfew : fewB xs with
  | false =>
    rw [hfew] at HFW
    clear hfew hC hwf hnx
    go_enter Try.func9, Try.ntmps9
    go_upto_region 3 with (go_at_call 10; (with_reducible refine (HA.out _).mono ?_); rintro e wa ⟨rfl, hba⟩)
    have HF := Aside0.mk (HFW.out wa hba)
    have HB := Aside0.mk hba
    clear hba HFW HA
    go_wp2_with (go_at_call 31; (with_reducible refine HF.out.mono ?_); rintro e wb ⟨rfl, hbb⟩)
    go_ret
    exact ⟨rfl, below_tr HB.out hbb⟩
  | true =>
    rw [hfew] at HFW
    obtain ⟨hx60, hx200⟩ := few_true hfew
    by_cases hh : hold < 0 ∨ 4096 < hold
    · have HN := Aside0.mk (fun w => newrecv_bad w hold hh)
      have HX := Aside0.mk (fun w => newX_bad w hold hh)
      clear hfew hC hwf hnx hh hx60 hx200
      go_enter Try.func9, Try.ntmps9
      go_upto_region 3 with (go_at_call 10; (with_reducible refine (HA.out _).mono ?_); rintro e wa ⟨rfl, hba⟩)
      have HF := Aside0.mk (HFW.out wa hba)
      have HB := Aside0.mk hba
      clear hba HFW HA
      go_upto_region 5 with (go_at_call 31; (with_reducible refine HF.out.mono ?_); rintro e wb ⟨rfl, hbb⟩)
      have HB1 := Aside0.mk (below_tr HB.out hbb)
      clear hbb HB HF
      go_upto_region 6 with (go_at_call 21; (with_reducible refine (HN.out _).mono ?_); rintro e wz ⟨rfl, rfl⟩)
      go_upto_region 7 with (go_at_call 32; (with_reducible refine (HX.out _).mono ?_); rintro e wy ⟨rfl, rfl⟩)
      go_wp2
      go_ret
      exact ⟨rfl, HB1.out⟩
    · have HN := Aside0.mk (fun w => newrecv_good w hold (by omega))
      have HX := Aside0.mk (fun w => newX_good w hold (by omega))
      have HCX := Aside0.mk hC
      have HWF := Aside0.mk hwf
      have HNX := Aside0.mk hnx
      have H60 := Aside0.mk hx60
      have H200 := Aside0.mk hx200
      clear hfew hC hwf hnx hh hx60 hx200
      go_enter Try.func9, Try.ntmps9
      go_upto_region 3 with (go_at_call 10; (with_reducible refine (HA.out _).mono ?_); rintro e wa ⟨rfl, hba⟩)
      have HF := Aside0.mk (HFW.out wa hba)
      have HB := Aside0.mk hba
      clear hba HFW HA
      go_upto_region 5 with (go_at_call 31; (with_reducible refine HF.out.mono ?_); rintro e wb ⟨rfl, hbb⟩)
      have HB1 := Aside0.mk (below_tr HB.out hbb)
      clear hbb HB HF
      go_upto_region 6 with (go_at_call 21; (with_reducible refine (HN.out _).mono ?_); rintro e wy ⟨p, bm, rfl, hS2, hb2⟩)
      have HS2 := Aside0.mk hS2
      have HB2 := Aside0.mk hb2
      clear hS2 hb2 HN
      go_upto_region 7 with (go_at_call 32; (with_reducible refine (HX.out _).mono ?_); rintro e wz ⟨q, rfl, hX3, hb3⟩)
      have HQ := Aside0.mk (show QS w wz wb.heap.size p bm wy.heap.size q hold 0 [] 0 (.slice none 0 0) [] from
        ⟨below_tr (below_tr HB1.out HB2.out) hb3, HS2.out.later hb3, hX3, ⟨HB1.out.size, Nat.le_trans HB1.out.size HB2.out.size⟩, Nat.le_trans HB2.out.size hb3.size, hb3.size⟩)
      clear hX3 hb3 HS2 HB2 HB1 HX
      obtain ⟨b0, hb0⟩ : ∃ b0, wb.heap.size = b0 := ⟨_, rfl⟩
      obtain ⟨b1, hb1⟩ : ∃ b1, wy.heap.size = b1 := ⟨_, rfl⟩
      rw [hb0, hb1] at HQ
      clear hb0 hb1
      go_wp2
      go_loopw [9, 51] (fun t9 t51 wr => ∃ (k : Nat) (slot time : Int) (L : List (Int × Dg)) (v : Value) (ds : List RD), Aside0 (k ≤ nx) ∧ t51 = .int .i64 (k : Int) ∧ t9 = .int .i64 slot ∧ Aside0 (0 ≤ slot ∧ slot ≤ 100000 * (k : Int) ∧ 0 ≤ time) ∧ Aside0 (QS w wr b0 p bm b1 q hold time L time v ds) ∧ Aside0 (XL L ds ∧ L.length ≤ 8)) (fun _ t51 _ => ((nx : Int) - intOf t51).toNat)
      case atStart => exact ⟨0, 0, 0, [], _, [], ⟨Nat.zero_le _⟩, rfl, rfl, ⟨Int.le_refl _, Int.le_refl _, Int.le_refl _⟩, HQ, ⟨XL.nil, by decide⟩⟩
      case round =>
        obtain ⟨k, slot, time, L, v, ds, HK, rfl, rfl, HSL, HR, HXL⟩ := hrel
        by_cases hlt : k < nx
        · obtain ⟨a, ha⟩ : ∃ a, xs[k]? = some a := ⟨_, List.getElem?_eq_getElem (by rw [HNX.out]; exact hlt)⟩
          obtain ⟨ad, hA, x0, x1, x2, x3, x4, x5⟩ := (HCX.out.later HR.out.bel).at ha
          subst hA
          obtain ⟨h1, h2, h3, h4⟩ := tags60 hlt (by rw [← HNX.out]; exact H60.out)
          have HLT := Aside0.mk hlt
          have HAM := Aside0.mk (List.mem_of_getElem? ha)
          clear ha hlt
          obtain ⟨s2, hs2, hs3⟩ := slot_next (la := a.la) (k := k) (by have := HLT.out; have := HNX.out; have := H60.out; omega) ⟨HSL.out.1, HSL.out.2.1⟩
          have HS3 := Aside0.mk hs3
          clear hs3
          go_upto_region 16 with (fail)
          rw [hs2]
          obtain ⟨B, hB⟩ : ∃ B, wr.heap.size = B := ⟨_, rfl⟩
          have HR1 := Aside0.mk (HR.out.later (below_new wr (.cells #[.int .i64 a.la, .int .i64 a.t, .int .i64 a.i, .int .i64 a.c, .int .i64 a.s, .string a.d] 68)))
          have HB1 := Aside0.mk (show Bx (wr.alloc (.cells #[.int .i64 a.la, .int .i64 a.t, .int .i64 a.i, .int .i64 a.c, .int .i64 a.s, .string a.d] 68)) wr.heap.size a from heap_alloc_new wr _)
          rw [hB] at HB1 ⊢
          generalize wr.alloc (.cells #[.int .i64 a.la, .int .i64 a.t, .int .i64 a.i, .int .i64 a.c, .int .i64 a.s, .string a.d] 68) = w1 at HR1 HB1 ⊢
          obtain ⟨⟨so, ok, err, tm, L2⟩, hr⟩ : ∃ r, recvF hold time L s2 a.t a.i a.c a.s a.d = r := ⟨_, rfl⟩
          have HD := Aside0.mk (show a.d.size ≤ 140737488351232 from Nat.le_trans (H200.out a HAM.out) (by decide))
          have HTM := Aside0.mk (show 0 ≤ tm by have := recvF_time HSL.out.2.2 s2 a.t a.i a.c a.s a.d (hold := hold) (l := L); rw [hr] at this; exact this)
          have HL8 := Aside0.mk (show L2.length ≤ 8 by have := recvF_few HXL.out.2 (hold := hold) (time := time) (slot := s2) (t := a.t) (i := a.i) (c := a.c) (s := a.s) (d := a.d); rw [hr] at this; exact this)
          have HRV := Aside0.mk hr
          have HC1 := Aside0.mk (HR1.out.recv s2 a.t a.i a.c a.s a.d HD.out hr)
          clear hr hs2 hB HR x0 x1 x2 x3 x4 x5 HR1
          obtain ⟨y0, y1, y2, y3, y4, y5⟩ := HB1.out.cells
          go_upto_region 17 with (go_at_call 22; (with_reducible refine HC1.out.mono ?_); rintro e w3 ⟨rfl, hq3, hk3⟩)
          have HQ3 := Aside0.mk hq3
          have HB3 := Aside0.mk (show Bx w3 B a from hk3 B _ HB1.out)
          clear hq3 hk3 HB1 HC1 y0 y1 y2 y3 y4 y5
          have HC3 := Aside0.mk (HQ3.out.recvx HXL.out.1 HXL.out.2 s2 a.t a.i a.c a.s a.d HD.out HSL.out.2.2 HRV.out)
          obtain ⟨y0, y1, y2, y3, y4, y5⟩ := HB3.out.cells
          go_upto_region 18 with (go_at_call 33; (with_reducible refine HC3.out.mono ?_); rintro e w5 ⟨v', ds', rfl, hq5, hx5, hk5⟩)
          have HQ5 := Aside0.mk hq5
          have HX5 := Aside0.mk hx5
          have HB5 := Aside0.mk (show Bx w5 B a from hk5 B _ HB3.out)
          clear hq5 hx5 hk5 HB3 HC3 HQ3 y0 y1 y2 y3 y4 y5
          have HC5 := Aside0.mk (HQ5.out.bits a.t (HWF.out a HAM.out).2)
          have HC6 := Aside0.mk (HQ5.out.bitsx HX5.out HL8.out a.t)
          generalize bmpF L2 a.t = bb at HC5 HC6
          generalize bmpE L2 a.t = be at HC5 HC6
          obtain ⟨y0, y1, y2, y3, y4, y5⟩ := HB5.out.cells
          go_upto_region 19 with (go_at_call 23; (with_reducible refine HC5.out.mono ?_); rintro e w6 ⟨rfl, rfl⟩)
          go_upto_region 20 with (go_at_call 34; (with_reducible refine HC6.out.mono ?_); rintro e w7 ⟨rfl, rfl⟩)
          clear HC5 HC6 y0 y1 y2 y3 y4 y5 HB5
          have HC7 := Aside0.mk (HQ5.out.tags HL8.out)
          go_upto_region 22 with (first
            | (go_at_call 29; (with_reducible refine HC7.out.mono ?_); rintro e w8 ⟨A8, c8, rfl, hq8, hc8, hC8⟩; have HT := Aside0.mk (hq8.tagsx HX5.out HL8.out hc8 hC8); clear hq8 hc8 hC8)
            | (go_at_call 35; (with_reducible refine HT.out.mono ?_); rintro e w9 ⟨A9, c9, rfl, hq9, he9⟩; have HE := Aside0.mk he9; clear hq9 he9)
            | (go_at_call 20; (with_reducible refine HE.out.mono ?_); rintro e w10 ⟨rfl, hq10⟩))
          have HQ10 := Aside0.mk hq10
          clear hq10 HE HT HC7 HQ5
          go_wp2
          go_roundw
          case rel => exact ⟨k + 1, _, tm, L2, v', ds', ⟨HLT.out⟩, by go_num, rfl, ⟨slot_max HS3.out.1 HTM.out⟩, HQ10, ⟨HX5.out, HL8.out⟩⟩
          case measure => rw [h1]; exact in_meas HLT.out
        · obtain ⟨h1, h2⟩ := in_stop hlt
          have HE := Aside0.mk (Nat.le_antisymm HK.out (Nat.le_of_not_lt hlt))
          clear hlt
          have HC7 := Aside0.mk (HR.out.tags HXL.out.2)
          go_wp2_with (first
            | (go_at_call 29; (with_reducible refine HC7.out.mono ?_); rintro e w8 ⟨A8, c8, rfl, hq8, hc8, hC8⟩; have HT := Aside0.mk (hq8.tagsx HXL.out.1 HXL.out.2 hc8 hC8); clear hq8 hc8 hC8)
            | (go_at_call 35; (with_reducible refine HT.out.mono ?_); rintro e w9 ⟨A9, c9, rfl, hq9, he9⟩; have HE := Aside0.mk he9; clear hq9 he9)
            | (go_at_call 20; (with_reducible refine HE.out.mono ?_); rintro e w10 ⟨rfl, hq10⟩))
          go_ret
          exact ⟨rfl, hq10.bel⟩
end Go.Proofs.Ytokapofgbcbajaa.Fns
