/- awake: its walk. -/
import Derived.Test.YtokapofgbcbajaaAwakePure
import Derived.Test.YtokapofgbcbajaaRows23
import Derived.Test.YtokapofgbcbajaaFx1
namespace Go.Proofs.Ytokapofgbcbajaa.Fns
open Go.RowKit Go.Maps Go.Proofs.YtokapofgbcbajaaW.PrintWords Go.Proofs.YtokapofgbcbajaaW.PrintLast Go.Proofs.YtokapofgbcbajaaW.PrintMore
attribute [local go_sem high] eqA23
set_option linter.unusedVariables false
set_option linter.unusedSimpArgs false
theorem FRow.frB {S : TypeId → Bool} {base b : Nat} {w wx : World} {g cap : Nat} {cur : Array Value} {xs : List S23} (h : FRow w g cap cur xs) (hf : FrB S base b w wx) (hs : S 23 = false) (hb : g ≠ b) : FRow wx g cap cur xs :=
  IsRow.move h ((blk_frB hf h.blk hs hb).trans h.blk.symm)
theorem FRow.ne_map {w : World} {g cap : Nat} {cur : Array Value} {xs : List S23} (h : FRow w g cap cur xs) {b : Nat} (hb : ∃ a c, w.heap[b]? = some (.map a c)) : g ≠ b := by
  rintro rfl
  obtain ⟨a, c, hm⟩ := hb
  rw [h.blk] at hm
  cases hm
theorem IsRow.frB {S : TypeId → Bool} {base b : Nat} {w wx : World} {e : TypeId} {size g n cap : Nat} {cur : Array Value} {xs : List Value} (h : IsRow w e size g n cap xs cur) (hf : FrB S base b w wx) (hs : S e = false) (hb : g ≠ b) : IsRow wx e size g n cap xs cur :=
  IsRow.move h ((blk_frB hf h.blk hs hb).trans h.blk.symm)
theorem FrB.toBelow {S : TypeId → Bool} {base b n : Nat} {w0 w wx : World} (hf : FrB S base b w wx) (hb : Below n w0 w) (h1 : n ≤ base) (h2 : base ≤ w.heap.size) : Below n w0 wx := hb.trans ((hf.below h2).mono h1)
theorem int_row {w : World} {base : Nat} {ok : Nat → Prop} {v : Value} {xs : List Int} (h : Kd.R (Kd.int .i64) 3 w base ok v xs) : w.ownsRow base 3 1 v xs.length (flat (fun p => [Value.int .i64 p]) xs) := by
  obtain ⟨_, cs, hown, hr⟩ := h
  have e := reps_flat (enc := fun p => [Value.int .i64 p]) (size := 1) (fun p c hc => hc) xs cs hr
  rw [e] at hown
  exact hown
theorem one_row (w : World) (v : Value) : IsRow (w.alloc (.cells #[v] 3 (0, 0))) 3 1 w.heap.size 1 1 [v] #[v] :=
  ⟨blk_new w _, by decide, by decide, rfl, rfl, rfl⟩
set_option maxRecDepth 100000 in
set_option maxHeartbeats 4000000 in
theorem awake_walk (w : World) : Calls Try.prog 10 #[] w fun e w' => e = .returned (.bool true) ∧ Below w.heap.size w w' := by
  have hu23 := Try.underlying23
  have H11 := Aside0.mk (fun w => fragment_Split.calls 9 7 sAll 2 awL 0 w aw_split)
  have H21 := Aside0.mk (fun w => newrecv_good w 10 (by decide))
  have H13 := Aside0.mk (show ∀ w, Calls Try.prog 13 #[.agg #[.int .i64 7, .int .i64 2, .int .i64 3, .int .i64 5, .string ⟨#[101]⟩]] w fun e w' => e = .returned (.tuple #[.string ⟨#[7, 16, 128, 20, 101]⟩, .int .i64 0]) ∧ Below w.heap.size w w' from fun w => by
    have h := encode_calls 7 2 3 5 sC (by decide) w
    rw [aw_enc] at h
    exact h)
  go_enter Try.func10, Try.ntmps10
  go_upto_region 2 with (go_at_call 11; refine (H11.out _).mono ?_; rintro e w1 ⟨v1, rfl, hR1, hb1⟩; obtain ⟨g, cap, cur, rfl, hg, hrow⟩ := own_row (row23 hR1) (by decide))
  go_upto_region 3 with (go_at_call 21; refine (H21.out _).mono ?_; rintro e w2 ⟨p, b, rfl, hS2, hb2⟩)
  have hrow2 := FRow.later hrow hb2
  have hfr2 : Below w.heap.size w w2 := below_tr hb1 hb2
  have hgb := hrow2.ne_map hS2.blk
  have hS2b := hS2
  have HZ := Aside0.mk (show w.heap.size ≤ w1.heap.size from hb1.size)
  have HR := Aside0.mk hrow2
  have HZ2 := Aside0.mk (show w1.heap.size ≤ w2.heap.size from hb2.size)
  have HS := Aside0.mk hS2
  have HB := Aside0.mk hfr2
  have HGB := Aside0.mk hgb
  have hl3 : awL.length = 3 := rfl
  clear hR1 hb1 hg hrow hb2 hrow2 hfr2 hgb hS2 hS2b
  obtain ⟨y0, y1, y2, y3, y4⟩ := HR.out.at (i := 2) (x := ⟨7, 2, 3, 5, sC⟩) rfl
  replace y0 : w2.cell? ⟨g, 10, none⟩ = some (.int .i64 7) := y0
  replace y1 : w2.cell? ⟨g, 11, none⟩ = some (.int .i64 2) := y1
  replace y2 : w2.cell? ⟨g, 12, none⟩ = some (.int .i64 3) := y2
  replace y3 : w2.cell? ⟨g, 13, none⟩ = some (.int .i64 5) := y3
  replace y4 : w2.cell? ⟨g, 14, none⟩ = some (.string ⟨#[101]⟩) := y4
  go_upto_region 5 with (fail)
  go_upto_region 6 with (go_at_call 13; refine (H13.out _).mono ?_; rintro e w3 ⟨rfl, hb3⟩)
  have HR3 := Aside0.mk (HR.out.later hb3)
  have HZ3 := Aside0.mk (show w2.heap.size ≤ w3.heap.size from hb3.size)
  have HS3 := Aside0.mk (HS.out.later hb3)
  have HB3 := Aside0.mk (below_tr HB.out hb3)
  clear hb3 y0 y1 y2 y3 y4 HR HS HB H13 H11 H21
  go_upto_region 8 with (fail)
  obtain ⟨y0, y1, y2, y3, y4⟩ := HR3.out.at (i := 0) (x := ⟨7, 0, 3, 5, sA⟩) rfl
  replace y0 : w3.cell? ⟨g, 0, none⟩ = some (.int .i64 7) := y0
  replace y1 : w3.cell? ⟨g, 1, none⟩ = some (.int .i64 0) := y1
  replace y2 : w3.cell? ⟨g, 2, none⟩ = some (.int .i64 3) := y2
  replace y3 : w3.cell? ⟨g, 3, none⟩ = some (.int .i64 5) := y3
  replace y4 : w3.cell? ⟨g, 4, none⟩ = some (.string sA) := y4
  have HC1 := Aside0.mk (recv_calls (show w1.heap.size ≤ w3.heap.size from Nat.le_trans HZ2.out HZ3.out) HS3.out 1 7 0 3 5 sA (by decide))
  have hf12 : w.heap.size ≤ w1.heap.size := HZ.out
  go_upto_region 9 with (go_at_call 22; (with_reducible refine HC1.out.mono ?_); rintro e w4 ⟨rfl, hS4, hf4⟩)
  have HR4 := Aside0.mk (HR3.out.frB hf4 rfl HGB.out)
  have HS4 := Aside0.mk hS4
  have HZ4 := Aside0.mk (Nat.le_trans (Nat.le_trans HZ2.out HZ3.out) hf4.size)
  have HB4 := Aside0.mk (hf4.toBelow HB3.out HZ.out (Nat.le_trans HZ2.out HZ3.out))
  clear hf4 hS4 hf12 HR3 HS3 HB3 HC1 y0 y1 y2 y3 y4
  obtain ⟨y0, y1, y2, y3, y4⟩ := HR4.out.at (i := 2) (x := ⟨7, 2, 3, 5, sC⟩) rfl
  replace y0 : w4.cell? ⟨g, 10, none⟩ = some (.int .i64 7) := y0
  replace y1 : w4.cell? ⟨g, 11, none⟩ = some (.int .i64 2) := y1
  replace y2 : w4.cell? ⟨g, 12, none⟩ = some (.int .i64 3) := y2
  replace y3 : w4.cell? ⟨g, 13, none⟩ = some (.int .i64 5) := y3
  replace y4 : w4.cell? ⟨g, 14, none⟩ = some (.string sC) := y4
  have HC2 := Aside0.mk (recv_calls HZ4.out HS4.out 2 7 2 3 5 sC (by decide))
  go_upto_region 10 with (go_at_call 22; (with_reducible refine HC2.out.mono ?_); rintro e w5 ⟨rfl, hS5, hf5⟩)
  have HR5 := Aside0.mk (HR4.out.frB hf5 rfl HGB.out)
  have HS5 := Aside0.mk (show RS w5 w1.heap.size p b 10 aw2.time aw2.l from hS5)
  have HZ5 := Aside0.mk (Nat.le_trans HZ4.out hf5.size)
  have HB5 := Aside0.mk (hf5.toBelow HB4.out HZ.out HZ4.out)
  clear hf5 hS5 HR4 HS4 HB4 HC2 HZ4 y0 y1 y2 y3 y4
  have HC3 := Aside0.mk (bitmap_calls HS5.out 7 (by decide))
  rw [aw_bmp, aw_bmpE] at HC3
  go_upto_region 11 with (go_at_call 23; (with_reducible refine HC3.out.mono ?_); rintro e wz ⟨rfl, rfl⟩)
  have H15 := Aside0.mk (fragment_Missing.calls 9 3 5 [1] 0 wz aw_missing)
  clear HC3
  go_upto_region 12 with (go_at_call 15; (with_reducible refine H15.out.mono ?_); rintro e w6 ⟨v1, rfl, hK, hb6⟩; obtain ⟨g2, cap2, cur2, rfl, hg2, hrow6⟩ := own_row (int_row hK) (by decide))
  have HR6 := Aside0.mk (HR5.out.later hb6)
  have HS6 := Aside0.mk (HS5.out.later hb6)
  have HZ6 := Aside0.mk (Nat.le_trans HZ5.out hb6.size)
  have HB6 := Aside0.mk (HB5.out.trans (hb6.mono (Nat.le_trans HZ.out HZ5.out)))
  have HM6 := Aside0.mk hrow6
  have HG2 : Aside0 (g2 ≠ b) := ⟨by
    rintro rfl
    obtain ⟨a, c, hm⟩ := HS6.out.blk
    rw [hrow6.blk] at hm
    cases hm⟩
  clear hb6 hrow6 hg2 hK HR5 HS5 HZ5 HB5 H15
  obtain ⟨y0, y1, y2, y3, y4⟩ := HR6.out.at (i := 1) (x := ⟨7, 1, 3, 5, sB⟩) rfl
  replace y0 : w6.cell? ⟨g, 5, none⟩ = some (.int .i64 7) := y0
  replace y1 : w6.cell? ⟨g, 6, none⟩ = some (.int .i64 1) := y1
  replace y2 : w6.cell? ⟨g, 7, none⟩ = some (.int .i64 3) := y2
  replace y3 : w6.cell? ⟨g, 8, none⟩ = some (.int .i64 5) := y3
  replace y4 : w6.cell? ⟨g, 9, none⟩ = some (.string sB) := y4
  have HC4 := Aside0.mk (recv_calls HZ6.out HS6.out 3 7 1 3 5 sB (by decide))
  rw [show recvF 10 aw2.time aw2.l 3 7 1 3 5 sB = aw3 from rfl, aw_s, aw_ok, aw_err] at HC4
  go_upto_region 13 with (go_at_call 22; (with_reducible refine HC4.out.mono ?_); rintro e w7 ⟨rfl, hS7, hf7⟩)
  have HM7 := Aside0.mk (HM6.out.frB hf7 rfl HG2.out)
  have HB7 := Aside0.mk (hf7.toBelow HB6.out HZ.out HZ6.out)
  clear hf7 hS7 HR6 HS6 HZ6 HB6 HM6 HC4 HGB HG2 y0 y1 y2 y3 y4
  have HM8 := Aside0.mk (HM7.out.move ((below_new w7 (.cells #[.int .i64 1] 3 (0, 0))).block _ HM7.out.lt))
  have HB8 := Aside0.mk (HB7.out.trans ((below_new w7 (.cells #[.int .i64 1] 3 (0, 0))).mono HB7.out.size))
  have H20 := Aside0.mk (slices_Equal_int_int.calls 9 _ cap2 [1] (some ⟨w7.heap.size, 0, none⟩) 1 [1] true _ (C_of_row HM8.out rfl) HM8.out.le (C_of_row (one_row w7 (.int .i64 1)) rfl) (by decide) aw_equal)
  go_wp2_with (go_at_call 20; refine H20.out.mono ?_; rintro e w9 ⟨rfl, hd9⟩)
  go_ret
  exact ⟨rfl, HB8.out.trans (hd9.below.mono HB8.out.size)⟩
def hopmeshlaw15_awake.f : Option Bool := some true
theorem hopmeshlaw15_awake.calls (r : Bool) (w : World) (h : hopmeshlaw15_awake.f = some r) : Calls Try.prog 10 #[] w fun e w' => e = .returned (.bool r) ∧ Below w.heap.size w w' := by
  obtain rfl : true = r := Option.some.inj h
  exact awake_walk w
end Go.Proofs.Ytokapofgbcbajaa.Fns
