-- Written by the kit's print.py over this seat's translation (run by wip/gprint.py); a text of this claim.
import Derived.Test.YtokapofgbcbajaaFx0
import Derived.Test.YtokapofgbcbajaaFx11
import Derived.Test.YtokapofgbcbajaaFx12
import Derived.Test.YtokapofgbcbajaaFx13
namespace Go.Proofs.Ytokapofgbcbajaa.Fns
open Go.RowKit Go.Proofs.YtokapofgbcbajaaW.PrintWords Go.Proofs.YtokapofgbcbajaaW.PrintLast Go.Proofs.YtokapofgbcbajaaW.PrintMore
attribute [local go_sem] max2_int min2_int max_two min_two max_three min_three max_four min_four   -- for this text's walks alone
set_option linter.unusedVariables false
set_option linter.unusedSimpArgs false

/-! ### hopmeshref02_Reader_Close: function 55 -/
def hopmeshref02_Reader_Close.l0 : Nat → Int → ByteArray → Int → Int → Option (Int × ByteArray × Int × Int)
  | 0, _, _, _, _ => none
  | k + 1, x3, x1000, x1001, x1002 => if x3 < (wrap64 (8 * (x1000.size : Int))) then (if 0 ≤ (wrap64 (Int.tdiv x3 8)) then (if (wrap64 (Int.tdiv x3 8)) < (x1000.size : Int) then (if 0 ≤ (wrap64 (7 - (Int.tmod x3 8))) then (if (Go.bits .and .i64 (shr .i64 (wrap64 (bt x1000 (wrap64 (Int.tdiv x3 8)))) (wrap64 (7 - (Int.tmod x3 8)))) 1) = 1 then (some (10, x1000, x1001, x1002)) else (hopmeshref02_Reader_Close.l0 k (wrap64 (x3 + 1)) x1000 x1001 x1002)) else (none)) else (none)) else (none)) else (some (0, x1000, x1001, x1002))
def hopmeshref02_Reader_Close.f (k : Nat) (s0_0 : ByteArray) (s0_1 : Int) (s0_2 : Int) : Option (Int × ByteArray × Int × Int) := if s0_2 = 0 then ((hopmeshref02_Reader_Left.f s0_0 s0_1 s0_2).bind fun bt169 => (if bt169.1 ≥ 8 then (some (10, bt169.2.1, bt169.2.2.1, bt169.2.2.2)) else (hopmeshref02_Reader_Close.l0 k bt169.2.2.1 bt169.2.1 bt169.2.2.1 bt169.2.2.2))) else (some (s0_2, s0_0, s0_1, s0_2))
theorem hopmeshref02_Reader_Close.mono_l : ∀ k, (∀ y0 y1 y2 y3, LeO (hopmeshref02_Reader_Close.l0 k y0 y1 y2 y3) (hopmeshref02_Reader_Close.l0 (k + 1) y0 y1 y2 y3))
  | 0 => fun _ _ _ _ r h => by simp [hopmeshref02_Reader_Close.l0] at h
  | k + 1 => by
    have ih0 := hopmeshref02_Reader_Close.mono_l k
    · intro y0 y1 y2 y3
      unfold hopmeshref02_Reader_Close.l0
      repeat' first
      | (with_reducible exact ih0 _ _ _ _)
      | (with_reducible exact LeO.refl _)
      | (with_reducible exact LeO.none _)
      | (with_reducible refine LeO.ite ?_ ?_)
      | (with_reducible refine LeO.bind ?_ (fun _ => ?_))
      | exact ih0 _ _ _ _
      | exact LeO.none _
      | refine LeO.ite ?_ ?_
      | refine LeO.bind ?_ (fun _ => ?_)
theorem hopmeshref02_Reader_Close.mono : ∀ a0 a1 a2 k, LeO (hopmeshref02_Reader_Close.f k a0 a1 a2) (hopmeshref02_Reader_Close.f (k + 1) a0 a1 a2) := by
  intro a0 a1 a2 k
  have ih0 := hopmeshref02_Reader_Close.mono_l k
  unfold hopmeshref02_Reader_Close.f
  repeat' first
      | (with_reducible exact ih0 _ _ _ _)
      | (with_reducible exact LeO.refl _)
      | (with_reducible exact LeO.none _)
      | (with_reducible refine LeO.ite ?_ ?_)
      | (with_reducible refine LeO.bind ?_ (fun _ => ?_))
      | exact ih0 _ _ _ _
      | exact LeO.none _
      | refine LeO.ite ?_ ?_
      | refine LeO.bind ?_ (fun _ => ?_)
set_option maxHeartbeats 8000000 in
set_option maxRecDepth 100000 in
theorem hopmeshref02_Reader_Close.calls (k : Nat) (g : Nat) (s0_0 : ByteArray) (s0_1 : Int) (s0_2 : Int) (r1 : Int) (r2 : ByteArray) (r3 : Int) (r4 : Int) (w0 w : World) (hI : IsS137 w0 w g s0_0 s0_1 s0_2) (hB : Below w0.heap.size w0 w) (h : hopmeshref02_Reader_Close.f k s0_0 s0_1 s0_2 = some (r1, r2, r3, r4)) :
    Calls Try.prog 55 #[.pointer (some ⟨g, 0, none⟩)] w fun e w' => e = .returned (.int .i64 r1) ∧ IsS137 w0 w' g r2 r3 r4 ∧ Below w0.heap.size w0 w' ∧ KeepBut w w' g none := by
  have HI0 := Aside0.mk hI
  have HK := Aside0.mk (KeepBut.refl w g none)
  have HL := Aside0.mk hB.size
  clear hI
  have HW0 := Aside0.mk hB.size
  have HB := Aside0.mk hB
  clear hB
  have H : (if s0_2 = 0 then ((hopmeshref02_Reader_Left.f s0_0 s0_1 s0_2).bind fun bt169 => (if bt169.1 ≥ 8 then (some (10, bt169.2.1, bt169.2.2.1, bt169.2.2.2)) else (hopmeshref02_Reader_Close.l0 k bt169.2.2.1 bt169.2.1 bt169.2.2.1 bt169.2.2.2))) else (some (s0_2, s0_0, s0_1, s0_2))) = some (r1, r2, r3, r4) := h
  clear h
  by_cases c2 : s0_2 = 0
  · rw [if_pos c2] at H
    have c2b0 : (s0_2 == 0) = true := beq_iff_eq.mpr c2
    have c2b1 : (s0_2 != 0) = false := bne_eq_false_iff_eq.mpr c2
    clear c2
    replace H := Option.bind_eq_some_iff.mp H
    obtain ⟨⟨t169, t170, t171, t172⟩, A30, H⟩ := H
    replace H : (if t169 ≥ 8 then (some (10, t170, t171, t172)) else (hopmeshref02_Reader_Close.l0 k t171 t170 t171 t172)) = some (r1, r2, r3, r4) := H
    have A3 := Aside0.mk A30
    clear A30
    by_cases c4 : t169 ≥ 8
    · rw [if_pos c4] at H
      have c4b0 : decide (8 ≤ t169) = true := decide_eq_true c4
      clear c4
      simp only [Option.some.injEq, Prod.mk.injEq] at H
      obtain ⟨rfl, rfl, rfl, rfl⟩ := H
      obtain ⟨HGz5, hgz5⟩ := HI0.out
      have hcz5_0 := cellS137_0 HGz5
      have hcz5_1 := cellS137_1 HGz5
      have hcz5_2 := cellS137_2 HGz5
      have hfz5_0 := blk_frozen HGz5 0
      have hfz5_1 := blk_frozen HGz5 1
      have hfz5_2 := blk_frozen HGz5 2
      clear HGz5 hgz5
      go_enter Try.func55, Try.ntmps55
      go_wp2_with (first | ((with_reducible refine gate_callee (f := 78) rfl ?_); refine goesL_ (some 14) rfl rfl Try.func78 (by kernel_rfl) rfl #[.pointer (some ⟨g, 0, none⟩)] rfl (by (try simp only [List.map_toArray, List.map_cons, List.map_nil]); first | done | rfl | (simp only [List.length_drop, List.length_take]; rfl)) ?_; (with_reducible refine (hopmeshref02_Reader_Left.calls g s0_0 s0_1 s0_2 t169 t170 t171 t172 w0 _ ?side1 ?side2 A3.out).mono ?_); (case side1 => repeat (first | (with_reducible first | exact HI0.out | apply IsS137.alloc | apply IsS137.drewN | apply IsS137.drew | apply IsS137.set_0 | apply IsS137.set_1 | apply IsS137.set_2) | exact HI0.out)); (case side2 => repeat (first | (with_reducible first | exact HB.out | apply below_alloc | apply pw_below_drewN | apply below_drew1 | refine below_set ?_ (IsS137.ge HI0.out)) | exact HB.out)); rintro e w6 ⟨rfl, hi, hb, hk⟩; refine ⟨_, rfl, ?_⟩; have n0_ := Aside0.mk (KeepBut.trans (by repeat (first | (with_reducible first | exact HK.out | apply KeepBut.set_ | apply keep_drewN | apply keep_drew | apply keep_alloc) | exact HK.out)) hk (.inl rfl)); have n1_ := Aside0.mk (hb); have n2_ := Aside0.mk (hi); clear HK; clear HB; clear HI0; have HK := n0_; have HB := n1_; have HI0 := n2_; clear n0_ n1_ n2_; (try clear hb); (try clear hb2); (try clear hk); (try clear hi)))
      go_ret
      exact ⟨by first | rfl | (simp [errW_none, errW_some] <;> rfl) | (simp [*, errW_none, errW_some] <;> rfl), by repeat (first | (with_reducible first | exact HI0.out | apply IsS137.alloc | apply IsS137.drewN | apply IsS137.drew | apply IsS137.set_0 | apply IsS137.set_1 | apply IsS137.set_2) | exact HI0.out), by repeat (first | (with_reducible first | exact HB.out | apply below_alloc | apply pw_below_drewN | apply below_drew1 | refine below_set ?_ (IsS137.ge HI0.out)) | exact HB.out), by repeat (first | (with_reducible first | exact HK.out | apply KeepBut.set_ | apply keep_drewN | apply keep_drew | apply keep_alloc) | exact HK.out)⟩
    · rw [if_neg c4] at H
      have c4b0 : decide (8 ≤ t169) = false := decide_eq_false c4
      clear c4
      have H' := Aside0.mk H
      clear H
      obtain ⟨HGz7, hgz7⟩ := HI0.out
      have hcz7_0 := cellS137_0 HGz7
      have hcz7_1 := cellS137_1 HGz7
      have hcz7_2 := cellS137_2 HGz7
      have hfz7_0 := blk_frozen HGz7 0
      have hfz7_1 := blk_frozen HGz7 1
      have hfz7_2 := blk_frozen HGz7 2
      clear HGz7 hgz7
      go_enter Try.func55, Try.ntmps55
      go_wp2_with (first | ((with_reducible refine gate_callee (f := 78) rfl ?_); refine goesL_ (some 14) rfl rfl Try.func78 (by kernel_rfl) rfl #[.pointer (some ⟨g, 0, none⟩)] rfl (by (try simp only [List.map_toArray, List.map_cons, List.map_nil]); first | done | rfl | (simp only [List.length_drop, List.length_take]; rfl)) ?_; (with_reducible refine (hopmeshref02_Reader_Left.calls g s0_0 s0_1 s0_2 t169 t170 t171 t172 w0 _ ?side1 ?side2 A3.out).mono ?_); (case side1 => repeat (first | (with_reducible first | exact HI0.out | apply IsS137.alloc | apply IsS137.drewN | apply IsS137.drew | apply IsS137.set_0 | apply IsS137.set_1 | apply IsS137.set_2) | exact HI0.out)); (case side2 => repeat (first | (with_reducible first | exact HB.out | apply below_alloc | apply pw_below_drewN | apply below_drew1 | refine below_set ?_ (IsS137.ge HI0.out)) | exact HB.out)); rintro e w8 ⟨rfl, hi, hb, hk⟩; refine ⟨_, rfl, ?_⟩; have n0_ := Aside0.mk (KeepBut.trans (by repeat (first | (with_reducible first | exact HK.out | apply KeepBut.set_ | apply keep_drewN | apply keep_drew | apply keep_alloc) | exact HK.out)) hk (.inl rfl)); have n1_ := Aside0.mk (hb); have n2_ := Aside0.mk (hi); clear HK; clear HB; clear HI0; have HK := n0_; have HB := n1_; have HI0 := n2_; clear n0_ n1_ n2_; (try clear hb); (try clear hb2); (try clear hk); (try clear hi); obtain ⟨HGz9, hgz9⟩ := HI0.out; have hcz9_0 := cellS137_0 HGz9; have hcz9_1 := cellS137_1 HGz9; have hcz9_2 := cellS137_2 HGz9; have hfz9_0 := blk_frozen HGz9 0; have hfz9_1 := blk_frozen HGz9 1; have hfz9_2 := blk_frozen HGz9 2; clear HGz9 hgz9))
      go_loopg [3] k (fun kq v3 w' => ∃ (x3_1 : Int), v3 = .int .i64 x3_1 ∧ Aside0 (hopmeshref02_Reader_Close.l0 kq x3_1 t170 t171 t172 = some (r1, r2, r3, r4)) ∧ Aside0 (kq ≤ k) ∧ Aside0 (IsS137 w0 w' g t170 t171 t172) ∧ Aside0 (KeepBut w w' g none) ∧ Aside0 (Below w0.heap.size w0 w'))
      case atStart => exact ⟨(t171), (by first | rfl | (simp; done) | (simp [*]; done)), H', ⟨Nat.le_refl _⟩, ⟨by repeat (first | (with_reducible first | exact HI0.out | apply IsS137.alloc | apply IsS137.drewN | apply IsS137.drew | apply IsS137.set_0 | apply IsS137.set_1 | apply IsS137.set_2) | exact HI0.out)⟩, ⟨by repeat (first | (with_reducible first | exact HK.out | apply KeepBut.set_ | apply keep_drewN | apply keep_drew | apply keep_alloc) | exact HK.out)⟩, ⟨by repeat (first | (with_reducible first | exact HB.out | apply below_alloc | apply pw_below_drewN | apply below_drew1 | refine below_set ?_ (IsS137.ge HI0.out)) | exact HB.out)⟩⟩
      case round =>
        clear H'
        try clear c2
        try clear c2b0
        try clear c2b1
        try clear p2
        try clear c4
        try clear c4b0
        try clear c5
        try clear c7
        try clear hcz5_0
        try clear hcz5_1
        try clear hcz5_2
        try clear hcz7_0
        try clear hcz7_1
        try clear hcz7_2
        try clear hcz9_0
        try clear hcz9_1
        try clear hcz9_2
        try clear hfz5_0
        try clear hfz5_1
        try clear hfz5_2
        try clear hfz7_0
        try clear hfz7_1
        try clear hfz7_2
        try clear hfz9_0
        try clear hfz9_1
        try clear hfz9_2
        obtain ⟨x3_1, rfl, HA, HK1, HI0, HK, HB⟩ := hrel
        cases gk with
        | zero => exact absurd HA.out (by simp [hopmeshref02_Reader_Close.l0])
        | succ k1 =>
          have H := HA.out
          clear HA
          simp only [hopmeshref02_Reader_Close.l0] at H
          by_cases c10 : x3_1 < (wrap64 (8 * (t170.size : Int)))
          · rw [if_pos c10] at H
            have c10b0 : decide (x3_1 < (wrap64 (8 * (t170.size : Int)))) = true := decide_eq_true c10
            clear c10
            obtain ⟨ji11, hji11⟩ : ∃ j_ : Int, (wrap64 (Int.tdiv x3_1 8)) = j_ := ⟨_, rfl⟩
            replace H : (if 0 ≤ (ji11) then (if (ji11) < (t170.size : Int) then (if 0 ≤ (wrap64 (7 - (Int.tmod x3_1 8))) then (if (Go.bits .and .i64 (shr .i64 (wrap64 (bt t170 (ji11))) (wrap64 (7 - (Int.tmod x3_1 8)))) 1) = 1 then (some (10, t170, t171, t172)) else (hopmeshref02_Reader_Close.l0 k1 (wrap64 (x3_1 + 1)) t170 t171 t172)) else (none)) else (none)) else (none)) = some (r1, r2, r3, r4) := by first | (rw [hji11] at H; exact H) | (simp only [hji11] at H ⊢; exact H)
            have hji11w : (IntKind.i64.wrap (Int.tdiv x3_1 8)) = ji11 := (i64_w _).trans hji11
            by_cases c12 : 0 ≤ (ji11)
            · rw [if_pos c12] at H
              have c12b0 : decide (0 ≤ (ji11)) = true := decide_eq_true c12
              clear c12
              by_cases c13 : (ji11) < (t170.size : Int)
              · rw [if_pos c13] at H
                have c13b0 : decide ((ji11) < (t170.size : Int)) = true := decide_eq_true c13
                clear c13
                obtain ⟨ji15, hji15⟩ : ∃ j_ : Int, (wrap64 (7 - (Int.tmod x3_1 8))) = j_ := ⟨_, rfl⟩
                replace H : (if 0 ≤ (ji15) then (if (Go.bits .and .i64 (shr .i64 (wrap64 (bt t170 (ji11))) (ji15)) 1) = 1 then (some (10, t170, t171, t172)) else (hopmeshref02_Reader_Close.l0 k1 (wrap64 (x3_1 + 1)) t170 t171 t172)) else (none)) = some (r1, r2, r3, r4) := by first | (rw [hji15] at H; exact H) | (simp only [hji15] at H ⊢; exact H)
                have hji15w : (IntKind.i64.wrap (7 - (Int.tmod x3_1 8))) = ji15 := (i64_w _).trans hji15
                by_cases c16 : 0 ≤ (ji15)
                · rw [if_pos c16] at H
                  have c16b0 := eq_true c16
                  have c16b1 : decide (0 ≤ (ji15)) = true := decide_eq_true c16
                  clear c16
                  obtain ⟨ji17, hji17⟩ : ∃ j_ : Int, (shr .i64 (wrap64 (bt t170 (ji11))) (ji15)) = j_ := ⟨_, rfl⟩
                  replace H : (if (Go.bits .and .i64 (ji17) 1) = 1 then (some (10, t170, t171, t172)) else (hopmeshref02_Reader_Close.l0 k1 (wrap64 (x3_1 + 1)) t170 t171 t172)) = some (r1, r2, r3, r4) := by first | (rw [hji17] at H; exact H) | (simp only [hji17] at H ⊢; exact H)
                  have hji17_ : ((wrap64 (bt t170 (ji11))) / 2 ^ min (ji15).toNat 64) = ji17 := hji17
                  have hji17z : (ji15) ≤ 64 → ((wrap64 (bt t170 (ji11))) / 2 ^ (ji15).toNat) = ji17 := shr_small hji17
                  by_cases c18 : (Go.bits .and .i64 (ji17) 1) = 1
                  · rw [if_pos c18] at H
                    have c18b0 : ((Go.bits .and .i64 (ji17) 1) == 1) = true := beq_iff_eq.mpr c18
                    have c18b1 : ((Go.bits .and .i64 (ji17) 1) != 1) = false := bne_eq_false_iff_eq.mpr c18
                    clear c18
                    simp only [Option.some.injEq, Prod.mk.injEq] at H
                    obtain ⟨rfl, rfl, rfl, rfl⟩ := H
                    obtain ⟨HGz19, hgz19⟩ := HI0.out
                    have hcz19_0 := cellS137_0 HGz19
                    have hcz19_1 := cellS137_1 HGz19
                    have hcz19_2 := cellS137_2 HGz19
                    have hfz19_0 := blk_frozen HGz19 0
                    have hfz19_1 := blk_frozen HGz19 1
                    have hfz19_2 := blk_frozen HGz19 2
                    clear HGz19 hgz19
                    have p14 : 0 ≤ ((ji11) : Int) := of_decide_eq_true (by first | (with_reducible assumption) | assumption)
                    have q14 : (ji11) < (t170.size : Int) := of_decide_eq_true (by first | (with_reducible assumption) | assumption)
                    have hx14 := bt_at t170 (ji11)
                    replace p14 := eq_true p14
                    replace q14 := eq_true q14
                    go_wp2
                    go_ret
                    exact ⟨by first | rfl | (simp [errW_none, errW_some] <;> rfl) | (simp only [← hji11, ← hji15, ← hji17]; first | rfl | (simp [errW_none, errW_some] <;> rfl)) | (simp [*, errW_none, errW_some] <;> rfl), by repeat (first | (with_reducible first | exact HI0.out | apply IsS137.alloc | apply IsS137.drewN | apply IsS137.drew | apply IsS137.set_0 | apply IsS137.set_1 | apply IsS137.set_2) | exact HI0.out), by repeat (first | (with_reducible first | exact HB.out | apply below_alloc | apply pw_below_drewN | apply below_drew1 | refine below_set ?_ (IsS137.ge HI0.out)) | exact HB.out), by repeat (first | (with_reducible first | exact HK.out | apply KeepBut.set_ | apply keep_drewN | apply keep_drew | apply keep_alloc) | exact HK.out)⟩
                  · rw [if_neg c18] at H
                    have c18b0 : ((Go.bits .and .i64 (ji17) 1) == 1) = false := beq_eq_false_iff_ne.mpr c18
                    have c18b1 : ((Go.bits .and .i64 (ji17) 1) != 1) = true := bne_iff_ne.mpr c18
                    have H' := Aside0.mk H
                    clear H
                    obtain ⟨HGz20, hgz20⟩ := HI0.out
                    have hcz20_0 := cellS137_0 HGz20
                    have hcz20_1 := cellS137_1 HGz20
                    have hcz20_2 := cellS137_2 HGz20
                    have hfz20_0 := blk_frozen HGz20 0
                    have hfz20_1 := blk_frozen HGz20 1
                    have hfz20_2 := blk_frozen HGz20 2
                    clear HGz20 hgz20
                    have p14 : 0 ≤ ((ji11) : Int) := of_decide_eq_true (by first | (with_reducible assumption) | assumption)
                    have q14 : (ji11) < (t170.size : Int) := of_decide_eq_true (by first | (with_reducible assumption) | assumption)
                    have hx14 := bt_at t170 (ji11)
                    replace p14 := eq_true p14
                    replace q14 := eq_true q14
                    go_wp2
                    go_roundg k1
                    case measure => have := HK1.out; omega
                    case rel => exact ⟨(wrap64 (x3_1 + 1)), (by first | rfl | (simp; done) | (simp [*]; done)), H', ⟨by have := HK1.out; omega⟩, ⟨by repeat (first | (with_reducible first | exact HI0.out | apply IsS137.alloc | apply IsS137.drewN | apply IsS137.drew | apply IsS137.set_0 | apply IsS137.set_1 | apply IsS137.set_2) | exact HI0.out)⟩, ⟨by repeat (first | (with_reducible first | exact HK.out | apply KeepBut.set_ | apply keep_drewN | apply keep_drew | apply keep_alloc) | exact HK.out)⟩, ⟨by repeat (first | (with_reducible first | exact HB.out | apply below_alloc | apply pw_below_drewN | apply below_drew1 | refine below_set ?_ (IsS137.ge HI0.out)) | exact HB.out)⟩⟩
                · rw [if_neg c16] at H
                  exact absurd H (by simp)
              · rw [if_neg c13] at H
                exact absurd H (by simp)
            · rw [if_neg c12] at H
              exact absurd H (by simp)
          · rw [if_neg c10] at H
            have c10b0 : decide (x3_1 < (wrap64 (8 * (t170.size : Int)))) = false := decide_eq_false c10
            clear c10
            simp only [Option.some.injEq, Prod.mk.injEq] at H
            obtain ⟨rfl, rfl, rfl, rfl⟩ := H
            obtain ⟨HGz21, hgz21⟩ := HI0.out
            have hcz21_0 := cellS137_0 HGz21
            have hcz21_1 := cellS137_1 HGz21
            have hcz21_2 := cellS137_2 HGz21
            have hfz21_0 := blk_frozen HGz21 0
            have hfz21_1 := blk_frozen HGz21 1
            have hfz21_2 := blk_frozen HGz21 2
            clear HGz21 hgz21
            go_wp2
            go_ret
            exact ⟨by first | rfl | (simp [errW_none, errW_some] <;> rfl) | (simp [*, errW_none, errW_some] <;> rfl), by repeat (first | (with_reducible first | exact HI0.out | apply IsS137.alloc | apply IsS137.drewN | apply IsS137.drew | apply IsS137.set_0 | apply IsS137.set_1 | apply IsS137.set_2) | exact HI0.out), by repeat (first | (with_reducible first | exact HB.out | apply below_alloc | apply pw_below_drewN | apply below_drew1 | refine below_set ?_ (IsS137.ge HI0.out)) | exact HB.out), by repeat (first | (with_reducible first | exact HK.out | apply KeepBut.set_ | apply keep_drewN | apply keep_drew | apply keep_alloc) | exact HK.out)⟩
  · rw [if_neg c2] at H
    have c2b0 : (s0_2 == 0) = false := beq_eq_false_iff_ne.mpr c2
    have c2b1 : (s0_2 != 0) = true := bne_iff_ne.mpr c2
    simp only [Option.some.injEq, Prod.mk.injEq] at H
    obtain ⟨rfl, rfl, rfl, rfl⟩ := H
    obtain ⟨HGz22, hgz22⟩ := HI0.out
    have hcz22_0 := cellS137_0 HGz22
    have hcz22_1 := cellS137_1 HGz22
    have hcz22_2 := cellS137_2 HGz22
    have hfz22_0 := blk_frozen HGz22 0
    have hfz22_1 := blk_frozen HGz22 1
    have hfz22_2 := blk_frozen HGz22 2
    clear HGz22 hgz22
    go_enter Try.func55, Try.ntmps55
    go_wp2
    go_ret
    exact ⟨by first | rfl | (simp [errW_none, errW_some] <;> rfl) | (simp [*, errW_none, errW_some] <;> rfl), by repeat (first | (with_reducible first | exact HI0.out | apply IsS137.alloc | apply IsS137.drewN | apply IsS137.drew | apply IsS137.set_0 | apply IsS137.set_1 | apply IsS137.set_2) | exact HI0.out), by repeat (first | (with_reducible first | exact HB.out | apply below_alloc | apply pw_below_drewN | apply below_drew1 | refine below_set ?_ (IsS137.ge HI0.out)) | exact HB.out), by repeat (first | (with_reducible first | exact HK.out | apply KeepBut.set_ | apply keep_drewN | apply keep_drew | apply keep_alloc) | exact HK.out)⟩

/-! ### bitio_NewReader: function 50 -/
def bitio_NewReader.f (a0 : ByteArray) : Option (ByteArray × Int × Int) := if (a0.size : Int) > 65536 then (some ((⟨#[]⟩ : ByteArray), 0, 8)) else (some (a0, 0, 0))
set_option maxHeartbeats 8000000 in
set_option maxRecDepth 100000 in
theorem bitio_NewReader.calls (a0 : ByteArray) (r1 : ByteArray) (r2 : Int) (r3 : Int) (w0 w : World) (hB : Below w0.heap.size w0 w) (h : bitio_NewReader.f a0 = some (r1, r2, r3)) :
    Calls Try.prog 50 #[.string a0] w fun e w' => ∃ g_ : Nat, e = .returned (.pointer (some ⟨g_, 0, none⟩)) ∧ IsS131 w0 w' g_ r1 r2 r3 ∧ Below w0.heap.size w0 w' ∧ Below w.heap.size w w' := by
  have hu131 := Try.underlying131
  have HBW := Aside0.mk (Below.refl w.heap.size w)
  have HW0 := Aside0.mk hB.size
  have HB := Aside0.mk hB
  clear hB
  have H : (if (a0.size : Int) > 65536 then (some ((⟨#[]⟩ : ByteArray), 0, 8)) else (some (a0, 0, 0))) = some (r1, r2, r3) := h
  clear h
  by_cases c2 : (a0.size : Int) > 65536
  · rw [if_pos c2] at H
    have c2b0 : decide (65536 < (a0.size : Int)) = true := decide_eq_true c2
    have c2b1 : decide (65536 < a0.size) = true := decide_eq_true (by omega)
    clear c2
    simp only [Option.some.injEq, Prod.mk.injEq] at H
    obtain ⟨rfl, rfl, rfl⟩ := H
    go_enter Try.func50, Try.ntmps50
    go_wp2_with (first | ((with_reducible refine gate_dst (N := 7) rfl ?_); refine box_event ?hg (N := 7) ?hd (cs := #[.string (⟨#[]⟩ : ByteArray), .int .i64 0, .int .i64 8]) (t := 131) ?hr ?_; (case hd => rfl); (case hg => rfl); (case hr => first | (go_simp; done) | (go_simp; rfl)); intro gb173 hg w3 hbox hb; have n0_ := Aside0.mk (below_step HBW.out hb); have n1_ := Aside0.mk (below_step (by repeat (first | (with_reducible first | exact HB.out | apply below_alloc | apply pw_below_drewN | apply below_drew1) | exact HB.out)) hb); have n2_ := Aside0.mk (hbox); have n3_ := Aside0.mk ((by rw [hg]; exact (below_size (by repeat (first | (with_reducible first | exact HBW.out | apply below_alloc | apply pw_below_drewN | apply below_drew1) | exact HBW.out))) : w.heap.size ≤ gb173)); have n4_ := Aside0.mk ((Nat.le_trans HW0.out (by rw [hg]; exact (below_size (by repeat (first | (with_reducible first | exact HBW.out | apply below_alloc | apply pw_below_drewN | apply below_drew1) | exact HBW.out))) : w.heap.size ≤ gb173) : w0.heap.size ≤ gb173)); clear HBW; clear HB; have HBW := n0_; have HB := n1_; have BK173 := n2_; have GW173 := n3_; have GE173 := n4_; clear n0_ n1_ n2_ n3_ n4_; clear hb hbox hg))
    go_ret
    exact ⟨_, rfl, (show IsS131 w0 _ gb173 (⟨#[]⟩ : ByteArray) 0 8 from ⟨by (with_reducible repeat (first | refine blk_drewN ?_ _ | refine blk_drew ?_ | refine blk_alloc ?_ _)); exact BK173.out, GE173.out⟩), by repeat (first | (with_reducible first | exact HB.out | apply below_alloc | apply pw_below_drewN | apply below_drew1 | refine below_set ?_ GE173.out) | exact HB.out), by repeat (first | (with_reducible first | exact HBW.out | apply below_alloc | apply pw_below_drewN | apply below_drew1 | refine below_set ?_ GW173.out) | exact HBW.out)⟩
  · rw [if_neg c2] at H
    have c2b0 : decide (65536 < (a0.size : Int)) = false := decide_eq_false c2
    have c2b1 : decide (65536 < a0.size) = false := decide_eq_false (by omega)
    clear c2
    simp only [Option.some.injEq, Prod.mk.injEq] at H
    obtain ⟨rfl, rfl, rfl⟩ := H
    go_enter Try.func50, Try.ntmps50
    go_wp2_with (first | ((with_reducible refine gate_dst (N := 10) rfl ?_); refine box_event ?hg (N := 10) ?hd (cs := #[.string a0, .int .i64 0, .int .i64 0]) (t := 131) ?hr ?_; (case hd => rfl); (case hg => rfl); (case hr => first | (go_simp; done) | (go_simp; rfl)); intro gb174 hg w4 hbox hb; have n0_ := Aside0.mk (below_step HBW.out hb); have n1_ := Aside0.mk (below_step (by repeat (first | (with_reducible first | exact HB.out | apply below_alloc | apply pw_below_drewN | apply below_drew1) | exact HB.out)) hb); have n2_ := Aside0.mk (hbox); have n3_ := Aside0.mk ((by rw [hg]; exact (below_size (by repeat (first | (with_reducible first | exact HBW.out | apply below_alloc | apply pw_below_drewN | apply below_drew1) | exact HBW.out))) : w.heap.size ≤ gb174)); have n4_ := Aside0.mk ((Nat.le_trans HW0.out (by rw [hg]; exact (below_size (by repeat (first | (with_reducible first | exact HBW.out | apply below_alloc | apply pw_below_drewN | apply below_drew1) | exact HBW.out))) : w.heap.size ≤ gb174) : w0.heap.size ≤ gb174)); clear HBW; clear HB; have HBW := n0_; have HB := n1_; have BK174 := n2_; have GW174 := n3_; have GE174 := n4_; clear n0_ n1_ n2_ n3_ n4_; clear hb hbox hg))
    go_ret
    exact ⟨_, rfl, (show IsS131 w0 _ gb174 a0 0 0 from ⟨by (with_reducible repeat (first | refine blk_drewN ?_ _ | refine blk_drew ?_ | refine blk_alloc ?_ _)); exact BK174.out, GE174.out⟩), by repeat (first | (with_reducible first | exact HB.out | apply below_alloc | apply pw_below_drewN | apply below_drew1 | refine below_set ?_ GE174.out) | exact HB.out), by repeat (first | (with_reducible first | exact HBW.out | apply below_alloc | apply pw_below_drewN | apply below_drew1 | refine below_set ?_ GW174.out) | exact HBW.out)⟩

end Go.Proofs.Ytokapofgbcbajaa.Fns
