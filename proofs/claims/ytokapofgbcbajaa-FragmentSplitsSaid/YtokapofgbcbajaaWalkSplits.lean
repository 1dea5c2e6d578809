/- The law FragmentSplits: its walk. -/
import Derived.Test.YtokapofgbcbajaaREncode
import Derived.Test.YtokapofgbcbajaaMissPure
import Derived.Test.YtokapofgbcbajaaSplitPure
import Derived.Test.YtokapofgbcbajaaAwake
namespace Go.Proofs.Ytokapofgbcbajaa.Fns
open Go.RowKit Go.Proofs.YtokapofgbcbajaaW.PrintWords Go.Proofs.YtokapofgbcbajaaW.PrintLast Go.Proofs.YtokapofgbcbajaaW.PrintMore
set_option linter.unusedVariables false
set_option linter.unusedSimpArgs false
/-- The box of an array of four numbers. -/
def Arr4 (w : World) (g : Nat) (x0 x1 x2 x3 : Int) : Prop := w.heap[g]? = some (.cells #[.int .i64 x0, .int .i64 x1, .int .i64 x2, .int .i64 x3] 24 (0, 0))
theorem Arr4.cells {w : World} {g : Nat} {x0 x1 x2 x3 : Int} (h : Arr4 w g x0 x1 x2 x3) : w.cell? ⟨g, 0, none⟩ = some (.int .i64 x0) ∧ w.cell? ⟨g, 1, none⟩ = some (.int .i64 x1) ∧ w.cell? ⟨g, 2, none⟩ = some (.int .i64 x2) ∧ w.cell? ⟨g, 3, none⟩ = some (.int .i64 x3) :=
  ⟨(blk_cell h 0).trans rfl, (blk_cell h 1).trans rfl, (blk_cell h 2).trans rfl, (blk_cell h 3).trans rfl⟩
theorem Arr4.later {w wx : World} {g : Nat} {x0 x1 x2 x3 : Int} (h : Arr4 w g x0 x1 x2 x3) (hb : Below w.heap.size w wx) : Arr4 wx g x0 x1 x2 x3 := blk_later hb h
theorem Arr4.new (w : World) (x0 x1 x2 x3 : Int) : Arr4 (w.alloc (.cells #[.int .i64 x0, .int .i64 x1, .int .i64 x2, .int .i64 x3] 24)) w.heap.size x0 x1 x2 x3 := heap_alloc_new w _
theorem Arr4.new2 (w : World) (o : Obj) (x0 x1 x2 x3 : Int) : Arr4 ((w.alloc o).alloc (.cells #[.int .i64 x0, .int .i64 x1, .int .i64 x2, .int .i64 x3] 24)) (w.heap.size + 1) x0 x1 x2 x3 := by
  have := heap_alloc_new (w.alloc o) (.cells #[.int .i64 x0, .int .i64 x1, .int .i64 x2, .int .i64 x3] 24)
  simpa [Arr4] using this
theorem splitF_len (t : Int) (d : ByteArray) (m : Int) : (splitF t d m).1.length ≤ 4000 := by
  unfold splitF
  by_cases h : errS t d.size m = 0
  · rw [if_pos h, pieces_length]
    unfold errS at h
    by_cases h1 : t < 0 ∨ t > 255 ∨ m < 1 ∨ m > 120
    · rw [if_pos h1] at h; omega
    · rw [if_neg h1] at h
      by_cases h2 : d.size = 0
      · rw [if_pos h2] at h; omega
      · rw [if_neg h2] at h
        by_cases h3 : d.size > 4095
        · rw [if_pos h3] at h; omega
        · rw [if_neg h3] at h
          by_cases h4 : cntS d.size m.toNat > 32
          · rw [if_pos h4] at h; omega
          · omega
  · rw [if_neg h]; exact Nat.zero_le _
theorem missF_len (n b : Int) : (missF n b).1.length ≤ 4000 := by
  unfold missF
  by_cases h : n < 1 ∨ n > 32 ∨ b < 0 ∨ b ≥ 2 ^ n.toNat
  · rw [if_pos h]; exact Nat.zero_le _
  · rw [if_neg h]
    have := missL_len b n.toNat
    show (missL b n.toNat).length ≤ 4000
    omega
theorem refl_drew (W : World) : Below W.heap.size W W.drew := (Below.refl _ _).drew
set_option maxRecDepth 100000 in
set_option maxHeartbeats 4000000 in
theorem splits_walk (t i c s : Int) (d a1 : ByteArray) (x0 x1 x2 x3 : Int) (w : World) :
    Calls Try.prog 3 #[.agg #[.int .i64 t, .int .i64 i, .int .i64 c, .int .i64 s, .string d], .string a1, .agg #[.int .i64 x0, .int .i64 x1, .int .i64 x2, .int .i64 x3]] w fun e w' => e = .returned (.bool true) ∧ Below w.heap.size w w' := by
  have hu23 := Try.underlying23
  have hu24 := Try.underlying24
  have HA := Aside0.mk (show ∀ w, Calls Try.prog 10 #[] w fun e w' => e = .returned (.bool true) ∧ Below w.heap.size w w' from awake_walk)
  have HB0 := Aside0.mk (below_tr (below_new w (.cells #[.int .i64 t, .int .i64 i, .int .i64 c, .int .i64 s, .string d] 23)) (below_new _ (.cells #[.int .i64 x0, .int .i64 x1, .int .i64 x2, .int .i64 x3] 24)))
  have HX0 := Aside0.mk ((Box.new w t i c s d).later (below_new _ (.cells #[.int .i64 x0, .int .i64 x1, .int .i64 x2, .int .i64 x3] 24)))
  have HY0 := Aside0.mk (Arr4.new2 w (.cells #[.int .i64 t, .int .i64 i, .int .i64 c, .int .i64 s, .string d] 23) x0 x1 x2 x3)
  by_cases hbig : 5000 < d.size ∨ 5000 < a1.size
  · by_cases h1 : 5000 < d.size
    · have q1 : decide (5000 < (d.size : Int)) = true := decide_eq_true (by omega)
      have q1' : decide (5000 < d.size) = true := decide_eq_true h1
      clear h1 hbig
      go_enter Try.func3, Try.ntmps3
      go_wp2_with (go_at_call 10; (with_reducible refine (HA.out _).mono ?_); rintro e wa ⟨rfl, hba⟩; obtain ⟨y0, y1, y2, y3, y4⟩ := (HX0.out.later hba).cells)
      go_ret
      exact ⟨rfl, below_tr HB0.out hba⟩
    · have q1 : decide (5000 < (d.size : Int)) = false := decide_eq_false (by omega)
      have q1' : decide (5000 < d.size) = false := decide_eq_false h1
      have q2 : decide (5000 < (a1.size : Int)) = true := decide_eq_true (by omega)
      have q2' : decide (5000 < a1.size) = true := decide_eq_true (by omega)
      clear h1 hbig
      go_enter Try.func3, Try.ntmps3
      go_wp2_with (go_at_call 10; (with_reducible refine (HA.out _).mono ?_); rintro e wa ⟨rfl, hba⟩; obtain ⟨y0, y1, y2, y3, y4⟩ := (HX0.out.later hba).cells)
      go_ret
      exact ⟨rfl, below_tr HB0.out hba⟩
  · have q1 : decide (5000 < (d.size : Int)) = false := decide_eq_false (by omega)
    have q1' : decide (5000 < d.size) = false := decide_eq_false (by omega)
    have q2 : decide (5000 < (a1.size : Int)) = false := decide_eq_false (by omega)
    have q2' : decide (5000 < a1.size) = false := decide_eq_false (by omega)
    have hd : d.size ≤ 140737488351232 := by omega
    have ha : a1.size ≤ 140737488351232 := by omega
    obtain ⟨⟨sl, se⟩, hsp⟩ : ∃ y, y = splitF x0 a1 x1 := ⟨_, rfl⟩
    obtain ⟨⟨ml, me⟩, hms⟩ : ∃ y, y = missF x2 x3 := ⟨_, rfl⟩
    obtain ⟨⟨es, ee⟩, hen⟩ : ∃ y, y = encF t i c s d := ⟨_, rfl⟩
    have hsl := splitF_len x0 a1 x1
    have hml := missF_len x2 x3
    rw [← hsp] at hsl
    rw [← hms] at hml
    have H11 := Aside0.mk (fun w => fragment_Split.calls 40 x0 a1 x1 sl se w (by rw [split_eq x0 a1 x1 ha, ← hsp]))
    have H12 := Aside0.mk (fun w => hopmeshref15_Split.calls 40 x0 a1 x1 sl se w (by rw [rsplit_eq x0 a1 x1 ha, ← hsp]))
    have H15 := Aside0.mk (fun w => fragment_Missing.calls 40 x2 x3 ml me w (by rw [missing_eq, ← hms]))
    have H16 := Aside0.mk (fun w => hopmeshref15_Missing.calls 40 x2 x3 ml me w (by rw [rmissing_eq, ← hms]))
    have H13 := Aside0.mk (show ∀ w, Calls Try.prog 13 #[.agg #[.int .i64 t, .int .i64 i, .int .i64 c, .int .i64 s, .string d]] w fun e w' => e = .returned (.tuple #[.string es, .int .i64 ee]) ∧ Below w.heap.size w w' from fun w => by
      have h := encode_calls t i c s d hd w
      rw [← hen] at h
      exact h)
    have H14 := Aside0.mk (show ∀ w, Calls Try.prog 14 #[.agg #[.int .i64 t, .int .i64 i, .int .i64 c, .int .i64 s, .string d]] w fun e w' => e = .returned (.tuple #[.string es, .int .i64 ee]) ∧ Below w.heap.size w w' from fun w => by
      have h := rencode_calls t i c s d hd w
      rw [← hen] at h
      exact h)
    have H17 := Aside0.mk (check_calls t i c s d hd)
    have H18 := Aside0.mk (rcheck_calls t i c s d hd)
    have HSL := Aside0.mk (show sl.length ≤ 4000 from hsl)
    have HML := Aside0.mk (show ml.length ≤ 4000 from hml)
    generalize chkF t i c s d.size = ck at H17 H18
    clear hbig hd ha hsp hms hen hsl hml
    go_enter Try.func3, Try.ntmps3
    go_upto_region 3 with (go_at_call 10; (with_reducible refine (HA.out _).mono ?_); rintro e wa ⟨rfl, hba⟩)
    have hb := below_tr HB0.out hba
    have hx := HX0.out.later hba
    have hy := HY0.out.later hba
    obtain ⟨E, hE⟩ : ∃ E, w.heap.size = E := ⟨_, rfl⟩
    have HB1 := Aside0.mk hb
    rw [hE] at hx hy ⊢
    have HX1 := Aside0.mk hx
    have HY1 := Aside0.mk hy
    clear hE hb hx hy hba HB0 HX0 HY0 HA
    generalize wa = W1 at HB1 HX1 HY1 ⊢
    obtain ⟨y0, y1, y2, y3, y4⟩ := HX1.out.cells
    obtain ⟨z0, z1, z2, z3⟩ := HY1.out.cells
    go_upto_region 6 with (go_at_call 11; (with_reducible refine (H11.out _).mono ?_); rintro e W2 ⟨v, rfl, hR, hb⟩; obtain ⟨A1, k1, rfl, hk1, hC1⟩ := Kd.R_reads hR)
    have HB2 := Aside0.mk (below_tr HB1.out hb)
    have HX2 := Aside0.mk (HX1.out.later hb)
    have HY2 := Aside0.mk (HY1.out.later hb)
    have HC2 := Aside0.mk hC1
    have HK1 := Aside0.mk hk1
    clear hR hb hC1 hk1 y0 y1 y2 y3 y4 z0 z1 z2 z3 HB1 HX1 HY1 H11
    obtain ⟨z0, z1, z2, z3⟩ := HY2.out.cells
    go_upto_region 7 with (go_at_call 12; (with_reducible refine (H12.out _).mono ?_); rintro e W3 ⟨v, rfl, hR, hb⟩; obtain ⟨A2, k2, rfl, hk2, hC2⟩ := Kd.R_reads hR)
    have HB3 := Aside0.mk (below_tr HB2.out hb)
    have HX3 := Aside0.mk (HX2.out.later hb)
    have HY3 := Aside0.mk (HY2.out.later hb)
    have HC3 := Aside0.mk (Kd.C_below HC2.out hb)
    have HD3 := Aside0.mk hC2
    have HK2 := Aside0.mk hk2
    clear hR hb hC2 hk2 z0 z1 z2 z3 HB2 HX2 HY2 HC2 H12
    obtain ⟨y0, y1, y2, y3, y4⟩ := HX3.out.cells
    go_upto_region 8 with (go_at_call 13; (with_reducible refine (H13.out _).mono ?_); rintro e W4 ⟨rfl, hb⟩)
    have HB4 := Aside0.mk (below_tr HB3.out hb)
    have HX4 := Aside0.mk (HX3.out.later hb)
    have HY4 := Aside0.mk (HY3.out.later hb)
    have HC4 := Aside0.mk (Kd.C_below HC3.out hb)
    have HD4 := Aside0.mk (Kd.C_below HD3.out hb)
    clear hb y0 y1 y2 y3 y4 HB3 HX3 HY3 HC3 HD3 H13
    obtain ⟨y0, y1, y2, y3, y4⟩ := HX4.out.cells
    go_upto_region 9 with (go_at_call 14; (with_reducible refine (H14.out _).mono ?_); rintro e W5 ⟨rfl, hb⟩)
    have HB5 := Aside0.mk (below_tr HB4.out hb)
    have HX5 := Aside0.mk (HX4.out.later hb)
    have HY5 := Aside0.mk (HY4.out.later hb)
    have HC5 := Aside0.mk (Kd.C_below HC4.out hb)
    have HD5 := Aside0.mk (Kd.C_below HD4.out hb)
    clear hb y0 y1 y2 y3 y4 HB4 HX4 HY4 HC4 HD4 H14
    obtain ⟨z0, z1, z2, z3⟩ := HY5.out.cells
    go_upto_region 10 with (go_at_call 15; (with_reducible refine (H15.out _).mono ?_); rintro e W6 ⟨v, rfl, hR, hb⟩; obtain ⟨A3, k3, rfl, hk3, hC3⟩ := Kd.R_reads hR)
    have HB6 := Aside0.mk (below_tr HB5.out hb)
    have HX6 := Aside0.mk (HX5.out.later hb)
    have HY6 := Aside0.mk (HY5.out.later hb)
    have HC6 := Aside0.mk (Kd.C_below HC5.out hb)
    have HD6 := Aside0.mk (Kd.C_below HD5.out hb)
    have HE6 := Aside0.mk hC3
    have HK3 := Aside0.mk hk3
    clear hR hb hC3 hk3 z0 z1 z2 z3 HB5 HX5 HY5 HC5 HD5 H15
    obtain ⟨z0, z1, z2, z3⟩ := HY6.out.cells
    go_upto_region 11 with (go_at_call 16; (with_reducible refine (H16.out _).mono ?_); rintro e W7 ⟨v, rfl, hR, hb⟩; obtain ⟨A4, k4, rfl, hk4, hC4⟩ := Kd.R_reads hR)
    have HB7 := Aside0.mk (below_tr HB6.out hb)
    have HX7 := Aside0.mk (HX6.out.later hb)
    have HC7 := Aside0.mk (Kd.C_below HC6.out hb)
    have HD7 := Aside0.mk (Kd.C_below HD6.out hb)
    have HE7 := Aside0.mk (Kd.C_below HE6.out hb)
    have HF7 := Aside0.mk hC4
    have HK4 := Aside0.mk hk4
    clear hR hb hC4 hk4 z0 z1 z2 z3 HB6 HX6 HY6 HC6 HD6 HE6 H16
    have H19 := Aside0.mk (show ∀ v, Below W7.heap.size W7 v → Calls Try.prog 19 #[.slice A1 sl.length k1, .slice A2 sl.length k2] v fun e w' => e = .returned (.bool true) ∧ Drawn0 v w' from fun v hv =>
      api_Fragment.calls _ A1 k1 sl A2 k2 sl true v (Kd.C_below HC7.out hv) HK1.out (Kd.C_below HD7.out hv) HK2.out (eqF_refl sl HSL.out))
    have H20 := Aside0.mk (show ∀ v, Below W7.heap.size W7 v → Calls Try.prog 20 #[.slice A3 ml.length k3, .slice A4 ml.length k4] v fun e w' => e = .returned (.bool true) ∧ Drawn0 v w' from fun v hv =>
      slices_Equal_int_int.calls _ A3 k3 ml A4 k4 ml true v (Kd.C_below HE7.out hv) HK3.out (Kd.C_below HF7.out hv) HK4.out (eqI_refl ml HML.out))
    obtain ⟨y0, y1, y2, y3, y4⟩ := HX7.out.cells
    have hb0 := refl_drew W7
    clear HC7 HD7 HE7 HF7 HK1 HK2 HK3 HK4 HSL HML
    generalize sl.length = n1 at H19 ⊢
    generalize ml.length = n2 at H20 ⊢
    refine start_ (n := 36) (S := fun w' => (Below W7.heap.size W7 w') ∧ (w'.cell? ⟨E, 0, none⟩ = some (.int .i64 t)) ∧ (w'.cell? ⟨E, 1, none⟩ = some (.int .i64 i)) ∧ (w'.cell? ⟨E, 2, none⟩ = some (.int .i64 c)) ∧ (w'.cell? ⟨E, 3, none⟩ = some (.int .i64 s)) ∧ (w'.cell? ⟨E, 4, none⟩ = some (.string d))) (ds := [35]) #[false, false, false, false, false, false, false, false, false, false, false, false, false, false, false, false, false, false, false, false, false, false, false, false, false, false, false, false, false, false, false, false, false, false, false, false] (by kernel_rfl) rfl rfl ⟨hb0, y0, y1, y2, y3, y4⟩ (fun hHeld => ?_)
    refine take_ (i := 0) (N := some 74) (v := ?_) (a' := ?_) #[true, false, false, false, false, false, false, false, false, false, false, false, false, false, false, false, false, false, false, false, false, false, false, false, false, false, false, false, false, false, false, false, false, false, false, false] rfl rfl (by kernel_rfl) (fun _ _ _ h => h) (Or.inl ⟨by rfl, ?_⟩) hHeld ?_ ?_
    rotate_left
    · rintro w' ⟨s0, s1, s2, s3, s4, s5⟩
      go_simp
      with_reducible rfl
    rotate_left
    · simp only [Act.put, List.setIfInBounds_toArray, List.set_cons_zero, List.set_cons_succ, i64_w, i32_w]
      rfl
    refine take_ (i := 2) (N := some 76) (v := ?_) (a' := ?_) #[true, false, true, false, false, false, false, false, false, false, false, false, false, false, false, false, false, false, false, false, false, false, false, false, false, false, false, false, false, false, false, false, false, false, false, false] rfl rfl (by kernel_rfl) (fun _ _ _ h => h) (Or.inl ⟨by rfl, ?_⟩) hHeld ?_ ?_
    rotate_left
    · rintro w' ⟨s0, s1, s2, s3, s4, s5⟩
      go_simp
      with_reducible rfl
    rotate_left
    · simp only [Act.put, List.setIfInBounds_toArray, List.set_cons_zero, List.set_cons_succ, i64_w, i32_w]
      rfl
    refine one_ (i := 1) (N := some 75) #[true, true, true, false, false, false, false, false, false, false, false, false, false, false, false, false, false, false, false, false, false, false, false, false, false, false, false, false, false, false, false, false, false, false, false, false] rfl rfl (by kernel_rfl) (by decide) (fun K hK => ?_)
    refine goes_ Try.func17 (by kernel_rfl) rfl #[.agg #[.int .i64 t, .int .i64 i, .int .i64 c, .int .i64 s, .string d]] (by rfl) rfl rfl (by (try simp only [List.map_toArray, List.map_cons, List.map_nil]); first | done | rfl) ?_
    with_reducible refine (H17.out _).mono ?_
    rintro e v1 ⟨rfl, hv1⟩
    refine ⟨_, rfl, ?_⟩
    refine hK.out _ _ ⟨below_tr hHeld.1 hv1, cell_later hv1 hHeld.2.1, cell_later hv1 hHeld.2.2.1, cell_later hv1 hHeld.2.2.2.1, cell_later hv1 hHeld.2.2.2.2.1, cell_later hv1 hHeld.2.2.2.2.2⟩ (fun hHeld => ?_)
    clear hK K
    refine norm_ (a' := ?_) ?_ ?_
    rotate_left
    · show Act.put _ (some 75) _ = _
      simp only [Act.put, List.setIfInBounds_toArray, List.set_cons_zero, List.set_cons_succ, i64_w, i32_w]
      rfl
    refine one_ (i := 3) (N := some 77) #[true, true, true, true, false, false, false, false, false, false, false, false, false, false, false, false, false, false, false, false, false, false, false, false, false, false, false, false, false, false, false, false, false, false, false, false] rfl rfl (by kernel_rfl) (by decide) (fun K hK => ?_)
    refine goes_ Try.func18 (by kernel_rfl) rfl #[.agg #[.int .i64 t, .int .i64 i, .int .i64 c, .int .i64 s, .string d]] (by rfl) rfl rfl (by (try simp only [List.map_toArray, List.map_cons, List.map_nil]); first | done | rfl) ?_
    with_reducible refine (H18.out _).mono ?_
    rintro e v2 ⟨rfl, hv2⟩
    refine ⟨_, rfl, ?_⟩
    refine hK.out _ _ ⟨below_tr hHeld.1 hv2, cell_later hv2 hHeld.2.1, cell_later hv2 hHeld.2.2.1, cell_later hv2 hHeld.2.2.2.1, cell_later hv2 hHeld.2.2.2.2.1, cell_later hv2 hHeld.2.2.2.2.2⟩ (fun hHeld => ?_)
    clear hK K
    refine norm_ (a' := ?_) ?_ ?_
    rotate_left
    · show Act.put _ (some 77) _ = _
      simp only [Act.put, List.setIfInBounds_toArray, List.set_cons_zero, List.set_cons_succ, i64_w, i32_w]
      rfl
    refine pure_ (i := 4) (N := some 78) (v := ?_) (a' := ?_) #[true, true, true, true, true, false, false, false, false, false, false, false, false, false, false, false, false, false, false, false, false, false, false, false, false, false, false, false, false, false, false, false, false, false, false, false] rfl rfl (by kernel_rfl) (fun _ _ _ h => h) (Or.inl ⟨by rfl, ?_⟩) ?_ ?_
    rotate_left
    · intro w'
      go_simp
      with_reducible rfl
    rotate_left
    · simp only [Act.put, List.setIfInBounds_toArray, List.set_cons_zero, List.set_cons_succ, i64_w, i32_w]
      rfl
    refine pure_ (i := 5) (N := some 79) (v := ?_) (a' := ?_) #[true, true, true, true, true, true, false, false, false, false, false, false, false, false, false, false, false, false, false, false, false, false, false, false, false, false, false, false, false, false, false, false, false, false, false, false] rfl rfl (by kernel_rfl) (fun _ _ _ h => h) (Or.inl ⟨by rfl, ?_⟩) ?_ ?_
    rotate_left
    · intro w'
      go_simp
      with_reducible rfl
    rotate_left
    · simp only [Act.put, List.setIfInBounds_toArray, List.set_cons_zero, List.set_cons_succ, i64_w, i32_w]
      rfl
    refine pure_ (i := 6) (N := some 80) (v := ?_) (a' := ?_) #[true, true, true, true, true, true, true, false, false, false, false, false, false, false, false, false, false, false, false, false, false, false, false, false, false, false, false, false, false, false, false, false, false, false, false, false] rfl rfl (by kernel_rfl) (fun _ _ _ h => h) (Or.inl ⟨by rfl, ?_⟩) ?_ ?_
    rotate_left
    · intro w'
      go_simp
      with_reducible rfl
    rotate_left
    · simp only [Act.put, List.setIfInBounds_toArray, List.set_cons_zero, List.set_cons_succ, i64_w, i32_w]
      rfl
    refine pure_ (i := 7) (N := some 81) (v := ?_) (a' := ?_) #[true, true, true, true, true, true, true, true, false, false, false, false, false, false, false, false, false, false, false, false, false, false, false, false, false, false, false, false, false, false, false, false, false, false, false, false] rfl rfl (by kernel_rfl) (fun _ _ _ h => h) (Or.inl ⟨by rfl, ?_⟩) ?_ ?_
    rotate_left
    · intro w'
      go_simp
      with_reducible rfl
    rotate_left
    · simp only [Act.put, List.setIfInBounds_toArray, List.set_cons_zero, List.set_cons_succ, i64_w, i32_w]
      rfl
    refine one_ (i := 8) (N := some 82) #[true, true, true, true, true, true, true, true, true, false, false, false, false, false, false, false, false, false, false, false, false, false, false, false, false, false, false, false, false, false, false, false, false, false, false, false] rfl rfl (by kernel_rfl) (by decide) (fun K hK => ?_)
    refine goes_ Try.func19 (by kernel_rfl) rfl #[.slice A1 n1 k1, .slice A2 n1 k2] (by rfl) rfl rfl (by (try simp only [List.map_toArray, List.map_cons, List.map_nil]); first | done | rfl) ?_
    with_reducible refine (H19.out _ hHeld.1).mono ?_
    rintro e v3 ⟨rfl, hv3_d⟩; have hv3 := hv3_d.below
    refine ⟨_, rfl, ?_⟩
    refine hK.out _ _ ⟨below_tr hHeld.1 hv3, cell_later hv3 hHeld.2.1, cell_later hv3 hHeld.2.2.1, cell_later hv3 hHeld.2.2.2.1, cell_later hv3 hHeld.2.2.2.2.1, cell_later hv3 hHeld.2.2.2.2.2⟩ (fun hHeld => ?_)
    clear hK K
    refine norm_ (a' := ?_) ?_ ?_
    rotate_left
    · show Act.put _ (some 82) _ = _
      simp only [Act.put, List.setIfInBounds_toArray, List.set_cons_zero, List.set_cons_succ, i64_w, i32_w]
      rfl
    refine pure_ (i := 9) (N := some 83) (v := ?_) (a' := ?_) #[true, true, true, true, true, true, true, true, true, true, false, false, false, false, false, false, false, false, false, false, false, false, false, false, false, false, false, false, false, false, false, false, false, false, false, false] rfl rfl (by kernel_rfl) (fun _ _ _ h => h) (Or.inl ⟨by rfl, ?_⟩) ?_ ?_
    rotate_left
    · intro w'
      go_simp
      with_reducible rfl
    rotate_left
    · simp only [Act.put, List.setIfInBounds_toArray, List.set_cons_zero, List.set_cons_succ, i64_w, i32_w]
      rfl
    refine pure_ (i := 10) (N := some 84) (v := ?_) (a' := ?_) #[true, true, true, true, true, true, true, true, true, true, true, false, false, false, false, false, false, false, false, false, false, false, false, false, false, false, false, false, false, false, false, false, false, false, false, false] rfl rfl (by kernel_rfl) (fun _ _ _ h => h) (Or.inl ⟨by rfl, ?_⟩) ?_ ?_
    rotate_left
    · intro w'
      go_simp
      with_reducible rfl
    rotate_left
    · simp only [Act.put, List.setIfInBounds_toArray, List.set_cons_zero, List.set_cons_succ, i64_w, i32_w]
      rfl
    refine pure_ (i := 11) (N := some 85) (v := ?_) (a' := ?_) #[true, true, true, true, true, true, true, true, true, true, true, true, false, false, false, false, false, false, false, false, false, false, false, false, false, false, false, false, false, false, false, false, false, false, false, false] rfl rfl (by kernel_rfl) (fun _ _ _ h => h) (Or.inl ⟨by rfl, ?_⟩) ?_ ?_
    rotate_left
    · intro w'
      go_simp
      with_reducible rfl
    rotate_left
    · simp only [Act.put, List.setIfInBounds_toArray, List.set_cons_zero, List.set_cons_succ, i64_w, i32_w]
      rfl
    refine pure_ (i := 12) (N := some 86) (v := ?_) (a' := ?_) #[true, true, true, true, true, true, true, true, true, true, true, true, true, false, false, false, false, false, false, false, false, false, false, false, false, false, false, false, false, false, false, false, false, false, false, false] rfl rfl (by kernel_rfl) (fun _ _ _ h => h) (Or.inl ⟨by rfl, ?_⟩) ?_ ?_
    rotate_left
    · intro w'
      go_simp
      with_reducible rfl
    rotate_left
    · simp only [Act.put, List.setIfInBounds_toArray, List.set_cons_zero, List.set_cons_succ, i64_w, i32_w]
      rfl
    refine pure_ (i := 13) (N := some 87) (v := ?_) (a' := ?_) #[true, true, true, true, true, true, true, true, true, true, true, true, true, true, false, false, false, false, false, false, false, false, false, false, false, false, false, false, false, false, false, false, false, false, false, false] rfl rfl (by kernel_rfl) (fun _ _ _ h => h) (Or.inl ⟨by rfl, ?_⟩) ?_ ?_
    rotate_left
    · intro w'
      go_simp
      with_reducible rfl
    rotate_left
    · simp only [Act.put, List.setIfInBounds_toArray, List.set_cons_zero, List.set_cons_succ, i64_w, i32_w]
      rfl
    refine pure_ (i := 14) (N := some 88) (v := ?_) (a' := ?_) #[true, true, true, true, true, true, true, true, true, true, true, true, true, true, true, false, false, false, false, false, false, false, false, false, false, false, false, false, false, false, false, false, false, false, false, false] rfl rfl (by kernel_rfl) (fun _ _ _ h => h) (Or.inl ⟨by rfl, ?_⟩) ?_ ?_
    rotate_left
    · intro w'
      go_simp
      with_reducible rfl
    rotate_left
    · simp only [Act.put, List.setIfInBounds_toArray, List.set_cons_zero, List.set_cons_succ, i64_w, i32_w]
      rfl
    refine pure_ (i := 15) (N := some 89) (v := ?_) (a' := ?_) #[true, true, true, true, true, true, true, true, true, true, true, true, true, true, true, true, false, false, false, false, false, false, false, false, false, false, false, false, false, false, false, false, false, false, false, false] rfl rfl (by kernel_rfl) (fun _ _ _ h => h) (Or.inl ⟨by rfl, ?_⟩) ?_ ?_
    rotate_left
    · intro w'
      go_simp
      with_reducible rfl
    rotate_left
    · simp only [Act.put, List.setIfInBounds_toArray, List.set_cons_zero, List.set_cons_succ, i64_w, i32_w]
      rfl
    refine pure_ (i := 16) (N := some 90) (v := ?_) (a' := ?_) #[true, true, true, true, true, true, true, true, true, true, true, true, true, true, true, true, true, false, false, false, false, false, false, false, false, false, false, false, false, false, false, false, false, false, false, false] rfl rfl (by kernel_rfl) (fun _ _ _ h => h) (Or.inl ⟨by rfl, ?_⟩) ?_ ?_
    rotate_left
    · intro w'
      go_simp
      with_reducible rfl
    rotate_left
    · simp only [Act.put, List.setIfInBounds_toArray, List.set_cons_zero, List.set_cons_succ, i64_w, i32_w]
      rfl
    refine pure_ (i := 17) (N := some 91) (v := ?_) (a' := ?_) #[true, true, true, true, true, true, true, true, true, true, true, true, true, true, true, true, true, true, false, false, false, false, false, false, false, false, false, false, false, false, false, false, false, false, false, false] rfl rfl (by kernel_rfl) (fun _ _ _ h => h) (Or.inl ⟨by rfl, ?_⟩) ?_ ?_
    rotate_left
    · intro w'
      go_simp
      with_reducible rfl
    rotate_left
    · simp only [Act.put, List.setIfInBounds_toArray, List.set_cons_zero, List.set_cons_succ, i64_w, i32_w]
      rfl
    refine pure_ (i := 18) (N := some 92) (v := ?_) (a' := ?_) #[true, true, true, true, true, true, true, true, true, true, true, true, true, true, true, true, true, true, true, false, false, false, false, false, false, false, false, false, false, false, false, false, false, false, false, false] rfl rfl (by kernel_rfl) (fun _ _ _ h => h) (Or.inl ⟨by rfl, ?_⟩) ?_ ?_
    rotate_left
    · intro w'
      go_simp
      with_reducible rfl
    rotate_left
    · simp only [Act.put, List.setIfInBounds_toArray, List.set_cons_zero, List.set_cons_succ, i64_w, i32_w]
      rfl
    refine pure_ (i := 19) (N := some 93) (v := ?_) (a' := ?_) #[true, true, true, true, true, true, true, true, true, true, true, true, true, true, true, true, true, true, true, true, false, false, false, false, false, false, false, false, false, false, false, false, false, false, false, false] rfl rfl (by kernel_rfl) (fun _ _ _ h => h) (Or.inl ⟨by rfl, ?_⟩) ?_ ?_
    rotate_left
    · intro w'
      go_simp
      with_reducible rfl
    rotate_left
    · simp only [Act.put, List.setIfInBounds_toArray, List.set_cons_zero, List.set_cons_succ, i64_w, i32_w]
      rfl
    refine pure_ (i := 20) (N := some 94) (v := ?_) (a' := ?_) #[true, true, true, true, true, true, true, true, true, true, true, true, true, true, true, true, true, true, true, true, true, false, false, false, false, false, false, false, false, false, false, false, false, false, false, false] rfl rfl (by kernel_rfl) (fun _ _ _ h => h) (Or.inl ⟨by rfl, ?_⟩) ?_ ?_
    rotate_left
    · intro w'
      go_simp
      with_reducible rfl
    rotate_left
    · simp only [Act.put, List.setIfInBounds_toArray, List.set_cons_zero, List.set_cons_succ, i64_w, i32_w]
      rfl
    refine pure_ (i := 21) (N := some 95) (v := ?_) (a' := ?_) #[true, true, true, true, true, true, true, true, true, true, true, true, true, true, true, true, true, true, true, true, true, true, false, false, false, false, false, false, false, false, false, false, false, false, false, false] rfl rfl (by kernel_rfl) (fun _ _ _ h => h) (Or.inl ⟨by rfl, ?_⟩) ?_ ?_
    rotate_left
    · intro w'
      go_simp
      with_reducible rfl
    rotate_left
    · simp only [Act.put, List.setIfInBounds_toArray, List.set_cons_zero, List.set_cons_succ, i64_w, i32_w]
      rfl
    refine pure_ (i := 22) (N := some 96) (v := ?_) (a' := ?_) #[true, true, true, true, true, true, true, true, true, true, true, true, true, true, true, true, true, true, true, true, true, true, true, false, false, false, false, false, false, false, false, false, false, false, false, false] rfl rfl (by kernel_rfl) (fun _ _ _ h => h) (Or.inl ⟨by rfl, ?_⟩) ?_ ?_
    rotate_left
    · intro w'
      go_simp
      with_reducible rfl
    rotate_left
    · simp only [Act.put, List.setIfInBounds_toArray, List.set_cons_zero, List.set_cons_succ, i64_w, i32_w]
      rfl
    refine pure_ (i := 23) (N := some 97) (v := ?_) (a' := ?_) #[true, true, true, true, true, true, true, true, true, true, true, true, true, true, true, true, true, true, true, true, true, true, true, true, false, false, false, false, false, false, false, false, false, false, false, false] rfl rfl (by kernel_rfl) (fun _ _ _ h => h) (Or.inl ⟨by rfl, ?_⟩) ?_ ?_
    rotate_left
    · intro w'
      go_simp
      with_reducible rfl
    rotate_left
    · simp only [Act.put, List.setIfInBounds_toArray, List.set_cons_zero, List.set_cons_succ, i64_w, i32_w]
      rfl
    refine pure_ (i := 24) (N := some 98) (v := ?_) (a' := ?_) #[true, true, true, true, true, true, true, true, true, true, true, true, true, true, true, true, true, true, true, true, true, true, true, true, true, false, false, false, false, false, false, false, false, false, false, false] rfl rfl (by kernel_rfl) (fun _ _ _ h => h) (Or.inl ⟨by rfl, ?_⟩) ?_ ?_
    rotate_left
    · intro w'
      go_simp
      with_reducible rfl
    rotate_left
    · simp only [Act.put, List.setIfInBounds_toArray, List.set_cons_zero, List.set_cons_succ, i64_w, i32_w]
      rfl
    refine pure_ (i := 25) (N := some 99) (v := ?_) (a' := ?_) #[true, true, true, true, true, true, true, true, true, true, true, true, true, true, true, true, true, true, true, true, true, true, true, true, true, true, false, false, false, false, false, false, false, false, false, false] rfl rfl (by kernel_rfl) (fun _ _ _ h => h) (Or.inl ⟨by rfl, ?_⟩) ?_ ?_
    rotate_left
    · intro w'
      go_simp
      with_reducible rfl
    rotate_left
    · simp only [Act.put, List.setIfInBounds_toArray, List.set_cons_zero, List.set_cons_succ, i64_w, i32_w]
      rfl
    refine pure_ (i := 26) (N := some 100) (v := ?_) (a' := ?_) #[true, true, true, true, true, true, true, true, true, true, true, true, true, true, true, true, true, true, true, true, true, true, true, true, true, true, true, false, false, false, false, false, false, false, false, false] rfl rfl (by kernel_rfl) (fun _ _ _ h => h) (Or.inl ⟨by rfl, ?_⟩) ?_ ?_
    rotate_left
    · intro w'
      go_simp
      with_reducible rfl
    rotate_left
    · simp only [Act.put, List.setIfInBounds_toArray, List.set_cons_zero, List.set_cons_succ, i64_w, i32_w]
      rfl
    refine pure_ (i := 27) (N := some 101) (v := ?_) (a' := ?_) #[true, true, true, true, true, true, true, true, true, true, true, true, true, true, true, true, true, true, true, true, true, true, true, true, true, true, true, true, false, false, false, false, false, false, false, false] rfl rfl (by kernel_rfl) (fun _ _ _ h => h) (Or.inl ⟨by rfl, ?_⟩) ?_ ?_
    rotate_left
    · intro w'
      go_simp
      with_reducible rfl
    rotate_left
    · simp only [Act.put, List.setIfInBounds_toArray, List.set_cons_zero, List.set_cons_succ, i64_w, i32_w]
      rfl
    refine one_ (i := 28) (N := some 102) #[true, true, true, true, true, true, true, true, true, true, true, true, true, true, true, true, true, true, true, true, true, true, true, true, true, true, true, true, true, false, false, false, false, false, false, false] rfl rfl (by kernel_rfl) (by decide) (fun K hK => ?_)
    refine goes_ Try.func20 (by kernel_rfl) rfl #[.slice A3 n2 k3, .slice A4 n2 k4] (by rfl) rfl rfl (by (try simp only [List.map_toArray, List.map_cons, List.map_nil]); first | done | rfl) ?_
    with_reducible refine (H20.out _ hHeld.1).mono ?_
    rintro e v4 ⟨rfl, hv4_d⟩; have hv4 := hv4_d.below
    refine ⟨_, rfl, ?_⟩
    refine hK.out _ _ ⟨below_tr hHeld.1 hv4, cell_later hv4 hHeld.2.1, cell_later hv4 hHeld.2.2.1, cell_later hv4 hHeld.2.2.2.1, cell_later hv4 hHeld.2.2.2.2.1, cell_later hv4 hHeld.2.2.2.2.2⟩ (fun hHeld => ?_)
    clear hK K
    refine norm_ (a' := ?_) ?_ ?_
    rotate_left
    · show Act.put _ (some 102) _ = _
      simp only [Act.put, List.setIfInBounds_toArray, List.set_cons_zero, List.set_cons_succ, i64_w, i32_w]
      rfl
    refine pure_ (i := 29) (N := some 103) (v := ?_) (a' := ?_) #[true, true, true, true, true, true, true, true, true, true, true, true, true, true, true, true, true, true, true, true, true, true, true, true, true, true, true, true, true, true, false, false, false, false, false, false] rfl rfl (by kernel_rfl) (fun _ _ _ h => h) (Or.inl ⟨by rfl, ?_⟩) ?_ ?_
    rotate_left
    · intro w'
      go_simp
      with_reducible rfl
    rotate_left
    · simp only [Act.put, List.setIfInBounds_toArray, List.set_cons_zero, List.set_cons_succ, i64_w, i32_w]
      rfl
    refine pure_ (i := 30) (N := some 104) (v := ?_) (a' := ?_) #[true, true, true, true, true, true, true, true, true, true, true, true, true, true, true, true, true, true, true, true, true, true, true, true, true, true, true, true, true, true, true, false, false, false, false, false] rfl rfl (by kernel_rfl) (fun _ _ _ h => h) (Or.inl ⟨by rfl, ?_⟩) ?_ ?_
    rotate_left
    · intro w'
      go_simp
      with_reducible rfl
    rotate_left
    · simp only [Act.put, List.setIfInBounds_toArray, List.set_cons_zero, List.set_cons_succ, i64_w, i32_w]
      rfl
    refine pure_ (i := 31) (N := some 105) (v := ?_) (a' := ?_) #[true, true, true, true, true, true, true, true, true, true, true, true, true, true, true, true, true, true, true, true, true, true, true, true, true, true, true, true, true, true, true, true, false, false, false, false] rfl rfl (by kernel_rfl) (fun _ _ _ h => h) (Or.inl ⟨by rfl, ?_⟩) ?_ ?_
    rotate_left
    · intro w'
      go_simp
      with_reducible rfl
    rotate_left
    · simp only [Act.put, List.setIfInBounds_toArray, List.set_cons_zero, List.set_cons_succ, i64_w, i32_w]
      rfl
    refine pure_ (i := 32) (N := some 106) (v := ?_) (a' := ?_) #[true, true, true, true, true, true, true, true, true, true, true, true, true, true, true, true, true, true, true, true, true, true, true, true, true, true, true, true, true, true, true, true, true, false, false, false] rfl rfl (by kernel_rfl) (fun _ _ _ h => h) (Or.inl ⟨by rfl, ?_⟩) ?_ ?_
    rotate_left
    · intro w'
      go_simp
      with_reducible rfl
    rotate_left
    · simp only [Act.put, List.setIfInBounds_toArray, List.set_cons_zero, List.set_cons_succ, i64_w, i32_w]
      rfl
    refine pure_ (i := 33) (N := some 107) (v := ?_) (a' := ?_) #[true, true, true, true, true, true, true, true, true, true, true, true, true, true, true, true, true, true, true, true, true, true, true, true, true, true, true, true, true, true, true, true, true, true, false, false] rfl rfl (by kernel_rfl) (fun _ _ _ h => h) (Or.inl ⟨by rfl, ?_⟩) ?_ ?_
    rotate_left
    · intro w'
      go_simp
      with_reducible rfl
    rotate_left
    · simp only [Act.put, List.setIfInBounds_toArray, List.set_cons_zero, List.set_cons_succ, i64_w, i32_w]
      rfl
    refine pure_ (i := 34) (N := some 108) (v := ?_) (a' := ?_) #[true, true, true, true, true, true, true, true, true, true, true, true, true, true, true, true, true, true, true, true, true, true, true, true, true, true, true, true, true, true, true, true, true, true, true, false] rfl rfl (by kernel_rfl) (fun _ _ _ h => h) (Or.inl ⟨by rfl, ?_⟩) ?_ ?_
    rotate_left
    · intro w'
      go_simp
      with_reducible rfl
    rotate_left
    · simp only [Act.put, List.setIfInBounds_toArray, List.set_cons_zero, List.set_cons_succ, i64_w, i32_w]
      rfl
    refine pure_ (i := 35) (N := some 6) (v := ?_) (a' := ?_) #[true, true, true, true, true, true, true, true, true, true, true, true, true, true, true, true, true, true, true, true, true, true, true, true, true, true, true, true, true, true, true, true, true, true, true, true] rfl rfl (by kernel_rfl) (fun _ _ _ h => h) (Or.inl ⟨by rfl, ?_⟩) ?_ ?_
    rotate_left
    · intro w'
      go_simp
      with_reducible rfl
    rotate_left
    · simp only [Act.put, List.setIfInBounds_toArray, List.set_cons_zero, List.set_cons_succ, i64_w, i32_w]
      rfl
    refine done_ (by kernel_rfl) ?_
    go_wp2
    go_ret
    exact ⟨rfl, HB7.out.trans (hHeld.1.mono HB7.out.size)⟩
end Go.Proofs.Ytokapofgbcbajaa.Fns
