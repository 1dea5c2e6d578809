/- The law FragmentBack: its walk. -/
import Derived.Test.YtokapofgbcbajaaBackPure
import Derived.Test.YtokapofgbcbajaaAwake
import Derived.Test.YtokapofgbcbajaaDecode
namespace Go.Proofs.Ytokapofgbcbajaa.Fns
open Go.RowKit Go.Proofs.YtokapofgbcbajaaW.PrintWords Go.Proofs.YtokapofgbcbajaaW.PrintLast Go.Proofs.YtokapofgbcbajaaW.PrintMore
attribute [local go_sem high] eqA23
set_option linter.unusedVariables false
set_option linter.unusedSimpArgs false
theorem back_nums {a0 : Int} {a1 : ByteArray} {m n j : Nat} (hs : 1 ≤ a1.size ∧ a1.size ≤ 4095) (hn : n = cntS a1.size m) (hj : j < n) {pd : ByteArray} (hpd : pd = a1.extract (j * m) (min ((j + 1) * m) a1.size)) (hP : pd.size ≤ m) (hm : 1 ≤ m ∧ m ≤ 120) (hc : n ≤ 32) :
    (pieces a0 a1 m n)[j]? = some ⟨a0, j, (n : Nat), (a1.size : Nat), pd⟩ ∧ (a1.extract 0 (min (j * m) a1.size)).size + pd.size ≤ 5000 ∧ decide ((m : Int) < (pd.size : Int)) = false ∧ decide (m < pd.size) = false ∧
    wrap64 ((pd.size : Int) + 4) = (pd.size : Int) + 4 ∧ wrap64 ((j : Int) + 1) = ((j + 1 : Nat) : Int) ∧ decide ((j : Int) < (n : Int)) = true ∧ decide (j < n) = true := by
  refine ⟨?_, ?_, decide_eq_false (by omega), decide_eq_false (by omega), wrap_in (by omega), ?_, decide_eq_true (by omega), decide_eq_true hj⟩
  · rw [pieces, List.getElem?_map, List.getElem?_range hj, hn, hpd]
    rfl
  · rw [ByteArray.size_extract]
    generalize j * m = x
    omega
  · rw [wrap_in (by omega)]; omega
theorem back_end {a1 : ByteArray} {m n j : Nat} (hX : 1 ≤ n ∧ (n - 1) * m < a1.size ∧ a1.size ≤ n * m) (hJ : j ≤ n) (hlt : ¬ j < n) (hc : n ≤ 32) :
    decide ((j : Int) < (n : Int)) = false ∧ decide (j < n) = false ∧ a1.extract 0 (min (j * m) a1.size) = a1 ∧ decide ((n : Int) ≤ 32) = true ∧ decide (n ≤ 32) = true := by
  obtain rfl : j = n := Nat.le_antisymm hJ (Nat.le_of_not_lt hlt)
  refine ⟨decide_eq_false (by omega), decide_eq_false hlt, ?_, decide_eq_true (by omega), decide_eq_true hc⟩
  rw [Nat.min_eq_right hX.2.2, ext_all]
theorem add_ok (x y : ByteArray) (hxy : x.size + y.size ≤ 5000) (w : World) : (Op.stringOp .add x y).run Try.prog w = .ok (.string (x ++ y)) w := run_string_add_sum w x y (by omega)
theorem not_big {z : Nat} (h : ¬ z > 4095) : ¬ 4095 < (z : Int) := by omega
theorem meas_up {n j : Nat} (h : j < n) : ((n : Int) - ((j + 1 : Nat) : Int)).toNat < ((n : Int) - (j : Int)).toNat := by omega
theorem ext_zero (d : ByteArray) : d.extract 0 0 = ⟨#[]⟩ := by
  apply ByteArray.ext_getElem
  · rw [ByteArray.size_extract]; rfl
  · intro j h1 h2
    rw [ByteArray.size_extract] at h1
    omega
theorem back_facts {a0 : Int} {a1 : ByteArray} {m n j : Nat} (hs : 1 ≤ a1.size ∧ a1.size ≤ 4095) (hn : n = cntS a1.size m) (hj : j < n) {pd : ByteArray} (hpd : pd = a1.extract (j * m) (min ((j + 1) * m) a1.size))
    (hP : lenF a0 j (n : Nat) (a1.size : Nat) ((pd.size : Nat) : Int) ≠ 0 ∧ pd.size ≤ m) (hm : 1 ≤ m ∧ m ≤ 120) (hc : n ≤ 32) :
    ∃ es : ByteArray, (es.size : Int) = (pd.size : Int) + 4 ∧ (∀ w, Calls Try.prog 13 #[.agg #[.int .i64 a0, .int .i64 (j : Int), .int .i64 (n : Int), .int .i64 (a1.size : Int), .string pd]] w fun e w' => e = .returned (.tuple #[.string es, .int .i64 0]) ∧ Below w.heap.size w w') ∧
      (∀ w, Calls Try.prog 26 #[.string es] w fun e w' => e = .returned (.tuple #[.agg #[.int .i64 a0, .int .i64 (j : Int), .int .i64 (n : Int), .int .i64 (a1.size : Int), .string pd], .int .i64 0]) ∧ Below w.heap.size w w') ∧
      (∀ w, Calls Try.prog 17 #[.agg #[.int .i64 a0, .int .i64 (j : Int), .int .i64 (n : Int), .int .i64 (a1.size : Int), .string pd]] w fun e w' => e = .returned (.int .i64 0) ∧ Below w.heap.size w w') ∧
      a1.extract 0 (min (j * m) a1.size) ++ pd = a1.extract 0 (min ((j + 1) * m) a1.size) := by
  have hz : (strOfNums (head4 a0 j (n : Nat) (a1.size : Nat))).size = 4 := by rw [strOfNums_size]; rfl
  have hpz : pd.size ≤ 120 := by omega
  refine ⟨strOfNums (head4 a0 j (n : Nat) (a1.size : Nat)) ++ pd, ?_, fun w => ?_, fun w => ?_, fun w => ?_, ?_⟩
  · rw [ByteArray.size_append, hz]; omega
  · have h := encode_calls a0 j (n : Nat) (a1.size : Nat) pd (by omega) w
    unfold encF at h
    rw [if_neg hP.1] at h
    exact h
  · have h := decode_walk (strOfNums (head4 a0 j (n : Nat) (a1.size : Nat)) ++ pd) (by rw [ByteArray.size_append, hz]; omega) w
    rw [dec_enc _ _ _ _ _ hP.1] at h
    exact h
  · have h := check_calls a0 j (n : Nat) (a1.size : Nat) pd (by omega) w
    unfold chkF at h
    rw [if_neg hP.1] at h
    exact h
  · have hst := (step_facts (j := j) hs hm (by rw [← hn]; exact hj) (by rw [← hn]; exact hc)).2.2.2
    have e1 : min (j * m) a1.size = j * m := by
      generalize (j + 1) * m = x at hst
      generalize j * m = y at hst ⊢
      omega
    rw [e1, hpd]
    exact ext_join a1 _ _ hst (Nat.min_le_right _ _)
set_option maxRecDepth 100000 in
set_option maxHeartbeats 8000000 in
theorem back_walk (a0 : Int) (a1 : ByteArray) (a2 : Int) (w : World) (w1 : a1.size ≤ 140737488351232) :
    Calls Try.prog 8 #[.int .i64 a0, .string a1, .int .i64 a2] w fun e w' => e = .returned (.bool true) ∧ Below w.heap.size w w' := by
  have hu23 := Try.underlying23
  have HA := Aside0.mk (show ∀ w, Calls Try.prog 10 #[] w fun e w' => e = .returned (.bool true) ∧ Below w.heap.size w w' from awake_walk)
  by_cases hz : a1.size > 4095
  · have q1 : decide (4095 < (a1.size : Int)) = true := decide_eq_true (by omega)
    have q1' : decide (4095 < a1.size) = true := decide_eq_true hz
    clear hz w1
    go_enter Try.func8, Try.ntmps8
    go_wp2_with (go_at_call 10; refine (HA.out _).mono ?_; rintro e wa ⟨rfl, hba⟩)
    go_ret
    exact ⟨rfl, hba⟩
  · have q1 : decide (4095 < (a1.size : Int)) = false := decide_eq_false (by omega)
    have q1' : decide (4095 < a1.size) = false := decide_eq_false hz
    have HZ := Aside0.mk hz
    by_cases he : errS a0 a1.size a2 = 0
    · have HS := Aside0.mk (show ∀ w, _ from fun w => fragment_Split.calls 40 a0 a1 a2 (pieces a0 a1 a2.toNat (cntS a1.size a2.toNat)) 0 w (by rw [split_eq a0 a1 a2 w1]; unfold splitF; rw [if_pos he]))
      have hc : 0 ≤ a0 ∧ a0 ≤ 255 ∧ 1 ≤ a2 ∧ a2 ≤ 120 ∧ 1 ≤ a1.size ∧ cntS a1.size a2.toNat ≤ 32 := by
        unfold errS at he
        by_cases h1 : a0 < 0 ∨ a0 > 255 ∨ a2 < 1 ∨ a2 > 120
        · rw [if_pos h1] at he; omega
        · rw [if_neg h1] at he
          by_cases h2 : a1.size = 0
          · rw [if_pos h2] at he; omega
          · rw [if_neg h2, if_neg hz] at he
            by_cases h4 : cntS a1.size a2.toNat > 32
            · rw [if_pos h4] at he; omega
            · omega
      obtain ⟨c1, c2, c3, c4, c5, c6⟩ := hc
      obtain ⟨m, rfl⟩ : ∃ m : Nat, a2 = m := ⟨a2.toNat, by omega⟩
      simp only [Int.toNat_natCast] at HS c6
      have hm : 1 ≤ m ∧ m ≤ 120 := by omega
      have hs : 1 ≤ a1.size ∧ a1.size ≤ 4095 := by omega
      have hcl := cnt_law hs.1 hm.1
      have HP := Aside0.mk (show ∀ j, j < cntS a1.size m → _ from fun j hj => piece_len (t := a0) ⟨c1, c2⟩ hs hm c6 hj)
      have HF := Aside0.mk (show ∀ j, j < cntS a1.size m → _ from fun j hj => step_facts (j := j) hs hm hj c6)
      have HX := Aside0.mk hcl
      have HC := Aside0.mk c6
      have HM := Aside0.mk hm
      have HSZ := Aside0.mk hs
      obtain ⟨n, hn⟩ : ∃ n, n = cntS a1.size m := ⟨_, rfl⟩
      have hn1 : 1 ≤ n := by rw [hn]; exact hcl.1
      rw [← hn] at HS HP HF HX HC
      have HN := Aside0.mk hn
      clear hz q1 c1 c2 c3 c4 c5 c6 he hm hs hcl w1 hn
      have q1 : decide (4095 < (a1.size : Int)) = false := decide_eq_false (not_big HZ.out)
      go_enter Try.func8, Try.ntmps8
      go_upto_region 5 with (go_at_call 10; refine (HA.out _).mono ?_; rintro e wa ⟨rfl, hba⟩)
      have HBA := Aside0.mk hba
      clear hba
      go_upto_region 6 with (go_at_call 11; refine (HS.out _).mono ?_; rintro e wb ⟨v1, rfl, hR, hbb⟩; obtain ⟨g, cap, cur, rfl, hg, hrow⟩ := own_row (row23 hR) (by rw [pieces_length]; exact hn1))
      have HB := Aside0.mk (below_tr HBA.out hbb)
      have HG := Aside0.mk (Nat.le_trans HBA.out.size hg)
      have HR := Aside0.mk (show FRow wb g cap cur (pieces a0 a1 m n) from hrow)
      have hpl := pieces_length a0 a1 m n
      clear hR hbb hrow hg HBA
      rw [hpl]
      go_wp2
      have hpc : (pieces a0 a1 m n).length = n := hpl
      go_loopw [9, 35] (fun t9 t35 wr => ∃ j : Nat, Aside0 (j ≤ n) ∧ t35 = .int .i64 (j : Int) ∧ t9 = .string (a1.extract 0 (min (j * m) a1.size)) ∧ Aside0 (Below w.heap.size w wr) ∧ Aside0 (FRow wr g cap cur (pieces a0 a1 m n))) (fun t9 t35 _ => ((n : Int) - intOf t35).toNat)
      case atStart => exact ⟨0, ⟨Nat.zero_le _⟩, rfl, by rw [Nat.zero_mul, Nat.zero_min, ext_zero], HB, HR⟩
      case round =>
        obtain ⟨j, HJ, rfl, rfl, HBW, HRW⟩ := hrel
        by_cases hlt : j < n
        · obtain ⟨pd, hpd⟩ : ∃ pd, pd = a1.extract (j * m) (min ((j + 1) * m) a1.size) := ⟨_, rfl⟩
          have hP := HP.out j hlt
          rw [← hpd] at hP
          obtain ⟨es, hes, hE, hD, hK, hJn⟩ := back_facts HSZ.out HN.out hlt hpd hP HM.out HC.out
          have HE := Aside0.mk hE
          have HD := Aside0.mk hD
          have HK := Aside0.mk hK
          obtain ⟨hget, hsum, hq, hq', hw4, hj1, hjn, hjn'⟩ := back_nums (a0 := a0) HSZ.out HN.out hlt hpd hP.2 HM.out HC.out
          obtain ⟨y0, y1, y2, y3, y4⟩ := HRW.out.at hget
          obtain ⟨acc, hacc⟩ : ∃ acc, acc = a1.extract 0 (min (j * m) a1.size) := ⟨_, rfl⟩
          rw [← hacc] at hJn hsum ⊢
          have hadd := add_ok acc pd hsum
          have HJN := Aside0.mk hJn
          have HLT := Aside0.mk hlt
          clear hpd hP hE hD hK hget hacc hsum hJn
          go_upto_region 12 with (fail)
          refine wp_world (F := fun W => Below w.heap.size w W ∧ FRow W g cap cur (pieces a0 a1 m n) ∧ Box W wr.heap.size a0 j (n : Nat) (a1.size : Nat) pd) ⟨HBW.out.trans ((below_new _ _).mono HBW.out.size), HRW.out.later (below_new _ _), Box.new wr _ _ _ _ _⟩ (fun W hF => ?_)
          generalize wr.heap.size = f at hF ⊢
          obtain ⟨HB1, HR1, HX1⟩ : Aside0 (Below w.heap.size w W) ∧ Aside0 (FRow W g cap cur (pieces a0 a1 m n)) ∧ Aside0 (Box W f a0 j (n : Nat) (a1.size : Nat) pd) := ⟨⟨hF.1⟩, ⟨hF.2.1⟩, ⟨hF.2.2⟩⟩
          clear hF HBW HRW y0 y1 y2 y3 y4
          obtain ⟨x0, x1, x2, x3, x4⟩ := HX1.out.cells
          go_upto_region 13 with (go_at_call 13; (with_reducible refine (HE.out _).mono ?_); rintro e w3 ⟨rfl, hb3⟩)
          have HB3 := Aside0.mk (HB1.out.trans (hb3.mono HB1.out.size))
          have HR3 := Aside0.mk (HR1.out.later hb3)
          have HX3 := Aside0.mk (HX1.out.later hb3)
          clear hb3 HB1 HR1 HX1 x0 x1 x2 x3 x4
          go_upto_region 14 with (go_at_call 26; (with_reducible refine (HD.out _).mono ?_); rintro e w4 ⟨rfl, hb4⟩; have HB4 := Aside0.mk (HB3.out.trans (hb4.mono HB3.out.size)); have HR4 := Aside0.mk (HR3.out.later hb4); have HX4 := Aside0.mk (HX3.out.later hb4); clear hb4)
          refine wp_world (F := fun W => Below w.heap.size w W ∧ FRow W g cap cur (pieces a0 a1 m n) ∧ Box W f a0 j (n : Nat) (a1.size : Nat) pd ∧ Box W w4.heap.size a0 j (n : Nat) (a1.size : Nat) pd) ⟨HB4.out.trans ((below_new _ _).mono HB4.out.size), HR4.out.later (below_new _ _), HX4.out.later (below_new _ _), Box.new w4 _ _ _ _ _⟩ (fun W5 hF => ?_)
          generalize w4.heap.size = q at hF ⊢
          obtain ⟨HB5, HR5, HX5, HY5⟩ : Aside0 (Below w.heap.size w W5) ∧ Aside0 (FRow W5 g cap cur (pieces a0 a1 m n)) ∧ Aside0 (Box W5 f a0 j (n : Nat) (a1.size : Nat) pd) ∧ Aside0 (Box W5 q a0 j (n : Nat) (a1.size : Nat) pd) := ⟨⟨hF.1⟩, ⟨hF.2.1⟩, ⟨hF.2.2.1⟩, ⟨hF.2.2.2⟩⟩
          clear hF HB3 HR3 HX3 HB4 HR4 HX4
          obtain ⟨x0, x1, x2, x3, x4⟩ := HX5.out.cells
          go_wp2_with (go_at_call 17; (with_reducible refine (HK.out _).mono ?_); rintro e w6 ⟨rfl, hb6⟩; have HB6 := Aside0.mk (HB5.out.trans (hb6.mono HB5.out.size)); have HR6 := Aside0.mk (HR5.out.later hb6); replace ⟨x0, x1, x2, x3, x4⟩ := (HX5.out.later hb6).cells; obtain ⟨z0, z1, z2, z3, z4⟩ := (HY5.out.later hb6).cells; clear hb6)
          go_roundw
          case rel =>
            exact ⟨j + 1, ⟨HLT.out⟩, congrArg (Value.int .i64) hj1, congrArg Value.string HJN.out, HB6, HR6⟩
          case measure =>
            rw [hj1]
            exact meas_up HLT.out
        · obtain ⟨hjn, hjn', he1, hc32, hc32'⟩ := back_end HX.out HJ.out hlt HC.out
          rw [he1]
          clear hlt he1
          go_wp2
          go_ret
          exact ⟨rfl, HBW.out⟩
    · have HS := Aside0.mk (show ∀ w, _ from fun w => fragment_Split.calls 40 a0 a1 a2 [] (errS a0 a1.size a2) w (by rw [split_eq a0 a1 a2 w1]; unfold splitF; rw [if_neg he]))
      have hee : (errS a0 a1.size a2 == 0) = false := beq_eq_false_iff_ne.2 he
      have hee' : (errS a0 a1.size a2 != 0) = true := bne_iff_ne.2 he
      generalize errS a0 a1.size a2 = er at HS hee hee' he
      clear hz w1
      go_enter Try.func8, Try.ntmps8
      go_upto_region 5 with (go_at_call 10; refine (HA.out _).mono ?_; rintro e wa ⟨rfl, hba⟩)
      have HBA := Aside0.mk hba
      clear hba
      go_upto_region 6 with (go_at_call 11; refine (HS.out _).mono ?_; rintro e wb ⟨v1, rfl, hR, hbb⟩; obtain ⟨A, cc, rfl⟩ := own_slice (row23 hR))
      have HB := Aside0.mk (below_tr HBA.out hbb)
      clear hR hbb HBA
      go_wp2
      go_ret
      exact ⟨rfl, HB.out⟩
end Go.Proofs.Ytokapofgbcbajaa.Fns
