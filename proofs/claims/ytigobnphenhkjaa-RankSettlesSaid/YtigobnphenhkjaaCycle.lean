/- rank.Cycle: its walk. -/
import Derived.Test.YtigobnphenhkjaaSortRow
import Derived.Test.YtigobnphenhkjaaParent
import Derived.Test.YtigobnphenhkjaaPlayStep
namespace Go.Proofs.Ytigobnphenhkjaa.Fns
open Go.RowKit Go.Proofs.YtigobnphenhkjaaW.PrintWords Go.Proofs.YtigobnphenhkjaaW.PrintLast Go.Proofs.YtigobnphenhkjaaW.PrintMore
set_option linter.unusedVariables false
set_option linter.unusedSimpArgs false
def wayC (l : List S23) (start : Int) : Nat → Int → List Int → Option (List Int)
  | 0, _, _ => none
  | k + 1, at_, way => match parentOf l at_ with
    | none => none
    | some next => if next = start then some (way ++ [at_]) else wayC l start k next (way ++ [at_])
def firstC (l : List S23) : List Int → List Int
  | [] => []
  | s :: r => match wayC l s (l.length + 1) s [] with
    | some c => c
    | none => firstC l r
def cycle (l : List S23) : List Int := firstC l (Lib.compact (srt (l.map (fun s => s.f0))))
def rank_Cycle.f (l0 : List S23) : Option (List Int) := if 0 < l0.length ∧ l0.length ≤ 100000 then some (cycle l0) else none
def CycPost (w : World) (r : List Int) (e : Ending) (w' : World) : Prop :=
  ∃ v0_ : Value, e = .returned v0_ ∧ Kd.R (Kd.int .i64) 3 w' w.heap.size (fun _ => True) v0_ r ∧ Below w.heap.size w w'
theorem info3b : (Try.prog.info? 3).map (fun i => (i.zero, i.size, i.bytes)) = some (some (.int .i64 0), 1, 8) := info3
theorem own_alloc {w : World} {base : Nat} {e : TypeId} {size n : Nat} {v : Value} {xs : List Value} (h : w.ownsRow base e size v n xs) (o : Obj) : (w.alloc o).ownsRow base e size v n xs :=
  own_later ((Below.refl _ _).alloc (Nat.le_refl _) o) h
theorem flat_ints (ok : Nat → Prop) (w : World) (base : Nat) (L : List Int) : Reps ((Kd.int .i64).M w base ok) 1 L (flat cI L) := by
  refine ⟨by rw [flat_cI]; simp, fun j p hp => ?_⟩
  have : ((flat cI L).drop (j * 1)).take 1 = cI p := by
    rw [flat_cI, Nat.mul_one]
    rw [List.getElem?_eq_some_iff] at hp
    obtain ⟨h1, h2⟩ := hp
    rw [List.drop_eq_getElem_cons (by simpa using h1)]
    simp [cI, h2]
  rw [this]
  exact rfl
set_option maxRecDepth 100000 in
set_option maxHeartbeats 1500000 in
theorem cycle_walk (l : List S23) (A : Option Addr) (c : Nat) (w : World) (hC : Kd.C k23 w A l.length l) (hl : 0 < l.length) (hb : l.length ≤ 100000) :
    Calls Try.prog 29 #[.slice A l.length c] w (CycPost w (cycle l)) := by
  have hu23 := Try.underlying23
  have HC := Aside0.mk hC
  have HL := Aside0.mk hl
  clear hC
  go_enter Try.func29, Try.ntmps29
  go_wp2
  go_step3
  go_wp2
  go_loopw [3, 14] (fun v i wr => ∃ k : Nat, Aside0 (k ≤ l.length) ∧ i = .int .i64 (k : Int) ∧ Aside0 (wr.ownsRow w.heap.size 3 1 v k (flat cI ((l.take k).map (fun s => s.f0)))) ∧ Aside0 (Below w.heap.size w wr)) (fun _ i _ => l.length - (intOf i).toNat)
  case atStart => exact ⟨0, ⟨Nat.zero_le _⟩, rfl, ⟨World.ownsRow_nil _ _ _ _⟩, ⟨Below.refl _ _⟩⟩
  case round =>
    obtain ⟨k, hk, rfl, HO, HW⟩ := hrel
    by_cases hlt : k < l.length
    · have hlt' : decide ((k : Int) < (l.length : Int)) = true := decide_eq_true (by omega)
      have HK := Aside0.mk hlt
      obtain ⟨ad, hA, x0, x1, x2, x3, x4, x5⟩ := at_T23 (Kd.C_below HC.out HW.out) (k : Int) (by omega) (by omega)
      subst hA
      rw [Int.toNat_natCast] at x0 x1 x2 x3 x4 x5
      have hk1 : k < l.length := hlt
      have hown := HO.out
      have hbx : Below wr.heap.size wr (wr.alloc (.cells #[.int .i64 (rd_T23 l (k : Int)).f0, .int .i64 (rd_T23 l (k : Int)).f1, .int .i64 (rd_T23 l (k : Int)).f2, .int .i64 (rd_T23 l (k : Int)).f3, .int .i64 (rd_T23 l (k : Int)).f4, .int .i64 (rd_T23 l (k : Int)).f5] 23)) := (Below.refl _ _).alloc (Nat.le_refl _) _
      clear hlt
      have hsnoc : flat cI ((l.take k).map (fun s => s.f0)) ++ cI (rd_T23 l (k : Int)).f0 = flat cI ((l.take (k + 1)).map (fun s => s.f0)) := by
        rw [List.take_succ_eq_append_getElem HK.out, List.map_append, flat_append]
        simp [flat, rd_T23, HK.out]
      have HSN := Aside0.mk hsnoc
      clear hsnoc hown
      go_upto_region 5 with (fail)
      refine wp_world (F := fun wz => Below wr.heap.size wr wz ∧ wz.cell? ⟨wr.heap.size, 0, none⟩ = some (.int .i64 (rd_T23 l (k : Int)).f0)) ⟨hbx, by simp⟩ (fun W5 hF5 => ?_)
      obtain ⟨hb5, y0⟩ := hF5
      have HO1 := Aside0.mk (own_later hb5 HO.out)
      have HB1 := Aside0.mk (HW.out.trans (hb5.mono HW.out.size))
      generalize wr.heap.size = eb at y0 ⊢
      clear hb5 hbx HO HW x0 x1 x2 x3 x4 x5
      refine wp_region_lit ?_
      refine stepL_value (N := some 18) (v := u3) (w1 := W5) rfl rfl (by rfl) ?_
      refine wpList_norm (a' := ?_) ?_ ?_
      rotate_left
      · simp only [Act.put, List.setIfInBounds_toArray, List.set_cons_zero, List.set_cons_succ]
        rfl
      refine stepL_value (N := some 19) (v := .pointer (some ⟨eb, 0, none⟩)) (w1 := W5) rfl rfl (by first | (go_simp; done) | (go_simp; rfl)) ?_
      refine wpList_norm (a' := ?_) ?_ ?_
      rotate_left
      · simp only [Act.put, List.setIfInBounds_toArray, List.set_cons_zero, List.set_cons_succ]
        rfl
      refine stepL_value (N := some 20) (v := .int .i64 (rd_T23 l (k : Int)).f0) (w1 := W5) rfl rfl (by first | (go_simp; done) | (go_simp; rfl)) ?_
      refine wpList_norm (a' := ?_) ?_ ?_
      rotate_left
      · simp only [Act.put, List.setIfInBounds_toArray, List.set_cons_zero, List.set_cons_succ]
        rfl
      refine stepL_value (N := some 21) (v := .slice (some ⟨W5.heap.size, 0, none⟩) 1 1) (w1 := W5.alloc (.cells (cI (rd_T23 l (k : Int)).f0).toArray 3)) rfl rfl (by first | (go_simp; done) | (go_simp; rfl)) ?_
      refine wpList_norm (a' := ?_) ?_ ?_
      rotate_left
      · simp only [Act.put, List.setIfInBounds_toArray, List.set_cons_zero, List.set_cons_succ]
        rfl
      refine print_append_cells w.heap.size rfl (.tmp 18) (.tmp 21) 43 3 _ 1 8 rfl Try.underlying43 info3 rfl (by decide) (by decide) u3 k (flat cI ((l.take k).map (fun s => s.f0))) (cI (rd_T23 l (k : Int)).f0) (by rfl) (by rfl) rfl (by simp [cI, Value.oneCell']) HO1.out (Below.refl _ _) HB1.out.size (by omega) ?_
      intro v1 w5 ho5 hb5 hg5 hl5
      have HO5 := Aside0.mk ho5
      have HB5 := Aside0.mk hb5
      clear ho5 hb5 hg5 hl5
      refine wpList_norm (a' := ?_) ?_ ?_
      rotate_left
      · simp only [Act.put, List.setIfInBounds_toArray, List.set_cons_zero, List.set_cons_succ]
        rfl
      refine stepL_value (N := some 3) (v := v1) (w1 := w5) rfl rfl (by rfl) ?_
      refine wpList_norm (a' := ?_) ?_ ?_
      rotate_left
      · simp only [Act.put, List.setIfInBounds_toArray, List.set_cons_zero, List.set_cons_succ]
        rfl
      refine wpList_nil ?_
      go_wp2
      go_roundw
      case rel => exact ⟨k + 1, ⟨HK.out⟩, by go_num, ⟨by rw [← HSN.out]; exact HO5.out⟩, ⟨HB1.out.trans HB5.out⟩⟩
      case measure => simp [intOf]; omega
    · have hlt' : decide ((k : Int) < (l.length : Int)) = false := decide_eq_false (by omega)
      have hltn : decide (k < l.length) = false := decide_eq_false hlt
      have hk2 : l.length = k := by have := hk.out; omega
      obtain ⟨g, cap, cur, hv, hg, hr⟩ := own_row HO.out (by omega)
      subst hv
      subst hk2
      rw [List.take_length] at hr
      have HR := Aside0.mk (show IsRow wr 3 1 g (l.map (fun s => s.f0)).length cap (flat cI (l.map (fun s => s.f0))) cur by rw [List.length_map]; exact hr)
      have HG := Aside0.mk hg
      clear hlt hr hg HO
      have hsort := sort_calls wr g cap (l.map (fun s => s.f0)) cur (by rw [List.length_map]; exact hb) HR.out
      rw [List.length_map] at hsort
      go_wp2_with (go_at_call 45; (with_reducible refine hsort.mono ?_); rintro e w1 ⟨rfl, hs1, hs2⟩)
      obtain ⟨cur1, hr1⟩ := hs1
      have hcomp := compact_calls w1 g cap (srt (l.map (fun s => s.f0))) cur1 (by rw [show (srt (l.map (fun s => s.f0))).length = (l.map (fun s => s.f0)).length from List.length_mergeSort _]; exact hr1)
      rw [show (srt (l.map (fun s => s.f0))).length = l.length by rw [show (srt (l.map (fun s => s.f0))).length = (l.map (fun s => s.f0)).length from List.length_mergeSort _, List.length_map]] at hcomp
      have HB1 := Aside0.mk (HW.out.grown hs2 HW.out.size (fun k hk => by cases hk; exact HG.out))
      clear hs2 hr1 hsort
      go_step3
      go_wp2_with (go_at_call 46; (with_reducible refine hcomp.mono ?_); rintro e w2 ⟨rfl, hc1, hc2⟩)
      have HB2 := Aside0.mk (HB1.out.grown hc2 HB1.out.size (fun k hk => by cases hk; exact HG.out))
      obtain ⟨cur2, hr2⟩ := hc1
      have hcl : (Lib.compact (srt (l.map (fun s => s.f0)))).length ≤ l.length := by
        refine Nat.le_trans (compact_le _) ?_
        rw [show (srt (l.map (fun s => s.f0))).length = (l.map (fun s => s.f0)).length from List.length_mergeSort _, List.length_map]
        exact Nat.le_refl _
      have HR2 := Aside0.mk hr2
      have HFC := Aside0.mk (show firstC l ((Lib.compact (srt (l.map (fun s => s.f0)))).drop 0) = cycle l from rfl)
      clear hc2 hr2 hcomp HB1 HR HW
      generalize Lib.compact (srt (l.map (fun s => s.f0))) = cs at HR2 HFC hcl ⊢
      go_loopw [29] (fun i wo => ∃ k : Nat, Aside0 (k ≤ cs.length) ∧ i = .int .i64 (k : Int) ∧ Aside0 (IsRow wo 3 1 g cs.length cap (flat cI cs) cur2) ∧ Aside0 (Below w.heap.size w wo) ∧ Aside0 (firstC l (cs.drop k) = cycle l)) (fun i _ => cs.length - (intOf i).toNat)
      case atStart => exact ⟨0, ⟨Nat.zero_le _⟩, rfl, HR2, HB2, HFC⟩
      case round =>
        clear HR2 HB2 HFC
        obtain ⟨k, hk, rfl, HRo, HBo, HFo⟩ := hrel
        by_cases hlt : k < cs.length
        · have hltn : decide (k < cs.length) = true := decide_eq_true hlt
          have hlt' : decide ((k : Int) < (cs.length : Int)) = true := decide_eq_true (by omega)
          have HK := Aside0.mk hlt
          have hk1 : k < cs.length := hlt
          have hcell : wr.cell? ⟨g, k, none⟩ = some (.int .i64 (cs.getD k 0)) := HRo.out.cell (by rw [flat_cI]; simp [hlt])
          have HF2 := Aside0.mk (show (match wayC l (cs.getD k 0) (l.length + 1) (cs.getD k 0) [] with | some c => c | none => firstC l (cs.drop (k + 1))) = cycle l by
            have h1 := HFo.out
            rw [List.drop_eq_getElem_cons hlt] at h1
            have h2 : cs[k] = cs.getD k 0 := by simp [hlt]
            rw [h2] at h1
            exact h1)
          clear hlt HFo
          generalize cs.getD k 0 = s at hcell HF2
          obtain ⟨R, hR⟩ : ∃ R, R = wayC l s (l.length + 1) s [] := ⟨_, rfl⟩
          rw [← hR] at HF2
          have HRR := Aside0.mk hR
          clear hR
          obtain ⟨wo, hwo⟩ : ∃ wo, wo = wr := ⟨_, rfl⟩
          subst hwo
          go_wp2
          clear hcell
          go_loopg [8, 9] (l.length + 1) (fun kq v at_ wi => ∃ (way : List Int) (a : Int), at_ = .int .i64 a ∧ Aside0 (way.length + kq = l.length + 1) ∧ Aside0 (wayC l s kq a way = R) ∧ Aside0 (wi.ownsRow wo.heap.size 3 1 v way.length (flat cI way)) ∧ Aside0 (Below wo.heap.size wo wi))
          case atStart => exact ⟨[], s, rfl, ⟨by simp⟩, ⟨HRR.out.symm⟩, ⟨World.ownsRow_nil _ _ _ _⟩, ⟨Below.refl _ _⟩⟩
          case round =>
            obtain ⟨way, a, rfl, HLW, HRW, HOW, HBW⟩ := hrel
            have HRo2 := Aside0.mk (HRo.out.move (HBW.out.block g HRo.out.lt))
            have HBo2 := Aside0.mk (HBo.out.trans (HBW.out.mono HBo.out.size))
            obtain ⟨As, c1, hv1⟩ := own_slice HOW.out
            subst hv1
            cases gk with
            | zero =>
              have hn1 : decide (way.length ≤ l.length) = false := decide_eq_false (by have := HLW.out; omega)
              have hn2 : decide ((way.length : Int) ≤ (l.length : Int)) = false := decide_eq_false (by have := HLW.out; omega)
              have hRn : R = none := by rw [← HRW.out]; rfl
              subst hRn
              clear HOW HRW
              go_wp2
              exact ⟨⟨k + 1, ⟨HK.out⟩, by go_num, HRo2, HBo2, HF2⟩, by simp [intOf]; have := HK.out; omega⟩
            | succ q =>
              have hn1 : decide (way.length ≤ l.length) = true := decide_eq_true (by have := HLW.out; omega)
              have hn2 : decide ((way.length : Int) ≤ (l.length : Int)) = true := decide_eq_true (by have := HLW.out; omega)
              go_upto_region 14 with (fail)
              refine wp_region_lit ?_
              refine stepL_value (N := some 39) (v := .slice As way.length c1) (w1 := wr) rfl rfl (by rfl) ?_
              refine wpList_norm (a' := ?_) ?_ ?_
              rotate_left
              · simp only [Act.put, List.setIfInBounds_toArray, List.set_cons_zero, List.set_cons_succ]
                rfl
              refine stepL_value (N := some 40) (v := .int .i64 a) (w1 := wr) rfl rfl (by rfl) ?_
              refine wpList_norm (a' := ?_) ?_ ?_
              rotate_left
              · simp only [Act.put, List.setIfInBounds_toArray, List.set_cons_zero, List.set_cons_succ]
                rfl
              refine stepL_value (N := some 41) (v := .slice (some ⟨wr.heap.size, 0, none⟩) 1 1) (w1 := wr.alloc (.cells (cI a).toArray 3)) rfl rfl (by first | (go_simp; done) | (go_simp; rfl)) ?_
              refine wpList_norm (a' := ?_) ?_ ?_
              rotate_left
              · simp only [Act.put, List.setIfInBounds_toArray, List.set_cons_zero, List.set_cons_succ]
                rfl
              refine print_append_cells wo.heap.size rfl (.tmp 39) (.tmp 41) 43 3 _ 1 8 rfl Try.underlying43 info3 rfl (by decide) (by decide) (.slice As way.length c1) way.length (flat cI way) (cI a) (by rfl) (by rfl) rfl (by simp [cI, Value.oneCell']) HOW.out (Below.refl _ _) HBW.out.size (by have := HLW.out; omega) ?_
              intro v1 w5 ho5 hb5 hg5 hl5
              have HO5 := Aside0.mk (show w5.ownsRow wo.heap.size 3 1 v1 (way ++ [a]).length (flat cI (way ++ [a])) by rw [flat_append, List.length_append]; exact ho5)
              have HB5 := Aside0.mk (HBW.out.trans hb5)
              have HB0 := Aside0.mk (HBo2.out.trans (hb5.mono HBo.out.size))
              have HRo5 := Aside0.mk (HRo2.out.move (hb5.block g HRo.out.lt))
              clear ho5 hb5 hg5 hl5 HOW HRo2 HBo2
              refine wpList_norm (a' := ?_) ?_ ?_
              rotate_left
              · simp only [Act.put, List.setIfInBounds_toArray, List.set_cons_zero, List.set_cons_succ]
                rfl
              refine stepL_value (N := some 8) (v := v1) (w1 := w5) rfl rfl (by rfl) ?_
              refine wpList_norm (a' := ?_) ?_ ?_
              rotate_left
              · simp only [Act.put, List.setIfInBounds_toArray, List.set_cons_zero, List.set_cons_succ]
                rfl
              refine wpList_nil ?_
              have hpar := parent_calls l A c a w5 (Kd.C_below HC.out HB0.out)
              cases hp : parentOf l a with
              | none =>
                have hRn : R = none := by rw [← HRW.out, wayC, hp]
                subst hRn
                unfold ParPost at hpar
                rw [hp] at hpar
                clear hp HRW
                go_wp2_with (go_at_call 47; (with_reducible refine hpar.mono ?_); rintro e w6 ⟨rfl, hb6⟩)
                exact ⟨⟨k + 1, ⟨HK.out⟩, by go_num, ⟨HRo5.out.move (hb6.block g HRo5.out.lt)⟩, ⟨HB0.out.trans (hb6.mono HB0.out.size)⟩, HF2⟩, by simp [intOf]; have := HK.out; omega⟩
              | some next =>
                unfold ParPost at hpar
                rw [hp] at hpar
                by_cases hq : next = s
                · have hq1 : decide (next = s) = true := decide_eq_true hq
                  have HRW2 := Aside0.mk (show R = some (way ++ [a]) by rw [← HRW.out, wayC, hp]; simp [hq])
                  clear hp HRW
                  go_wp2_with (go_at_call 47; (with_reducible refine hpar.mono ?_); rintro e w6 ⟨rfl, hb6⟩)
                  try rw [Exit.noGoto_ret]
                  go_ret
                  have hcy : cycle l = way ++ [a] := by have h2 := HF2.out; rw [HRW2.out] at h2; exact h2.symm
                  rw [hcy]
                  have HB6 : Below wo.heap.size w5 w6 := hb6.mono HB5.out.size
                  have HO6 := own_later hb6 HO5.out
                  exact ⟨v1, rfl, ⟨fun _ _ => trivial, flat cI (way ++ [a]), Kd.own_raise HO6 (fun k hk => Nat.le_trans HBo.out.size (own_base HO6 k hk)), flat_ints _ w6 _ _⟩, HB0.out.trans (hb6.mono HB0.out.size)⟩
                · have hq1 : decide (next = s) = false := decide_eq_false hq
                  have HRW2 := Aside0.mk (show wayC l s q next (way ++ [a]) = R by rw [← HRW.out, wayC, hp]; simp [hq])
                  clear hp HRW
                  go_wp2_with (go_at_call 47; (with_reducible refine hpar.mono ?_); rintro e w6 ⟨rfl, hb6⟩)
                  go_roundg q
                  exact ⟨way ++ [a], next, rfl, ⟨by have := HLW.out; simp; omega⟩, HRW2, ⟨own_later hb6 HO5.out⟩, ⟨HB5.out.trans (hb6.mono HB5.out.size)⟩⟩
                  exact Nat.lt_succ_self q
        · have hltn : decide (k < cs.length) = false := decide_eq_false hlt
          have hlt' : decide ((k : Int) < (cs.length : Int)) = false := decide_eq_false (by omega)
          have HF2 := Aside0.mk (show [] = cycle l by have h1 := HFo.out; rw [List.drop_of_length_le (by omega)] at h1; exact h1)
          clear hlt
          go_wp2
          try rw [Exit.noGoto_ret]
          go_ret
          exact ⟨.slice none 0 0, rfl, by rw [← HF2.out]; exact Kd.R_nil _ _ _ _ _, HBo.out⟩
theorem rank_Cycle.calls (A0 : Option Addr) (c0 : Nat) (l0 : List S23) (r : List Int) (w : World) (hr0 : Kd.C k23 w A0 l0.length l0) (_hc0 : l0.length ≤ c0) (h : rank_Cycle.f l0 = some r) :
    Calls Try.prog 29 #[.slice A0 l0.length c0] w fun e w' => ∃ v0_ : Value, e = .returned v0_ ∧ Kd.R (Kd.int .i64) 3 w' w.heap.size (fun _ => True) v0_ r ∧ Below w.heap.size w w' := by
  unfold rank_Cycle.f at h
  split at h
  · rename_i hh
    cases h
    exact cycle_walk l0 A0 c0 w hr0 hh.1 hh.2
  · cases h
end Go.Proofs.Ytigobnphenhkjaa.Fns
