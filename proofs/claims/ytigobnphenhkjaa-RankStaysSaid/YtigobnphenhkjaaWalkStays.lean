/- RankStays: its walk. -/
import Derived.Test.YtigobnphenhkjaaStaysFn
namespace Go.Proofs.Ytigobnphenhkjaa.Fns
open Go.RowKit Go.Proofs.YtigobnphenhkjaaW.PrintWords Go.Proofs.YtigobnphenhkjaaW.PrintLast Go.Proofs.YtigobnphenhkjaaW.PrintMore
set_option linter.unusedVariables false
set_option linter.unusedSimpArgs false
def T_f8_6 : Bool × List (List Nat × List Nat) := (true, [([], []), ([0], [0]), ([1], [1]), ([2], [2]), ([], []), ([4], [4]), ([3, 5], [3, 5]), ([6], [6]), ([7], [7]), ([8, 7], [7, 8]), ([9, 7], [7, 9]), ([10, 7], [7, 10]), ([7], [7]), ([12, 7], [7, 12]), ([11, 13, 7], [7, 11, 13]), ([7, 14], [7, 14]), ([15, 7], [15]), ([16], [16]), ([17, 16], [16, 17]), ([18, 16], [16, 18]), ([19, 16], [16, 19]), ([16], [16]), ([21, 16], [16, 21]), ([20, 22, 16], [16, 20, 22]), ([16, 23], [16, 23]), ([24, 16], [24]), ([25], [25]), ([26, 25], [25, 26]), ([27, 25], [25, 27]), ([28, 25], [25, 28]), ([25], [25]), ([30, 25], [25, 30]), ([29, 31, 25], [25, 29, 31]), ([25, 32], [25, 32])])
def B_f8_6 : List Nat := [0, 1, 3, 7, 0, 16, 63, 127, 255, 511, 1023, 2047, 255, 4351, 16383, 32767, 65535, 131071, 262143, 524287, 1048575, 131071, 2228223, 8388607, 16777215, 33554431, 67108863, 134217727, 268435455, 536870911, 67108863, 1140850687, 4294967295, 8589934591]
theorem tab_f8_6 : rtab .any (opsOf Try.f8 6) = T_f8_6 := by kernel_rfl
theorem bits_f8_6 : waitsOk T_f8_6.2 B_f8_6 = true := by kernel_rfl
set_option maxRecDepth 100000 in
set_option maxHeartbeats 4000000 in
theorem stays_walk (fr e r c : Int) (s : S23) (w : World) :
    Calls Try.prog 8 #[vS s, .int .i64 fr, .int .i64 e, .int .i64 r, .int .i64 c] w fun en w' => en = .returned (.bool true) ∧ Below w.heap.size w w' := by
  have hu23 := Try.underlying23
  have C10 := Aside0.mk (show ∀ w, Calls Try.prog 10 #[] w fun e w' => e = .returned (.bool true) ∧ Below w.heap.size w w' from fun w => hopmeshlaw22_awake.walk Pure.awake w)
  obtain ⟨s0, s1, s2, s3, s4, s5⟩ := s
  by_cases hg : Good ⟨s0, s1, s2, s3, s4, s5⟩
  · have HG := Aside0.mk hg
    have C13 := Aside0.mk (show ∀ w, Calls Try.prog 13 #[.agg #[.int .i64 s0, .int .i64 s1, .int .i64 s2, .int .i64 s3, .int .i64 s4, .int .i64 s5]] w fun en w' => en = .returned (.int .i64 0) ∧ Below w.heap.size w w' from fun w => by
      have h := check_calls ⟨s0, s1, s2, s3, s4, s5⟩ w
      rw [(chk_zero _).2 hg] at h
      exact h)
    obtain ⟨l2, l3, l4, hsl⟩ : ∃ l2 l3 l4, lose ⟨s0, s1, s2, s3, s4, s5⟩ = ⟨s0, s1, l2, l3, l4, s5⟩ := by
      obtain ⟨k1, k2, k3, k4, k5⟩ := lose_good hg
      generalize lose ⟨s0, s1, s2, s3, s4, s5⟩ = t at k2 k3 k4
      obtain ⟨t0, t1, t2, t3, t4, t5⟩ := t
      exact ⟨t2, t3, t4, by rw [show t0 = s0 from k2, show t1 = s1 from k3, show t5 = s5 from k4]⟩
    have HL := Aside0.mk (show Good ⟨s0, s1, l2, l3, l4, s5⟩ by rw [← hsl]; exact (lose_good hg).1)
    have C25 := Aside0.mk (show ∀ w, Calls Try.prog 25 #[.agg #[.int .i64 s0, .int .i64 s1, .int .i64 s2, .int .i64 s3, .int .i64 s4, .int .i64 s5]] w fun en w' => en = .returned (.agg #[.int .i64 s0, .int .i64 s1, .int .i64 l2, .int .i64 l3, .int .i64 l4, .int .i64 s5]) ∧ Below w.heap.size w w' from fun w => by have h := lose_calls ⟨s0, s1, s2, s3, s4, s5⟩ w; rw [hsl] at h; exact h)
    have C27 := Aside0.mk (show ∀ w, Calls Try.prog 27 #[.agg #[.int .i64 s0, .int .i64 s1, .int .i64 s2, .int .i64 s3, .int .i64 s4, .int .i64 s5]] w fun en w' => en = .returned (.agg #[.int .i64 s0, .int .i64 s1, .int .i64 l2, .int .i64 l3, .int .i64 l4, .int .i64 s5]) ∧ Below w.heap.size w w' from fun w => by have h := restart_calls ⟨s0, s1, s2, s3, s4, s5⟩ w; rw [hsl] at h; exact h)
    clear hsl hg
    show Calls Try.prog 8 #[.agg #[.int .i64 s0, .int .i64 s1, .int .i64 s2, .int .i64 s3, .int .i64 s4, .int .i64 s5], .int .i64 fr, .int .i64 e, .int .i64 r, .int .i64 c] w _
    go_enter Try.func8, Try.ntmps8
    go_upto_region 5 with (first
      | (go_at_call 10; (with_reducible refine (C10.out _).mono ?_); rintro e w1 ⟨rfl, hb1⟩; obtain ⟨p0, p1, p2, p3, p4, p5⟩ := (Has6.new w s0 s1 s2 s3 s4 s5).later hb1)
      | (go_at_call 13; (with_reducible refine (C13.out _).mono ?_); rintro e w2 ⟨rfl, hb2⟩))
    refine wp_world (F := fun W => Below w.heap.size w W ∧ Has6 W w.heap.size s0 s1 s2 s3 s4 s5) ⟨below_tr (below_tr (below_new _ _) hb1) hb2, ((Has6.new w s0 s1 s2 s3 s4 s5).later hb1).later hb2⟩ (fun W1 hF => ?_)
    obtain ⟨hb, hE⟩ := hF
    have HB1 := Aside0.mk hb
    have HE1 := Aside0.mk (show w.heap.size < W1.heap.size from World.block_lt_of_cell? _ _ hE.1)
    clear hb hb1 hb2 C10 C13 p0 p1 p2 p3 p4 p5
    generalize w.heap.size = E at hE HE1 ⊢
    have H1 := Aside0.mk hE
    obtain ⟨a0, a1, a2, a3, a4, a5⟩ := hE
    go_wp2
    refine start_ (n := 6) (S := fun w' => (w'.cell? ⟨E, 0, none⟩ = some (.int .i64 s0)) ∧ (w'.cell? ⟨E, 1, none⟩ = some (.int .i64 s1)) ∧ (w'.cell? ⟨E, 2, none⟩ = some (.int .i64 s2)) ∧ (w'.cell? ⟨E, 3, none⟩ = some (.int .i64 s3)) ∧ (w'.cell? ⟨E, 4, none⟩ = some (.int .i64 s4)) ∧ (w'.cell? ⟨E, 5, none⟩ = some (.int .i64 s5))) (ds := [5]) #[false, false, false, false, false, false] (by kernel_rfl) rfl rfl ⟨a0, a1, a2, a3, a4, a5⟩ (fun hHeld => ?_)
    refine take_ (i := 0) (N := some 27) (v := ?_) (a' := ?_) #[true, false, false, false, false, false] rfl rfl (by kernel_rfl) (fun _ _ _ h => h) (Or.inl ⟨by rfl, ?_⟩) hHeld ?_ ?_
    rotate_left
    · rintro w' ⟨s0, s1, s2, s3, s4, s5⟩
      go_simp
      with_reducible rfl
    rotate_left
    · simp only [Act.put, List.setIfInBounds_toArray, List.set_cons_zero, List.set_cons_succ, i64_w, i32_w]
      rfl
    refine take_ (i := 2) (N := some 29) (v := ?_) (a' := ?_) #[true, false, true, false, false, false] rfl rfl (by kernel_rfl) (fun _ _ _ h => h) (Or.inl ⟨by rfl, ?_⟩) hHeld ?_ ?_
    rotate_left
    · rintro w' ⟨s0, s1, s2, s3, s4, s5⟩
      go_simp
      with_reducible rfl
    rotate_left
    · simp only [Act.put, List.setIfInBounds_toArray, List.set_cons_zero, List.set_cons_succ, i64_w, i32_w]
      rfl
    refine one_ (i := 1) (N := some 28) #[true, true, true, false, false, false] rfl rfl (by kernel_rfl) (by decide) (fun K hK => ?_)
    refine goes_ Try.func25 (by kernel_rfl) rfl #[.agg #[.int .i64 s0, .int .i64 s1, .int .i64 s2, .int .i64 s3, .int .i64 s4, .int .i64 s5]] (by rfl) rfl rfl (by (try simp only [List.map_toArray, List.map_cons, List.map_nil]); first | done | rfl) ?_
    with_reducible refine (C25.out _).mono ?_
    rintro e v1 ⟨rfl, hv1⟩
    refine ⟨_, rfl, ?_⟩
    refine hK.out _ _ ⟨cell_later hv1 hHeld.1, cell_later hv1 hHeld.2.1, cell_later hv1 hHeld.2.2.1, cell_later hv1 hHeld.2.2.2.1, cell_later hv1 hHeld.2.2.2.2.1, cell_later hv1 hHeld.2.2.2.2.2⟩ (fun hHeld => ?_)
    clear hK K
    refine norm_ (a' := ?_) ?_ ?_
    rotate_left
    · show Act.put _ (some 28) _ = _
      simp only [Act.put, List.setIfInBounds_toArray, List.set_cons_zero, List.set_cons_succ, i64_w, i32_w]
      rfl
    refine one_ (i := 3) (N := some 30) #[true, true, true, true, false, false] rfl rfl (by kernel_rfl) (by decide) (fun K hK => ?_)
    refine goes_ Try.func27 (by kernel_rfl) rfl #[.agg #[.int .i64 s0, .int .i64 s1, .int .i64 s2, .int .i64 s3, .int .i64 s4, .int .i64 s5]] (by rfl) rfl rfl (by (try simp only [List.map_toArray, List.map_cons, List.map_nil]); first | done | rfl) ?_
    with_reducible refine (C27.out _).mono ?_
    rintro e v2 ⟨rfl, hv2⟩
    refine ⟨_, rfl, ?_⟩
    refine hK.out _ _ ⟨cell_later hv2 hHeld.1, cell_later hv2 hHeld.2.1, cell_later hv2 hHeld.2.2.1, cell_later hv2 hHeld.2.2.2.1, cell_later hv2 hHeld.2.2.2.2.1, cell_later hv2 hHeld.2.2.2.2.2⟩ (fun hHeld => ?_)
    clear hK K
    refine norm_ (a' := ?_) ?_ ?_
    rotate_left
    · show Act.put _ (some 30) _ = _
      simp only [Act.put, List.setIfInBounds_toArray, List.set_cons_zero, List.set_cons_succ, i64_w, i32_w]
      rfl
    refine one_ (i := 4) (N := some 31) #[true, true, true, true, true, false] rfl rfl (by kernel_rfl) (by decide) (fun K hK => ?_)
    refine value_ (w1 := v2.alloc (.cells #[.int .i64 s0, .int .i64 s1, .int .i64 l2, .int .i64 l3, .int .i64 l4, .int .i64 s5, .int .i64 s0, .int .i64 s1, .int .i64 l2, .int .i64 l3, .int .i64 l4, .int .i64 s5] 23)) (v := .slice (some ⟨v2.heap.size, 0, none⟩) 2 2) (by rfl) rfl (by first | (go_simp; done) | (go_simp; rfl)) ?_
    have hb5 : Below v2.heap.size v2 (v2.alloc (.cells #[.int .i64 s0, .int .i64 s1, .int .i64 l2, .int .i64 l3, .int .i64 l4, .int .i64 s5, .int .i64 s0, .int .i64 s1, .int .i64 l2, .int .i64 l3, .int .i64 l4, .int .i64 s5] 23)) := below_new _ _
    refine hK.out _ _ ⟨cell_later hb5 hHeld.1, cell_later hb5 hHeld.2.1, cell_later hb5 hHeld.2.2.1, cell_later hb5 hHeld.2.2.2.1, cell_later hb5 hHeld.2.2.2.2.1, cell_later hb5 hHeld.2.2.2.2.2⟩ (fun hHeld => ?_)
    clear hK K
    refine norm_ (a' := ?_) ?_ ?_
    rotate_left
    · simp only [Act.put, List.setIfInBounds_toArray, List.set_cons_zero, List.set_cons_succ, i64_w, i32_w]
      rfl
    refine pure_ (i := 5) (N := some 11) (v := ?_) (a' := ?_) #[true, true, true, true, true, true] rfl rfl (by kernel_rfl) (fun _ _ _ h => h) (Or.inl ⟨by rfl, ?_⟩) ?_ ?_
    rotate_left
    · intro w'
      go_simp
      with_reducible rfl
    rotate_left
    · simp only [Act.put, List.setIfInBounds_toArray, List.set_cons_zero, List.set_cons_succ, i64_w, i32_w]
      rfl
    refine done_ (by kernel_rfl) ?_
    go_upto_region 6 with (fail)
    have hbW : Below W1.heap.size W1 v2 := below_tr (show Below W1.heap.size W1 W1.drew from (Below.refl _ _).drew) (below_tr hv1 hv2)
    have hrow : Row8 ⟨s0, s1, s2, s3, s4, s5⟩ W1 2 (.slice (some ⟨v2.heap.size, 0, none⟩) 2 2) (v2.alloc (.cells #[.int .i64 s0, .int .i64 s1, .int .i64 l2, .int .i64 l3, .int .i64 l4, .int .i64 s5, .int .i64 s0, .int .i64 s1, .int .i64 l2, .int .i64 l3, .int .i64 l4, .int .i64 s5] 23)) := by
      refine ⟨[⟨s0, s1, l2, l3, l4, s5⟩, ⟨s0, s1, l2, l3, l4, s5⟩], ?_, (by simp), ⟨rfl, .inr ⟨v2.heap.size, 2, #[.int .i64 s0, .int .i64 s1, .int .i64 l2, .int .i64 l3, .int .i64 l4, .int .i64 s5, .int .i64 s0, .int .i64 s1, .int .i64 l2, .int .i64 l3, .int .i64 l4, .int .i64 s5], rfl, hbW.size, heap_alloc_new _ _, Nat.le_refl _, by decide, rfl, rfl⟩⟩, below_tr hbW (below_new _ _)⟩
      have hq : Good ⟨s0, s1, l2, l3, l4, s5⟩ ∧ Later ⟨s0, s1, s2, s3, s4, s5⟩ ⟨s0, s1, l2, l3, l4, s5⟩ := ⟨HL.out, rfl, .inr ⟨rfl, Int.le_refl _⟩⟩
      intro x hx
      simp only [List.mem_cons, List.not_mem_nil, or_false] at hx
      rcases hx with rfl | rfl <;> exact hq
    refine wp_world (F := fun wz => Row8 ⟨s0, s1, s2, s3, s4, s5⟩ W1 2 (.slice (some ⟨v2.heap.size, 0, none⟩) 2 2) wz ∧ wz.cell? ⟨v2.heap.size, 1, none⟩ = some (.int .i64 s1) ∧ wz.cell? ⟨v2.heap.size, 5, none⟩ = some (.int .i64 s5) ∧ wz.cell? ⟨v2.heap.size, 7, none⟩ = some (.int .i64 s1) ∧ wz.cell? ⟨v2.heap.size, 11, none⟩ = some (.int .i64 s5)) ⟨hrow, by simp, by simp, by simp, by simp⟩ (fun W2 hF => ?_)
    generalize v2.heap.size = G at hF ⊢
    obtain ⟨hrow2, n1, n5, n7, n11⟩ := hF
    have HR2 := Aside0.mk hrow2
    obtain ⟨xs, _, _, _, hb12⟩ := hrow2
    obtain ⟨a0, a1, a2, a3, a4, a5⟩ := H1.out.later hb12
    clear hbW hrow hb12 hv1 hv2 hb5 hHeld C25 C27 HL
    go_wp2
    refine start_ (n := 34) (S := fun w' => (w'.cell? ⟨E, 1, none⟩ = some (.int .i64 s1)) ∧ (w'.cell? ⟨E, 5, none⟩ = some (.int .i64 s5)) ∧ (w'.cell? ⟨G, 1, none⟩ = some (.int .i64 s1)) ∧ (w'.cell? ⟨G, 5, none⟩ = some (.int .i64 s5)) ∧ (w'.cell? ⟨G, 7, none⟩ = some (.int .i64 s1)) ∧ (w'.cell? ⟨G, 11, none⟩ = some (.int .i64 s5))) (ds := [99]) #[false, false, false, false, false, false, false, false, false, false, false, false, false, false, false, false, false, false, false, false, false, false, false, false, false, false, false, false, false, false, false, false, false, false] (by kernel_rfl) rfl rfl ⟨a1, a5, n1, n5, n7, n11⟩ (fun hHeld => ?_)
    refine with_tabW tab_f8_6 bits_f8_6 (fun HT_ HW_ => ?_)
    refine pure_ (i := 0) (N := some 32) (v := ?_) (a' := ?_) #[true, false, false, false, false, false, false, false, false, false, false, false, false, false, false, false, false, false, false, false, false, false, false, false, false, false, false, false, false, false, false, false, false, false] rfl rfl (any_of HT_.out (by kernel_rfl)) (fun _ _ _ h => h) (Or.inl ⟨by rfl, ?_⟩) ?_ ?_
    rotate_left
    · intro w'
      go_simp
      with_reducible rfl
    rotate_left
    · simp only [Act.put, List.setIfInBounds_toArray, List.set_cons_zero, List.set_cons_succ, i64_w, i32_w]
      rfl
    refine pure_ (i := 1) (N := some 33) (v := ?_) (a' := ?_) #[true, true, false, false, false, false, false, false, false, false, false, false, false, false, false, false, false, false, false, false, false, false, false, false, false, false, false, false, false, false, false, false, false, false] rfl rfl (any_of HT_.out (by kernel_rfl)) (fun _ _ _ h => h) (Or.inl ⟨by rfl, ?_⟩) ?_ ?_
    rotate_left
    · intro w'
      go_simp
      with_reducible rfl
    rotate_left
    · simp only [Act.put, List.setIfInBounds_toArray, List.set_cons_zero, List.set_cons_succ, i64_w, i32_w]
      rfl
    refine pure_ (i := 2) (N := some 34) (v := ?_) (a' := ?_) #[true, true, true, false, false, false, false, false, false, false, false, false, false, false, false, false, false, false, false, false, false, false, false, false, false, false, false, false, false, false, false, false, false, false] rfl rfl (any_of HT_.out (by kernel_rfl)) (fun _ _ _ h => h) (Or.inl ⟨by rfl, ?_⟩) ?_ ?_
    rotate_left
    · intro w'
      go_simp
      with_reducible rfl
    rotate_left
    · simp only [Act.put, List.setIfInBounds_toArray, List.set_cons_zero, List.set_cons_succ, i64_w, i32_w]
      rfl
    refine take_ (i := 3) (N := some 35) (v := ?_) (a' := ?_) #[true, true, true, true, false, false, false, false, false, false, false, false, false, false, false, false, false, false, false, false, false, false, false, false, false, false, false, false, false, false, false, false, false, false] rfl rfl (take_ofW HT_.out HW_.out (by kernel_rfl)) (fun _ _ _ h => h) (Or.inl ⟨by rfl, ?_⟩) hHeld ?_ ?_
    rotate_left
    · rintro w' ⟨s0, s1, s2, s3, s4, s5⟩
      go_simp
      with_reducible rfl
    rotate_left
    · simp only [Act.put, List.setIfInBounds_toArray, List.set_cons_zero, List.set_cons_succ, i64_w, i32_w]
      rfl
    refine pure_ (i := 4) (N := some 36) (v := ?_) (a' := ?_) #[true, true, true, true, true, false, false, false, false, false, false, false, false, false, false, false, false, false, false, false, false, false, false, false, false, false, false, false, false, false, false, false, false, false] rfl rfl (any_of HT_.out (by kernel_rfl)) (fun _ _ _ h => h) (Or.inl ⟨by rfl, ?_⟩) ?_ ?_
    rotate_left
    · intro w'
      go_simp
      with_reducible rfl
    rotate_left
    · simp only [Act.put, List.setIfInBounds_toArray, List.set_cons_zero, List.set_cons_succ, i64_w, i32_w]
      rfl
    refine take_ (i := 5) (N := some 37) (v := ?_) (a' := ?_) #[true, true, true, true, true, true, false, false, false, false, false, false, false, false, false, false, false, false, false, false, false, false, false, false, false, false, false, false, false, false, false, false, false, false] rfl rfl (take_ofW HT_.out HW_.out (by kernel_rfl)) (fun _ _ _ h => h) (Or.inl ⟨by rfl, ?_⟩) hHeld ?_ ?_
    rotate_left
    · rintro w' ⟨s0, s1, s2, s3, s4, s5⟩
      go_simp
      with_reducible rfl
    rotate_left
    · simp only [Act.put, List.setIfInBounds_toArray, List.set_cons_zero, List.set_cons_succ, i64_w, i32_w]
      rfl
    refine pure_ (i := 6) (N := some 38) (v := ?_) (a' := ?_) #[true, true, true, true, true, true, true, false, false, false, false, false, false, false, false, false, false, false, false, false, false, false, false, false, false, false, false, false, false, false, false, false, false, false] rfl rfl (any_of HT_.out (by kernel_rfl)) (fun _ _ _ h => h) (Or.inl ⟨by rfl, ?_⟩) ?_ ?_
    rotate_left
    · intro w'
      go_simp
      with_reducible rfl
    rotate_left
    · simp only [Act.put, List.setIfInBounds_toArray, List.set_cons_zero, List.set_cons_succ, i64_w, i32_w]
      rfl
    refine pure_ (i := 7) (N := some 39) (v := ?_) (a' := ?_) #[true, true, true, true, true, true, true, true, false, false, false, false, false, false, false, false, false, false, false, false, false, false, false, false, false, false, false, false, false, false, false, false, false, false] rfl rfl (any_of HT_.out (by kernel_rfl)) (fun _ _ _ h => h) (Or.inl ⟨by rfl, ?_⟩) ?_ ?_
    rotate_left
    · intro w'
      go_simp
      with_reducible rfl
    rotate_left
    · simp only [Act.put, List.setIfInBounds_toArray, List.set_cons_zero, List.set_cons_succ, i64_w, i32_w]
      rfl
    refine pure_ (i := 8) (N := some 40) (v := ?_) (a' := ?_) #[true, true, true, true, true, true, true, true, true, false, false, false, false, false, false, false, false, false, false, false, false, false, false, false, false, false, false, false, false, false, false, false, false, false] rfl rfl (any_of HT_.out (by kernel_rfl)) (fun _ _ _ h => h) (Or.inl ⟨by rfl, ?_⟩) ?_ ?_
    rotate_left
    · intro w'
      go_simp
      with_reducible rfl
    rotate_left
    · simp only [Act.put, List.setIfInBounds_toArray, List.set_cons_zero, List.set_cons_succ, i64_w, i32_w]
      rfl
    refine pure_ (i := 9) (N := some 41) (v := ?_) (a' := ?_) #[true, true, true, true, true, true, true, true, true, true, false, false, false, false, false, false, false, false, false, false, false, false, false, false, false, false, false, false, false, false, false, false, false, false] rfl rfl (any_of HT_.out (by kernel_rfl)) (fun _ _ _ h => h) (Or.inl ⟨by rfl, ?_⟩) ?_ ?_
    rotate_left
    · intro w'
      go_simp
      with_reducible rfl
    rotate_left
    · simp only [Act.put, List.setIfInBounds_toArray, List.set_cons_zero, List.set_cons_succ, i64_w, i32_w]
      rfl
    refine pure_ (i := 10) (N := some 42) (v := ?_) (a' := ?_) #[true, true, true, true, true, true, true, true, true, true, true, false, false, false, false, false, false, false, false, false, false, false, false, false, false, false, false, false, false, false, false, false, false, false] rfl rfl (any_of HT_.out (by kernel_rfl)) (fun _ _ _ h => h) (Or.inl ⟨by rfl, ?_⟩) ?_ ?_
    rotate_left
    · intro w'
      go_simp
      with_reducible rfl
    rotate_left
    · simp only [Act.put, List.setIfInBounds_toArray, List.set_cons_zero, List.set_cons_succ, i64_w, i32_w]
      rfl
    refine take_ (i := 11) (N := some 43) (v := ?_) (a' := ?_) #[true, true, true, true, true, true, true, true, true, true, true, true, false, false, false, false, false, false, false, false, false, false, false, false, false, false, false, false, false, false, false, false, false, false] rfl rfl (take_ofW HT_.out HW_.out (by kernel_rfl)) (fun _ _ _ h => h) (Or.inl ⟨by rfl, ?_⟩) hHeld ?_ ?_
    rotate_left
    · rintro w' ⟨s0, s1, s2, s3, s4, s5⟩
      go_simp
      with_reducible rfl
    rotate_left
    · simp only [Act.put, List.setIfInBounds_toArray, List.set_cons_zero, List.set_cons_succ, i64_w, i32_w]
      rfl
    refine pure_ (i := 12) (N := some 44) (v := ?_) (a' := ?_) #[true, true, true, true, true, true, true, true, true, true, true, true, true, false, false, false, false, false, false, false, false, false, false, false, false, false, false, false, false, false, false, false, false, false] rfl rfl (any_of HT_.out (by kernel_rfl)) (fun _ _ _ h => h) (Or.inl ⟨by rfl, ?_⟩) ?_ ?_
    rotate_left
    · intro w'
      go_simp
      with_reducible rfl
    rotate_left
    · simp only [Act.put, List.setIfInBounds_toArray, List.set_cons_zero, List.set_cons_succ, i64_w, i32_w]
      rfl
    refine take_ (i := 13) (N := some 45) (v := ?_) (a' := ?_) #[true, true, true, true, true, true, true, true, true, true, true, true, true, true, false, false, false, false, false, false, false, false, false, false, false, false, false, false, false, false, false, false, false, false] rfl rfl (take_ofW HT_.out HW_.out (by kernel_rfl)) (fun _ _ _ h => h) (Or.inl ⟨by rfl, ?_⟩) hHeld ?_ ?_
    rotate_left
    · rintro w' ⟨s0, s1, s2, s3, s4, s5⟩
      go_simp
      with_reducible rfl
    rotate_left
    · simp only [Act.put, List.setIfInBounds_toArray, List.set_cons_zero, List.set_cons_succ, i64_w, i32_w]
      rfl
    refine pure_ (i := 14) (N := some 46) (v := ?_) (a' := ?_) #[true, true, true, true, true, true, true, true, true, true, true, true, true, true, true, false, false, false, false, false, false, false, false, false, false, false, false, false, false, false, false, false, false, false] rfl rfl (any_of HT_.out (by kernel_rfl)) (fun _ _ _ h => h) (Or.inl ⟨by rfl, ?_⟩) ?_ ?_
    rotate_left
    · intro w'
      go_simp
      with_reducible rfl
    rotate_left
    · simp only [Act.put, List.setIfInBounds_toArray, List.set_cons_zero, List.set_cons_succ, i64_w, i32_w]
      rfl
    refine pure_ (i := 15) (N := some 47) (v := ?_) (a' := ?_) #[true, true, true, true, true, true, true, true, true, true, true, true, true, true, true, true, false, false, false, false, false, false, false, false, false, false, false, false, false, false, false, false, false, false] rfl rfl (any_of HT_.out (by kernel_rfl)) (fun _ _ _ h => h) (Or.inl ⟨by rfl, ?_⟩) ?_ ?_
    rotate_left
    · intro w'
      go_simp
      with_reducible rfl
    rotate_left
    · simp only [Act.put, List.setIfInBounds_toArray, List.set_cons_zero, List.set_cons_succ, i64_w, i32_w]
      rfl
    refine pure_ (i := 16) (N := some 48) (v := ?_) (a' := ?_) #[true, true, true, true, true, true, true, true, true, true, true, true, true, true, true, true, true, false, false, false, false, false, false, false, false, false, false, false, false, false, false, false, false, false] rfl rfl (any_of HT_.out (by kernel_rfl)) (fun _ _ _ h => h) (Or.inl ⟨by rfl, ?_⟩) ?_ ?_
    rotate_left
    · intro w'
      go_simp
      with_reducible rfl
    rotate_left
    · simp only [Act.put, List.setIfInBounds_toArray, List.set_cons_zero, List.set_cons_succ, i64_w, i32_w]
      rfl
    refine pure_ (i := 17) (N := some 49) (v := ?_) (a' := ?_) #[true, true, true, true, true, true, true, true, true, true, true, true, true, true, true, true, true, true, false, false, false, false, false, false, false, false, false, false, false, false, false, false, false, false] rfl rfl (any_of HT_.out (by kernel_rfl)) (fun _ _ _ h => h) (Or.inl ⟨by rfl, ?_⟩) ?_ ?_
    rotate_left
    · intro w'
      go_simp
      with_reducible rfl
    rotate_left
    · simp only [Act.put, List.setIfInBounds_toArray, List.set_cons_zero, List.set_cons_succ, i64_w, i32_w]
      rfl
    refine pure_ (i := 18) (N := some 50) (v := ?_) (a' := ?_) #[true, true, true, true, true, true, true, true, true, true, true, true, true, true, true, true, true, true, true, false, false, false, false, false, false, false, false, false, false, false, false, false, false, false] rfl rfl (any_of HT_.out (by kernel_rfl)) (fun _ _ _ h => h) (Or.inl ⟨by rfl, ?_⟩) ?_ ?_
    rotate_left
    · intro w'
      go_simp
      with_reducible rfl
    rotate_left
    · simp only [Act.put, List.setIfInBounds_toArray, List.set_cons_zero, List.set_cons_succ, i64_w, i32_w]
      rfl
    refine pure_ (i := 19) (N := some 51) (v := ?_) (a' := ?_) #[true, true, true, true, true, true, true, true, true, true, true, true, true, true, true, true, true, true, true, true, false, false, false, false, false, false, false, false, false, false, false, false, false, false] rfl rfl (any_of HT_.out (by kernel_rfl)) (fun _ _ _ h => h) (Or.inl ⟨by rfl, ?_⟩) ?_ ?_
    rotate_left
    · intro w'
      go_simp
      with_reducible rfl
    rotate_left
    · simp only [Act.put, List.setIfInBounds_toArray, List.set_cons_zero, List.set_cons_succ, i64_w, i32_w]
      rfl
    refine take_ (i := 20) (N := some 52) (v := ?_) (a' := ?_) #[true, true, true, true, true, true, true, true, true, true, true, true, true, true, true, true, true, true, true, true, true, false, false, false, false, false, false, false, false, false, false, false, false, false] rfl rfl (take_ofW HT_.out HW_.out (by kernel_rfl)) (fun _ _ _ h => h) (Or.inl ⟨by rfl, ?_⟩) hHeld ?_ ?_
    rotate_left
    · rintro w' ⟨s0, s1, s2, s3, s4, s5⟩
      go_simp
      with_reducible rfl
    rotate_left
    · simp only [Act.put, List.setIfInBounds_toArray, List.set_cons_zero, List.set_cons_succ, i64_w, i32_w]
      rfl
    refine pure_ (i := 21) (N := some 53) (v := ?_) (a' := ?_) #[true, true, true, true, true, true, true, true, true, true, true, true, true, true, true, true, true, true, true, true, true, true, false, false, false, false, false, false, false, false, false, false, false, false] rfl rfl (any_of HT_.out (by kernel_rfl)) (fun _ _ _ h => h) (Or.inl ⟨by rfl, ?_⟩) ?_ ?_
    rotate_left
    · intro w'
      go_simp
      with_reducible rfl
    rotate_left
    · simp only [Act.put, List.setIfInBounds_toArray, List.set_cons_zero, List.set_cons_succ, i64_w, i32_w]
      rfl
    refine take_ (i := 22) (N := some 54) (v := ?_) (a' := ?_) #[true, true, true, true, true, true, true, true, true, true, true, true, true, true, true, true, true, true, true, true, true, true, true, false, false, false, false, false, false, false, false, false, false, false] rfl rfl (take_ofW HT_.out HW_.out (by kernel_rfl)) (fun _ _ _ h => h) (Or.inl ⟨by rfl, ?_⟩) hHeld ?_ ?_
    rotate_left
    · rintro w' ⟨s0, s1, s2, s3, s4, s5⟩
      go_simp
      with_reducible rfl
    rotate_left
    · simp only [Act.put, List.setIfInBounds_toArray, List.set_cons_zero, List.set_cons_succ, i64_w, i32_w]
      rfl
    refine pure_ (i := 23) (N := some 55) (v := ?_) (a' := ?_) #[true, true, true, true, true, true, true, true, true, true, true, true, true, true, true, true, true, true, true, true, true, true, true, true, false, false, false, false, false, false, false, false, false, false] rfl rfl (any_of HT_.out (by kernel_rfl)) (fun _ _ _ h => h) (Or.inl ⟨by rfl, ?_⟩) ?_ ?_
    rotate_left
    · intro w'
      go_simp
      with_reducible rfl
    rotate_left
    · simp only [Act.put, List.setIfInBounds_toArray, List.set_cons_zero, List.set_cons_succ, i64_w, i32_w]
      rfl
    refine pure_ (i := 24) (N := some 56) (v := ?_) (a' := ?_) #[true, true, true, true, true, true, true, true, true, true, true, true, true, true, true, true, true, true, true, true, true, true, true, true, true, false, false, false, false, false, false, false, false, false] rfl rfl (any_of HT_.out (by kernel_rfl)) (fun _ _ _ h => h) (Or.inl ⟨by rfl, ?_⟩) ?_ ?_
    rotate_left
    · intro w'
      go_simp
      with_reducible rfl
    rotate_left
    · simp only [Act.put, List.setIfInBounds_toArray, List.set_cons_zero, List.set_cons_succ, i64_w, i32_w]
      rfl
    refine pure_ (i := 25) (N := some 57) (v := ?_) (a' := ?_) #[true, true, true, true, true, true, true, true, true, true, true, true, true, true, true, true, true, true, true, true, true, true, true, true, true, true, false, false, false, false, false, false, false, false] rfl rfl (any_of HT_.out (by kernel_rfl)) (fun _ _ _ h => h) (Or.inl ⟨by rfl, ?_⟩) ?_ ?_
    rotate_left
    · intro w'
      go_simp
      with_reducible rfl
    rotate_left
    · simp only [Act.put, List.setIfInBounds_toArray, List.set_cons_zero, List.set_cons_succ, i64_w, i32_w]
      rfl
    refine pure_ (i := 26) (N := some 58) (v := ?_) (a' := ?_) #[true, true, true, true, true, true, true, true, true, true, true, true, true, true, true, true, true, true, true, true, true, true, true, true, true, true, true, false, false, false, false, false, false, false] rfl rfl (any_of HT_.out (by kernel_rfl)) (fun _ _ _ h => h) (Or.inl ⟨by rfl, ?_⟩) ?_ ?_
    rotate_left
    · intro w'
      go_simp
      with_reducible rfl
    rotate_left
    · simp only [Act.put, List.setIfInBounds_toArray, List.set_cons_zero, List.set_cons_succ, i64_w, i32_w]
      rfl
    refine pure_ (i := 27) (N := some 59) (v := ?_) (a' := ?_) #[true, true, true, true, true, true, true, true, true, true, true, true, true, true, true, true, true, true, true, true, true, true, true, true, true, true, true, true, false, false, false, false, false, false] rfl rfl (any_of HT_.out (by kernel_rfl)) (fun _ _ _ h => h) (Or.inl ⟨by rfl, ?_⟩) ?_ ?_
    rotate_left
    · intro w'
      go_simp
      with_reducible rfl
    rotate_left
    · simp only [Act.put, List.setIfInBounds_toArray, List.set_cons_zero, List.set_cons_succ, i64_w, i32_w]
      rfl
    refine pure_ (i := 28) (N := some 60) (v := ?_) (a' := ?_) #[true, true, true, true, true, true, true, true, true, true, true, true, true, true, true, true, true, true, true, true, true, true, true, true, true, true, true, true, true, false, false, false, false, false] rfl rfl (any_of HT_.out (by kernel_rfl)) (fun _ _ _ h => h) (Or.inl ⟨by rfl, ?_⟩) ?_ ?_
    rotate_left
    · intro w'
      go_simp
      with_reducible rfl
    rotate_left
    · simp only [Act.put, List.setIfInBounds_toArray, List.set_cons_zero, List.set_cons_succ, i64_w, i32_w]
      rfl
    refine take_ (i := 29) (N := some 61) (v := ?_) (a' := ?_) #[true, true, true, true, true, true, true, true, true, true, true, true, true, true, true, true, true, true, true, true, true, true, true, true, true, true, true, true, true, true, false, false, false, false] rfl rfl (take_ofW HT_.out HW_.out (by kernel_rfl)) (fun _ _ _ h => h) (Or.inl ⟨by rfl, ?_⟩) hHeld ?_ ?_
    rotate_left
    · rintro w' ⟨s0, s1, s2, s3, s4, s5⟩
      go_simp
      with_reducible rfl
    rotate_left
    · simp only [Act.put, List.setIfInBounds_toArray, List.set_cons_zero, List.set_cons_succ, i64_w, i32_w]
      rfl
    refine pure_ (i := 30) (N := some 62) (v := ?_) (a' := ?_) #[true, true, true, true, true, true, true, true, true, true, true, true, true, true, true, true, true, true, true, true, true, true, true, true, true, true, true, true, true, true, true, false, false, false] rfl rfl (any_of HT_.out (by kernel_rfl)) (fun _ _ _ h => h) (Or.inl ⟨by rfl, ?_⟩) ?_ ?_
    rotate_left
    · intro w'
      go_simp
      with_reducible rfl
    rotate_left
    · simp only [Act.put, List.setIfInBounds_toArray, List.set_cons_zero, List.set_cons_succ, i64_w, i32_w]
      rfl
    refine take_ (i := 31) (N := some 63) (v := ?_) (a' := ?_) #[true, true, true, true, true, true, true, true, true, true, true, true, true, true, true, true, true, true, true, true, true, true, true, true, true, true, true, true, true, true, true, true, false, false] rfl rfl (take_ofW HT_.out HW_.out (by kernel_rfl)) (fun _ _ _ h => h) (Or.inl ⟨by rfl, ?_⟩) hHeld ?_ ?_
    rotate_left
    · rintro w' ⟨s0, s1, s2, s3, s4, s5⟩
      go_simp
      with_reducible rfl
    rotate_left
    · simp only [Act.put, List.setIfInBounds_toArray, List.set_cons_zero, List.set_cons_succ, i64_w, i32_w]
      rfl
    refine pure_ (i := 32) (N := some 64) (v := ?_) (a' := ?_) #[true, true, true, true, true, true, true, true, true, true, true, true, true, true, true, true, true, true, true, true, true, true, true, true, true, true, true, true, true, true, true, true, true, false] rfl rfl (any_of HT_.out (by kernel_rfl)) (fun _ _ _ h => h) (Or.inl ⟨by rfl, ?_⟩) ?_ ?_
    rotate_left
    · intro w'
      go_simp
      with_reducible rfl
    rotate_left
    · simp only [Act.put, List.setIfInBounds_toArray, List.set_cons_zero, List.set_cons_succ, i64_w, i32_w]
      rfl
    refine pure_ (i := 33) (N := some 65) (v := ?_) (a' := ?_) #[true, true, true, true, true, true, true, true, true, true, true, true, true, true, true, true, true, true, true, true, true, true, true, true, true, true, true, true, true, true, true, true, true, true] rfl rfl (any_of HT_.out (by kernel_rfl)) (fun _ _ _ h => h) (Or.inl ⟨by rfl, ?_⟩) ?_ ?_
    rotate_left
    · intro w'
      go_simp
      with_reducible rfl
    rotate_left
    · simp only [Act.put, List.setIfInBounds_toArray, List.set_cons_zero, List.set_cons_succ, i64_w, i32_w]
      rfl
    refine done_ (done_of HT_.out (by kernel_rfl)) ?_
    go_upto_region 8 with (fail)
    refine wp_world (F := fun wz => Row8 ⟨s0, s1, s2, s3, s4, s5⟩ W1 2 (.slice (some ⟨G, 0, none⟩) 2 2) wz) (HR2.out.later (show Below W2.heap.size W2 W2.drew from (Below.refl _ _).drew)) (fun W3 hF => ?_)
    have HR3 := Aside0.mk hF
    obtain ⟨xs3, _, _, _, hb13⟩ := hF
    clear a0 a1 a2 a3 a4 a5 n1 n5 n7 n11
    obtain ⟨a0, a1, a2, a3, a4, a5⟩ := H1.out.later hb13
    clear hb13 HR2 hHeld
    generalize Value.slice (some ⟨G, 0, none⟩) 2 2 = nv at HR3 ⊢
    obtain ⟨⟨⟨x0, x1, x2, x3, x4, x5⟩, x6⟩, hst⟩ : ∃ st, st = adopt ⟨s0, s1, s2, s3, s4, s5⟩ fr e r c := ⟨_, rfl⟩
    have C17 := Aside0.mk (show ∀ w, Calls Try.prog 17 #[.agg #[.int .i64 s0, .int .i64 s1, .int .i64 s2, .int .i64 s3, .int .i64 s4, .int .i64 s5], .int .i64 fr, .int .i64 e, .int .i64 r, .int .i64 c] w fun en w' => en = .returned (.tuple #[.agg #[.int .i64 x0, .int .i64 x1, .int .i64 x2, .int .i64 x3, .int .i64 x4, .int .i64 x5], .int .i64 x6]) ∧ Below w.heap.size w w' from fun w => by have h := adopt_calls ⟨s0, s1, s2, s3, s4, s5⟩ fr e r c w; rw [← hst] at h; exact h)
    have HST := Aside0.mk hst
    clear hst
    go_upto_if 76 with (go_at_call 17; (with_reducible refine (C17.out _).mono ?_); rintro e u1 ⟨rfl, hc1⟩)
    have he := below_tr hc1 (below_new u1 (.cells #[.int .i64 x0, .int .i64 x1, .int .i64 x2, .int .i64 x3, .int .i64 x4, .int .i64 x5] 23))
    have hne : nv.ownBlock ≠ some u1.heap.size := fun hk => by have h1 := HR3.out.lt hk; have h2 := hc1.size; omega
    refine wp_world (F := fun wz => Row8 ⟨s0, s1, s2, s3, s4, s5⟩ W1 2 nv wz ∧ Has6 wz u1.heap.size x0 x1 x2 x3 x4 x5) ⟨HR3.out.later he, Has6.new u1 x0 x1 x2 x3 x4 x5⟩ (fun W4 hF => ?_)
    have HNE := Aside0.mk hne
    clear he hne hc1 a0 a1 a2 a3 a4 a5 C17 HR3
    generalize u1.heap.size = B at hF HNE ⊢
    have HR4 := Aside0.mk hF.1
    have HX6 := Aside0.mk hF.2
    clear hF
    go_cut [11] from 22 (fun v wc => Aside0 (Row8 ⟨s0, s1, s2, s3, s4, s5⟩ W1 3 v wc))
    case first =>
      by_cases hx : x6 = 0
      · subst hx
        obtain ⟨b0, b1, b2, b3, b4, b5⟩ := HX6.out
        go_upto_region 10 with (fail)
        obtain ⟨xs, hx1, hx2, hx3, hx4⟩ := HR4.out
        have HX1 := Aside0.mk hx1
        have HX2 := Aside0.mk hx2
        have HX3 := Aside0.mk hx3
        have HX4 := Aside0.mk hx4
        clear hx1 hx2 hx3 hx4
        refine wp_region_lit ?_
        refine stepL_value (N := some 77) (v := nv) (w1 := W4) rfl rfl (by rfl) ?_
        refine wpList_norm (a' := ?_) ?_ ?_
        rotate_left
        · simp only [Act.put, List.setIfInBounds_toArray, List.set_cons_zero, List.set_cons_succ]
          rfl
        refine stepL_value (N := some 78) (v := .agg #[.int .i64 x0, .int .i64 x1, .int .i64 x2, .int .i64 x3, .int .i64 x4, .int .i64 x5]) (w1 := W4) rfl rfl (by first | (go_simp; done) | (go_simp; rfl)) ?_
        refine wpList_norm (a' := ?_) ?_ ?_
        rotate_left
        · simp only [Act.put, List.setIfInBounds_toArray, List.set_cons_zero, List.set_cons_succ]
          rfl
        refine stepL_value (N := some 79) (v := .slice (some ⟨W4.heap.size, 0, none⟩) 1 1) (w1 := W4.alloc (.cells (cS ⟨x0, x1, x2, x3, x4, x5⟩).toArray 23)) rfl rfl (by first | (go_simp; done) | (go_simp; rfl)) ?_
        refine wpList_norm (a' := ?_) ?_ ?_
        rotate_left
        · simp only [Act.put, List.setIfInBounds_toArray, List.set_cons_zero, List.set_cons_succ]
          rfl
        refine print_append_cells W1.heap.size rfl (.tmp 77) (.tmp 79) 40 23 _ 6 48 rfl Try.underlying40 info23 rfl (by decide) (by decide) nv xs.length (flat cS xs) (cS ⟨x0, x1, x2, x3, x4, x5⟩) (by rfl) (by rfl) rfl (by simp [cS, Value.oneCell']) HX3.out (Below.refl _ _) HX4.out.size (by have := HX2.out; omega) ?_
        intro v1 w5 ho5 hb5 hg5 hl5
        have hz : (adopt ⟨s0, s1, s2, s3, s4, s5⟩ fr e r c).2 = 0 := by rw [← HST.out]
        have hok := adopt_ok hz
        have hgd := adopt_good hz
        rw [← HST.out] at hgd hok
        have HFN := Aside0.mk hgd
        have hxx := hok.2.2.2.2.2.2.2
        simp only [S23.mk.injEq] at hxx
        obtain ⟨_, _, hx2, _, hx4, _⟩ := hxx
        have hw4 : x4 = wrap64 (r + c) := by rw [hx4]; exact (wrap_sum hok.2.2.2.1.2 hok.2.2.2.2.1).symm
        have C15 := Aside0.mk (show ∀ w, Calls Try.prog 15 #[.agg #[.int .i64 s0, .int .i64 s1, .int .i64 s2, .int .i64 s3, .int .i64 s4, .int .i64 s5], .int .i64 e, .int .i64 r] w fun en w' => en = .returned (.bool true) ∧ Below w.heap.size w w' from fun w => by have h := feasible_calls ⟨s0, s1, s2, s3, s4, s5⟩ e r w; rw [decide_eq_true hok.2.2.2.2.2.1] at h; exact h)
        clear hz hok hgd hx4
        have HB8 := Aside0.mk (HX4.out.trans hb5)
        have HR5 := Aside0.mk (show Row8 ⟨s0, s1, s2, s3, s4, s5⟩ W1 3 v1 w5 from ⟨xs ++ [⟨x0, x1, x2, x3, x4, x5⟩], fun x hx => (List.mem_append.1 hx).elim (HX1.out x) (fun h => by rw [List.mem_singleton.1 h]; exact HFN.out), by have := HX2.out; rw [List.length_append, List.length_singleton]; omega, by rw [flat_append, List.length_append]; exact ho5, HB8.out⟩)
        obtain ⟨c0, c1, c2, c3, c4, c5⟩ := HX6.out.grown hg5 HNE.out
        have HC6 := Aside0.mk (HX6.out.grown hg5 HNE.out)
        obtain ⟨d0, d1, d2, d3, d4, d5⟩ := H1.out.later HB8.out
        clear ho5 hb5 hg5 hl5 HX1 HX2 HX3 HX4 HX6 HR4 b0 b1 b2 b3 b4 b5 a0 a1 a2 a3 a4 a5
        refine wpList_norm (a' := ?_) ?_ ?_
        rotate_left
        · simp only [Act.put, List.setIfInBounds_toArray, List.set_cons_zero, List.set_cons_succ]
          rfl
        refine stepL_value (N := some 11) (v := v1) (w1 := w5) rfl rfl (by rfl) ?_
        refine wpList_norm (a' := ?_) ?_ ?_
        rotate_left
        · simp only [Act.put, List.setIfInBounds_toArray, List.set_cons_zero, List.set_cons_succ]
          rfl
        refine wpList_nil ?_
        subst hx2 hw4
        go_wp2_with (go_at_call 15; (with_reducible refine (C15.out _).mono ?_); rintro e w6 ⟨rfl, hb6⟩; obtain ⟨c0, c1, c2, c3, c4, c5⟩ := HC6.out.later hb6)
        all_goals (go_meet; case rel => exact ⟨HR5.out.later hb6⟩)
      · have hx1 : (x6 == 0) = false := beq_eq_false_iff_ne.mpr hx
        clear hx
        go_wp2
        go_meet
        case rel => exact ⟨HR4.out.up (by decide)⟩
    case rest =>
      go_upto_region 13 with (fail)
      have HR3 := hcut
      obtain ⟨xs3, _, _, _, hb13⟩ := hcut.out
      try clear a0 a1 a2 a3 a4 a5
      obtain ⟨a0, a1, a2, a3, a4, a5⟩ := H1.out.later hb13
      clear hb13 hcut
      obtain ⟨⟨⟨y0, y1, y2, y3, y4, y5⟩, y6⟩, hst⟩ : ∃ st, st = update ⟨s0, s1, s2, s3, s4, s5⟩ e r c := ⟨_, rfl⟩
      have C19 := Aside0.mk (show ∀ w, Calls Try.prog 19 #[.agg #[.int .i64 s0, .int .i64 s1, .int .i64 s2, .int .i64 s3, .int .i64 s4, .int .i64 s5], .int .i64 e, .int .i64 r, .int .i64 c] w fun en w' => en = .returned (.tuple #[.agg #[.int .i64 y0, .int .i64 y1, .int .i64 y2, .int .i64 y3, .int .i64 y4, .int .i64 y5], .int .i64 y6]) ∧ Below w.heap.size w w' from fun w => by have h := update_calls ⟨s0, s1, s2, s3, s4, s5⟩ e r c w; rw [← hst] at h; exact h)
      have HST := Aside0.mk hst
      clear hst
      go_upto_if 109 with (go_at_call 19; (with_reducible refine (C19.out _).mono ?_); rintro e u1 ⟨rfl, hc1⟩)
      have he := below_tr hc1 (below_new u1 (.cells #[.int .i64 y0, .int .i64 y1, .int .i64 y2, .int .i64 y3, .int .i64 y4, .int .i64 y5] 23))
      have hne : u11.ownBlock ≠ some u1.heap.size := fun hk => by have h1 := HR3.out.lt hk; have h2 := hc1.size; omega
      refine wp_world (F := fun wz => Row8 ⟨s0, s1, s2, s3, s4, s5⟩ W1 3 u11 wz ∧ Has6 wz u1.heap.size y0 y1 y2 y3 y4 y5) ⟨HR3.out.later he, Has6.new u1 y0 y1 y2 y3 y4 y5⟩ (fun W4 hF => ?_)
      have HNE := Aside0.mk hne
      clear he hne hc1 a0 a1 a2 a3 a4 a5 C19 HR3
      generalize u1.heap.size = B at hF HNE ⊢
      have HR4 := Aside0.mk hF.1
      have HX6 := Aside0.mk hF.2
      clear hF
      go_cut [11] from 22 (fun v wc => Aside0 (Row8 ⟨s0, s1, s2, s3, s4, s5⟩ W1 4 v wc))
      case first =>
        by_cases hx : y6 = 0
        · subst hx
          obtain ⟨b0, b1, b2, b3, b4, b5⟩ := HX6.out
          go_upto_region 15 with (fail)
          obtain ⟨xs, hx1, hx2, hx3, hx4⟩ := HR4.out
          have HX1 := Aside0.mk hx1
          have HX2 := Aside0.mk hx2
          have HX3 := Aside0.mk hx3
          have HX4 := Aside0.mk hx4
          clear hx1 hx2 hx3 hx4
          refine wp_region_lit ?_
          refine stepL_value (N := some 110) (v := u11) (w1 := W4) rfl rfl (by rfl) ?_
          refine wpList_norm (a' := ?_) ?_ ?_
          rotate_left
          · simp only [Act.put, List.setIfInBounds_toArray, List.set_cons_zero, List.set_cons_succ]
            rfl
          refine stepL_value (N := some 111) (v := .agg #[.int .i64 y0, .int .i64 y1, .int .i64 y2, .int .i64 y3, .int .i64 y4, .int .i64 y5]) (w1 := W4) rfl rfl (by first | (go_simp; done) | (go_simp; rfl)) ?_
          refine wpList_norm (a' := ?_) ?_ ?_
          rotate_left
          · simp only [Act.put, List.setIfInBounds_toArray, List.set_cons_zero, List.set_cons_succ]
            rfl
          refine stepL_value (N := some 112) (v := .slice (some ⟨W4.heap.size, 0, none⟩) 1 1) (w1 := W4.alloc (.cells (cS ⟨y0, y1, y2, y3, y4, y5⟩).toArray 23)) rfl rfl (by first | (go_simp; done) | (go_simp; rfl)) ?_
          refine wpList_norm (a' := ?_) ?_ ?_
          rotate_left
          · simp only [Act.put, List.setIfInBounds_toArray, List.set_cons_zero, List.set_cons_succ]
            rfl
          refine print_append_cells W1.heap.size rfl (.tmp 110) (.tmp 112) 40 23 _ 6 48 rfl Try.underlying40 info23 rfl (by decide) (by decide) u11 xs.length (flat cS xs) (cS ⟨y0, y1, y2, y3, y4, y5⟩) (by rfl) (by rfl) rfl (by simp [cS, Value.oneCell']) HX3.out (Below.refl _ _) HX4.out.size (by have := HX2.out; omega) ?_
          intro v1 w5 ho5 hb5 hg5 hl5
          have hgd := update_good (show (update ⟨s0, s1, s2, s3, s4, s5⟩ e r c).2 = 0 by rw [← HST.out])
          rw [← HST.out] at hgd
          have HFN := Aside0.mk hgd
          clear hgd
          have HB8 := Aside0.mk (HX4.out.trans hb5)
          have HR5 := Aside0.mk (show Row8 ⟨s0, s1, s2, s3, s4, s5⟩ W1 4 v1 w5 from ⟨xs ++ [⟨y0, y1, y2, y3, y4, y5⟩], fun x hx => (List.mem_append.1 hx).elim (HX1.out x) (fun h => by rw [List.mem_singleton.1 h]; exact HFN.out), by have := HX2.out; rw [List.length_append, List.length_singleton]; omega, by rw [flat_append, List.length_append]; exact ho5, HB8.out⟩)
          obtain ⟨c0, c1, c2, c3, c4, c5⟩ := HX6.out.grown hg5 HNE.out
          have HC6 := Aside0.mk (HX6.out.grown hg5 HNE.out)
          obtain ⟨d0, d1, d2, d3, d4, d5⟩ := H1.out.later HB8.out
          clear ho5 hb5 hg5 hl5 HX1 HX2 HX3 HX4 HX6 HR4 b0 b1 b2 b3 b4 b5
          refine wpList_norm (a' := ?_) ?_ ?_
          rotate_left
          · simp only [Act.put, List.setIfInBounds_toArray, List.set_cons_zero, List.set_cons_succ]
            rfl
          refine stepL_value (N := some 11) (v := v1) (w1 := w5) rfl rfl (by rfl) ?_
          refine wpList_norm (a' := ?_) ?_ ?_
          rotate_left
          · simp only [Act.put, List.setIfInBounds_toArray, List.set_cons_zero, List.set_cons_succ]
            rfl
          refine wpList_nil ?_
          go_wp2
          go_meet
          case rel => exact HR5
        · have hx1 : (y6 == 0) = false := beq_eq_false_iff_ne.mpr hx
          clear hx
          go_wp2
          go_meet
          case rel => exact ⟨HR4.out.up (by decide)⟩
      case rest =>
        go_upto_region 16 with (fail)
        have HR3 := hcut
        obtain ⟨xs3, _, _, _, hb13⟩ := hcut.out
        try clear a0 a1 a2 a3 a4 a5
        obtain ⟨a0, a1, a2, a3, a4, a5⟩ := H1.out.later hb13
        clear hb13 hcut
        obtain ⟨⟨⟨z0, z1, z2, z3, z4, z5⟩, z6, z7, z8⟩, hst⟩ : ∃ st, st = advertise ⟨s0, s1, s2, s3, s4, s5⟩ := ⟨_, rfl⟩
        have C21 := Aside0.mk (show ∀ w, Calls Try.prog 21 #[.agg #[.int .i64 s0, .int .i64 s1, .int .i64 s2, .int .i64 s3, .int .i64 s4, .int .i64 s5]] w fun en w' => en = .returned (.tuple #[.agg #[.int .i64 z0, .int .i64 z1, .int .i64 z2, .int .i64 z3, .int .i64 z4, .int .i64 z5], .int .i64 z6, .int .i64 z7, .int .i64 z8]) ∧ Below w.heap.size w w' from fun w => by have h := advertise_calls ⟨s0, s1, s2, s3, s4, s5⟩ w; rw [← hst] at h; exact h)
        have HST := Aside0.mk hst
        clear hst
        go_upto_if 122 with (go_at_call 21; (with_reducible refine (C21.out _).mono ?_); rintro e u1 ⟨rfl, hc1⟩)
        have he := below_tr hc1 (below_new u1 (.cells #[.int .i64 z0, .int .i64 z1, .int .i64 z2, .int .i64 z3, .int .i64 z4, .int .i64 z5] 23))
        have hne : u11.ownBlock ≠ some u1.heap.size := fun hk => by have h1 := HR3.out.lt hk; have h2 := hc1.size; omega
        refine wp_world (F := fun wz => Row8 ⟨s0, s1, s2, s3, s4, s5⟩ W1 4 u11 wz ∧ Has6 wz u1.heap.size z0 z1 z2 z3 z4 z5) ⟨HR3.out.later he, Has6.new u1 z0 z1 z2 z3 z4 z5⟩ (fun W4 hF => ?_)
        have HNE := Aside0.mk hne
        clear he hne hc1 a0 a1 a2 a3 a4 a5 C21 HR3
        generalize u1.heap.size = B at hF HNE ⊢
        have HR4 := Aside0.mk hF.1
        have HX6 := Aside0.mk hF.2
        clear hF
        go_cut [11] from 22 (fun v wc => Aside0 (Row8 ⟨s0, s1, s2, s3, s4, s5⟩ W1 5 v wc))
        case first =>
          by_cases hx : z8 = 0
          · subst hx
            obtain ⟨b0, b1, b2, b3, b4, b5⟩ := HX6.out
            go_upto_region 18 with (fail)
            obtain ⟨xs, hx1, hx2, hx3, hx4⟩ := HR4.out
            have HX1 := Aside0.mk hx1
            have HX2 := Aside0.mk hx2
            have HX3 := Aside0.mk hx3
            have HX4 := Aside0.mk hx4
            clear hx1 hx2 hx3 hx4
            refine wp_region_lit ?_
            refine stepL_value (N := some 123) (v := u11) (w1 := W4) rfl rfl (by rfl) ?_
            refine wpList_norm (a' := ?_) ?_ ?_
            rotate_left
            · simp only [Act.put, List.setIfInBounds_toArray, List.set_cons_zero, List.set_cons_succ]
              rfl
            refine stepL_value (N := some 124) (v := .agg #[.int .i64 z0, .int .i64 z1, .int .i64 z2, .int .i64 z3, .int .i64 z4, .int .i64 z5]) (w1 := W4) rfl rfl (by first | (go_simp; done) | (go_simp; rfl)) ?_
            refine wpList_norm (a' := ?_) ?_ ?_
            rotate_left
            · simp only [Act.put, List.setIfInBounds_toArray, List.set_cons_zero, List.set_cons_succ]
              rfl
            refine stepL_value (N := some 125) (v := .slice (some ⟨W4.heap.size, 0, none⟩) 1 1) (w1 := W4.alloc (.cells (cS ⟨z0, z1, z2, z3, z4, z5⟩).toArray 23)) rfl rfl (by first | (go_simp; done) | (go_simp; rfl)) ?_
            refine wpList_norm (a' := ?_) ?_ ?_
            rotate_left
            · simp only [Act.put, List.setIfInBounds_toArray, List.set_cons_zero, List.set_cons_succ]
              rfl
            refine print_append_cells W1.heap.size rfl (.tmp 123) (.tmp 125) 40 23 _ 6 48 rfl Try.underlying40 info23 rfl (by decide) (by decide) u11 xs.length (flat cS xs) (cS ⟨z0, z1, z2, z3, z4, z5⟩) (by rfl) (by rfl) rfl (by simp [cS, Value.oneCell']) HX3.out (Below.refl _ _) HX4.out.size (by have := HX2.out; omega) ?_
            intro v1 w5 ho5 hb5 hg5 hl5
            have hz : (advertise ⟨s0, s1, s2, s3, s4, s5⟩).2.2.2 = 0 := by rw [← HST.out]
            have hgd := advertise_good hz
            have hok := (advertise_ok hz).2.2
            rw [← HST.out] at hgd hok
            simp only [Prod.mk.injEq, S23.mk.injEq] at hok
            obtain ⟨hq0, h6, h7, hq3⟩ := hok
            clear hq0 hq3
            have HFN := Aside0.mk (show Good ⟨z0, z1, z2, z3, z4, z5⟩ ∧ Later ⟨s0, s1, s2, s3, s4, s5⟩ ⟨z0, z1, z2, z3, z4, z5⟩ from ⟨hgd.1, hgd.2.1⟩)
            have q1 : decide (s4 < z5) = false := decide_eq_false (by have h := hgd.2.2.2.1; have h : z5 ≤ s4 := h; omega)
            have q2 : s0 ≠ 0 → s3 < s4 := hgd.2.2.2.2.2
            clear hz hgd
            have HB8 := Aside0.mk (HX4.out.trans hb5)
            have HR5 := Aside0.mk (show Row8 ⟨s0, s1, s2, s3, s4, s5⟩ W1 5 v1 w5 from ⟨xs ++ [⟨z0, z1, z2, z3, z4, z5⟩], fun x hx => (List.mem_append.1 hx).elim (HX1.out x) (fun h => by rw [List.mem_singleton.1 h]; exact HFN.out), by have := HX2.out; rw [List.length_append, List.length_singleton]; omega, by rw [flat_append, List.length_append]; exact ho5, HB8.out⟩)
            obtain ⟨c0, c1, c2, c3, c4, c5⟩ := HX6.out.grown hg5 HNE.out
            have HC6 := Aside0.mk (HX6.out.grown hg5 HNE.out)
            obtain ⟨d0, d1, d2, d3, d4, d5⟩ := H1.out.later HB8.out
            clear ho5 hb5 hg5 hl5 HX1 HX2 HX3 HX4 HX6 HR4 b0 b1 b2 b3 b4 b5
            refine wpList_norm (a' := ?_) ?_ ?_
            rotate_left
            · simp only [Act.put, List.setIfInBounds_toArray, List.set_cons_zero, List.set_cons_succ]
              rfl
            refine stepL_value (N := some 11) (v := v1) (w1 := w5) rfl rfl (by rfl) ?_
            refine wpList_norm (a' := ?_) ?_ ?_
            rotate_left
            · simp only [Act.put, List.setIfInBounds_toArray, List.set_cons_zero, List.set_cons_succ]
              rfl
            refine wpList_nil ?_
            subst h6 h7
            by_cases h0 : s0 = 0
            · subst h0
              clear q2
              go_wp2
              all_goals (go_meet; case rel => exact HR5)
            · have q3 : (s0 != 0) = true := bne_iff_ne.mpr h0
              have q4 : decide (z7 ≤ s3) = false := decide_eq_false (by have := q2 h0; omega)
              clear h0 q2
              go_wp2
              all_goals (go_meet; case rel => exact HR5)
          · have hx1 : (z8 == 0) = false := beq_eq_false_iff_ne.mpr hx
            clear hx
            go_wp2
            go_meet
            case rel => exact ⟨HR4.out.up (by decide)⟩
        case rest =>
          go_upto_region 21 with (fail)
          have HR3 := hcut
          obtain ⟨xs3, _, _, _, hb13⟩ := hcut.out
          try clear a0 a1 a2 a3 a4 a5
          obtain ⟨a0, a1, a2, a3, a4, a5⟩ := H1.out.later hb13
          clear hb13 hcut
          obtain ⟨⟨⟨y0, y1, y2, y3, y4, y5⟩, y6⟩, hst⟩ : ∃ st, st = renew ⟨s0, s1, s2, s3, s4, s5⟩ := ⟨_, rfl⟩
          have C23 := Aside0.mk (show ∀ w, Calls Try.prog 23 #[.agg #[.int .i64 s0, .int .i64 s1, .int .i64 s2, .int .i64 s3, .int .i64 s4, .int .i64 s5]] w fun en w' => en = .returned (.tuple #[.agg #[.int .i64 y0, .int .i64 y1, .int .i64 y2, .int .i64 y3, .int .i64 y4, .int .i64 y5], .int .i64 y6]) ∧ Below w.heap.size w w' from fun w => by have h := renew_calls ⟨s0, s1, s2, s3, s4, s5⟩ w; rw [← hst] at h; exact h)
          have HST := Aside0.mk hst
          clear hst
          go_upto_if 160 with (go_at_call 23; (with_reducible refine (C23.out _).mono ?_); rintro e u1 ⟨rfl, hc1⟩)
          have he := below_tr hc1 (below_new u1 (.cells #[.int .i64 y0, .int .i64 y1, .int .i64 y2, .int .i64 y3, .int .i64 y4, .int .i64 y5] 23))
          have hne : u11.ownBlock ≠ some u1.heap.size := fun hk => by have h1 := HR3.out.lt hk; have h2 := hc1.size; omega
          refine wp_world (F := fun wz => Row8 ⟨s0, s1, s2, s3, s4, s5⟩ W1 5 u11 wz ∧ Has6 wz u1.heap.size y0 y1 y2 y3 y4 y5) ⟨HR3.out.later he, Has6.new u1 y0 y1 y2 y3 y4 y5⟩ (fun W4 hF => ?_)
          have HNE := Aside0.mk hne
          clear he hne hc1 a0 a1 a2 a3 a4 a5 C23 HR3
          generalize u1.heap.size = B at hF HNE ⊢
          have HR4 := Aside0.mk hF.1
          have HX6 := Aside0.mk hF.2
          clear hF
          go_cut [11] from 22 (fun v wc => Aside0 (Row8 ⟨s0, s1, s2, s3, s4, s5⟩ W1 6 v wc))
          case first =>
            by_cases hx : y6 = 0
            · subst hx
              obtain ⟨b0, b1, b2, b3, b4, b5⟩ := HX6.out
              go_upto_region 23 with (fail)
              obtain ⟨xs, hx1, hx2, hx3, hx4⟩ := HR4.out
              have HX1 := Aside0.mk hx1
              have HX2 := Aside0.mk hx2
              have HX3 := Aside0.mk hx3
              have HX4 := Aside0.mk hx4
              clear hx1 hx2 hx3 hx4
              refine wp_region_lit ?_
              refine stepL_value (N := some 161) (v := u11) (w1 := W4) rfl rfl (by rfl) ?_
              refine wpList_norm (a' := ?_) ?_ ?_
              rotate_left
              · simp only [Act.put, List.setIfInBounds_toArray, List.set_cons_zero, List.set_cons_succ]
                rfl
              refine stepL_value (N := some 162) (v := .agg #[.int .i64 y0, .int .i64 y1, .int .i64 y2, .int .i64 y3, .int .i64 y4, .int .i64 y5]) (w1 := W4) rfl rfl (by first | (go_simp; done) | (go_simp; rfl)) ?_
              refine wpList_norm (a' := ?_) ?_ ?_
              rotate_left
              · simp only [Act.put, List.setIfInBounds_toArray, List.set_cons_zero, List.set_cons_succ]
                rfl
              refine stepL_value (N := some 163) (v := .slice (some ⟨W4.heap.size, 0, none⟩) 1 1) (w1 := W4.alloc (.cells (cS ⟨y0, y1, y2, y3, y4, y5⟩).toArray 23)) rfl rfl (by first | (go_simp; done) | (go_simp; rfl)) ?_
              refine wpList_norm (a' := ?_) ?_ ?_
              rotate_left
              · simp only [Act.put, List.setIfInBounds_toArray, List.set_cons_zero, List.set_cons_succ]
                rfl
              refine print_append_cells W1.heap.size rfl (.tmp 161) (.tmp 163) 40 23 _ 6 48 rfl Try.underlying40 info23 rfl (by decide) (by decide) u11 xs.length (flat cS xs) (cS ⟨y0, y1, y2, y3, y4, y5⟩) (by rfl) (by rfl) rfl (by simp [cS, Value.oneCell']) HX3.out (Below.refl _ _) HX4.out.size (by have := HX2.out; omega) ?_
              intro v1 w5 ho5 hb5 hg5 hl5
              have hgd := renew_good (show (renew ⟨s0, s1, s2, s3, s4, s5⟩).2 = 0 by rw [← HST.out])
              rw [← HST.out] at hgd
              have HFN := Aside0.mk hgd
              clear hgd
              have HB8 := Aside0.mk (HX4.out.trans hb5)
              have HR5 := Aside0.mk (show Row8 ⟨s0, s1, s2, s3, s4, s5⟩ W1 6 v1 w5 from ⟨xs ++ [⟨y0, y1, y2, y3, y4, y5⟩], fun x hx => (List.mem_append.1 hx).elim (HX1.out x) (fun h => by rw [List.mem_singleton.1 h]; exact HFN.out), by have := HX2.out; rw [List.length_append, List.length_singleton]; omega, by rw [flat_append, List.length_append]; exact ho5, HB8.out⟩)
              obtain ⟨c0, c1, c2, c3, c4, c5⟩ := HX6.out.grown hg5 HNE.out
              have HC6 := Aside0.mk (HX6.out.grown hg5 HNE.out)
              obtain ⟨d0, d1, d2, d3, d4, d5⟩ := H1.out.later HB8.out
              clear ho5 hb5 hg5 hl5 HX1 HX2 HX3 HX4 HX6 HR4 b0 b1 b2 b3 b4 b5
              refine wpList_norm (a' := ?_) ?_ ?_
              rotate_left
              · simp only [Act.put, List.setIfInBounds_toArray, List.set_cons_zero, List.set_cons_succ]
                rfl
              refine stepL_value (N := some 11) (v := v1) (w1 := w5) rfl rfl (by rfl) ?_
              refine wpList_norm (a' := ?_) ?_ ?_
              rotate_left
              · simp only [Act.put, List.setIfInBounds_toArray, List.set_cons_zero, List.set_cons_succ]
                rfl
              refine wpList_nil ?_
              go_wp2
              go_meet
              case rel => exact HR5
            · have hx1 : (y6 == 0) = false := beq_eq_false_iff_ne.mpr hx
              clear hx
              go_wp2
              go_meet
              case rel => exact ⟨HR4.out.up (by decide)⟩
          case rest =>
            obtain ⟨xs, A, cc, rfl, hC, hF⟩ := hcut.out.reads
            have hE : Has6 wc E s0 s1 s2 s3 s4 s5 := by obtain ⟨_, _, _, _, h⟩ := hcut.out; exact H1.out.later h
            have hBW : Below W1.heap.size W1 wc := by obtain ⟨_, _, _, _, h⟩ := hcut.out; exact h
            have C30 := Aside0.mk (containsS_calls xs A cc E ⟨s0, s1, s2, s3, s4, s5⟩ wc hC hE hF)
            have HBW := Aside0.mk hBW
            clear hcut hC hE hF hBW
            go_wp2_with (go_at_call 30; (with_reducible refine C30.out.mono ?_); rintro e w6 ⟨rfl, hb6⟩)
            go_ret
            exact ⟨rfl, below_tr HB1.out (below_tr HBW.out hb6)⟩
  · have hne : (chk ⟨s0, s1, s2, s3, s4, s5⟩ != 0) = true := bne_iff_ne.mpr (chk_ne _ hg)
    have C13 := Aside0.mk (show ∀ w, Calls Try.prog 13 #[.agg #[.int .i64 s0, .int .i64 s1, .int .i64 s2, .int .i64 s3, .int .i64 s4, .int .i64 s5]] w fun en w' => en = .returned (.int .i64 (chk ⟨s0, s1, s2, s3, s4, s5⟩)) ∧ Below w.heap.size w w' from fun w => check_calls ⟨s0, s1, s2, s3, s4, s5⟩ w)
    clear hg
    generalize chk ⟨s0, s1, s2, s3, s4, s5⟩ = cc at hne C13
    show Calls Try.prog 8 #[.agg #[.int .i64 s0, .int .i64 s1, .int .i64 s2, .int .i64 s3, .int .i64 s4, .int .i64 s5], .int .i64 fr, .int .i64 e, .int .i64 r, .int .i64 c] w _
    go_enter Try.func8, Try.ntmps8
    go_wp2_with (first
      | (go_at_call 10; (with_reducible refine (C10.out _).mono ?_); rintro e w1 ⟨rfl, hb1⟩; obtain ⟨p0, p1, p2, p3, p4, p5⟩ := (Has6.new w s0 s1 s2 s3 s4 s5).later hb1)
      | (go_at_call 13; (with_reducible refine (C13.out _).mono ?_); rintro e w2 ⟨rfl, hb2⟩))
    go_ret
    exact ⟨rfl, below_tr (below_tr (below_new _ _) hb1) hb2⟩
end Go.Proofs.Ytigobnphenhkjaa.Fns
