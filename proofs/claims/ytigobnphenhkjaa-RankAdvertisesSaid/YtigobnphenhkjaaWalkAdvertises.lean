/- RankAdvertises: its walk. -/
import Derived.Test.YtigobnphenhkjaaRefSpecB
import Derived.Test.YtigobnphenhkjaaMeth
import Derived.Test.YtigobnphenhkjaaPureawake
namespace Go.Proofs.Ytigobnphenhkjaa.Fns
open Go.RowKit Go.Proofs.YtigobnphenhkjaaW.PrintWords Go.Proofs.YtigobnphenhkjaaW.PrintLast Go.Proofs.YtigobnphenhkjaaW.PrintMore
set_option linter.unusedVariables false
set_option linter.unusedSimpArgs false
attribute [local go_sem high] eqA23
def Has6 (w : World) (b : Nat) (x0 x1 x2 x3 x4 x5 : Int) : Prop :=
  w.cell? ⟨b, 0, none⟩ = some (.int .i64 x0) ∧ w.cell? ⟨b, 1, none⟩ = some (.int .i64 x1) ∧ w.cell? ⟨b, 2, none⟩ = some (.int .i64 x2) ∧ w.cell? ⟨b, 3, none⟩ = some (.int .i64 x3) ∧ w.cell? ⟨b, 4, none⟩ = some (.int .i64 x4) ∧ w.cell? ⟨b, 5, none⟩ = some (.int .i64 x5)
theorem Has6.new (w : World) (x0 x1 x2 x3 x4 x5 : Int) : Has6 (w.alloc (.cells #[.int .i64 x0, .int .i64 x1, .int .i64 x2, .int .i64 x3, .int .i64 x4, .int .i64 x5] 23)) w.heap.size x0 x1 x2 x3 x4 x5 := by
  refine ⟨?_, ?_, ?_, ?_, ?_, ?_⟩ <;> simp
theorem Has6.later {w wx : World} {b : Nat} {x0 x1 x2 x3 x4 x5 : Int} (h : Has6 w b x0 x1 x2 x3 x4 x5) (hb : Below w.heap.size w wx) : Has6 wx b x0 x1 x2 x3 x4 x5 :=
  ⟨cell_later hb h.1, cell_later hb h.2.1, cell_later hb h.2.2.1, cell_later hb h.2.2.2.1, cell_later hb h.2.2.2.2.1, cell_later hb h.2.2.2.2.2⟩
theorem below_new (w : World) (o : Obj) : Below w.heap.size w (w.alloc o) := (Below.refl _ _).alloc (Nat.le_refl _) o
theorem below_tr {a b c : World} (h1 : Below a.heap.size a b) (h2 : Below b.heap.size b c) : Below a.heap.size a c := h1.trans (h2.mono h1.size)
def T_f5_7 : Bool × List (List Nat × List Nat) := (true, [([], []), ([], []), ([0, 1], [0, 1]), ([2], [2]), ([3], [3]), ([3], [3]), ([4, 5, 3], [3, 4, 5]), ([3, 6], [3, 6]), ([7, 3], [7]), ([8], [8]), ([8], [8]), ([9, 10, 8], [8, 9, 10]), ([8, 11], [8, 11]), ([12, 8], [12]), ([13], [13]), ([13], [13]), ([14, 15, 13], [13, 14, 15]), ([13, 16], [13, 16]), ([17, 13], [17]), ([18], [18]), ([18], [18]), ([19, 20, 18], [18, 19, 20]), ([18, 21], [18, 21]), ([22, 18], [22]), ([23], [23]), ([23], [23]), ([24, 25, 23], [23, 24, 25]), ([23, 26], [23, 26]), ([27, 23], [27]), ([28], [28]), ([29, 28, 28], [28, 29]), ([28], [28]), ([31, 30, 28], [28, 31]), ([30, 32, 28], [28, 30, 32]), ([28, 33], [28, 33]), ([34, 32], [34]), ([35], [35]), ([36, 35, 35], [35, 36]), ([35], [35]), ([38, 37, 35], [35, 38]), ([37, 39, 35], [35, 37, 39]), ([35, 40], [35, 40]), ([41, 39, 0, 1, 2, 3, 4, 5, 6, 7, 8, 9, 10, 11, 12, 13, 14, 15, 16, 17, 18, 19, 20, 21, 22, 23, 24, 25, 26, 27, 28, 29, 30, 31, 32, 33, 34, 35, 36, 37, 38, 39, 40, 41], [41])])
def B_f5_7 : List Nat := [0, 0, 3, 7, 15, 15, 63, 127, 255, 511, 511, 2047, 4095, 8191, 16383, 16383, 65535, 131071, 262143, 524287, 524287, 2097151, 4194303, 8388607, 16777215, 16777215, 67108863, 134217727, 268435455, 536870911, 1073741823, 536870911, 4294967295, 8589934591, 17179869183, 34359738367, 68719476735, 137438953471, 68719476735, 549755813887, 1099511627775, 2199023255551, 4398046511103]
theorem tab_f5_7 : rtab .any (opsOf Try.f5 7) = T_f5_7 := by kernel_rfl
theorem bits_f5_7 : waitsOk T_f5_7.2 B_f5_7 = true := by kernel_rfl
set_option maxRecDepth 100000 in
set_option maxHeartbeats 4000000 in
theorem advertises_walk (s : S23) (w : World) :
    Calls Try.prog 5 #[vS s] w fun en w' => en = .returned (.bool true) ∧ Below w.heap.size w w' := by
  have hu23 := Try.underlying23
  obtain ⟨s0, s1, s2, s3, s4, s5⟩ := s
  obtain ⟨⟨⟨x0, x1, x2, x3, x4, x5⟩, x6, x7, x8⟩, hst⟩ : ∃ st, st = advertise ⟨s0, s1, s2, s3, s4, s5⟩ := ⟨_, rfl⟩
  obtain ⟨⟨⟨y0, y1, y2, y3, y4, y5⟩, y6⟩, hsu⟩ : ∃ st, st = renew ⟨s0, s1, s2, s3, s4, s5⟩ := ⟨_, rfl⟩
  obtain ⟨⟨l0, l1, l2, l3, l4, l5⟩, hsl⟩ : ∃ st, st = lose ⟨s0, s1, s2, s3, s4, s5⟩ := ⟨_, rfl⟩
  have C21 := Aside0.mk (show ∀ w, Calls Try.prog 21 #[.agg #[.int .i64 s0, .int .i64 s1, .int .i64 s2, .int .i64 s3, .int .i64 s4, .int .i64 s5]] w fun en w' => en = .returned (.tuple #[.agg #[.int .i64 x0, .int .i64 x1, .int .i64 x2, .int .i64 x3, .int .i64 x4, .int .i64 x5], .int .i64 x6, .int .i64 x7, .int .i64 x8]) ∧ Below w.heap.size w w' from fun w => by have h := advertise_calls ⟨s0, s1, s2, s3, s4, s5⟩ w; rw [← hst] at h; exact h)
  have C22 := Aside0.mk (show ∀ w, Calls Try.prog 22 #[.agg #[.int .i64 s0, .int .i64 s1, .int .i64 s2, .int .i64 s3, .int .i64 s4, .int .i64 s5]] w fun en w' => en = .returned (.tuple #[.agg #[.int .i64 x0, .int .i64 x1, .int .i64 x2, .int .i64 x3, .int .i64 x4, .int .i64 x5], .int .i64 x6, .int .i64 x7, .int .i64 x8]) ∧ Below w.heap.size w w' from fun w => by have h := radvertise_calls ⟨s0, s1, s2, s3, s4, s5⟩ w; rw [← hst] at h; exact h)
  have C23 := Aside0.mk (show ∀ w, Calls Try.prog 23 #[.agg #[.int .i64 s0, .int .i64 s1, .int .i64 s2, .int .i64 s3, .int .i64 s4, .int .i64 s5]] w fun en w' => en = .returned (.tuple #[.agg #[.int .i64 y0, .int .i64 y1, .int .i64 y2, .int .i64 y3, .int .i64 y4, .int .i64 y5], .int .i64 y6]) ∧ Below w.heap.size w w' from fun w => by have h := renew_calls ⟨s0, s1, s2, s3, s4, s5⟩ w; rw [← hsu] at h; exact h)
  have C24 := Aside0.mk (show ∀ w, Calls Try.prog 24 #[.agg #[.int .i64 s0, .int .i64 s1, .int .i64 s2, .int .i64 s3, .int .i64 s4, .int .i64 s5]] w fun en w' => en = .returned (.tuple #[.agg #[.int .i64 y0, .int .i64 y1, .int .i64 y2, .int .i64 y3, .int .i64 y4, .int .i64 y5], .int .i64 y6]) ∧ Below w.heap.size w w' from fun w => by have h := rrenew_calls ⟨s0, s1, s2, s3, s4, s5⟩ w; rw [← hsu] at h; exact h)
  have C25 := Aside0.mk (show ∀ w, Calls Try.prog 25 #[.agg #[.int .i64 s0, .int .i64 s1, .int .i64 s2, .int .i64 s3, .int .i64 s4, .int .i64 s5]] w fun en w' => en = .returned (.agg #[.int .i64 l0, .int .i64 l1, .int .i64 l2, .int .i64 l3, .int .i64 l4, .int .i64 l5]) ∧ Below w.heap.size w w' from fun w => by have h := lose_calls ⟨s0, s1, s2, s3, s4, s5⟩ w; rw [← hsl] at h; exact h)
  have C26 := Aside0.mk (show ∀ w, Calls Try.prog 26 #[.agg #[.int .i64 s0, .int .i64 s1, .int .i64 s2, .int .i64 s3, .int .i64 s4, .int .i64 s5]] w fun en w' => en = .returned (.agg #[.int .i64 l0, .int .i64 l1, .int .i64 l2, .int .i64 l3, .int .i64 l4, .int .i64 l5]) ∧ Below w.heap.size w w' from fun w => by have h := rlose_calls ⟨s0, s1, s2, s3, s4, s5⟩ w; rw [← hsl] at h; exact h)
  have C27 := Aside0.mk (show ∀ w, Calls Try.prog 27 #[.agg #[.int .i64 s0, .int .i64 s1, .int .i64 s2, .int .i64 s3, .int .i64 s4, .int .i64 s5]] w fun en w' => en = .returned (.agg #[.int .i64 l0, .int .i64 l1, .int .i64 l2, .int .i64 l3, .int .i64 l4, .int .i64 l5]) ∧ Below w.heap.size w w' from fun w => by have h := restart_calls ⟨s0, s1, s2, s3, s4, s5⟩ w; rw [← hsl] at h; exact h)
  have C10 := Aside0.mk (show ∀ w, Calls Try.prog 10 #[] w fun e w' => e = .returned (.bool true) ∧ Below w.heap.size w w' from fun w => hopmeshlaw22_awake.walk Pure.awake w)
  clear hst hsu hsl
  show Calls Try.prog 5 #[.agg #[.int .i64 s0, .int .i64 s1, .int .i64 s2, .int .i64 s3, .int .i64 s4, .int .i64 s5]] w _
  go_enter Try.func5, Try.ntmps5
  go_upto_region 3 with (go_at_call 10; (with_reducible refine (C10.out _).mono ?_); rintro e w1 ⟨rfl, hb1⟩)
  refine wp_world (F := fun W => Below w.heap.size w W ∧ Has6 W w.heap.size s0 s1 s2 s3 s4 s5) ⟨below_tr (below_new _ _) hb1, (Has6.new w s0 s1 s2 s3 s4 s5).later hb1⟩ (fun W1 hF => ?_)
  have H1 := Aside0.mk hF
  obtain ⟨hb, ⟨a0, a1, a2, a3, a4, a5⟩⟩ := hF
  clear hb
  clear hb1 C10
  go_upto_region 4 with (go_at_call 21; (with_reducible refine (C21.out _).mono ?_); rintro e u1 ⟨rfl, hc1⟩)
  have he := below_tr hc1 (below_new u1 (.cells #[.int .i64 x0, .int .i64 x1, .int .i64 x2, .int .i64 x3, .int .i64 x4, .int .i64 x5] 23))
  refine wp_world (F := fun W => Below w.heap.size w W ∧ Has6 W w.heap.size s0 s1 s2 s3 s4 s5 ∧ Has6 W u1.heap.size x0 x1 x2 x3 x4 x5) ⟨below_tr H1.out.1 he, (H1.out.2).later he, Has6.new u1 x0 x1 x2 x3 x4 x5⟩ (fun W2 hF => ?_)
  clear he hc1 C21 H1 a0 a1 a2 a3 a4 a5
  generalize u1.heap.size = B1 at hF ⊢
  have H2 := Aside0.mk hF
  obtain ⟨hb, ⟨a0, a1, a2, a3, a4, a5⟩, ⟨b0, b1, b2, b3, b4, b5⟩⟩ := hF
  clear hb
  go_upto_region 5 with (go_at_call 22; (with_reducible refine (C22.out _).mono ?_); rintro e u2 ⟨rfl, hc2⟩)
  have he := below_tr hc2 (below_new u2 (.cells #[.int .i64 x0, .int .i64 x1, .int .i64 x2, .int .i64 x3, .int .i64 x4, .int .i64 x5] 23))
  refine wp_world (F := fun W => Below w.heap.size w W ∧ Has6 W w.heap.size s0 s1 s2 s3 s4 s5 ∧ Has6 W B1 x0 x1 x2 x3 x4 x5 ∧ Has6 W u2.heap.size x0 x1 x2 x3 x4 x5) ⟨below_tr H2.out.1 he, (H2.out.2.1).later he, (H2.out.2.2).later he, Has6.new u2 x0 x1 x2 x3 x4 x5⟩ (fun W3 hF => ?_)
  clear he hc2 C22 H2 a0 a1 a2 a3 a4 a5 b0 b1 b2 b3 b4 b5
  generalize u2.heap.size = B2 at hF ⊢
  have H3 := Aside0.mk hF
  obtain ⟨hb, ⟨a0, a1, a2, a3, a4, a5⟩, ⟨b0, b1, b2, b3, b4, b5⟩, ⟨d0, d1, d2, d3, d4, d5⟩⟩ := hF
  clear hb
  go_upto_region 6 with (go_at_call 23; (with_reducible refine (C23.out _).mono ?_); rintro e u3 ⟨rfl, hc3⟩)
  have he := below_tr hc3 (below_new u3 (.cells #[.int .i64 y0, .int .i64 y1, .int .i64 y2, .int .i64 y3, .int .i64 y4, .int .i64 y5] 23))
  refine wp_world (F := fun W => Below w.heap.size w W ∧ Has6 W w.heap.size s0 s1 s2 s3 s4 s5 ∧ Has6 W B1 x0 x1 x2 x3 x4 x5 ∧ Has6 W B2 x0 x1 x2 x3 x4 x5 ∧ Has6 W u3.heap.size y0 y1 y2 y3 y4 y5) ⟨below_tr H3.out.1 he, (H3.out.2.1).later he, (H3.out.2.2.1).later he, (H3.out.2.2.2).later he, Has6.new u3 y0 y1 y2 y3 y4 y5⟩ (fun W4 hF => ?_)
  clear he hc3 C23 H3 a0 a1 a2 a3 a4 a5 b0 b1 b2 b3 b4 b5 d0 d1 d2 d3 d4 d5
  generalize u3.heap.size = B3 at hF ⊢
  have H4 := Aside0.mk hF
  obtain ⟨hb, ⟨a0, a1, a2, a3, a4, a5⟩, ⟨b0, b1, b2, b3, b4, b5⟩, ⟨d0, d1, d2, d3, d4, d5⟩, ⟨f0, f1, f2, f3, f4, f5⟩⟩ := hF
  clear hb
  go_upto_region 7 with (go_at_call 24; (with_reducible refine (C24.out _).mono ?_); rintro e u4 ⟨rfl, hc4⟩)
  have he := below_tr hc4 (below_new u4 (.cells #[.int .i64 y0, .int .i64 y1, .int .i64 y2, .int .i64 y3, .int .i64 y4, .int .i64 y5] 23))
  refine wp_world (F := fun W => Below w.heap.size w W ∧ Has6 W w.heap.size s0 s1 s2 s3 s4 s5 ∧ Has6 W B1 x0 x1 x2 x3 x4 x5 ∧ Has6 W B2 x0 x1 x2 x3 x4 x5 ∧ Has6 W B3 y0 y1 y2 y3 y4 y5 ∧ Has6 W u4.heap.size y0 y1 y2 y3 y4 y5) ⟨below_tr H4.out.1 he, (H4.out.2.1).later he, (H4.out.2.2.1).later he, (H4.out.2.2.2.1).later he, (H4.out.2.2.2.2).later he, Has6.new u4 y0 y1 y2 y3 y4 y5⟩ (fun W5 hF => ?_)
  clear he hc4 C24 H4 a0 a1 a2 a3 a4 a5 b0 b1 b2 b3 b4 b5 d0 d1 d2 d3 d4 d5 f0 f1 f2 f3 f4 f5
  generalize u4.heap.size = B4 at hF ⊢
  have H5 := Aside0.mk hF
  obtain ⟨hb, ⟨a0, a1, a2, a3, a4, a5⟩, ⟨b0, b1, b2, b3, b4, b5⟩, ⟨d0, d1, d2, d3, d4, d5⟩, ⟨f0, f1, f2, f3, f4, f5⟩, ⟨g0, g1, g2, g3, g4, g5⟩⟩ := hF
  clear hb
  have HB := Aside0.mk H5.out.1
  clear H5
  generalize w.heap.size = E at a0 a1 a2 a3 a4 a5 ⊢
  go_wp2
  refine start_ (n := 43) (S := fun w' => (w'.cell? ⟨E, 0, none⟩ = some (.int .i64 s0)) ∧ (w'.cell? ⟨E, 1, none⟩ = some (.int .i64 s1)) ∧ (w'.cell? ⟨E, 2, none⟩ = some (.int .i64 s2)) ∧ (w'.cell? ⟨E, 3, none⟩ = some (.int .i64 s3)) ∧ (w'.cell? ⟨E, 4, none⟩ = some (.int .i64 s4)) ∧ (w'.cell? ⟨E, 5, none⟩ = some (.int .i64 s5)) ∧ (w'.cell? ⟨B1, 0, none⟩ = some (.int .i64 x0)) ∧ (w'.cell? ⟨B1, 1, none⟩ = some (.int .i64 x1)) ∧ (w'.cell? ⟨B1, 2, none⟩ = some (.int .i64 x2)) ∧ (w'.cell? ⟨B1, 3, none⟩ = some (.int .i64 x3)) ∧ (w'.cell? ⟨B1, 4, none⟩ = some (.int .i64 x4)) ∧ (w'.cell? ⟨B1, 5, none⟩ = some (.int .i64 x5)) ∧ (w'.cell? ⟨B2, 0, none⟩ = some (.int .i64 x0)) ∧ (w'.cell? ⟨B2, 1, none⟩ = some (.int .i64 x1)) ∧ (w'.cell? ⟨B2, 2, none⟩ = some (.int .i64 x2)) ∧ (w'.cell? ⟨B2, 3, none⟩ = some (.int .i64 x3)) ∧ (w'.cell? ⟨B2, 4, none⟩ = some (.int .i64 x4)) ∧ (w'.cell? ⟨B2, 5, none⟩ = some (.int .i64 x5)) ∧ (w'.cell? ⟨B3, 0, none⟩ = some (.int .i64 y0)) ∧ (w'.cell? ⟨B3, 1, none⟩ = some (.int .i64 y1)) ∧ (w'.cell? ⟨B3, 2, none⟩ = some (.int .i64 y2)) ∧ (w'.cell? ⟨B3, 3, none⟩ = some (.int .i64 y3)) ∧ (w'.cell? ⟨B3, 4, none⟩ = some (.int .i64 y4)) ∧ (w'.cell? ⟨B3, 5, none⟩ = some (.int .i64 y5)) ∧ (w'.cell? ⟨B4, 0, none⟩ = some (.int .i64 y0)) ∧ (w'.cell? ⟨B4, 1, none⟩ = some (.int .i64 y1)) ∧ (w'.cell? ⟨B4, 2, none⟩ = some (.int .i64 y2)) ∧ (w'.cell? ⟨B4, 3, none⟩ = some (.int .i64 y3)) ∧ (w'.cell? ⟨B4, 4, none⟩ = some (.int .i64 y4)) ∧ (w'.cell? ⟨B4, 5, none⟩ = some (.int .i64 y5))) (ds := [42]) #[false, false, false, false, false, false, false, false, false, false, false, false, false, false, false, false, false, false, false, false, false, false, false, false, false, false, false, false, false, false, false, false, false, false, false, false, false, false, false, false, false, false, false] (by kernel_rfl) rfl rfl ⟨a0, a1, a2, a3, a4, a5, b0, b1, b2, b3, b4, b5, d0, d1, d2, d3, d4, d5, f0, f1, f2, f3, f4, f5, g0, g1, g2, g3, g4, g5⟩ (fun hHeld => ?_)
  refine with_tabW tab_f5_7 bits_f5_7 (fun HT_ HW_ => ?_)
  refine take_ (i := 0) (N := some 41) (v := ?_) (a' := ?_) #[true, false, false, false, false, false, false, false, false, false, false, false, false, false, false, false, false, false, false, false, false, false, false, false, false, false, false, false, false, false, false, false, false, false, false, false, false, false, false, false, false, false, false] rfl rfl (take_ofW HT_.out HW_.out (by kernel_rfl)) (fun _ _ _ h => h) (Or.inl ⟨by rfl, ?_⟩) hHeld ?_ ?_
  rotate_left
  · rintro w' ⟨s0, s1, s2, s3, s4, s5, s6, s7, s8, s9, s10, s11, s12, s13, s14, s15, s16, s17, s18, s19, s20, s21, s22, s23, s24, s25, s26, s27, s28, s29⟩
    go_simp
    with_reducible rfl
  rotate_left
  · simp only [Act.put, List.setIfInBounds_toArray, List.set_cons_zero, List.set_cons_succ, i64_w, i32_w]
    rfl
  refine take_ (i := 1) (N := some 42) (v := ?_) (a' := ?_) #[true, true, false, false, false, false, false, false, false, false, false, false, false, false, false, false, false, false, false, false, false, false, false, false, false, false, false, false, false, false, false, false, false, false, false, false, false, false, false, false, false, false, false] rfl rfl (take_ofW HT_.out HW_.out (by kernel_rfl)) (fun _ _ _ h => h) (Or.inl ⟨by rfl, ?_⟩) hHeld ?_ ?_
  rotate_left
  · rintro w' ⟨s0, s1, s2, s3, s4, s5, s6, s7, s8, s9, s10, s11, s12, s13, s14, s15, s16, s17, s18, s19, s20, s21, s22, s23, s24, s25, s26, s27, s28, s29⟩
    go_simp
    with_reducible rfl
  rotate_left
  · simp only [Act.put, List.setIfInBounds_toArray, List.set_cons_zero, List.set_cons_succ, i64_w, i32_w]
    rfl
  refine pure_ (i := 2) (N := some 43) (v := ?_) (a' := ?_) #[true, true, true, false, false, false, false, false, false, false, false, false, false, false, false, false, false, false, false, false, false, false, false, false, false, false, false, false, false, false, false, false, false, false, false, false, false, false, false, false, false, false, false] rfl rfl (any_of HT_.out (by kernel_rfl)) (fun _ _ _ h => h) (Or.inl ⟨by rfl, ?_⟩) ?_ ?_
  rotate_left
  · intro w'
    go_simp
    with_reducible rfl
  rotate_left
  · simp only [Act.put, List.setIfInBounds_toArray, List.set_cons_zero, List.set_cons_succ, i64_w, i32_w]
    rfl
  refine pure_ (i := 3) (N := some 44) (v := ?_) (a' := ?_) #[true, true, true, true, false, false, false, false, false, false, false, false, false, false, false, false, false, false, false, false, false, false, false, false, false, false, false, false, false, false, false, false, false, false, false, false, false, false, false, false, false, false, false] rfl rfl (any_of HT_.out (by kernel_rfl)) (fun _ _ _ h => h) (Or.inl ⟨by rfl, ?_⟩) ?_ ?_
  rotate_left
  · intro w'
    go_simp
    with_reducible rfl
  rotate_left
  · simp only [Act.put, List.setIfInBounds_toArray, List.set_cons_zero, List.set_cons_succ, i64_w, i32_w]
    rfl
  refine pure_ (i := 4) (N := some 45) (v := ?_) (a' := ?_) #[true, true, true, true, true, false, false, false, false, false, false, false, false, false, false, false, false, false, false, false, false, false, false, false, false, false, false, false, false, false, false, false, false, false, false, false, false, false, false, false, false, false, false] rfl rfl (any_of HT_.out (by kernel_rfl)) (fun _ _ _ h => h) (Or.inl ⟨by rfl, ?_⟩) ?_ ?_
  rotate_left
  · intro w'
    go_simp
    with_reducible rfl
  rotate_left
  · simp only [Act.put, List.setIfInBounds_toArray, List.set_cons_zero, List.set_cons_succ, i64_w, i32_w]
    rfl
  refine pure_ (i := 5) (N := some 46) (v := ?_) (a' := ?_) #[true, true, true, true, true, true, false, false, false, false, false, false, false, false, false, false, false, false, false, false, false, false, false, false, false, false, false, false, false, false, false, false, false, false, false, false, false, false, false, false, false, false, false] rfl rfl (any_of HT_.out (by kernel_rfl)) (fun _ _ _ h => h) (Or.inl ⟨by rfl, ?_⟩) ?_ ?_
  rotate_left
  · intro w'
    go_simp
    with_reducible rfl
  rotate_left
  · simp only [Act.put, List.setIfInBounds_toArray, List.set_cons_zero, List.set_cons_succ, i64_w, i32_w]
    rfl
  refine pure_ (i := 6) (N := some 47) (v := ?_) (a' := ?_) #[true, true, true, true, true, true, true, false, false, false, false, false, false, false, false, false, false, false, false, false, false, false, false, false, false, false, false, false, false, false, false, false, false, false, false, false, false, false, false, false, false, false, false] rfl rfl (any_of HT_.out (by kernel_rfl)) (fun _ _ _ h => h) (Or.inl ⟨by rfl, ?_⟩) ?_ ?_
  rotate_left
  · intro w'
    go_simp
    with_reducible rfl
  rotate_left
  · simp only [Act.put, List.setIfInBounds_toArray, List.set_cons_zero, List.set_cons_succ, i64_w, i32_w]
    rfl
  refine pure_ (i := 7) (N := some 48) (v := ?_) (a' := ?_) #[true, true, true, true, true, true, true, true, false, false, false, false, false, false, false, false, false, false, false, false, false, false, false, false, false, false, false, false, false, false, false, false, false, false, false, false, false, false, false, false, false, false, false] rfl rfl (any_of HT_.out (by kernel_rfl)) (fun _ _ _ h => h) (Or.inl ⟨by rfl, ?_⟩) ?_ ?_
  rotate_left
  · intro w'
    go_simp
    with_reducible rfl
  rotate_left
  · simp only [Act.put, List.setIfInBounds_toArray, List.set_cons_zero, List.set_cons_succ, i64_w, i32_w]
    rfl
  refine pure_ (i := 8) (N := some 49) (v := ?_) (a' := ?_) #[true, true, true, true, true, true, true, true, true, false, false, false, false, false, false, false, false, false, false, false, false, false, false, false, false, false, false, false, false, false, false, false, false, false, false, false, false, false, false, false, false, false, false] rfl rfl (any_of HT_.out (by kernel_rfl)) (fun _ _ _ h => h) (Or.inl ⟨by rfl, ?_⟩) ?_ ?_
  rotate_left
  · intro w'
    go_simp
    with_reducible rfl
  rotate_left
  · simp only [Act.put, List.setIfInBounds_toArray, List.set_cons_zero, List.set_cons_succ, i64_w, i32_w]
    rfl
  refine pure_ (i := 9) (N := some 50) (v := ?_) (a' := ?_) #[true, true, true, true, true, true, true, true, true, true, false, false, false, false, false, false, false, false, false, false, false, false, false, false, false, false, false, false, false, false, false, false, false, false, false, false, false, false, false, false, false, false, false] rfl rfl (any_of HT_.out (by kernel_rfl)) (fun _ _ _ h => h) (Or.inl ⟨by rfl, ?_⟩) ?_ ?_
  rotate_left
  · intro w'
    go_simp
    with_reducible rfl
  rotate_left
  · simp only [Act.put, List.setIfInBounds_toArray, List.set_cons_zero, List.set_cons_succ, i64_w, i32_w]
    rfl
  refine pure_ (i := 10) (N := some 51) (v := ?_) (a' := ?_) #[true, true, true, true, true, true, true, true, true, true, true, false, false, false, false, false, false, false, false, false, false, false, false, false, false, false, false, false, false, false, false, false, false, false, false, false, false, false, false, false, false, false, false] rfl rfl (any_of HT_.out (by kernel_rfl)) (fun _ _ _ h => h) (Or.inl ⟨by rfl, ?_⟩) ?_ ?_
  rotate_left
  · intro w'
    go_simp
    with_reducible rfl
  rotate_left
  · simp only [Act.put, List.setIfInBounds_toArray, List.set_cons_zero, List.set_cons_succ, i64_w, i32_w]
    rfl
  refine pure_ (i := 11) (N := some 52) (v := ?_) (a' := ?_) #[true, true, true, true, true, true, true, true, true, true, true, true, false, false, false, false, false, false, false, false, false, false, false, false, false, false, false, false, false, false, false, false, false, false, false, false, false, false, false, false, false, false, false] rfl rfl (any_of HT_.out (by kernel_rfl)) (fun _ _ _ h => h) (Or.inl ⟨by rfl, ?_⟩) ?_ ?_
  rotate_left
  · intro w'
    go_simp
    with_reducible rfl
  rotate_left
  · simp only [Act.put, List.setIfInBounds_toArray, List.set_cons_zero, List.set_cons_succ, i64_w, i32_w]
    rfl
  refine pure_ (i := 12) (N := some 53) (v := ?_) (a' := ?_) #[true, true, true, true, true, true, true, true, true, true, true, true, true, false, false, false, false, false, false, false, false, false, false, false, false, false, false, false, false, false, false, false, false, false, false, false, false, false, false, false, false, false, false] rfl rfl (any_of HT_.out (by kernel_rfl)) (fun _ _ _ h => h) (Or.inl ⟨by rfl, ?_⟩) ?_ ?_
  rotate_left
  · intro w'
    go_simp
    with_reducible rfl
  rotate_left
  · simp only [Act.put, List.setIfInBounds_toArray, List.set_cons_zero, List.set_cons_succ, i64_w, i32_w]
    rfl
  refine pure_ (i := 13) (N := some 54) (v := ?_) (a' := ?_) #[true, true, true, true, true, true, true, true, true, true, true, true, true, true, false, false, false, false, false, false, false, false, false, false, false, false, false, false, false, false, false, false, false, false, false, false, false, false, false, false, false, false, false] rfl rfl (any_of HT_.out (by kernel_rfl)) (fun _ _ _ h => h) (Or.inl ⟨by rfl, ?_⟩) ?_ ?_
  rotate_left
  · intro w'
    go_simp
    with_reducible rfl
  rotate_left
  · simp only [Act.put, List.setIfInBounds_toArray, List.set_cons_zero, List.set_cons_succ, i64_w, i32_w]
    rfl
  refine pure_ (i := 14) (N := some 55) (v := ?_) (a' := ?_) #[true, true, true, true, true, true, true, true, true, true, true, true, true, true, true, false, false, false, false, false, false, false, false, false, false, false, false, false, false, false, false, false, false, false, false, false, false, false, false, false, false, false, false] rfl rfl (any_of HT_.out (by kernel_rfl)) (fun _ _ _ h => h) (Or.inl ⟨by rfl, ?_⟩) ?_ ?_
  rotate_left
  · intro w'
    go_simp
    with_reducible rfl
  rotate_left
  · simp only [Act.put, List.setIfInBounds_toArray, List.set_cons_zero, List.set_cons_succ, i64_w, i32_w]
    rfl
  refine pure_ (i := 15) (N := some 56) (v := ?_) (a' := ?_) #[true, true, true, true, true, true, true, true, true, true, true, true, true, true, true, true, false, false, false, false, false, false, false, false, false, false, false, false, false, false, false, false, false, false, false, false, false, false, false, false, false, false, false] rfl rfl (any_of HT_.out (by kernel_rfl)) (fun _ _ _ h => h) (Or.inl ⟨by rfl, ?_⟩) ?_ ?_
  rotate_left
  · intro w'
    go_simp
    with_reducible rfl
  rotate_left
  · simp only [Act.put, List.setIfInBounds_toArray, List.set_cons_zero, List.set_cons_succ, i64_w, i32_w]
    rfl
  refine pure_ (i := 16) (N := some 57) (v := ?_) (a' := ?_) #[true, true, true, true, true, true, true, true, true, true, true, true, true, true, true, true, true, false, false, false, false, false, false, false, false, false, false, false, false, false, false, false, false, false, false, false, false, false, false, false, false, false, false] rfl rfl (any_of HT_.out (by kernel_rfl)) (fun _ _ _ h => h) (Or.inl ⟨by rfl, ?_⟩) ?_ ?_
  rotate_left
  · intro w'
    go_simp
    with_reducible rfl
  rotate_left
  · simp only [Act.put, List.setIfInBounds_toArray, List.set_cons_zero, List.set_cons_succ, i64_w, i32_w]
    rfl
  refine pure_ (i := 17) (N := some 58) (v := ?_) (a' := ?_) #[true, true, true, true, true, true, true, true, true, true, true, true, true, true, true, true, true, true, false, false, false, false, false, false, false, false, false, false, false, false, false, false, false, false, false, false, false, false, false, false, false, false, false] rfl rfl (any_of HT_.out (by kernel_rfl)) (fun _ _ _ h => h) (Or.inl ⟨by rfl, ?_⟩) ?_ ?_
  rotate_left
  · intro w'
    go_simp
    with_reducible rfl
  rotate_left
  · simp only [Act.put, List.setIfInBounds_toArray, List.set_cons_zero, List.set_cons_succ, i64_w, i32_w]
    rfl
  refine pure_ (i := 18) (N := some 59) (v := ?_) (a' := ?_) #[true, true, true, true, true, true, true, true, true, true, true, true, true, true, true, true, true, true, true, false, false, false, false, false, false, false, false, false, false, false, false, false, false, false, false, false, false, false, false, false, false, false, false] rfl rfl (any_of HT_.out (by kernel_rfl)) (fun _ _ _ h => h) (Or.inl ⟨by rfl, ?_⟩) ?_ ?_
  rotate_left
  · intro w'
    go_simp
    with_reducible rfl
  rotate_left
  · simp only [Act.put, List.setIfInBounds_toArray, List.set_cons_zero, List.set_cons_succ, i64_w, i32_w]
    rfl
  refine take_ (i := 19) (N := some 60) (v := ?_) (a' := ?_) #[true, true, true, true, true, true, true, true, true, true, true, true, true, true, true, true, true, true, true, true, false, false, false, false, false, false, false, false, false, false, false, false, false, false, false, false, false, false, false, false, false, false, false] rfl rfl (take_ofW HT_.out HW_.out (by kernel_rfl)) (fun _ _ _ h => h) (Or.inl ⟨by rfl, ?_⟩) hHeld ?_ ?_
  rotate_left
  · rintro w' ⟨s0, s1, s2, s3, s4, s5, s6, s7, s8, s9, s10, s11, s12, s13, s14, s15, s16, s17, s18, s19, s20, s21, s22, s23, s24, s25, s26, s27, s28, s29⟩
    go_simp
    with_reducible rfl
  rotate_left
  · simp only [Act.put, List.setIfInBounds_toArray, List.set_cons_zero, List.set_cons_succ, i64_w, i32_w]
    rfl
  refine take_ (i := 20) (N := some 61) (v := ?_) (a' := ?_) #[true, true, true, true, true, true, true, true, true, true, true, true, true, true, true, true, true, true, true, true, true, false, false, false, false, false, false, false, false, false, false, false, false, false, false, false, false, false, false, false, false, false, false] rfl rfl (take_ofW HT_.out HW_.out (by kernel_rfl)) (fun _ _ _ h => h) (Or.inl ⟨by rfl, ?_⟩) hHeld ?_ ?_
  rotate_left
  · rintro w' ⟨s0, s1, s2, s3, s4, s5, s6, s7, s8, s9, s10, s11, s12, s13, s14, s15, s16, s17, s18, s19, s20, s21, s22, s23, s24, s25, s26, s27, s28, s29⟩
    go_simp
    with_reducible rfl
  rotate_left
  · simp only [Act.put, List.setIfInBounds_toArray, List.set_cons_zero, List.set_cons_succ, i64_w, i32_w]
    rfl
  refine pure_ (i := 21) (N := some 62) (v := ?_) (a' := ?_) #[true, true, true, true, true, true, true, true, true, true, true, true, true, true, true, true, true, true, true, true, true, true, false, false, false, false, false, false, false, false, false, false, false, false, false, false, false, false, false, false, false, false, false] rfl rfl (any_of HT_.out (by kernel_rfl)) (fun _ _ _ h => h) (Or.inl ⟨by rfl, ?_⟩) ?_ ?_
  rotate_left
  · intro w'
    go_simp
    with_reducible rfl
  rotate_left
  · simp only [Act.put, List.setIfInBounds_toArray, List.set_cons_zero, List.set_cons_succ, i64_w, i32_w]
    rfl
  refine pure_ (i := 22) (N := some 63) (v := ?_) (a' := ?_) #[true, true, true, true, true, true, true, true, true, true, true, true, true, true, true, true, true, true, true, true, true, true, true, false, false, false, false, false, false, false, false, false, false, false, false, false, false, false, false, false, false, false, false] rfl rfl (any_of HT_.out (by kernel_rfl)) (fun _ _ _ h => h) (Or.inl ⟨by rfl, ?_⟩) ?_ ?_
  rotate_left
  · intro w'
    go_simp
    with_reducible rfl
  rotate_left
  · simp only [Act.put, List.setIfInBounds_toArray, List.set_cons_zero, List.set_cons_succ, i64_w, i32_w]
    rfl
  refine pure_ (i := 23) (N := some 64) (v := ?_) (a' := ?_) #[true, true, true, true, true, true, true, true, true, true, true, true, true, true, true, true, true, true, true, true, true, true, true, true, false, false, false, false, false, false, false, false, false, false, false, false, false, false, false, false, false, false, false] rfl rfl (any_of HT_.out (by kernel_rfl)) (fun _ _ _ h => h) (Or.inl ⟨by rfl, ?_⟩) ?_ ?_
  rotate_left
  · intro w'
    go_simp
    with_reducible rfl
  rotate_left
  · simp only [Act.put, List.setIfInBounds_toArray, List.set_cons_zero, List.set_cons_succ, i64_w, i32_w]
    rfl
  refine pure_ (i := 24) (N := some 65) (v := ?_) (a' := ?_) #[true, true, true, true, true, true, true, true, true, true, true, true, true, true, true, true, true, true, true, true, true, true, true, true, true, false, false, false, false, false, false, false, false, false, false, false, false, false, false, false, false, false, false] rfl rfl (any_of HT_.out (by kernel_rfl)) (fun _ _ _ h => h) (Or.inl ⟨by rfl, ?_⟩) ?_ ?_
  rotate_left
  · intro w'
    go_simp
    with_reducible rfl
  rotate_left
  · simp only [Act.put, List.setIfInBounds_toArray, List.set_cons_zero, List.set_cons_succ, i64_w, i32_w]
    rfl
  refine pure_ (i := 25) (N := some 66) (v := ?_) (a' := ?_) #[true, true, true, true, true, true, true, true, true, true, true, true, true, true, true, true, true, true, true, true, true, true, true, true, true, true, false, false, false, false, false, false, false, false, false, false, false, false, false, false, false, false, false] rfl rfl (any_of HT_.out (by kernel_rfl)) (fun _ _ _ h => h) (Or.inl ⟨by rfl, ?_⟩) ?_ ?_
  rotate_left
  · intro w'
    go_simp
    with_reducible rfl
  rotate_left
  · simp only [Act.put, List.setIfInBounds_toArray, List.set_cons_zero, List.set_cons_succ, i64_w, i32_w]
    rfl
  refine pure_ (i := 26) (N := some 67) (v := ?_) (a' := ?_) #[true, true, true, true, true, true, true, true, true, true, true, true, true, true, true, true, true, true, true, true, true, true, true, true, true, true, true, false, false, false, false, false, false, false, false, false, false, false, false, false, false, false, false] rfl rfl (any_of HT_.out (by kernel_rfl)) (fun _ _ _ h => h) (Or.inl ⟨by rfl, ?_⟩) ?_ ?_
  rotate_left
  · intro w'
    go_simp
    with_reducible rfl
  rotate_left
  · simp only [Act.put, List.setIfInBounds_toArray, List.set_cons_zero, List.set_cons_succ, i64_w, i32_w]
    rfl
  refine pure_ (i := 27) (N := some 68) (v := ?_) (a' := ?_) #[true, true, true, true, true, true, true, true, true, true, true, true, true, true, true, true, true, true, true, true, true, true, true, true, true, true, true, true, false, false, false, false, false, false, false, false, false, false, false, false, false, false, false] rfl rfl (any_of HT_.out (by kernel_rfl)) (fun _ _ _ h => h) (Or.inl ⟨by rfl, ?_⟩) ?_ ?_
  rotate_left
  · intro w'
    go_simp
    with_reducible rfl
  rotate_left
  · simp only [Act.put, List.setIfInBounds_toArray, List.set_cons_zero, List.set_cons_succ, i64_w, i32_w]
    rfl
  refine pure_ (i := 28) (N := some 69) (v := ?_) (a' := ?_) #[true, true, true, true, true, true, true, true, true, true, true, true, true, true, true, true, true, true, true, true, true, true, true, true, true, true, true, true, true, false, false, false, false, false, false, false, false, false, false, false, false, false, false] rfl rfl (any_of HT_.out (by kernel_rfl)) (fun _ _ _ h => h) (Or.inl ⟨by rfl, ?_⟩) ?_ ?_
  rotate_left
  · intro w'
    go_simp
    with_reducible rfl
  rotate_left
  · simp only [Act.put, List.setIfInBounds_toArray, List.set_cons_zero, List.set_cons_succ, i64_w, i32_w]
    rfl
  refine take_ (i := 29) (N := some 70) (v := ?_) (a' := ?_) #[true, true, true, true, true, true, true, true, true, true, true, true, true, true, true, true, true, true, true, true, true, true, true, true, true, true, true, true, true, true, false, false, false, false, false, false, false, false, false, false, false, false, false] rfl rfl (take_ofW HT_.out HW_.out (by kernel_rfl)) (fun _ _ _ h => h) (Or.inl ⟨by rfl, ?_⟩) hHeld ?_ ?_
  rotate_left
  · rintro w' ⟨s0, s1, s2, s3, s4, s5, s6, s7, s8, s9, s10, s11, s12, s13, s14, s15, s16, s17, s18, s19, s20, s21, s22, s23, s24, s25, s26, s27, s28, s29⟩
    go_simp
    with_reducible rfl
  rotate_left
  · simp only [Act.put, List.setIfInBounds_toArray, List.set_cons_zero, List.set_cons_succ, i64_w, i32_w]
    rfl
  refine take_ (i := 31) (N := some 72) (v := ?_) (a' := ?_) #[true, true, true, true, true, true, true, true, true, true, true, true, true, true, true, true, true, true, true, true, true, true, true, true, true, true, true, true, true, true, false, true, false, false, false, false, false, false, false, false, false, false, false] rfl rfl (take_ofW HT_.out HW_.out (by kernel_rfl)) (fun _ _ _ h => h) (Or.inl ⟨by rfl, ?_⟩) hHeld ?_ ?_
  rotate_left
  · rintro w' ⟨s0, s1, s2, s3, s4, s5, s6, s7, s8, s9, s10, s11, s12, s13, s14, s15, s16, s17, s18, s19, s20, s21, s22, s23, s24, s25, s26, s27, s28, s29⟩
    go_simp
    with_reducible rfl
  rotate_left
  · simp only [Act.put, List.setIfInBounds_toArray, List.set_cons_zero, List.set_cons_succ, i64_w, i32_w]
    rfl
  refine one_ (i := 30) (N := some 71) #[true, true, true, true, true, true, true, true, true, true, true, true, true, true, true, true, true, true, true, true, true, true, true, true, true, true, true, true, true, true, true, true, false, false, false, false, false, false, false, false, false, false, false] rfl rfl (one_of HT_.out (by kernel_rfl)) (by decide) (fun K hK => ?_)
  refine goes_ Try.func25 (by kernel_rfl) rfl #[.agg #[.int .i64 s0, .int .i64 s1, .int .i64 s2, .int .i64 s3, .int .i64 s4, .int .i64 s5]] (by rfl) rfl rfl (by (try simp only [List.map_toArray, List.map_cons, List.map_nil]); first | done | rfl) ?_
  with_reducible refine (C25.out _).mono ?_
  rintro e v1 ⟨rfl, hv1⟩
  refine ⟨_, rfl, ?_⟩
  refine hK.out _ _ ⟨cell_later hv1 hHeld.1, cell_later hv1 hHeld.2.1, cell_later hv1 hHeld.2.2.1, cell_later hv1 hHeld.2.2.2.1, cell_later hv1 hHeld.2.2.2.2.1, cell_later hv1 hHeld.2.2.2.2.2.1, cell_later hv1 hHeld.2.2.2.2.2.2.1, cell_later hv1 hHeld.2.2.2.2.2.2.2.1, cell_later hv1 hHeld.2.2.2.2.2.2.2.2.1, cell_later hv1 hHeld.2.2.2.2.2.2.2.2.2.1, cell_later hv1 hHeld.2.2.2.2.2.2.2.2.2.2.1, cell_later hv1 hHeld.2.2.2.2.2.2.2.2.2.2.2.1, cell_later hv1 hHeld.2.2.2.2.2.2.2.2.2.2.2.2.1, cell_later hv1 hHeld.2.2.2.2.2.2.2.2.2.2.2.2.2.1, cell_later hv1 hHeld.2.2.2.2.2.2.2.2.2.2.2.2.2.2.1, cell_later hv1 hHeld.2.2.2.2.2.2.2.2.2.2.2.2.2.2.2.1, cell_later hv1 hHeld.2.2.2.2.2.2.2.2.2.2.2.2.2.2.2.2.1, cell_later hv1 hHeld.2.2.2.2.2.2.2.2.2.2.2.2.2.2.2.2.2.1, cell_later hv1 hHeld.2.2.2.2.2.2.2.2.2.2.2.2.2.2.2.2.2.2.1, cell_later hv1 hHeld.2.2.2.2.2.2.2.2.2.2.2.2.2.2.2.2.2.2.2.1, cell_later hv1 hHeld.2.2.2.2.2.2.2.2.2.2.2.2.2.2.2.2.2.2.2.2.1, cell_later hv1 hHeld.2.2.2.2.2.2.2.2.2.2.2.2.2.2.2.2.2.2.2.2.2.1, cell_later hv1 hHeld.2.2.2.2.2.2.2.2.2.2.2.2.2.2.2.2.2.2.2.2.2.2.1, cell_later hv1 hHeld.2.2.2.2.2.2.2.2.2.2.2.2.2.2.2.2.2.2.2.2.2.2.2.1, cell_later hv1 hHeld.2.2.2.2.2.2.2.2.2.2.2.2.2.2.2.2.2.2.2.2.2.2.2.2.1, cell_later hv1 hHeld.2.2.2.2.2.2.2.2.2.2.2.2.2.2.2.2.2.2.2.2.2.2.2.2.2.1, cell_later hv1 hHeld.2.2.2.2.2.2.2.2.2.2.2.2.2.2.2.2.2.2.2.2.2.2.2.2.2.2.1, cell_later hv1 hHeld.2.2.2.2.2.2.2.2.2.2.2.2.2.2.2.2.2.2.2.2.2.2.2.2.2.2.2.1, cell_later hv1 hHeld.2.2.2.2.2.2.2.2.2.2.2.2.2.2.2.2.2.2.2.2.2.2.2.2.2.2.2.2.1, cell_later hv1 hHeld.2.2.2.2.2.2.2.2.2.2.2.2.2.2.2.2.2.2.2.2.2.2.2.2.2.2.2.2.2⟩ (fun hHeld => ?_)
  clear hK K
  refine norm_ (a' := ?_) ?_ ?_
  rotate_left
  · show Act.put _ (some 71) _ = _
    simp only [Act.put, List.setIfInBounds_toArray, List.set_cons_zero, List.set_cons_succ, i64_w, i32_w]
    rfl
  refine one_ (i := 32) (N := some 73) #[true, true, true, true, true, true, true, true, true, true, true, true, true, true, true, true, true, true, true, true, true, true, true, true, true, true, true, true, true, true, true, true, true, false, false, false, false, false, false, false, false, false, false] rfl rfl (one_of HT_.out (by kernel_rfl)) (by decide) (fun K hK => ?_)
  refine goes_ Try.func26 (by kernel_rfl) rfl #[.agg #[.int .i64 s0, .int .i64 s1, .int .i64 s2, .int .i64 s3, .int .i64 s4, .int .i64 s5]] (by rfl) rfl rfl (by (try simp only [List.map_toArray, List.map_cons, List.map_nil]); first | done | rfl) ?_
  with_reducible refine (C26.out _).mono ?_
  rintro e v2 ⟨rfl, hv2⟩
  refine ⟨_, rfl, ?_⟩
  refine hK.out _ _ ⟨cell_later hv2 hHeld.1, cell_later hv2 hHeld.2.1, cell_later hv2 hHeld.2.2.1, cell_later hv2 hHeld.2.2.2.1, cell_later hv2 hHeld.2.2.2.2.1, cell_later hv2 hHeld.2.2.2.2.2.1, cell_later hv2 hHeld.2.2.2.2.2.2.1, cell_later hv2 hHeld.2.2.2.2.2.2.2.1, cell_later hv2 hHeld.2.2.2.2.2.2.2.2.1, cell_later hv2 hHeld.2.2.2.2.2.2.2.2.2.1, cell_later hv2 hHeld.2.2.2.2.2.2.2.2.2.2.1, cell_later hv2 hHeld.2.2.2.2.2.2.2.2.2.2.2.1, cell_later hv2 hHeld.2.2.2.2.2.2.2.2.2.2.2.2.1, cell_later hv2 hHeld.2.2.2.2.2.2.2.2.2.2.2.2.2.1, cell_later hv2 hHeld.2.2.2.2.2.2.2.2.2.2.2.2.2.2.1, cell_later hv2 hHeld.2.2.2.2.2.2.2.2.2.2.2.2.2.2.2.1, cell_later hv2 hHeld.2.2.2.2.2.2.2.2.2.2.2.2.2.2.2.2.1, cell_later hv2 hHeld.2.2.2.2.2.2.2.2.2.2.2.2.2.2.2.2.2.1, cell_later hv2 hHeld.2.2.2.2.2.2.2.2.2.2.2.2.2.2.2.2.2.2.1, cell_later hv2 hHeld.2.2.2.2.2.2.2.2.2.2.2.2.2.2.2.2.2.2.2.1, cell_later hv2 hHeld.2.2.2.2.2.2.2.2.2.2.2.2.2.2.2.2.2.2.2.2.1, cell_later hv2 hHeld.2.2.2.2.2.2.2.2.2.2.2.2.2.2.2.2.2.2.2.2.2.1, cell_later hv2 hHeld.2.2.2.2.2.2.2.2.2.2.2.2.2.2.2.2.2.2.2.2.2.2.1, cell_later hv2 hHeld.2.2.2.2.2.2.2.2.2.2.2.2.2.2.2.2.2.2.2.2.2.2.2.1, cell_later hv2 hHeld.2.2.2.2.2.2.2.2.2.2.2.2.2.2.2.2.2.2.2.2.2.2.2.2.1, cell_later hv2 hHeld.2.2.2.2.2.2.2.2.2.2.2.2.2.2.2.2.2.2.2.2.2.2.2.2.2.1, cell_later hv2 hHeld.2.2.2.2.2.2.2.2.2.2.2.2.2.2.2.2.2.2.2.2.2.2.2.2.2.2.1, cell_later hv2 hHeld.2.2.2.2.2.2.2.2.2.2.2.2.2.2.2.2.2.2.2.2.2.2.2.2.2.2.2.1, cell_later hv2 hHeld.2.2.2.2.2.2.2.2.2.2.2.2.2.2.2.2.2.2.2.2.2.2.2.2.2.2.2.2.1, cell_later hv2 hHeld.2.2.2.2.2.2.2.2.2.2.2.2.2.2.2.2.2.2.2.2.2.2.2.2.2.2.2.2.2⟩ (fun hHeld => ?_)
  clear hK K
  refine norm_ (a' := ?_) ?_ ?_
  rotate_left
  · show Act.put _ (some 73) _ = _
    simp only [Act.put, List.setIfInBounds_toArray, List.set_cons_zero, List.set_cons_succ, i64_w, i32_w]
    rfl
  refine pure_ (i := 33) (N := some 74) (v := ?_) (a' := ?_) #[true, true, true, true, true, true, true, true, true, true, true, true, true, true, true, true, true, true, true, true, true, true, true, true, true, true, true, true, true, true, true, true, true, true, false, false, false, false, false, false, false, false, false] rfl rfl (any_of HT_.out (by kernel_rfl)) (fun _ _ _ h => h) (Or.inl ⟨by rfl, ?_⟩) ?_ ?_
  rotate_left
  · intro w'
    go_simp
    with_reducible rfl
  rotate_left
  · simp only [Act.put, List.setIfInBounds_toArray, List.set_cons_zero, List.set_cons_succ, i64_w, i32_w]
    rfl
  refine pure_ (i := 34) (N := some 75) (v := ?_) (a' := ?_) #[true, true, true, true, true, true, true, true, true, true, true, true, true, true, true, true, true, true, true, true, true, true, true, true, true, true, true, true, true, true, true, true, true, true, true, false, false, false, false, false, false, false, false] rfl rfl (any_of HT_.out (by kernel_rfl)) (fun _ _ _ h => h) (Or.inl ⟨by rfl, ?_⟩) ?_ ?_
  rotate_left
  · intro w'
    go_simp
    with_reducible rfl
  rotate_left
  · simp only [Act.put, List.setIfInBounds_toArray, List.set_cons_zero, List.set_cons_succ, i64_w, i32_w]
    rfl
  refine pure_ (i := 35) (N := some 76) (v := ?_) (a' := ?_) #[true, true, true, true, true, true, true, true, true, true, true, true, true, true, true, true, true, true, true, true, true, true, true, true, true, true, true, true, true, true, true, true, true, true, true, true, false, false, false, false, false, false, false] rfl rfl (any_of HT_.out (by kernel_rfl)) (fun _ _ _ h => h) (Or.inl ⟨by rfl, ?_⟩) ?_ ?_
  rotate_left
  · intro w'
    go_simp
    with_reducible rfl
  rotate_left
  · simp only [Act.put, List.setIfInBounds_toArray, List.set_cons_zero, List.set_cons_succ, i64_w, i32_w]
    rfl
  refine take_ (i := 36) (N := some 77) (v := ?_) (a' := ?_) #[true, true, true, true, true, true, true, true, true, true, true, true, true, true, true, true, true, true, true, true, true, true, true, true, true, true, true, true, true, true, true, true, true, true, true, true, true, false, false, false, false, false, false] rfl rfl (take_ofW HT_.out HW_.out (by kernel_rfl)) (fun _ _ _ h => h) (Or.inl ⟨by rfl, ?_⟩) hHeld ?_ ?_
  rotate_left
  · rintro w' ⟨s0, s1, s2, s3, s4, s5, s6, s7, s8, s9, s10, s11, s12, s13, s14, s15, s16, s17, s18, s19, s20, s21, s22, s23, s24, s25, s26, s27, s28, s29⟩
    go_simp
    with_reducible rfl
  rotate_left
  · simp only [Act.put, List.setIfInBounds_toArray, List.set_cons_zero, List.set_cons_succ, i64_w, i32_w]
    rfl
  refine take_ (i := 38) (N := some 79) (v := ?_) (a' := ?_) #[true, true, true, true, true, true, true, true, true, true, true, true, true, true, true, true, true, true, true, true, true, true, true, true, true, true, true, true, true, true, true, true, true, true, true, true, true, false, true, false, false, false, false] rfl rfl (take_ofW HT_.out HW_.out (by kernel_rfl)) (fun _ _ _ h => h) (Or.inl ⟨by rfl, ?_⟩) hHeld ?_ ?_
  rotate_left
  · rintro w' ⟨s0, s1, s2, s3, s4, s5, s6, s7, s8, s9, s10, s11, s12, s13, s14, s15, s16, s17, s18, s19, s20, s21, s22, s23, s24, s25, s26, s27, s28, s29⟩
    go_simp
    with_reducible rfl
  rotate_left
  · simp only [Act.put, List.setIfInBounds_toArray, List.set_cons_zero, List.set_cons_succ, i64_w, i32_w]
    rfl
  refine one_ (i := 37) (N := some 78) #[true, true, true, true, true, true, true, true, true, true, true, true, true, true, true, true, true, true, true, true, true, true, true, true, true, true, true, true, true, true, true, true, true, true, true, true, true, true, true, false, false, false, false] rfl rfl (one_of HT_.out (by kernel_rfl)) (by decide) (fun K hK => ?_)
  refine goes_ Try.func27 (by kernel_rfl) rfl #[.agg #[.int .i64 s0, .int .i64 s1, .int .i64 s2, .int .i64 s3, .int .i64 s4, .int .i64 s5]] (by rfl) rfl rfl (by (try simp only [List.map_toArray, List.map_cons, List.map_nil]); first | done | rfl) ?_
  with_reducible refine (C27.out _).mono ?_
  rintro e v3 ⟨rfl, hv3⟩
  refine ⟨_, rfl, ?_⟩
  refine hK.out _ _ ⟨cell_later hv3 hHeld.1, cell_later hv3 hHeld.2.1, cell_later hv3 hHeld.2.2.1, cell_later hv3 hHeld.2.2.2.1, cell_later hv3 hHeld.2.2.2.2.1, cell_later hv3 hHeld.2.2.2.2.2.1, cell_later hv3 hHeld.2.2.2.2.2.2.1, cell_later hv3 hHeld.2.2.2.2.2.2.2.1, cell_later hv3 hHeld.2.2.2.2.2.2.2.2.1, cell_later hv3 hHeld.2.2.2.2.2.2.2.2.2.1, cell_later hv3 hHeld.2.2.2.2.2.2.2.2.2.2.1, cell_later hv3 hHeld.2.2.2.2.2.2.2.2.2.2.2.1, cell_later hv3 hHeld.2.2.2.2.2.2.2.2.2.2.2.2.1, cell_later hv3 hHeld.2.2.2.2.2.2.2.2.2.2.2.2.2.1, cell_later hv3 hHeld.2.2.2.2.2.2.2.2.2.2.2.2.2.2.1, cell_later hv3 hHeld.2.2.2.2.2.2.2.2.2.2.2.2.2.2.2.1, cell_later hv3 hHeld.2.2.2.2.2.2.2.2.2.2.2.2.2.2.2.2.1, cell_later hv3 hHeld.2.2.2.2.2.2.2.2.2.2.2.2.2.2.2.2.2.1, cell_later hv3 hHeld.2.2.2.2.2.2.2.2.2.2.2.2.2.2.2.2.2.2.1, cell_later hv3 hHeld.2.2.2.2.2.2.2.2.2.2.2.2.2.2.2.2.2.2.2.1, cell_later hv3 hHeld.2.2.2.2.2.2.2.2.2.2.2.2.2.2.2.2.2.2.2.2.1, cell_later hv3 hHeld.2.2.2.2.2.2.2.2.2.2.2.2.2.2.2.2.2.2.2.2.2.1, cell_later hv3 hHeld.2.2.2.2.2.2.2.2.2.2.2.2.2.2.2.2.2.2.2.2.2.2.1, cell_later hv3 hHeld.2.2.2.2.2.2.2.2.2.2.2.2.2.2.2.2.2.2.2.2.2.2.2.1, cell_later hv3 hHeld.2.2.2.2.2.2.2.2.2.2.2.2.2.2.2.2.2.2.2.2.2.2.2.2.1, cell_later hv3 hHeld.2.2.2.2.2.2.2.2.2.2.2.2.2.2.2.2.2.2.2.2.2.2.2.2.2.1, cell_later hv3 hHeld.2.2.2.2.2.2.2.2.2.2.2.2.2.2.2.2.2.2.2.2.2.2.2.2.2.2.1, cell_later hv3 hHeld.2.2.2.2.2.2.2.2.2.2.2.2.2.2.2.2.2.2.2.2.2.2.2.2.2.2.2.1, cell_later hv3 hHeld.2.2.2.2.2.2.2.2.2.2.2.2.2.2.2.2.2.2.2.2.2.2.2.2.2.2.2.2.1, cell_later hv3 hHeld.2.2.2.2.2.2.2.2.2.2.2.2.2.2.2.2.2.2.2.2.2.2.2.2.2.2.2.2.2⟩ (fun hHeld => ?_)
  clear hK K
  refine norm_ (a' := ?_) ?_ ?_
  rotate_left
  · show Act.put _ (some 78) _ = _
    simp only [Act.put, List.setIfInBounds_toArray, List.set_cons_zero, List.set_cons_succ, i64_w, i32_w]
    rfl
  refine one_ (i := 39) (N := some 80) #[true, true, true, true, true, true, true, true, true, true, true, true, true, true, true, true, true, true, true, true, true, true, true, true, true, true, true, true, true, true, true, true, true, true, true, true, true, true, true, true, false, false, false] rfl rfl (one_of HT_.out (by kernel_rfl)) (by decide) (fun K hK => ?_)
  refine goes_ Try.func26 (by kernel_rfl) rfl #[.agg #[.int .i64 s0, .int .i64 s1, .int .i64 s2, .int .i64 s3, .int .i64 s4, .int .i64 s5]] (by rfl) rfl rfl (by (try simp only [List.map_toArray, List.map_cons, List.map_nil]); first | done | rfl) ?_
  with_reducible refine (C26.out _).mono ?_
  rintro e v4 ⟨rfl, hv4⟩
  refine ⟨_, rfl, ?_⟩
  refine hK.out _ _ ⟨cell_later hv4 hHeld.1, cell_later hv4 hHeld.2.1, cell_later hv4 hHeld.2.2.1, cell_later hv4 hHeld.2.2.2.1, cell_later hv4 hHeld.2.2.2.2.1, cell_later hv4 hHeld.2.2.2.2.2.1, cell_later hv4 hHeld.2.2.2.2.2.2.1, cell_later hv4 hHeld.2.2.2.2.2.2.2.1, cell_later hv4 hHeld.2.2.2.2.2.2.2.2.1, cell_later hv4 hHeld.2.2.2.2.2.2.2.2.2.1, cell_later hv4 hHeld.2.2.2.2.2.2.2.2.2.2.1, cell_later hv4 hHeld.2.2.2.2.2.2.2.2.2.2.2.1, cell_later hv4 hHeld.2.2.2.2.2.2.2.2.2.2.2.2.1, cell_later hv4 hHeld.2.2.2.2.2.2.2.2.2.2.2.2.2.1, cell_later hv4 hHeld.2.2.2.2.2.2.2.2.2.2.2.2.2.2.1, cell_later hv4 hHeld.2.2.2.2.2.2.2.2.2.2.2.2.2.2.2.1, cell_later hv4 hHeld.2.2.2.2.2.2.2.2.2.2.2.2.2.2.2.2.1, cell_later hv4 hHeld.2.2.2.2.2.2.2.2.2.2.2.2.2.2.2.2.2.1, cell_later hv4 hHeld.2.2.2.2.2.2.2.2.2.2.2.2.2.2.2.2.2.2.1, cell_later hv4 hHeld.2.2.2.2.2.2.2.2.2.2.2.2.2.2.2.2.2.2.2.1, cell_later hv4 hHeld.2.2.2.2.2.2.2.2.2.2.2.2.2.2.2.2.2.2.2.2.1, cell_later hv4 hHeld.2.2.2.2.2.2.2.2.2.2.2.2.2.2.2.2.2.2.2.2.2.1, cell_later hv4 hHeld.2.2.2.2.2.2.2.2.2.2.2.2.2.2.2.2.2.2.2.2.2.2.1, cell_later hv4 hHeld.2.2.2.2.2.2.2.2.2.2.2.2.2.2.2.2.2.2.2.2.2.2.2.1, cell_later hv4 hHeld.2.2.2.2.2.2.2.2.2.2.2.2.2.2.2.2.2.2.2.2.2.2.2.2.1, cell_later hv4 hHeld.2.2.2.2.2.2.2.2.2.2.2.2.2.2.2.2.2.2.2.2.2.2.2.2.2.1, cell_later hv4 hHeld.2.2.2.2.2.2.2.2.2.2.2.2.2.2.2.2.2.2.2.2.2.2.2.2.2.2.1, cell_later hv4 hHeld.2.2.2.2.2.2.2.2.2.2.2.2.2.2.2.2.2.2.2.2.2.2.2.2.2.2.2.1, cell_later hv4 hHeld.2.2.2.2.2.2.2.2.2.2.2.2.2.2.2.2.2.2.2.2.2.2.2.2.2.2.2.2.1, cell_later hv4 hHeld.2.2.2.2.2.2.2.2.2.2.2.2.2.2.2.2.2.2.2.2.2.2.2.2.2.2.2.2.2⟩ (fun hHeld => ?_)
  clear hK K
  refine norm_ (a' := ?_) ?_ ?_
  rotate_left
  · show Act.put _ (some 80) _ = _
    simp only [Act.put, List.setIfInBounds_toArray, List.set_cons_zero, List.set_cons_succ, i64_w, i32_w]
    rfl
  refine pure_ (i := 40) (N := some 81) (v := ?_) (a' := ?_) #[true, true, true, true, true, true, true, true, true, true, true, true, true, true, true, true, true, true, true, true, true, true, true, true, true, true, true, true, true, true, true, true, true, true, true, true, true, true, true, true, true, false, false] rfl rfl (any_of HT_.out (by kernel_rfl)) (fun _ _ _ h => h) (Or.inl ⟨by rfl, ?_⟩) ?_ ?_
  rotate_left
  · intro w'
    go_simp
    with_reducible rfl
  rotate_left
  · simp only [Act.put, List.setIfInBounds_toArray, List.set_cons_zero, List.set_cons_succ, i64_w, i32_w]
    rfl
  refine pure_ (i := 41) (N := some 82) (v := ?_) (a' := ?_) #[true, true, true, true, true, true, true, true, true, true, true, true, true, true, true, true, true, true, true, true, true, true, true, true, true, true, true, true, true, true, true, true, true, true, true, true, true, true, true, true, true, true, false] rfl rfl (any_of HT_.out (by kernel_rfl)) (fun _ _ _ h => h) (Or.inl ⟨by rfl, ?_⟩) ?_ ?_
  rotate_left
  · intro w'
    go_simp
    with_reducible rfl
  rotate_left
  · simp only [Act.put, List.setIfInBounds_toArray, List.set_cons_zero, List.set_cons_succ, i64_w, i32_w]
    rfl
  refine pure_ (i := 42) (N := some 2) (v := ?_) (a' := ?_) #[true, true, true, true, true, true, true, true, true, true, true, true, true, true, true, true, true, true, true, true, true, true, true, true, true, true, true, true, true, true, true, true, true, true, true, true, true, true, true, true, true, true, true] rfl rfl (any_of HT_.out (by kernel_rfl)) (fun _ _ _ h => h) (Or.inl ⟨by rfl, ?_⟩) ?_ ?_
  rotate_left
  · intro w'
    go_simp
    with_reducible rfl
  rotate_left
  · simp only [Act.put, List.setIfInBounds_toArray, List.set_cons_zero, List.set_cons_succ, i64_w, i32_w]
    rfl
  refine done_ (done_of HT_.out (by kernel_rfl)) ?_
  go_wp2
  go_ret
  exact ⟨rfl, below_tr (show Below w.heap.size w W5.drew from HB.out.drew) (below_tr hv1 (below_tr hv2 (below_tr hv3 hv4)))⟩
end Go.Proofs.Ytigobnphenhkjaa.Fns
