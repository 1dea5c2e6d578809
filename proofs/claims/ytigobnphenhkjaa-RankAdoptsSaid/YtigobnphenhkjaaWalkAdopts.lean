/- RankAdopts: its walk. -/
import Derived.Test.YtigobnphenhkjaaRefSpecB
import Derived.Test.YtigobnphenhkjaaWorld
import Derived.Test.YtigobnphenhkjaaPureawake
namespace Go.Proofs.Ytigobnphenhkjaa.Fns
open Go.RowKit Go.Proofs.YtigobnphenhkjaaW.PrintWords Go.Proofs.YtigobnphenhkjaaW.PrintLast Go.Proofs.YtigobnphenhkjaaW.PrintMore
set_option linter.unusedVariables false
set_option linter.unusedSimpArgs false
attribute [local go_sem high] eqA23
def Has6 (w : World) (b : Nat) (x0 x1 x2 x3 x4 x5 : Int) : Prop :=
  w.cell? ⟨b, 0, none⟩ = some (.int .i64 x0) ∧ w.cell? ⟨b, 1, none⟩ = some (.int .i64 x1) ∧ w.cell? ⟨b, 2, none⟩ = some (.int .i64 x2) ∧ w.cell? ⟨b, 3, none⟩ = some (.int .i64 x3) ∧ w.cell? ⟨b, 4, none⟩ = some (.int .i64 x4) ∧ w.cell? ⟨b, 5, none⟩ = some (.int .i64 x5)
theorem Has6.new (w : World) (x0 x1 x2 x3 x4 x5 : Int) : Has6 (w.alloc (.cells #[.int .i64 x0, .int .i64 x1, .int .i64 x2, .int .i64 x3, .int .i64 x4, .int .i64 x5] 23)) w.heap.size x0 x1 x2 x3 x4 x5 := by
  refine ⟨?_, ?_, ?_, ?_, ?_, ?_⟩ <;> simp
theorem Has6.later {w wx : World} {b : Nat} {x0 x1 x2 x3 x4 x5 : Int} (h : Has6 w b x0 x1 x2 x3 x4 x5) (hb : Below w.heap.size w wx) : Has6 wx b x0 x1 x2 x3 x4 x5 :=
  ⟨cell_later hb h.1, cell_later hb h.2.1, cell_later hb h.2.2.1, cell_later hb h.2.2.2.1, cell_later hb h.2.2.2.2.1, cell_later hb h.2.2.2.2.2⟩
theorem below_new (w : World) (o : Obj) : Below w.heap.size w (w.alloc o) := (Below.refl _ _).alloc (Nat.le_refl _) o
theorem below_tr {a b c : World} (h1 : Below a.heap.size a b) (h2 : Below b.heap.size b c) : Below a.heap.size a c := h1.trans (h2.mono h1.size)
set_option maxRecDepth 100000 in
set_option maxHeartbeats 2000000 in
theorem adopts_walk (fr e r c : Int) (s : S23) (w : World) :
    Calls Try.prog 4 #[vS s, .int .i64 fr, .int .i64 e, .int .i64 r, .int .i64 c] w fun en w' => en = .returned (.bool true) ∧ Below w.heap.size w w' := by
  have hu23 := Try.underlying23
  obtain ⟨s0, s1, s2, s3, s4, s5⟩ := s
  obtain ⟨⟨⟨x0, x1, x2, x3, x4, x5⟩, x6⟩, hst⟩ : ∃ st, st = adopt ⟨s0, s1, s2, s3, s4, s5⟩ fr e r c := ⟨_, rfl⟩
  obtain ⟨⟨⟨y0, y1, y2, y3, y4, y5⟩, y6⟩, hsu⟩ : ∃ st, st = update ⟨s0, s1, s2, s3, s4, s5⟩ e r c := ⟨_, rfl⟩
  have C17 := Aside0.mk (show ∀ w, Calls Try.prog 17 #[.agg #[.int .i64 s0, .int .i64 s1, .int .i64 s2, .int .i64 s3, .int .i64 s4, .int .i64 s5], .int .i64 fr, .int .i64 e, .int .i64 r, .int .i64 c] w fun en w' => en = .returned (.tuple #[.agg #[.int .i64 x0, .int .i64 x1, .int .i64 x2, .int .i64 x3, .int .i64 x4, .int .i64 x5], .int .i64 x6]) ∧ Below w.heap.size w w' from fun w => by have h := adopt_calls ⟨s0, s1, s2, s3, s4, s5⟩ fr e r c w; rw [← hst] at h; exact h)
  have C18 := Aside0.mk (show ∀ w, Calls Try.prog 18 #[.agg #[.int .i64 s0, .int .i64 s1, .int .i64 s2, .int .i64 s3, .int .i64 s4, .int .i64 s5], .int .i64 fr, .int .i64 e, .int .i64 r, .int .i64 c] w fun en w' => en = .returned (.tuple #[.agg #[.int .i64 x0, .int .i64 x1, .int .i64 x2, .int .i64 x3, .int .i64 x4, .int .i64 x5], .int .i64 x6]) ∧ Below w.heap.size w w' from fun w => by have h := radopt_calls ⟨s0, s1, s2, s3, s4, s5⟩ fr e r c w; rw [← hst] at h; exact h)
  have C19 := Aside0.mk (show ∀ w, Calls Try.prog 19 #[.agg #[.int .i64 s0, .int .i64 s1, .int .i64 s2, .int .i64 s3, .int .i64 s4, .int .i64 s5], .int .i64 e, .int .i64 r, .int .i64 c] w fun en w' => en = .returned (.tuple #[.agg #[.int .i64 y0, .int .i64 y1, .int .i64 y2, .int .i64 y3, .int .i64 y4, .int .i64 y5], .int .i64 y6]) ∧ Below w.heap.size w w' from fun w => by have h := update_calls ⟨s0, s1, s2, s3, s4, s5⟩ e r c w; rw [← hsu] at h; exact h)
  have C20 := Aside0.mk (show ∀ w, Calls Try.prog 20 #[.agg #[.int .i64 s0, .int .i64 s1, .int .i64 s2, .int .i64 s3, .int .i64 s4, .int .i64 s5], .int .i64 e, .int .i64 r, .int .i64 c] w fun en w' => en = .returned (.tuple #[.agg #[.int .i64 y0, .int .i64 y1, .int .i64 y2, .int .i64 y3, .int .i64 y4, .int .i64 y5], .int .i64 y6]) ∧ Below w.heap.size w w' from fun w => by have h := rupdate_calls ⟨s0, s1, s2, s3, s4, s5⟩ e r c w; rw [← hsu] at h; exact h)
  have C10 := Aside0.mk (show ∀ w, Calls Try.prog 10 #[] w fun e w' => e = .returned (.bool true) ∧ Below w.heap.size w w' from fun w => hopmeshlaw22_awake.walk Pure.awake w)
  clear hst hsu
  show Calls Try.prog 4 #[.agg #[.int .i64 s0, .int .i64 s1, .int .i64 s2, .int .i64 s3, .int .i64 s4, .int .i64 s5], .int .i64 fr, .int .i64 e, .int .i64 r, .int .i64 c] w _
  go_enter Try.func4, Try.ntmps4
  go_upto_region 3 with (go_at_call 10; (with_reducible refine (C10.out _).mono ?_); rintro e w1 ⟨rfl, hb1⟩)
  refine wp_world (F := fun W => Below w.heap.size w W ∧ Has6 W w.heap.size s0 s1 s2 s3 s4 s5) ⟨below_tr (below_new _ _) hb1, (Has6.new w s0 s1 s2 s3 s4 s5).later hb1⟩ (fun W1 hF => ?_)
  have H1 := Aside0.mk hF
  obtain ⟨hb, ⟨a0, a1, a2, a3, a4, a5⟩⟩ := hF
  clear hb
  clear hb1 C10
  go_upto_region 4 with (go_at_call 17; (with_reducible refine (C17.out _).mono ?_); rintro e u1 ⟨rfl, hc1⟩)
  have he := below_tr hc1 (below_new u1 (.cells #[.int .i64 x0, .int .i64 x1, .int .i64 x2, .int .i64 x3, .int .i64 x4, .int .i64 x5] 23))
  refine wp_world (F := fun W => Below w.heap.size w W ∧ Has6 W w.heap.size s0 s1 s2 s3 s4 s5 ∧ Has6 W u1.heap.size x0 x1 x2 x3 x4 x5) ⟨below_tr H1.out.1 he, (H1.out.2).later he, Has6.new u1 x0 x1 x2 x3 x4 x5⟩ (fun W2 hF => ?_)
  clear he hc1 C17 H1 a0 a1 a2 a3 a4 a5
  generalize u1.heap.size = B1 at hF ⊢
  have H2 := Aside0.mk hF
  obtain ⟨hb, ⟨a0, a1, a2, a3, a4, a5⟩, ⟨b0, b1, b2, b3, b4, b5⟩⟩ := hF
  clear hb
  go_upto_region 5 with (go_at_call 18; (with_reducible refine (C18.out _).mono ?_); rintro e u2 ⟨rfl, hc2⟩)
  have he := below_tr hc2 (below_new u2 (.cells #[.int .i64 x0, .int .i64 x1, .int .i64 x2, .int .i64 x3, .int .i64 x4, .int .i64 x5] 23))
  refine wp_world (F := fun W => Below w.heap.size w W ∧ Has6 W w.heap.size s0 s1 s2 s3 s4 s5 ∧ Has6 W B1 x0 x1 x2 x3 x4 x5 ∧ Has6 W u2.heap.size x0 x1 x2 x3 x4 x5) ⟨below_tr H2.out.1 he, (H2.out.2.1).later he, (H2.out.2.2).later he, Has6.new u2 x0 x1 x2 x3 x4 x5⟩ (fun W3 hF => ?_)
  clear he hc2 C18 H2 a0 a1 a2 a3 a4 a5 b0 b1 b2 b3 b4 b5
  generalize u2.heap.size = B2 at hF ⊢
  have H3 := Aside0.mk hF
  obtain ⟨hb, ⟨a0, a1, a2, a3, a4, a5⟩, ⟨b0, b1, b2, b3, b4, b5⟩, ⟨d0, d1, d2, d3, d4, d5⟩⟩ := hF
  clear hb
  go_upto_region 6 with (go_at_call 19; (with_reducible refine (C19.out _).mono ?_); rintro e u3 ⟨rfl, hc3⟩)
  have he := below_tr hc3 (below_new u3 (.cells #[.int .i64 y0, .int .i64 y1, .int .i64 y2, .int .i64 y3, .int .i64 y4, .int .i64 y5] 23))
  refine wp_world (F := fun W => Below w.heap.size w W ∧ Has6 W w.heap.size s0 s1 s2 s3 s4 s5 ∧ Has6 W B1 x0 x1 x2 x3 x4 x5 ∧ Has6 W B2 x0 x1 x2 x3 x4 x5 ∧ Has6 W u3.heap.size y0 y1 y2 y3 y4 y5) ⟨below_tr H3.out.1 he, (H3.out.2.1).later he, (H3.out.2.2.1).later he, (H3.out.2.2.2).later he, Has6.new u3 y0 y1 y2 y3 y4 y5⟩ (fun W4 hF => ?_)
  clear he hc3 C19 H3 a0 a1 a2 a3 a4 a5 b0 b1 b2 b3 b4 b5 d0 d1 d2 d3 d4 d5
  generalize u3.heap.size = B3 at hF ⊢
  have H4 := Aside0.mk hF
  obtain ⟨hb, ⟨a0, a1, a2, a3, a4, a5⟩, ⟨b0, b1, b2, b3, b4, b5⟩, ⟨d0, d1, d2, d3, d4, d5⟩, ⟨f0, f1, f2, f3, f4, f5⟩⟩ := hF
  clear hb
  go_upto_region 7 with (go_at_call 20; (with_reducible refine (C20.out _).mono ?_); rintro e u4 ⟨rfl, hc4⟩)
  have he := below_tr hc4 (below_new u4 (.cells #[.int .i64 y0, .int .i64 y1, .int .i64 y2, .int .i64 y3, .int .i64 y4, .int .i64 y5] 23))
  refine wp_world (F := fun W => Below w.heap.size w W ∧ Has6 W w.heap.size s0 s1 s2 s3 s4 s5 ∧ Has6 W B1 x0 x1 x2 x3 x4 x5 ∧ Has6 W B2 x0 x1 x2 x3 x4 x5 ∧ Has6 W B3 y0 y1 y2 y3 y4 y5 ∧ Has6 W u4.heap.size y0 y1 y2 y3 y4 y5) ⟨below_tr H4.out.1 he, (H4.out.2.1).later he, (H4.out.2.2.1).later he, (H4.out.2.2.2.1).later he, (H4.out.2.2.2.2).later he, Has6.new u4 y0 y1 y2 y3 y4 y5⟩ (fun W5 hF => ?_)
  clear he hc4 C20 H4 a0 a1 a2 a3 a4 a5 b0 b1 b2 b3 b4 b5 d0 d1 d2 d3 d4 d5 f0 f1 f2 f3 f4 f5
  generalize u4.heap.size = B4 at hF ⊢
  have H5 := Aside0.mk hF
  obtain ⟨hb, ⟨a0, a1, a2, a3, a4, a5⟩, ⟨b0, b1, b2, b3, b4, b5⟩, ⟨d0, d1, d2, d3, d4, d5⟩, ⟨f0, f1, f2, f3, f4, f5⟩, ⟨g0, g1, g2, g3, g4, g5⟩⟩ := hF
  clear hb
  go_wp2
  go_ret
  exact ⟨rfl, H5.out.1⟩
end Go.Proofs.Ytigobnphenhkjaa.Fns
