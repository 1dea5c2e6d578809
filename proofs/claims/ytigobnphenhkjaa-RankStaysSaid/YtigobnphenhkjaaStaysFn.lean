/- RankStays: its walk. -/
import Derived.Test.YtigobnphenhkjaaPlayStep
import Derived.Test.YtigobnphenhkjaaKeeps
import Derived.Test.YtigobnphenhkjaaRefSpec
import Derived.Test.YtigobnphenhkjaaPureawake
namespace Go.Proofs.Ytigobnphenhkjaa.Fns
open Go.RowKit Go.Proofs.YtigobnphenhkjaaW.PrintWords Go.Proofs.YtigobnphenhkjaaW.PrintLast Go.Proofs.YtigobnphenhkjaaW.PrintMore
set_option linter.unusedVariables false
set_option linter.unusedSimpArgs false
def Has6 (w : World) (b : Nat) (x0 x1 x2 x3 x4 x5 : Int) : Prop :=
  w.cell? ⟨b, 0, none⟩ = some (.int .i64 x0) ∧ w.cell? ⟨b, 1, none⟩ = some (.int .i64 x1) ∧ w.cell? ⟨b, 2, none⟩ = some (.int .i64 x2) ∧ w.cell? ⟨b, 3, none⟩ = some (.int .i64 x3) ∧ w.cell? ⟨b, 4, none⟩ = some (.int .i64 x4) ∧ w.cell? ⟨b, 5, none⟩ = some (.int .i64 x5)
theorem Has6.new (w : World) (x0 x1 x2 x3 x4 x5 : Int) : Has6 (w.alloc (.cells #[.int .i64 x0, .int .i64 x1, .int .i64 x2, .int .i64 x3, .int .i64 x4, .int .i64 x5] 23)) w.heap.size x0 x1 x2 x3 x4 x5 := by
  refine ⟨?_, ?_, ?_, ?_, ?_, ?_⟩ <;> simp
theorem Has6.later {w wx : World} {b : Nat} {x0 x1 x2 x3 x4 x5 : Int} (h : Has6 w b x0 x1 x2 x3 x4 x5) (hb : Below w.heap.size w wx) : Has6 wx b x0 x1 x2 x3 x4 x5 :=
  ⟨cell_later hb h.1, cell_later hb h.2.1, cell_later hb h.2.2.1, cell_later hb h.2.2.2.1, cell_later hb h.2.2.2.2.1, cell_later hb h.2.2.2.2.2⟩
theorem below_new (w : World) (o : Obj) : Below w.heap.size w (w.alloc o) := (Below.refl _ _).alloc (Nat.le_refl _) o
theorem below_tr {a b c : World} (h1 : Below a.heap.size a b) (h2 : Below b.heap.size b c) : Below a.heap.size a c := h1.trans (h2.mono h1.size)
theorem cell_grown {w w1 : World} {b i : Nat} {u : Value} {row : Option Nat} (h : w.cell? ⟨b, i, none⟩ = some u) (hg : w.grownBy w1 row) (hne : row ≠ some b) : w1.cell? ⟨b, i, none⟩ = some u := by
  have hb := World.block_lt_of_cell? _ _ h
  have he := hg.block b hb (fun e => hne e.symm)
  rw [← h]
  unfold World.cell?
  simp only [he]
theorem Has6.grown {w w1 : World} {b : Nat} {x0 x1 x2 x3 x4 x5 : Int} {row : Option Nat} (h : Has6 w b x0 x1 x2 x3 x4 x5) (hg : w.grownBy w1 row) (hne : row ≠ some b) : Has6 w1 b x0 x1 x2 x3 x4 x5 :=
  ⟨cell_grown h.1 hg hne, cell_grown h.2.1 hg hne, cell_grown h.2.2.1 hg hne, cell_grown h.2.2.2.1 hg hne, cell_grown h.2.2.2.2.1 hg hne, cell_grown h.2.2.2.2.2 hg hne⟩
set_option maxRecDepth 100000 in
set_option maxHeartbeats 2000000 in
theorem stays1_calls (x s : S23) (b : Nat) (w : World) (hb : Has6 w b s.f0 s.f1 s.f2 s.f3 s.f4 s.f5) (hg : Good x) (hl : Later s x) :
    Calls Try.prog 31 #[.agg #[.int .i64 x.f0, .int .i64 x.f1, .int .i64 x.f2, .int .i64 x.f3, .int .i64 x.f4, .int .i64 x.f5], .pointer (some ⟨b, 0, none⟩)] w fun e w' => e = .returned (.bool false) ∧ Below w.heap.size w w' := by
  have hu23 := Try.underlying23
  obtain ⟨x0, x1, x2, x3, x4, x5⟩ := x
  obtain ⟨s0, s1, s2, s3, s4, s5⟩ := s
  have hw : Below w.heap.size w (w.alloc (.cells #[.int .i64 x0, .int .i64 x1, .int .i64 x2, .int .i64 x3, .int .i64 x4, .int .i64 x5] 23)) := below_new _ _
  have C13 := Aside0.mk (show ∀ w, Calls Try.prog 13 #[.agg #[.int .i64 x0, .int .i64 x1, .int .i64 x2, .int .i64 x3, .int .i64 x4, .int .i64 x5]] w fun en w' => en = .returned (.int .i64 0) ∧ Below w.heap.size w w' from fun w => by
    have h := check_calls ⟨x0, x1, x2, x3, x4, x5⟩ w
    rw [(chk_zero _).2 hg] at h
    exact h)
  have HY := Aside0.mk (hb.later hw)
  have HX := Aside0.mk (Has6.new w x0 x1 x2 x3 x4 x5)
  obtain ⟨z0, z1, z2, z3, z4, z5⟩ := Has6.new w x0 x1 x2 x3 x4 x5
  obtain ⟨h0, hl⟩ := hl
  have h0 : x0 = s0 := h0
  subst h0
  have HW := Aside0.mk hw
  clear hw hb hg
  rcases hl with hl | ⟨hl, hm⟩
  · have hl : s1 < x1 := hl
    have q1 : decide (x1 < s1) = false := decide_eq_false (by omega)
    have q2 : (x1 == s1) = false := beq_eq_false_iff_ne.mpr (by omega)
    clear hl
    go_enter Try.func31, Try.ntmps31
    go_wp2_with (go_at_call 13; (with_reducible refine (C13.out _).mono ?_); rintro e w1 ⟨rfl, hb1⟩; obtain ⟨y0, y1, y2, y3, y4, y5⟩ := HY.out.later hb1; obtain ⟨v0, v1, v2, v3, v4, v5⟩ := HX.out.later hb1)
    go_ret
    exact ⟨rfl, below_tr HW.out hb1⟩
  · have hl : x1 = s1 := hl
    subst hl
    have hm : x5 ≤ s5 := hm
    have q1 : decide (x1 < x1) = false := decide_eq_false (by omega)
    have q3 : decide (s5 < x5) = false := decide_eq_false (by omega)
    clear hm
    go_enter Try.func31, Try.ntmps31
    go_wp2_with (go_at_call 13; (with_reducible refine (C13.out _).mono ?_); rintro e w1 ⟨rfl, hb1⟩; obtain ⟨y0, y1, y2, y3, y4, y5⟩ := HY.out.later hb1; obtain ⟨v0, v1, v2, v3, v4, v5⟩ := HX.out.later hb1)
    go_ret
    exact ⟨rfl, below_tr HW.out hb1⟩

theorem rd_mem {l : List S23} {k : Nat} (h : k < l.length) : rd_T23 l (k : Int) ∈ l := by
  simp [rd_T23, h]
set_option maxRecDepth 100000 in
set_option maxHeartbeats 2000000 in
theorem indexS_calls (l : List S23) (A : Option Addr) (c : Nat) (b : Nat) (s : S23) (w : World) (hC : Kd.C k23 w A l.length l) (hb : Has6 w b s.f0 s.f1 s.f2 s.f3 s.f4 s.f5) (hF : ∀ x ∈ l, Good x ∧ Later s x) :
    Calls Try.prog 48 #[.slice A l.length c, .func (.func 31) #[] #[.pointer (some ⟨b, 0, none⟩)]] w fun e w' => e = .returned (.int .i64 (-1)) ∧ Below w.heap.size w w' := by
  have hu23 := Try.underlying23
  have HC := Aside0.mk hC
  have HB := Aside0.mk hb
  have HF := Aside0.mk hF
  have hmax : l.length ≤ 9223372036854775807 := hC.2.1
  clear hC hb hF
  go_enter Try.func48, Try.ntmps48
  go_wp2
  go_loopw [8] (fun v wr => ∃ k : Nat, Aside0 (k ≤ l.length) ∧ v = .int .i64 (k : Int) ∧ Aside0 (Below w.heap.size w wr)) (fun v _ => l.length - (intOf v).toNat)
  case atStart => exact ⟨0, ⟨Nat.zero_le _⟩, rfl, ⟨Below.refl _ _⟩⟩
  case round =>
    obtain ⟨k, hk, rfl, HW⟩ := hrel
    by_cases hlt : k < l.length
    · have hlt' : decide ((k : Int) < (l.length : Int)) = true := decide_eq_true (by omega)
      have HK := Aside0.mk hlt
      obtain ⟨ad, hA, x0, x1, x2, x3, x4, x5⟩ := at_T23 (Kd.C_below HC.out HW.out) (k : Int) (by omega) (by omega)
      subst hA
      rw [Int.toNat_natCast] at x0 x1 x2 x3 x4 x5
      have hf := HF.out _ (rd_mem hlt)
      have hp := stays1_calls (rd_T23 l (k : Int)) s b wr (HB.out.later HW.out) hf.1 hf.2
      clear hf
      have hk1 : k < l.length := hlt
      go_wp2_with (go_at_call 31; refine hp.mono ?_; rintro e w1 ⟨rfl, hb1⟩)
      go_roundw
      case rel => exact ⟨k + 1, ⟨HK.out⟩, by go_num, ⟨HW.out.trans (hb1.mono HW.out.size)⟩⟩
      case measure => simp [intOf]; omega
    · have hlt' : decide ((k : Int) < (l.length : Int)) = false := decide_eq_false (by omega)
      have hltn : decide (k < l.length) = false := decide_eq_false hlt
      clear hlt
      go_wp2
      go_ret
      exact ⟨rfl, HW.out⟩
set_option maxRecDepth 100000 in
set_option maxHeartbeats 2000000 in
theorem containsS_calls (l : List S23) (A : Option Addr) (c : Nat) (b : Nat) (s : S23) (w : World) (hC : Kd.C k23 w A l.length l) (hb : Has6 w b s.f0 s.f1 s.f2 s.f3 s.f4 s.f5) (hF : ∀ x ∈ l, Good x ∧ Later s x) :
    Calls Try.prog 30 #[.slice A l.length c, .func (.func 31) #[] #[.pointer (some ⟨b, 0, none⟩)]] w fun e w' => e = .returned (.bool false) ∧ Below w.heap.size w w' := by
  have hp := indexS_calls l A c b s w hC hb hF
  clear hC hb hF
  go_enter Try.func30, Try.ntmps30
  go_wp2_with (go_at_call 48; refine hp.mono ?_; rintro e w1 ⟨rfl, hb1⟩)
  go_ret
  exact ⟨rfl, hb1⟩
/-- The row of next: states that a right one leads to. -/
def Row8 (s : S23) (W1 : World) (m : Nat) (v : Value) (wc : World) : Prop :=
  ∃ xs : List S23, (∀ x ∈ xs, Good x ∧ Later s x) ∧ xs.length ≤ m ∧ wc.ownsRow W1.heap.size 23 6 v xs.length (flat cS xs) ∧ Below W1.heap.size W1 wc
theorem Row8.later {s : S23} {W1 wc wd : World} {m : Nat} {v : Value} (h : Row8 s W1 m v wc) (hb : Below wc.heap.size wc wd) : Row8 s W1 m v wd := by
  obtain ⟨xs, h1, h2, h3, h4⟩ := h
  exact ⟨xs, h1, h2, own_later hb h3, h4.trans (hb.mono h4.size)⟩
theorem Row8.reads {s : S23} {W1 wc : World} {m : Nat} {v : Value} (h : Row8 s W1 m v wc) : ∃ (xs : List S23) (A : Option Addr) (c : Nat), v = .slice A xs.length c ∧ Kd.C k23 wc A xs.length xs ∧ ∀ x ∈ xs, Good x ∧ Later s x := by
  obtain ⟨xs, h1, h2, h3, h4⟩ := h
  obtain ⟨A, c, rfl⟩ := own_slice h3
  have hR : Kd.R k23 23 wc W1.heap.size (fun _ => True) (.slice A xs.length c) xs := ⟨fun _ _ => trivial, flat cS xs, h3, flat_reps _ wc W1.heap.size xs⟩
  exact ⟨xs, A, c, rfl, (Kd.R_reads' hR).2.2, h1⟩
theorem Row8.lt {s : S23} {W1 wc : World} {m : Nat} {v : Value} (h : Row8 s W1 m v wc) {k : Nat} (hk : v.ownBlock = some k) : k < wc.heap.size := by
  obtain ⟨xs, h1, h2, h3, h4⟩ := h
  exact own_lt h3 k hk
theorem Row8.up {s : S23} {W1 wc : World} {m n : Nat} {v : Value} (h : Row8 s W1 m v wc) (hmn : m ≤ n) : Row8 s W1 n v wc := by
  obtain ⟨xs, h1, h2, h3, h4⟩ := h
  exact ⟨xs, h1, Nat.le_trans h2 hmn, h3, h4⟩
end Go.Proofs.Ytigobnphenhkjaa.Fns
