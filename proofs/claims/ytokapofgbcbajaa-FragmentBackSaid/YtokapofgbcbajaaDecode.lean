/- Decode, of both sides. -/
import Derived.Test.YtokapofgbcbajaaReadPure
import Derived.Test.YtokapofgbcbajaaEncode
import Derived.Test.YtokapofgbcbajaaFx16
namespace Go.Proofs.Ytokapofgbcbajaa.Fns
open Go.RowKit Go.Proofs.YtokapofgbcbajaaW.PrintWords Go.Proofs.YtokapofgbcbajaaW.PrintLast Go.Proofs.YtokapofgbcbajaaW.PrintMore
set_option linter.unusedVariables false
set_option linter.unusedSimpArgs false
def decF (a : ByteArray) : Int × Int × Int × Int × ByteArray × Int :=
  if a.size < 4 then (0, 0, 0, 0, ⟨#[]⟩, 9)
  else if bt a 3 % 4 ≠ 0 then (0, 0, 0, 0, ⟨#[]⟩, 10)
  else if lenF (bt a 0) (bt a 1 / 8) (bt a 1 % 8 * 4 + bt a 2 / 64 + 1) (bt a 2 % 64 * 64 + bt a 3 / 4) ((a.size - 4 : Nat) : Int) = 0 then (0, 0, 0, 0, ⟨#[]⟩, 10)
  else (bt a 0, bt a 1 / 8, bt a 1 % 8 * 4 + bt a 2 / 64 + 1, bt a 2 % 64 * 64 + bt a 3 / 4, a.extract 4 a.size, 0)
/-- A reader's block. -/
def RB (w0 W : World) (T g : Nat) (s : ByteArray) (p : Int) : Prop := W.heap[g]? = some (.cells #[.string s, .int .i64 p, .int .i64 0] T (0, 0)) ∧ w0.heap.size ≤ g
/-- A reader and a result's box. -/
structure D0 (w0 W : World) (T g r : Nat) (s : ByteArray) (p : Int) : Prop where
  rd : RB w0 W T g s p
  bel : Below w0.heap.size w0 W
  bx : Box W r 0 0 0 0 ⟨#[]⟩
  ge : w0.heap.size ≤ r
  ne : T ≠ 23
theorem RB.nb {w0 W : World} {T g : Nat} {s : ByteArray} {p : Int} (h : RB w0 W T g s p) (hT : T ≠ 23) {r : Nat} {t i c z : Int} {d : ByteArray} (hb : Box W r t i c z d) : r ≠ g := by
  rintro rfl
  have := h.1.symm.trans hb
  injection this with this; injection this with _ h2; exact hT h2
theorem D0.step {w0 W W1 : World} {T g r : Nat} {s : ByteArray} {p q : Int} (h : D0 w0 W T g r s p) (hI : RB w0 W1 T g s q) (hB : Below w0.heap.size w0 W1) (hK : KeepBut W W1 g none) : D0 w0 W1 T g r s q :=
  ⟨hI, hB, hK.blk h.bx (h.rd.nb h.ne h.bx) (by simp), h.ge, h.ne⟩
theorem D0.below {w0 W W1 : World} {T g r : Nat} {s : ByteArray} {p : Int} (h : D0 w0 W T g r s p) (hb : Below W.heap.size W W1) : D0 w0 W1 T g r s p :=
  ⟨⟨blk_later hb h.rd.1, h.rd.2⟩, h.bel.trans (hb.mono h.bel.size), h.bx.later hb, h.ge, h.ne⟩
/-- And the box of what is read. -/
structure D1 (w0 W : World) (T g r f : Nat) (s : ByteArray) (p t i c z : Int) (d : ByteArray) : Prop where
  d0 : D0 w0 W T g r s p
  fb : Box W f t i c z d
  gf : w0.heap.size ≤ f
  fr : f ≠ r
theorem D1.step {w0 W W1 : World} {T g r f : Nat} {s d : ByteArray} {p q t i c z : Int} (h : D1 w0 W T g r f s p t i c z d) (hI : RB w0 W1 T g s q) (hB : Below w0.heap.size w0 W1) (hK : KeepBut W W1 g none) : D1 w0 W1 T g r f s q t i c z d :=
  ⟨h.d0.step hI hB hK, hK.blk h.fb (h.d0.rd.nb h.d0.ne h.fb) (by simp), h.gf, h.fr⟩
theorem D1.below {w0 W W1 : World} {T g r f : Nat} {s d : ByteArray} {p t i c z : Int} (h : D1 w0 W T g r f s p t i c z d) (hb : Below W.heap.size W W1) : D1 w0 W1 T g r f s p t i c z d :=
  ⟨h.d0.below hb, h.fb.later hb, h.gf, h.fr⟩
theorem D1.new {w0 W : World} {T g r : Nat} {s : ByteArray} {p : Int} (h : D0 w0 W T g r s p) (t i c z : Int) (d : ByteArray) : D1 w0 (W.alloc (.cells #[.int .i64 t, .int .i64 i, .int .i64 c, .int .i64 z, .string d] 23)) T g r W.heap.size s p t i c z d :=
  ⟨h.below (below_new _ _), Box.new _ _ _ _ _ _, h.bel.size, fun e => by have := blk_lt h.bx; omega⟩
theorem D1.put {w0 W : World} {T g r f : Nat} {s d : ByteArray} {p t i c z : Int} (h : D1 w0 W T g r f s p t i c z d) (k : Nat) (u : Value) {t' i' c' z' : Int} {d' : ByteArray}
    (hu : (#[.int .i64 t, .int .i64 i, .int .i64 c, .int .i64 z, .string d] : Array Value).setIfInBounds k u = #[.int .i64 t', .int .i64 i', .int .i64 c', .int .i64 z', .string d']) : D1 w0 (W.setCell ⟨f, k, none⟩ u) T g r f s p t' i' c' z' d' :=
  ⟨⟨⟨blk_far h.d0.rd.1 (fun e => h.d0.rd.nb h.d0.ne h.fb e.symm) u, h.d0.rd.2⟩, below_set h.d0.bel h.gf, blk_far h.d0.bx (fun e => h.fr e.symm) u, h.d0.ge, h.d0.ne⟩, blk_put h.fb k u hu, h.gf, h.fr⟩
theorem new_calls (w0 w : World) (r : Nat) (s : ByteArray) (hs : s.size = 4) (hB : Below w0.heap.size w0 w) (hb : Box w r 0 0 0 0 ⟨#[]⟩) (hr : w0.heap.size ≤ r) :
    Calls Try.prog 50 #[.string s] w fun e w' => ∃ g, e = .returned (.pointer (some ⟨g, 0, none⟩)) ∧ D0 w0 w' 131 g r s ((0 : Nat) : Int) :=
  (bitio_NewReader.calls s s 0 0 w0 w hB (by unfold bitio_NewReader.f; rw [if_neg (by omega)])).mono (by
    rintro e w' ⟨g, rfl, h1, h2, h3⟩
    exact ⟨g, rfl, ⟨h1, h2, hb.later h3, hr, by decide⟩⟩)
theorem uns_calls (w0 w : World) (g : Nat) (s : ByteArray) (hs : s.size = 4) (p n : Nat) (hI : RB w0 w 131 g s p) (hB : Below w0.heap.size w0 w) (hn : 1 ≤ n ∧ n ≤ 62) (hp : p + n ≤ 32) :
    Calls Try.prog 51 #[.pointer (some ⟨g, 0, none⟩), .int .i64 (n : Int)] w fun e w' => e = .returned (.int .i64 (rv s p 0 n)) ∧ RB w0 w' 131 g s ((p + n : Nat) : Int) ∧ Below w0.heap.size w0 w' ∧ KeepBut w w' g none :=
  bitio_Reader_Unsigned.calls (n + 1) g s p 0 n _ _ _ _ w0 w hI hB (uns_law s (by omega) p n (n + 1) hn (Nat.le_refl _) (by omega))
theorem D0.uns {w0 w : World} {g r : Nat} {s : ByteArray} {p : Nat} (h : D0 w0 w 131 g r s p) (hs : s.size = 4) (n : Nat) (hn : 1 ≤ n ∧ n ≤ 62) (hp : p + n ≤ 32) :
    Calls Try.prog 51 #[.pointer (some ⟨g, 0, none⟩), .int .i64 (n : Int)] w fun e w' => e = .returned (.int .i64 (rv s p 0 n)) ∧ D0 w0 w' 131 g r s ((p + n : Nat) : Int) :=
  (uns_calls w0 w g s hs p n h.rd h.bel hn hp).mono (by rintro e w' ⟨rfl, h1, h2, h3⟩; exact ⟨rfl, h.step h1 h2 h3⟩)
theorem D1.uns {w0 w : World} {g r f : Nat} {s d : ByteArray} {p : Nat} {t i c z : Int} (h : D1 w0 w 131 g r f s p t i c z d) (hs : s.size = 4) (n : Nat) (hn : 1 ≤ n ∧ n ≤ 62) (hp : p + n ≤ 32) :
    Calls Try.prog 51 #[.pointer (some ⟨g, 0, none⟩), .int .i64 (n : Int)] w fun e w' => e = .returned (.int .i64 (rv s p 0 n)) ∧ D1 w0 w' 131 g r f s ((p + n : Nat) : Int) t i c z d :=
  (uns_calls w0 w g s hs p n h.d0.rd h.d0.bel hn hp).mono (by rintro e w' ⟨rfl, h1, h2, h3⟩; exact ⟨rfl, h.step h1 h2 h3⟩)
theorem D1.other {w0 W W1 : World} {T g r f q : Nat} {s d : ByteArray} {p t i c z : Int} (h : D1 w0 W T g r f s p t i c z d) (hB : Below w0.heap.size w0 W1) (hK : KeepBut W W1 q none) (h1 : g ≠ q) (h2 : r ≠ q) (h3 : f ≠ q) : D1 w0 W1 T g r f s p t i c z d :=
  ⟨⟨⟨hK.blk h.d0.rd.1 h1 (by simp), h.d0.rd.2⟩, hB, hK.blk h.d0.bx h2 (by simp), h.d0.ge, h.d0.ne⟩, hK.blk h.fb h3 (by simp), h.gf, h.fr⟩
theorem D1.lts {w0 W : World} {T g r f : Nat} {s d : ByteArray} {p t i c z : Int} (h : D1 w0 W T g r f s p t i c z d) : g < W.heap.size ∧ r < W.heap.size ∧ f < W.heap.size := ⟨blk_lt h.d0.rd.1, blk_lt h.d0.bx, blk_lt h.fb⟩
theorem D1.left {w0 w : World} {g r f : Nat} {s d : ByteArray} {t i c z : Int} (h : D1 w0 w 131 g r f s 30 t i c z d) (hs : s.size = 4) :
    Calls Try.prog 75 #[.pointer (some ⟨g, 0, none⟩)] w fun e w' => e = .returned (.int .i64 2) ∧ D1 w0 w' 131 g r f s 30 t i c z d ∧ KeepBut w w' g none :=
  (bitio_Reader_Left.calls g s 30 0 2 s 30 0 w0 w h.d0.rd h.d0.bel (by
    have := left_law s (by omega) 30 (by omega)
    rw [hs] at this
    exact this)).mono (by rintro e w' ⟨rfl, h1, h2, h3⟩; exact ⟨rfl, h.step h1 h2 h3, h3⟩)
theorem D1.getc {w0 w : World} {g r f q : Nat} {s d : ByteArray} {t i c z : Int} (h : D1 w0 w 131 g r f s 30 t i c z d) (hs : s.size = 4) (hq : RB w0 w 131 q s 30) (h1 : g ≠ q) (h2 : r ≠ q) (h3 : f ≠ q) :
    Calls Try.prog 74 #[.pointer (some ⟨q, 0, none⟩), .int .i64 2] w fun e w' => e = .returned (.int .u64 (bt s 3 % 4)) ∧ D1 w0 w' 131 g r f s 30 t i c z d :=
  (bitio_Reader_get.calls 3 q s 30 0 2 (bt s 3 % 4) s 32 0 w0 w hq h.d0.bel (by
    have := get_law s (by omega) 2 (by omega) 2 3 0 30 0 (by omega) (by omega) (by omega) (by decide) (by omega)
    rw [rv_rest] at this
    exact this)).mono (by rintro e w' ⟨rfl, k1, k2, k3⟩; exact ⟨rfl, h.other k2 k3 h1 h2 h3⟩)
set_option maxRecDepth 100000 in
set_option maxHeartbeats 2000000 in
theorem close1_calls {w0 w : World} {g r f : Nat} {s d : ByteArray} {t i c z : Int} (h : D1 w0 w 131 g r f s 30 t i c z d) (hs : s.size = 4) (q : Nat) (hq : w.cell? ⟨q, 0, none⟩ = some (.pointer (some ⟨g, 0, none⟩))) :
    Calls Try.prog 73 #[.pointer (some ⟨q, 0, none⟩)] w fun e w' => e = .returned (.bool (bt s 3 % 4 != 0)) ∧ D1 w0 w' 131 g r f s 30 t i c z d := by
  have hu131 := Try.underlying131
  have hl := h.lts
  have H1 := Aside0.mk (h.below (below_new w (.cells #[.string s, .int .i64 30, .int .i64 0] 131)))
  have HQ := Aside0.mk (show RB w0 (w.alloc (.cells #[.string s, .int .i64 30, .int .i64 0] 131)) 131 w.heap.size s 30 from ⟨heap_alloc_new w _, h.d0.bel.size⟩)
  have HN := Aside0.mk (show g ≠ w.heap.size ∧ r ≠ w.heap.size ∧ f ≠ w.heap.size by omega)
  have HS := Aside0.mk hs
  have g0 := (blk_cell h.d0.rd.1 0).trans rfl
  have g1 := (blk_cell h.d0.rd.1 1).trans rfl
  have g2 := (blk_cell h.d0.rd.1 2).trans rfl
  have hqa := cell_later (below_new w (.cells #[.string s, .int .i64 30, .int .i64 0] 131)) hq
  clear h hs hl
  go_enter Try.func73, Try.ntmps73
  go_wp2_with (first
    | (go_at_call 75; refine (H1.out.left HS.out).mono ?_; rintro e w2 ⟨rfl, hd2, hk2⟩)
    | (go_at_call 74; refine (hd2.getc HS.out (q := w.heap.size) ⟨hk2.blk HQ.out.1 HN.out.1.symm (by simp), HQ.out.2⟩ HN.out.1 HN.out.2.1 HN.out.2.2).mono ?_; rintro e w3 ⟨rfl, hd3⟩))
  go_ret
  exact ⟨rfl, hd3⟩
set_option maxRecDepth 100000 in
set_option maxHeartbeats 2000000 in
theorem D1.close {w0 w : World} {g r f : Nat} {s d : ByteArray} {t i c z : Int} (h : D1 w0 w 131 g r f s 30 t i c z d) (hs : s.size = 4) :
    Calls Try.prog 52 #[.pointer (some ⟨g, 0, none⟩)] w fun e w' => e = .returned (.int .i64 (if bt s 3 % 4 = 0 then 0 else 10)) ∧ D1 w0 w' 131 g r f s 30 t i c z d := by
  have hu131 := Try.underlying131
  have H1 := Aside0.mk (h.below (below_new w (.cells #[.pointer (some ⟨g, 0, none⟩)] 92)))
  have hq : (w.alloc (.cells #[.pointer (some ⟨g, 0, none⟩)] 92)).cell? ⟨w.heap.size, 0, none⟩ = some (.pointer (some ⟨g, 0, none⟩)) := (blk_cell (heap_alloc_new w _) 0).trans rfl
  have g2 := (blk_cell H1.out.d0.rd.1 2).trans rfl
  have HQ := Aside0.mk hq
  have HN := Aside0.mk (show w.heap.size ≠ g by have := h.lts; omega)
  have HS := Aside0.mk hs
  have hmf : ∀ (fn : Fn) (first cap : Array Value) (w : World), (Instr.makeFunc fn first cap).run Try.prog w = .ok (.func fn first cap) w := fun _ _ _ _ => rfl
  clear h hs
  by_cases hb : bt s 3 % 4 = 0
  · rw [if_pos hb]
    have hbb : (bt s 3 % 4 != 0) = false := by rw [hb]; rfl
    clear hb
    go_enter Try.func52, Try.ntmps52
    go_wp2_with (first
      | (go_at_call 75; refine (H1.out.left HS.out).mono ?_; rintro e w2 ⟨rfl, hd2, hk2⟩)
      | (go_at_call 73; refine (close1_calls hd2 HS.out w.heap.size ((blk_cell (hk2.blk (heap_alloc_new w _) HN.out (by simp)) 0).trans rfl)).mono ?_; rintro e w3 ⟨rfl, hd3⟩))
    go_ret
    exact ⟨rfl, hd3⟩
  · rw [if_neg hb]
    have hbb : (bt s 3 % 4 != 0) = true := bne_iff_ne.2 hb
    clear hb
    go_enter Try.func52, Try.ntmps52
    go_wp2_with (first
      | (go_at_call 75; refine (H1.out.left HS.out).mono ?_; rintro e w2 ⟨rfl, hd2, hk2⟩)
      | (go_at_call 73; refine (close1_calls hd2 HS.out w.heap.size ((blk_cell (hk2.blk (heap_alloc_new w _) HN.out (by simp)) 0).trans rfl)).mono ?_; rintro e w3 ⟨rfl, hd3⟩))
    go_ret
    exact ⟨rfl, hd3⟩
theorem Box.setAll {w : World} {r : Nat} {t0 i0 c0 z0 : Int} {d0 : ByteArray} (h : Box w r t0 i0 c0 z0 d0) (t i c z : Int) (d : ByteArray) :
    Box (((((w.setCell ⟨r, 0, none⟩ (.int .i64 t)).setCell ⟨r, 1, none⟩ (.int .i64 i)).setCell ⟨r, 2, none⟩ (.int .i64 c)).setCell ⟨r, 3, none⟩ (.int .i64 z)).setCell ⟨r, 4, none⟩ (.string d)) r t i c z d :=
  blk_put (blk_put (blk_put (blk_put (blk_put h 0 _ rfl) 1 _ rfl) 2 _ rfl) 3 _ rfl) 4 _ rfl
theorem below_all {w0 w : World} {r : Nat} (h : Below w0.heap.size w0 w) (hr : w0.heap.size ≤ r) (t i c z : Int) (d : ByteArray) :
    Below w0.heap.size w0 (((((w.setCell ⟨r, 0, none⟩ (.int .i64 t)).setCell ⟨r, 1, none⟩ (.int .i64 i)).setCell ⟨r, 2, none⟩ (.int .i64 c)).setCell ⟨r, 3, none⟩ (.int .i64 z)).setCell ⟨r, 4, none⟩ (.string d)) :=
  below_set (below_set (below_set (below_set (below_set h hr) hr) hr) hr) hr
theorem bt_take (a : ByteArray) (h : 4 ≤ a.size) (j : Nat) (hj : j < 4) : bt (a.extract 0 4) (j : Int) = bt a (j : Int) := by
  have hs : (a.extract 0 4).size = 4 := by rw [ByteArray.size_extract]; omega
  unfold bt
  rw [dif_pos (by omega), dif_pos (by omega)]
  congr 2
  simp [ByteArray.getElem_extract]
set_option maxRecDepth 100000 in
set_option maxHeartbeats 4000000 in
theorem decode_walk (a : ByteArray) (ha : a.size ≤ 140737488351232) (w : World) :
    Calls Try.prog 26 #[.string a] w fun e w' => e = .returned (.tuple #[.agg #[.int .i64 (decF a).1, .int .i64 (decF a).2.1, .int .i64 (decF a).2.2.1, .int .i64 (decF a).2.2.2.1, .string (decF a).2.2.2.2.1], .int .i64 (decF a).2.2.2.2.2]) ∧ Below w.heap.size w w' := by
  have hu23 := Try.underlying23
  by_cases h4 : a.size < 4
  · rw [show decF a = (0, 0, 0, 0, ⟨#[]⟩, 9) by unfold decF; rw [if_pos h4]]
    have q1 : decide ((a.size : Int) < 4) = true := decide_eq_true (by omega)
    clear ha h4
    go_enter Try.func26, Try.ntmps26
    go_wp2
    refine bodyPost_ret (results_ct rfl _ _ w.heap.size 23 #[.int .i64 0, .int .i64 0, .int .i64 0, .int .i64 0, .string ⟨#[]⟩] (0, 0) _ rfl (Box.new w 0 0 0 0 ⟨#[]⟩) Try.underlying23 rfl (by kernel_rfl)) rfl ?_
    exact ⟨rfl, below_new _ _⟩
  · have q1 : decide ((a.size : Int) < 4) = false := decide_eq_false (by omega)
    have h4' : 4 ≤ a.size := by omega
    obtain ⟨d4, hd4⟩ : ∃ d4, d4 = a.extract 0 4 := ⟨_, rfl⟩
    have hs : d4.size = 4 := by rw [hd4, ByteArray.size_extract]; omega
    have b0 : bt d4 0 = bt a 0 := by rw [hd4]; exact bt_take a h4' 0 (by omega)
    have b1 : bt d4 1 = bt a 1 := by rw [hd4]; exact bt_take a h4' 1 (by omega)
    have b2 : bt d4 2 = bt a 2 := by rw [hd4]; exact bt_take a h4' 2 (by omega)
    have b3 : bt d4 3 = bt a 3 := by rw [hd4]; exact bt_take a h4' 3 (by omega)
    obtain ⟨t, ht⟩ : ∃ t, t = bt a 0 := ⟨_, rfl⟩
    obtain ⟨i, hi⟩ : ∃ i, i = bt a 1 / 8 := ⟨_, rfl⟩
    obtain ⟨c, hc⟩ : ∃ c, c = bt a 1 % 8 * 4 + bt a 2 / 64 + 1 := ⟨_, rfl⟩
    obtain ⟨z, hz⟩ : ∃ z, z = bt a 2 % 64 * 64 + bt a 3 / 4 := ⟨_, rfl⟩
    obtain ⟨dt, hdt⟩ : ∃ dt, dt = a.extract 4 a.size := ⟨_, rfl⟩
    have hdz : dt.size = a.size - 4 := by rw [hdt, ByteArray.size_extract]; omega
    have h1 := bt_range a 1
    have h2 := bt_range a 2
    have hdec : decF a = (if bt a 3 % 4 ≠ 0 then (0, 0, 0, 0, ⟨#[]⟩, 10) else if lenF t i c z (dt.size : Int) = 0 then (0, 0, 0, 0, ⟨#[]⟩, 10) else (t, i, c, z, dt, 0)) := by
      unfold decF
      rw [if_neg h4, ← ht, ← hi, ← hc, ← hz, ← hdt, ← hdz]
    have r0 : rv d4 0 0 8 = t := by rw [rv_t, b0, ht]
    have r1 : rv d4 8 0 5 = i := by rw [rv_i, b1, hi]
    have r2 : rv d4 13 0 5 = c - 1 := by rw [rv_c, b1, b2, hc]; omega
    have r3 : rv d4 18 0 12 = z := by rw [rv_s, b2, b3, hz]
    have hwc : wrap64 c = c := wrap_in (by omega)
    have HK := Aside0.mk (fun w => check_calls t i c z dt (by omega) w)
    have HS := Aside0.mk hs
    have HR := Aside0.mk (And.intro r0 (And.intro r1 (And.intro r2 r3)))
    have HC : Aside0 (∀ {w0 w : World} {g r f : Nat} {t i c z : Int} {d : ByteArray}, D1 w0 w 131 g r f d4 30 t i c z d → Calls Try.prog 52 #[.pointer (some ⟨g, 0, none⟩)] w fun e w' => e = .returned (.int .i64 (if bt a 3 % 4 = 0 then 0 else 10)) ∧ D1 w0 w' 131 g r f d4 30 t i c z d) := ⟨fun h => by rw [← b3]; exact h.close hs⟩
    have HX := Aside0.mk (Box.new w 0 0 0 0 ⟨#[]⟩)
    have HD := Aside0.mk hdec
    have hsl : (a.extract 0 4) = d4 := hd4.symm
    clear hs b0 b1 b2 b3 ht hi hc hz hdz h1 h2 hdec r0 r1 r2 r3 h4 ha hd4
    go_enter Try.func26, Try.ntmps26
    go_upto_region 4 with (go_at_call 50; (try rw [hsl]); refine (new_calls w _ w.heap.size d4 HS.out (below_new w _) HX.out (Nat.le_refl _)).mono ?_; rintro e w1 ⟨g, rfl, hd1⟩)
    generalize hr : w.heap.size = r at hd1 ⊢
    have HRR := Aside0.mk hr
    clear hr
    have HD1 := Aside0.mk hd1
    clear hd1
    have hU1 := HD1.out.uns (p := 0) HS.out 8 (by decide) (by decide)
    rw [HR.out.1] at hU1
    have HU1 := Aside0.mk hU1
    clear hU1
    go_upto_region 5 with (go_at_call 51; refine HU1.out.mono ?_; rintro e w2 ⟨rfl, hd2⟩)
    refine wp_world (F := fun W => D1 w W 131 g r w2.heap.size d4 ((8 : Nat) : Int) t 0 0 0 ⟨#[]⟩) (D1.new hd2 t 0 0 0 ⟨#[]⟩) (fun W2 hF => ?_)
    generalize w2.heap.size = f at hF ⊢
    have HD2 := Aside0.mk hF
    have hU2 := hF.uns (p := 8) HS.out 5 (by decide) (by decide)
    rw [HR.out.2.1] at hU2
    have HU2 := Aside0.mk hU2
    clear hF hd2 HU1 HD1 hU2
    go_upto_region 6 with (go_at_call 51; refine HU2.out.mono ?_; rintro e w3 ⟨rfl, hd3⟩; obtain ⟨x0, x1, x2, x3, x4⟩ := hd3.fb.cells; have z1 := blk_frozen hd3.fb 1)
    refine wp_world (F := fun W => D1 w W 131 g r f d4 ((13 : Nat) : Int) t i 0 0 ⟨#[]⟩) (hd3.put 1 (.int .i64 i) rfl) (fun W3 hF => ?_)
    have HD3 := Aside0.mk hF
    have hU3 := hF.uns (p := 13) HS.out 5 (by decide) (by decide)
    rw [HR.out.2.2.1] at hU3
    have HU3 := Aside0.mk hU3
    clear hF hd3 HU2 HD2 hU3 x0 x1 x2 x3 x4 z1
    go_upto_region 7 with (go_at_call 51; refine HU3.out.mono ?_; rintro e w4 ⟨rfl, hd4⟩; obtain ⟨x0, x1, x2, x3, x4⟩ := hd4.fb.cells; have z1 := blk_frozen hd4.fb 2)
    refine wp_world (F := fun W => D1 w W 131 g r f d4 ((18 : Nat) : Int) t i c 0 ⟨#[]⟩) (hd4.put 2 (.int .i64 c) rfl) (fun W4 hF => ?_)
    have HD4 := Aside0.mk hF
    have hU4 := hF.uns (p := 18) HS.out 12 (by decide) (by decide)
    rw [HR.out.2.2.2] at hU4
    have HU4 := Aside0.mk hU4
    clear hF hd4 HU3 HD3 hU4 x0 x1 x2 x3 x4 z1
    go_upto_region 8 with (go_at_call 51; refine HU4.out.mono ?_; rintro e w5 ⟨rfl, hd5⟩; obtain ⟨x0, x1, x2, x3, x4⟩ := hd5.fb.cells; have z1 := blk_frozen hd5.fb 3)
    refine wp_world (F := fun W => D1 w W 131 g r f d4 ((30 : Nat) : Int) t i c z ⟨#[]⟩) (hd5.put 3 (.int .i64 z) rfl) (fun W5 hF => ?_)
    have HD5 := Aside0.mk hF
    clear hd5 HU4 HD4 x0 x1 x2 x3 x4 z1
    obtain ⟨x0, x1, x2, x3, x4⟩ := hF.fb.cells
    have z1 := blk_frozen hF.fb 4
    clear hF
    have q2 : decide (4 ≤ a.size) = true := decide_eq_true h4'
    go_upto_region 9 with (fail)
    refine wp_world (F := fun W => D1 w W 131 g r f d4 30 t i c z dt) (by rw [hdt]; exact HD5.out.put 4 (.string (a.extract 4 a.size)) rfl) (fun W6 hF => ?_)
    have HC6 := Aside0.mk (HC.out hF)
    clear hdt HD5 HC x0 x1 x2 x3 x4 z1
    by_cases e1 : bt a 3 % 4 = 0
    · rw [if_pos e1] at HC6
      by_cases e2 : lenF t i c z (dt.size : Int) = 0
      · have hk : chkF t i c z (dt.size : Int) = 1 := by unfold chkF; rw [if_pos e2]
        rw [hk] at HK
        have HE := Aside0.mk (HD.out.trans ((if_neg (not_not_intro e1)).trans (if_pos e2)))
        clear e1 e2 hF hk HD
        go_wp2_with (first
          | (go_at_call 52; refine HC6.out.mono ?_; rintro e w7 ⟨rfl, hd7⟩; obtain ⟨x0, x1, x2, x3, x4⟩ := hd7.fb.cells; have HD7 := Aside0.mk hd7)
          | (go_at_call 17; refine (HK.out _).mono ?_; rintro e w8 ⟨rfl, hb8⟩; have hd8 := HD7.out.below hb8; obtain ⟨y0, y1, y2, y3, y4⟩ := hd8.d0.bx.cells; have z0 := blk_frozen hd8.d0.bx 0; have z1 := blk_frozen hd8.d0.bx 1; have z2 := blk_frozen hd8.d0.bx 2; have z3 := blk_frozen hd8.d0.bx 3; have z4 := blk_frozen hd8.d0.bx 4))
        refine bodyPost_ret (results_ct rfl _ _ r 23 #[.int .i64 0, .int .i64 0, .int .i64 0, .int .i64 0, .string ⟨#[]⟩] (0, 0) _ rfl (Box.setAll hd8.d0.bx 0 0 0 0 ⟨#[]⟩) Try.underlying23 rfl (by kernel_rfl)) rfl ?_
        exact ⟨by rw [HE.out]; rfl, below_all hd8.d0.bel hd8.d0.ge 0 0 0 0 ⟨#[]⟩⟩
      · have hk : chkF t i c z (dt.size : Int) = 0 := by unfold chkF; rw [if_neg e2]
        rw [hk] at HK
        have HE := Aside0.mk (HD.out.trans ((if_neg (not_not_intro e1)).trans (if_neg e2)))
        clear e1 e2 hF hk HD
        go_wp2_with (first
          | (go_at_call 52; refine HC6.out.mono ?_; rintro e w7 ⟨rfl, hd7⟩; obtain ⟨x0, x1, x2, x3, x4⟩ := hd7.fb.cells; have HD7 := Aside0.mk hd7)
          | (go_at_call 17; refine (HK.out _).mono ?_; rintro e w8 ⟨rfl, hb8⟩; have hd8 := HD7.out.below hb8; obtain ⟨y0, y1, y2, y3, y4⟩ := hd8.d0.bx.cells; replace ⟨x0, x1, x2, x3, x4⟩ := hd8.fb.cells; have z0 := blk_frozen hd8.d0.bx 0; have z1 := blk_frozen hd8.d0.bx 1; have z2 := blk_frozen hd8.d0.bx 2; have z3 := blk_frozen hd8.d0.bx 3; have z4 := blk_frozen hd8.d0.bx 4))
        refine bodyPost_ret (results_ct rfl _ _ r 23 #[.int .i64 t, .int .i64 i, .int .i64 c, .int .i64 z, .string dt] (0, 0) _ rfl (Box.setAll hd8.d0.bx t i c z dt) Try.underlying23 rfl (by kernel_rfl)) rfl ?_
        exact ⟨by rw [HE.out]; rfl, below_all hd8.d0.bel hd8.d0.ge t i c z dt⟩
    · rw [if_neg e1] at HC6
      have HE := Aside0.mk (HD.out.trans (if_pos e1))
      clear e1 hF HD
      go_wp2_with (go_at_call 52; refine HC6.out.mono ?_; rintro e w7 ⟨rfl, hd7⟩; obtain ⟨y0, y1, y2, y3, y4⟩ := hd7.d0.bx.cells; have z0 := blk_frozen hd7.d0.bx 0; have z1 := blk_frozen hd7.d0.bx 1; have z2 := blk_frozen hd7.d0.bx 2; have z3 := blk_frozen hd7.d0.bx 3; have z4 := blk_frozen hd7.d0.bx 4)
      refine bodyPost_ret (results_ct rfl _ _ r 23 #[.int .i64 0, .int .i64 0, .int .i64 0, .int .i64 0, .string ⟨#[]⟩] (0, 0) _ rfl (Box.setAll hd7.d0.bx 0 0 0 0 ⟨#[]⟩) Try.underlying23 rfl (by kernel_rfl)) rfl ?_
      exact ⟨by rw [HE.out]; rfl, below_all hd7.d0.bel hd7.d0.ge 0 0 0 0 ⟨#[]⟩⟩
/-! ### The other side -/
theorem rnew_calls (w0 w : World) (r : Nat) (s : ByteArray) (hs : s.size = 4) (hB : Below w0.heap.size w0 w) (hb : Box w r 0 0 0 0 ⟨#[]⟩) (hr : w0.heap.size ≤ r) :
    Calls Try.prog 53 #[.string s] w fun e w' => ∃ g, e = .returned (.pointer (some ⟨g, 0, none⟩)) ∧ D0 w0 w' 137 g r s ((0 : Nat) : Int) :=
  (hopmeshref02_NewReader.calls s s 0 0 w0 w hB (by unfold hopmeshref02_NewReader.f; rw [if_neg (by omega)])).mono (by
    rintro e w' ⟨g, rfl, h1, h2, h3⟩
    exact ⟨g, rfl, ⟨h1, h2, hb.later h3, hr, by decide⟩⟩)
theorem D0.runs {w0 w : World} {g r : Nat} {s : ByteArray} {p : Nat} (h : D0 w0 w 137 g r s p) (hs : s.size = 4) (n : Nat) (hn : 1 ≤ n ∧ n ≤ 62) (hp : p + n ≤ 32) :
    Calls Try.prog 54 #[.pointer (some ⟨g, 0, none⟩), .int .i64 (n : Int)] w fun e w' => e = .returned (.int .i64 (rv s p 0 n)) ∧ D0 w0 w' 137 g r s ((p + n : Nat) : Int) :=
  (hopmeshref02_Reader_Unsigned.calls (n + 2) g s p 0 n _ _ _ _ w0 w h.rd h.bel (runs_law s (by omega) p n (n + 1) hn (Nat.le_refl _) (by omega))).mono (by rintro e w' ⟨rfl, h1, h2, h3⟩; exact ⟨rfl, h.step h1 h2 h3⟩)
theorem D1.runs {w0 w : World} {g r f : Nat} {s d : ByteArray} {p : Nat} {t i c z : Int} (h : D1 w0 w 137 g r f s p t i c z d) (hs : s.size = 4) (n : Nat) (hn : 1 ≤ n ∧ n ≤ 62) (hp : p + n ≤ 32) :
    Calls Try.prog 54 #[.pointer (some ⟨g, 0, none⟩), .int .i64 (n : Int)] w fun e w' => e = .returned (.int .i64 (rv s p 0 n)) ∧ D1 w0 w' 137 g r f s ((p + n : Nat) : Int) t i c z d :=
  (hopmeshref02_Reader_Unsigned.calls (n + 2) g s p 0 n _ _ _ _ w0 w h.d0.rd h.d0.bel (runs_law s (by omega) p n (n + 1) hn (Nat.le_refl _) (by omega))).mono (by rintro e w' ⟨rfl, h1, h2, h3⟩; exact ⟨rfl, h.step h1 h2 h3⟩)
theorem D1.rclose {w0 w : World} {g r f : Nat} {s d : ByteArray} {t i c z : Int} (h : D1 w0 w 137 g r f s 30 t i c z d) (hs : s.size = 4) :
    Calls Try.prog 55 #[.pointer (some ⟨g, 0, none⟩)] w fun e w' => e = .returned (.int .i64 (if bt s 3 % 4 = 0 then 0 else 10)) ∧ D1 w0 w' 137 g r f s 30 t i c z d :=
  (hopmeshref02_Reader_Close.calls 3 g s 30 0 _ _ _ _ w0 w h.d0.rd h.d0.bel (rclose_law s hs 0)).mono (by rintro e w' ⟨rfl, h1, h2, h3⟩; exact ⟨rfl, h.step h1 h2 h3⟩)
theorem rcheck_calls (t i c s : Int) (d : ByteArray) (hd : d.size ≤ 140737488351232) (w : World) :
    Calls Try.prog 18 #[.agg #[.int .i64 t, .int .i64 i, .int .i64 c, .int .i64 s, .string d]] w fun e w' => e = .returned (.int .i64 (chkF t i c s d.size)) ∧ Below w.heap.size w w' :=
  hopmeshref15_Check.calls 2 t i c s d _ w (rcheck_eq 0 t i c s d hd)
set_option maxRecDepth 100000 in
set_option maxHeartbeats 4000000 in
theorem rdecode_walk (a : ByteArray) (ha : a.size ≤ 140737488351232) (w : World) :
    Calls Try.prog 27 #[.string a] w fun e w' => e = .returned (.tuple #[.agg #[.int .i64 (decF a).1, .int .i64 (decF a).2.1, .int .i64 (decF a).2.2.1, .int .i64 (decF a).2.2.2.1, .string (decF a).2.2.2.2.1], .int .i64 (decF a).2.2.2.2.2]) ∧ Below w.heap.size w w' := by
  have hu23 := Try.underlying23
  by_cases h4 : a.size < 4
  · rw [show decF a = (0, 0, 0, 0, ⟨#[]⟩, 9) by unfold decF; rw [if_pos h4]]
    have q1 : decide ((a.size : Int) < 4) = true := decide_eq_true (by omega)
    clear ha h4
    go_enter Try.func27, Try.ntmps27
    go_wp2
    refine bodyPost_ret (results_ct rfl _ _ w.heap.size 23 #[.int .i64 0, .int .i64 0, .int .i64 0, .int .i64 0, .string ⟨#[]⟩] (0, 0) _ rfl (Box.new w 0 0 0 0 ⟨#[]⟩) Try.underlying23 rfl (by kernel_rfl)) rfl ?_
    exact ⟨rfl, below_new _ _⟩
  · have q1 : decide ((a.size : Int) < 4) = false := decide_eq_false (by omega)
    have h4' : 4 ≤ a.size := by omega
    obtain ⟨d4, hd4⟩ : ∃ d4, d4 = a.extract 0 4 := ⟨_, rfl⟩
    have hs : d4.size = 4 := by rw [hd4, ByteArray.size_extract]; omega
    have b0 : bt d4 0 = bt a 0 := by rw [hd4]; exact bt_take a h4' 0 (by omega)
    have b1 : bt d4 1 = bt a 1 := by rw [hd4]; exact bt_take a h4' 1 (by omega)
    have b2 : bt d4 2 = bt a 2 := by rw [hd4]; exact bt_take a h4' 2 (by omega)
    have b3 : bt d4 3 = bt a 3 := by rw [hd4]; exact bt_take a h4' 3 (by omega)
    obtain ⟨t, ht⟩ : ∃ t, t = bt a 0 := ⟨_, rfl⟩
    obtain ⟨i, hi⟩ : ∃ i, i = bt a 1 / 8 := ⟨_, rfl⟩
    obtain ⟨c, hc⟩ : ∃ c, c = bt a 1 % 8 * 4 + bt a 2 / 64 + 1 := ⟨_, rfl⟩
    obtain ⟨z, hz⟩ : ∃ z, z = bt a 2 % 64 * 64 + bt a 3 / 4 := ⟨_, rfl⟩
    obtain ⟨dt, hdt⟩ : ∃ dt, dt = a.extract 4 a.size := ⟨_, rfl⟩
    have hdz : dt.size = a.size - 4 := by rw [hdt, ByteArray.size_extract]; omega
    have h1 := bt_range a 1
    have h2 := bt_range a 2
    have hdec : decF a = (if bt a 3 % 4 ≠ 0 then (0, 0, 0, 0, ⟨#[]⟩, 10) else if lenF t i c z (dt.size : Int) = 0 then (0, 0, 0, 0, ⟨#[]⟩, 10) else (t, i, c, z, dt, 0)) := by
      unfold decF
      rw [if_neg h4, ← ht, ← hi, ← hc, ← hz, ← hdt, ← hdz]
    have r0 : rv d4 0 0 8 = t := by rw [rv_t, b0, ht]
    have r1 : rv d4 8 0 5 = i := by rw [rv_i, b1, hi]
    have r2 : rv d4 13 0 5 = c - 1 := by rw [rv_c, b1, b2, hc]; omega
    have r3 : rv d4 18 0 12 = z := by rw [rv_s, b2, b3, hz]
    have hwc : wrap64 c = c := wrap_in (by omega)
    have HK := Aside0.mk (fun w => rcheck_calls t i c z dt (by omega) w)
    have HS := Aside0.mk hs
    have HR := Aside0.mk (And.intro r0 (And.intro r1 (And.intro r2 r3)))
    have HC : Aside0 (∀ {w0 w : World} {g r f : Nat} {t i c z : Int} {d : ByteArray}, D1 w0 w 137 g r f d4 30 t i c z d → Calls Try.prog 55 #[.pointer (some ⟨g, 0, none⟩)] w fun e w' => e = .returned (.int .i64 (if bt a 3 % 4 = 0 then 0 else 10)) ∧ D1 w0 w' 137 g r f d4 30 t i c z d) := ⟨fun h => by rw [← b3]; exact h.rclose hs⟩
    have HX := Aside0.mk (Box.new w 0 0 0 0 ⟨#[]⟩)
    have HD := Aside0.mk hdec
    have hsl : (a.extract 0 4) = d4 := hd4.symm
    clear hs b0 b1 b2 b3 ht hi hc hz hdz h1 h2 hdec r0 r1 r2 r3 h4 ha hd4
    go_enter Try.func27, Try.ntmps27
    go_upto_region 4 with (go_at_call 53; (try rw [hsl]); refine (rnew_calls w _ w.heap.size d4 HS.out (below_new w _) HX.out (Nat.le_refl _)).mono ?_; rintro e w1 ⟨g, rfl, hd1⟩)
    generalize hr : w.heap.size = r at hd1 ⊢
    have HRR := Aside0.mk hr
    clear hr
    have HD1 := Aside0.mk hd1
    clear hd1
    have q2 : decide (4 ≤ a.size) = true := decide_eq_true h4'
    have q3 : (4 : Int) ≤ (a.size : Int) := by omega
    refine start_ (n := 14) (S := fun w' => True) (ds := [99]) #[false, false, false, false, false, false, false, false, false, false, false, false, false, false] (by kernel_rfl) rfl rfl trivial (fun hHeld => ?_)
    refine pure_ (i := 0) (N := some 13) (v := ?_) (a' := ?_) #[true, false, false, false, false, false, false, false, false, false, false, false, false, false] rfl rfl (by kernel_rfl) (fun _ _ _ h => h) (Or.inl ⟨by rfl, ?_⟩) ?_ ?_
    rotate_left
    · intro w'
      go_simp
      with_reducible rfl
    rotate_left
    · simp only [Act.put, List.setIfInBounds_toArray, List.set_cons_zero, List.set_cons_succ, i64_w, i32_w]
      rfl
    refine pure_ (i := 2) (N := some 15) (v := ?_) (a' := ?_) #[true, false, true, false, false, false, false, false, false, false, false, false, false, false] rfl rfl (by kernel_rfl) (fun _ _ _ h => h) (Or.inl ⟨by rfl, ?_⟩) ?_ ?_
    rotate_left
    · intro w'
      go_simp
      with_reducible rfl
    rotate_left
    · simp only [Act.put, List.setIfInBounds_toArray, List.set_cons_zero, List.set_cons_succ, i64_w, i32_w]
      rfl
    refine pure_ (i := 4) (N := some 17) (v := ?_) (a' := ?_) #[true, false, true, false, true, false, false, false, false, false, false, false, false, false] rfl rfl (by kernel_rfl) (fun _ _ _ h => h) (Or.inl ⟨by rfl, ?_⟩) ?_ ?_
    rotate_left
    · intro w'
      go_simp
      with_reducible rfl
    rotate_left
    · simp only [Act.put, List.setIfInBounds_toArray, List.set_cons_zero, List.set_cons_succ, i64_w, i32_w]
      rfl
    refine pure_ (i := 7) (N := some 20) (v := ?_) (a' := ?_) #[true, false, true, false, true, false, false, true, false, false, false, false, false, false] rfl rfl (by kernel_rfl) (fun _ _ _ h => h) (Or.inl ⟨by rfl, ?_⟩) ?_ ?_
    rotate_left
    · intro w'
      go_simp
      with_reducible rfl
    rotate_left
    · simp only [Act.put, List.setIfInBounds_toArray, List.set_cons_zero, List.set_cons_succ, i64_w, i32_w]
      rfl
    refine pure_ (i := 9) (N := some 22) (v := ?_) (a' := ?_) #[true, false, true, false, true, false, false, true, false, true, false, false, false, false] rfl rfl (by kernel_rfl) (fun _ _ _ h => h) (Or.inl ⟨by rfl, ?_⟩) ?_ ?_
    rotate_left
    · intro w'
      go_simp
      with_reducible rfl
    rotate_left
    · simp only [Act.put, List.setIfInBounds_toArray, List.set_cons_zero, List.set_cons_succ, i64_w, i32_w]
      rfl
    refine pure_ (i := 10) (N := some 23) (v := ?_) (a' := ?_) #[true, false, true, false, true, false, false, true, false, true, true, false, false, false] rfl rfl (by kernel_rfl) (fun _ _ _ h => h) (Or.inl ⟨by rfl, ?_⟩) ?_ ?_
    rotate_left
    · intro w'
      go_simp
      with_reducible rfl
    rotate_left
    · simp only [Act.put, List.setIfInBounds_toArray, List.set_cons_zero, List.set_cons_succ, i64_w, i32_w]
      rfl
    have hd1 := HD1.out.below ((Below.refl w1.heap.size w1).drew)
    generalize w1.drew = W1 at hd1 ⊢
    refine join_ (σ := Nat) 1 #[true, true, true, true, true, true, true, true, true, true, true, true, true, false] (fun f' => [(14, .int .i64 t), (16, .int .i64 i), (18, .int .i64 (c - 1)), (21, .int .i64 z), (19, .int .i64 (wrap64 c)), (24, .agg #[.int .i64 t, .int .i64 i, .int .i64 c, .int .i64 z, .string (a.extract 4 a.size)]), (5, .pointer (some ⟨f', 0, none⟩))]) (fun f' wz => D1 w wz 137 g r f' d4 ((30 : Nat) : Int) 0 0 0 0 ⟨#[]⟩) (fun f' wz hF => ?_) (fun hJ4 => ?_)
    rotate_left
    · skip
      refine join_ (σ := Nat) 3 #[true, true, true, true, true, true, true, true, false, true, true, false, true, false] (fun f' => [(14, .int .i64 t), (16, .int .i64 i), (18, .int .i64 (c - 1)), (19, .int .i64 (wrap64 c)), (5, .pointer (some ⟨f', 0, none⟩))]) (fun f' wz => D1 w wz 137 g r f' d4 ((18 : Nat) : Int) 0 0 0 0 ⟨#[]⟩) (fun f' wz hF => ?_) (fun hJ3 => ?_)
      · skip
        refine norm_ (a' := ?_) ?_ ?_
        rotate_left
        · simp only [putAll, Act.put, List.setIfInBounds_toArray, List.set_cons_zero, List.set_cons_succ]
          rfl
        refine one_ (i := 8) (N := some 21) #[true, true, true, true, true, true, true, true, true, true, true, false, true, false] rfl rfl (by kernel_rfl) (by decide) (fun K hK => ?_)
        refine goes_ Try.func54 (by kernel_rfl) rfl #[.pointer (some ⟨g, 0, none⟩), .int .i64 12] (by rfl) rfl rfl (by (try simp only [List.map_toArray, List.map_cons, List.map_nil]); first | done | rfl) ?_
        have hcon := hF.runs (p := 18) HS.out 12 (by decide) (by decide)
        rw [HR.out.2.2.2] at hcon
        refine hcon.mono ?_
        rintro e wn ⟨rfl, hdn⟩
        clear hcon
        refine ⟨_, rfl, ?_⟩
        refine hK.out _ _ trivial (fun hHeld => ?_)
        clear hK K
        refine norm_ (a' := ?_) ?_ ?_
        rotate_left
        · show Act.put _ (some 21) _ = _
          simp only [Act.put, List.setIfInBounds_toArray, List.set_cons_zero, List.set_cons_succ, i64_w, i32_w]
          rfl
        refine pure_ (i := 11) (N := some 24) (v := ?_) (a' := ?_) #[true, true, true, true, true, true, true, true, true, true, true, true, true, false] rfl rfl (by kernel_rfl) (fun _ _ _ h => h) (Or.inl ⟨by rfl, ?_⟩) ?_ ?_
        rotate_left
        · intro w'
          go_simp
          with_reducible rfl
        rotate_left
        · simp only [Act.put, List.setIfInBounds_toArray, List.set_cons_zero, List.set_cons_succ, i64_w, i32_w]
          rfl
        refine norm_ ?_ (hJ4 f' _ hdn)
        simp only [putAll, Act.put, List.setIfInBounds_toArray, List.set_cons_zero, List.set_cons_succ]
      refine join_ (σ := Nat) 5 #[true, true, true, true, true, false, false, true, false, true, true, false, true, false] (fun f' => [(14, .int .i64 t), (16, .int .i64 i), (5, .pointer (some ⟨f', 0, none⟩))]) (fun f' wz => D1 w wz 137 g r f' d4 ((13 : Nat) : Int) 0 0 0 0 ⟨#[]⟩) (fun f' wz hF => ?_) (fun hJ2 => ?_)
      · skip
        refine norm_ (a' := ?_) ?_ ?_
        rotate_left
        · simp only [putAll, Act.put, List.setIfInBounds_toArray, List.set_cons_zero, List.set_cons_succ]
          rfl
        refine one_ (i := 5) (N := some 18) #[true, true, true, true, true, true, false, true, false, true, true, false, true, false] rfl rfl (by kernel_rfl) (by decide) (fun K hK => ?_)
        refine goes_ Try.func54 (by kernel_rfl) rfl #[.pointer (some ⟨g, 0, none⟩), .int .i64 5] (by rfl) rfl rfl (by (try simp only [List.map_toArray, List.map_cons, List.map_nil]); first | done | rfl) ?_
        have hcon := hF.runs (p := 13) HS.out 5 (by decide) (by decide)
        rw [HR.out.2.2.1] at hcon
        refine hcon.mono ?_
        rintro e wn ⟨rfl, hdn⟩
        clear hcon
        refine ⟨_, rfl, ?_⟩
        refine hK.out _ _ trivial (fun hHeld => ?_)
        clear hK K
        refine norm_ (a' := ?_) ?_ ?_
        rotate_left
        · show Act.put _ (some 18) _ = _
          simp only [Act.put, List.setIfInBounds_toArray, List.set_cons_zero, List.set_cons_succ, i64_w, i32_w]
          rfl
        refine pure_ (i := 6) (N := some 19) (v := ?_) (a' := ?_) #[true, true, true, true, true, true, true, true, false, true, true, false, true, false] rfl rfl (by kernel_rfl) (fun _ _ _ h => h) (Or.inl ⟨by rfl, ?_⟩) ?_ ?_
        rotate_left
        · intro w'
          go_simp
          with_reducible rfl
        rotate_left
        · simp only [Act.put, List.setIfInBounds_toArray, List.set_cons_zero, List.set_cons_succ, i64_w, i32_w]
          rfl
        refine norm_ ?_ (hJ3 f' _ hdn)
        simp only [putAll, Act.put, List.setIfInBounds_toArray, List.set_cons_zero, List.set_cons_succ]
      refine join_ (σ := Nat) 6 #[true, true, true, false, true, false, false, true, false, true, true, false, true, false] (fun f' => [(14, .int .i64 t), (5, .pointer (some ⟨f', 0, none⟩))]) (fun f' wz => D1 w wz 137 g r f' d4 ((8 : Nat) : Int) 0 0 0 0 ⟨#[]⟩) (fun f' wz hF => ?_) (fun hJ1 => ?_)
      · skip
        refine norm_ (a' := ?_) ?_ ?_
        rotate_left
        · simp only [putAll, Act.put, List.setIfInBounds_toArray, List.set_cons_zero, List.set_cons_succ]
          rfl
        refine one_ (i := 3) (N := some 16) #[true, true, true, true, true, false, false, true, false, true, true, false, true, false] rfl rfl (by kernel_rfl) (by decide) (fun K hK => ?_)
        refine goes_ Try.func54 (by kernel_rfl) rfl #[.pointer (some ⟨g, 0, none⟩), .int .i64 5] (by rfl) rfl rfl (by (try simp only [List.map_toArray, List.map_cons, List.map_nil]); first | done | rfl) ?_
        have hcon := hF.runs (p := 8) HS.out 5 (by decide) (by decide)
        rw [HR.out.2.1] at hcon
        refine hcon.mono ?_
        rintro e wn ⟨rfl, hdn⟩
        clear hcon
        refine ⟨_, rfl, ?_⟩
        refine hK.out _ _ trivial (fun hHeld => ?_)
        clear hK K
        refine norm_ (a' := ?_) ?_ ?_
        rotate_left
        · show Act.put _ (some 16) _ = _
          simp only [Act.put, List.setIfInBounds_toArray, List.set_cons_zero, List.set_cons_succ, i64_w, i32_w]
          rfl
        refine norm_ ?_ (hJ2 f' _ hdn)
        simp only [putAll, Act.put, List.setIfInBounds_toArray, List.set_cons_zero, List.set_cons_succ]
      refine two_ (i := 1) (j := 12) (Ni := some 14) (Nj := some 5) #[true, true, true, false, true, false, false, true, false, true, true, false, false, false] #[true, false, true, false, true, false, false, true, false, true, true, false, true, false] rfl rfl rfl rfl (by kernel_rfl) (by decide) (by decide) (fun K hK => ?_) (fun K hK => ?_)
      rotate_left
      · skip
        refine value_ (w1 := W1.alloc (.cells #[.int .i64 0, .int .i64 0, .int .i64 0, .int .i64 0, .string ⟨#[]⟩] 23)) (v := .pointer (some ⟨W1.heap.size, 0, none⟩)) (by rfl) rfl (by first | (go_simp; done) | (go_simp; rfl)) ?_
        refine hK.out _ _ trivial (fun hHeld => ?_)
        clear hK K
        refine norm_ (a' := ?_) ?_ ?_
        rotate_left
        · show Act.put _ (some 5) _ = _
          simp only [Act.put, List.setIfInBounds_toArray, List.set_cons_zero, List.set_cons_succ, i64_w, i32_w]
          rfl
        refine one_ (i := 1) (N := some 14) #[true, true, true, false, true, false, false, true, false, true, true, false, true, false] rfl rfl (by kernel_rfl) (by decide) (fun K hK => ?_)
        refine goes_ Try.func54 (by kernel_rfl) rfl #[.pointer (some ⟨g, 0, none⟩), .int .i64 8] (by rfl) rfl rfl (by (try simp only [List.map_toArray, List.map_cons, List.map_nil]); first | done | rfl) ?_
        have hcon := (D1.new hd1 0 0 0 0 ⟨#[]⟩).runs (p := 0) HS.out 8 (by decide) (by decide)
        rw [HR.out.1] at hcon
        refine hcon.mono ?_
        rintro e wn ⟨rfl, hdn⟩
        clear hcon
        refine ⟨_, rfl, ?_⟩
        refine hK.out _ _ trivial (fun hHeld => ?_)
        clear hK K
        refine norm_ (a' := ?_) ?_ ?_
        rotate_left
        · show Act.put _ (some 14) _ = _
          simp only [Act.put, List.setIfInBounds_toArray, List.set_cons_zero, List.set_cons_succ, i64_w, i32_w]
          rfl
        refine norm_ ?_ (hJ1 _ _ hdn)
        simp only [putAll, Act.put, List.setIfInBounds_toArray, List.set_cons_zero, List.set_cons_succ]
      refine goes_ Try.func54 (by kernel_rfl) rfl #[.pointer (some ⟨g, 0, none⟩), .int .i64 8] (by rfl) rfl rfl (by (try simp only [List.map_toArray, List.map_cons, List.map_nil]); first | done | rfl) ?_
      have hcon := hd1.runs (p := 0) HS.out 8 (by decide) (by decide)
      rw [HR.out.1] at hcon
      refine hcon.mono ?_
      rintro e y1 ⟨rfl, hx1⟩
      clear hcon
      refine ⟨_, rfl, ?_⟩
      refine hK.out _ _ trivial (fun hHeld => ?_)
      clear hK K
      refine norm_ (a' := ?_) ?_ ?_
      rotate_left
      · show Act.put _ (some 14) _ = _
        simp only [Act.put, List.setIfInBounds_toArray, List.set_cons_zero, List.set_cons_succ, i64_w, i32_w]
        rfl
      refine two_ (i := 3) (j := 12) (Ni := some 16) (Nj := some 5) #[true, true, true, true, true, false, false, true, false, true, true, false, false, false] #[true, true, true, false, true, false, false, true, false, true, true, false, true, false] rfl rfl rfl rfl (by kernel_rfl) (by decide) (by decide) (fun K hK => ?_) (fun K hK => ?_)
      rotate_left
      · skip
        refine value_ (w1 := y1.alloc (.cells #[.int .i64 0, .int .i64 0, .int .i64 0, .int .i64 0, .string ⟨#[]⟩] 23)) (v := .pointer (some ⟨y1.heap.size, 0, none⟩)) (by rfl) rfl (by first | (go_simp; done) | (go_simp; rfl)) ?_
        refine hK.out _ _ trivial (fun hHeld => ?_)
        clear hK K
        refine norm_ ?_ (hJ1 y1.heap.size _ (D1.new hx1 0 0 0 0 ⟨#[]⟩))
        simp only [putAll, Act.put, List.setIfInBounds_toArray, List.set_cons_zero, List.set_cons_succ]
      refine goes_ Try.func54 (by kernel_rfl) rfl #[.pointer (some ⟨g, 0, none⟩), .int .i64 5] (by rfl) rfl rfl (by (try simp only [List.map_toArray, List.map_cons, List.map_nil]); first | done | rfl) ?_
      have hcon := hx1.runs (p := 8) HS.out 5 (by decide) (by decide)
      rw [HR.out.2.1] at hcon
      refine hcon.mono ?_
      rintro e y2 ⟨rfl, hx2⟩
      clear hcon
      refine ⟨_, rfl, ?_⟩
      refine hK.out _ _ trivial (fun hHeld => ?_)
      clear hK K
      refine norm_ (a' := ?_) ?_ ?_
      rotate_left
      · show Act.put _ (some 16) _ = _
        simp only [Act.put, List.setIfInBounds_toArray, List.set_cons_zero, List.set_cons_succ, i64_w, i32_w]
        rfl
      refine two_ (i := 5) (j := 12) (Ni := some 18) (Nj := some 5) #[true, true, true, true, true, true, false, true, false, true, true, false, false, false] #[true, true, true, true, true, false, false, true, false, true, true, false, true, false] rfl rfl rfl rfl (by kernel_rfl) (by decide) (by decide) (fun K hK => ?_) (fun K hK => ?_)
      rotate_left
      · skip
        refine value_ (w1 := y2.alloc (.cells #[.int .i64 0, .int .i64 0, .int .i64 0, .int .i64 0, .string ⟨#[]⟩] 23)) (v := .pointer (some ⟨y2.heap.size, 0, none⟩)) (by rfl) rfl (by first | (go_simp; done) | (go_simp; rfl)) ?_
        refine hK.out _ _ trivial (fun hHeld => ?_)
        clear hK K
        refine norm_ ?_ (hJ2 y2.heap.size _ (D1.new hx2 0 0 0 0 ⟨#[]⟩))
        simp only [putAll, Act.put, List.setIfInBounds_toArray, List.set_cons_zero, List.set_cons_succ]
      refine goes_ Try.func54 (by kernel_rfl) rfl #[.pointer (some ⟨g, 0, none⟩), .int .i64 5] (by rfl) rfl rfl (by (try simp only [List.map_toArray, List.map_cons, List.map_nil]); first | done | rfl) ?_
      have hcon := hx2.runs (p := 13) HS.out 5 (by decide) (by decide)
      rw [HR.out.2.2.1] at hcon
      refine hcon.mono ?_
      rintro e y3 ⟨rfl, hx3⟩
      clear hcon
      refine ⟨_, rfl, ?_⟩
      refine hK.out _ _ trivial (fun hHeld => ?_)
      clear hK K
      refine norm_ (a' := ?_) ?_ ?_
      rotate_left
      · show Act.put _ (some 18) _ = _
        simp only [Act.put, List.setIfInBounds_toArray, List.set_cons_zero, List.set_cons_succ, i64_w, i32_w]
        rfl
      refine pure_ (i := 6) (N := some 19) (v := ?_) (a' := ?_) #[true, true, true, true, true, true, true, true, false, true, true, false, false, false] rfl rfl (by kernel_rfl) (fun _ _ _ h => h) (Or.inl ⟨by rfl, ?_⟩) ?_ ?_
      rotate_left
      · intro w'
        go_simp
        with_reducible rfl
      rotate_left
      · simp only [Act.put, List.setIfInBounds_toArray, List.set_cons_zero, List.set_cons_succ, i64_w, i32_w]
        rfl
      refine two_ (i := 8) (j := 12) (Ni := some 21) (Nj := some 5) #[true, true, true, true, true, true, true, true, true, true, true, false, false, false] #[true, true, true, true, true, true, true, true, false, true, true, false, true, false] rfl rfl rfl rfl (by kernel_rfl) (by decide) (by decide) (fun K hK => ?_) (fun K hK => ?_)
      rotate_left
      · skip
        refine value_ (w1 := y3.alloc (.cells #[.int .i64 0, .int .i64 0, .int .i64 0, .int .i64 0, .string ⟨#[]⟩] 23)) (v := .pointer (some ⟨y3.heap.size, 0, none⟩)) (by rfl) rfl (by first | (go_simp; done) | (go_simp; rfl)) ?_
        refine hK.out _ _ trivial (fun hHeld => ?_)
        clear hK K
        refine norm_ ?_ (hJ3 y3.heap.size _ (D1.new hx3 0 0 0 0 ⟨#[]⟩))
        simp only [putAll, Act.put, List.setIfInBounds_toArray, List.set_cons_zero, List.set_cons_succ]
      refine goes_ Try.func54 (by kernel_rfl) rfl #[.pointer (some ⟨g, 0, none⟩), .int .i64 12] (by rfl) rfl rfl (by (try simp only [List.map_toArray, List.map_cons, List.map_nil]); first | done | rfl) ?_
      have hcon := hx3.runs (p := 18) HS.out 12 (by decide) (by decide)
      rw [HR.out.2.2.2] at hcon
      refine hcon.mono ?_
      rintro e y4 ⟨rfl, hx4⟩
      clear hcon
      refine ⟨_, rfl, ?_⟩
      refine hK.out _ _ trivial (fun hHeld => ?_)
      clear hK K
      refine norm_ (a' := ?_) ?_ ?_
      rotate_left
      · show Act.put _ (some 21) _ = _
        simp only [Act.put, List.setIfInBounds_toArray, List.set_cons_zero, List.set_cons_succ, i64_w, i32_w]
        rfl
      refine pure_ (i := 11) (N := some 24) (v := ?_) (a' := ?_) #[true, true, true, true, true, true, true, true, true, true, true, true, false, false] rfl rfl (by kernel_rfl) (fun _ _ _ h => h) (Or.inl ⟨by rfl, ?_⟩) ?_ ?_
      rotate_left
      · intro w'
        go_simp
        with_reducible rfl
      rotate_left
      · simp only [Act.put, List.setIfInBounds_toArray, List.set_cons_zero, List.set_cons_succ, i64_w, i32_w]
        rfl
      refine one_ (i := 12) (N := some 5) #[true, true, true, true, true, true, true, true, true, true, true, true, true, false] rfl rfl (by kernel_rfl) (by decide) (fun K hK => ?_)
      refine value_ (w1 := y4.alloc (.cells #[.int .i64 0, .int .i64 0, .int .i64 0, .int .i64 0, .string ⟨#[]⟩] 23)) (v := .pointer (some ⟨y4.heap.size, 0, none⟩)) (by rfl) rfl (by first | (go_simp; done) | (go_simp; rfl)) ?_
      refine hK.out _ _ trivial (fun hHeld => ?_)
      clear hK K
      refine norm_ ?_ (hJ4 y4.heap.size _ (D1.new hx4 0 0 0 0 ⟨#[]⟩))
      simp only [putAll, Act.put, List.setIfInBounds_toArray, List.set_cons_zero, List.set_cons_succ]
    refine norm_ (a' := ?_) ?_ ?_
    rotate_left
    · simp only [putAll, Act.put, List.setIfInBounds_toArray, List.set_cons_zero, List.set_cons_succ]
      rfl
    obtain ⟨x0, x1, x2, x3, x4⟩ := hF.fb.cells
    have z0 := blk_frozen hF.fb 0
    have z1 := blk_frozen hF.fb 1
    have z2 := blk_frozen hF.fb 2
    have z3 := blk_frozen hF.fb 3
    have z4 := blk_frozen hF.fb 4
    refine one_ (i := 13) (N := none) #[true, true, true, true, true, true, true, true, true, true, true, true, true, true] rfl rfl (by kernel_rfl) (by decide) (fun K hK => ?_)
    refine skip_ (w1 := ((((wz.setCell ⟨f', 0, none⟩ (.int .i64 t)).setCell ⟨f', 1, none⟩ (.int .i64 i)).setCell ⟨f', 2, none⟩ (.int .i64 c)).setCell ⟨f', 3, none⟩ (.int .i64 z)).setCell ⟨f', 4, none⟩ (.string (a.extract 4 a.size))) (by rfl) rfl (exec_store (vx := .pointer (some ⟨f', 0, none⟩)) (vy := .agg #[.int .i64 t, .int .i64 i, .int .i64 c, .int .i64 z, .string (a.extract 4 a.size)]) rfl (by rfl) (by rfl) (by first | (go_simp; done) | (go_simp; rfl))) ?_
    refine hK.out _ _ trivial (fun hHeld => ?_)
    clear hK K
    refine done_ (by kernel_rfl) ?_
    go_upto_region 5 with (fail)
    refine wp_world (F := fun W => D1 w W 137 g r f' d4 30 t i c z dt) (by rw [hdt]; exact (((((hF.put 0 (.int .i64 t) rfl).put 1 (.int .i64 i) rfl).put 2 (.int .i64 c) rfl).put 3 (.int .i64 z) rfl).put 4 (.string (a.extract 4 a.size)) rfl)) (fun W6 hF => ?_)
    have HC6 := Aside0.mk (HC.out hF)
    clear hdt HD1 HC hHeld x0 x1 x2 x3 x4 z0 z1 z2 z3 z4
    by_cases e1 : bt a 3 % 4 = 0
    · rw [if_pos e1] at HC6
      by_cases e2 : lenF t i c z (dt.size : Int) = 0
      · have hk : chkF t i c z (dt.size : Int) = 1 := by unfold chkF; rw [if_pos e2]
        rw [hk] at HK
        have HE := Aside0.mk (HD.out.trans ((if_neg (not_not_intro e1)).trans (if_pos e2)))
        clear e1 e2 hF hk HD
        go_wp2_with (first
          | (go_at_call 55; refine HC6.out.mono ?_; rintro e w7 ⟨rfl, hd7⟩; obtain ⟨x0, x1, x2, x3, x4⟩ := hd7.fb.cells; have HD7 := Aside0.mk hd7)
          | (go_at_call 18; refine (HK.out _).mono ?_; rintro e w8 ⟨rfl, hb8⟩; have hd8 := HD7.out.below hb8; obtain ⟨y0, y1, y2, y3, y4⟩ := hd8.d0.bx.cells; have z0 := blk_frozen hd8.d0.bx 0; have z1 := blk_frozen hd8.d0.bx 1; have z2 := blk_frozen hd8.d0.bx 2; have z3 := blk_frozen hd8.d0.bx 3; have z4 := blk_frozen hd8.d0.bx 4))
        refine bodyPost_ret (results_ct rfl _ _ r 23 #[.int .i64 0, .int .i64 0, .int .i64 0, .int .i64 0, .string ⟨#[]⟩] (0, 0) _ rfl (Box.setAll hd8.d0.bx 0 0 0 0 ⟨#[]⟩) Try.underlying23 rfl (by kernel_rfl)) rfl ?_
        exact ⟨by rw [HE.out]; rfl, below_all hd8.d0.bel hd8.d0.ge 0 0 0 0 ⟨#[]⟩⟩
      · have hk : chkF t i c z (dt.size : Int) = 0 := by unfold chkF; rw [if_neg e2]
        rw [hk] at HK
        have HE := Aside0.mk (HD.out.trans ((if_neg (not_not_intro e1)).trans (if_neg e2)))
        clear e1 e2 hF hk HD
        go_wp2_with (first
          | (go_at_call 55; refine HC6.out.mono ?_; rintro e w7 ⟨rfl, hd7⟩; obtain ⟨x0, x1, x2, x3, x4⟩ := hd7.fb.cells; have HD7 := Aside0.mk hd7)
          | (go_at_call 18; refine (HK.out _).mono ?_; rintro e w8 ⟨rfl, hb8⟩; have hd8 := HD7.out.below hb8; obtain ⟨y0, y1, y2, y3, y4⟩ := hd8.d0.bx.cells; replace ⟨x0, x1, x2, x3, x4⟩ := hd8.fb.cells; have z0 := blk_frozen hd8.d0.bx 0; have z1 := blk_frozen hd8.d0.bx 1; have z2 := blk_frozen hd8.d0.bx 2; have z3 := blk_frozen hd8.d0.bx 3; have z4 := blk_frozen hd8.d0.bx 4))
        refine bodyPost_ret (results_ct rfl _ _ r 23 #[.int .i64 t, .int .i64 i, .int .i64 c, .int .i64 z, .string dt] (0, 0) _ rfl (Box.setAll hd8.d0.bx t i c z dt) Try.underlying23 rfl (by kernel_rfl)) rfl ?_
        exact ⟨by rw [HE.out]; rfl, below_all hd8.d0.bel hd8.d0.ge t i c z dt⟩
    · rw [if_neg e1] at HC6
      have HE := Aside0.mk (HD.out.trans (if_pos e1))
      clear e1 hF HD
      go_wp2_with (go_at_call 55; refine HC6.out.mono ?_; rintro e w7 ⟨rfl, hd7⟩; obtain ⟨y0, y1, y2, y3, y4⟩ := hd7.d0.bx.cells; have z0 := blk_frozen hd7.d0.bx 0; have z1 := blk_frozen hd7.d0.bx 1; have z2 := blk_frozen hd7.d0.bx 2; have z3 := blk_frozen hd7.d0.bx 3; have z4 := blk_frozen hd7.d0.bx 4)
      refine bodyPost_ret (results_ct rfl _ _ r 23 #[.int .i64 0, .int .i64 0, .int .i64 0, .int .i64 0, .string ⟨#[]⟩] (0, 0) _ rfl (Box.setAll hd7.d0.bx 0 0 0 0 ⟨#[]⟩) Try.underlying23 rfl (by kernel_rfl)) rfl ?_
      exact ⟨by rw [HE.out]; rfl, below_all hd7.d0.bel hd7.d0.ge 0 0 0 0 ⟨#[]⟩⟩
def fragment_Decode.f (a : ByteArray) : Option (Int × Int × Int × Int × ByteArray × Int) := if a.size ≤ 140737488351232 then some (decF a) else none
def hopmeshref15_Decode.f (a : ByteArray) : Option (Int × Int × Int × Int × ByteArray × Int) := if a.size ≤ 140737488351232 then some (decF a) else none
theorem fragment_Decode.calls (a : ByteArray) (r0 r1 r2 r3 : Int) (r4 : ByteArray) (r5 : Int) (w : World) (h : fragment_Decode.f a = some (r0, r1, r2, r3, r4, r5)) :
    Calls Try.prog 26 #[.string a] w fun e w' => e = .returned (.tuple #[.agg #[.int .i64 r0, .int .i64 r1, .int .i64 r2, .int .i64 r3, .string r4], .int .i64 r5]) ∧ Below w.heap.size w w' := by
  unfold fragment_Decode.f at h
  split at h
  · rename_i hd
    have h2 := decode_walk a hd w
    rw [Option.some.inj h] at h2
    exact h2
  · cases h
theorem hopmeshref15_Decode.calls (a : ByteArray) (r0 r1 r2 r3 : Int) (r4 : ByteArray) (r5 : Int) (w : World) (h : hopmeshref15_Decode.f a = some (r0, r1, r2, r3, r4, r5)) :
    Calls Try.prog 27 #[.string a] w fun e w' => e = .returned (.tuple #[.agg #[.int .i64 r0, .int .i64 r1, .int .i64 r2, .int .i64 r3, .string r4], .int .i64 r5]) ∧ Below w.heap.size w w' := by
  unfold hopmeshref15_Decode.f at h
  split at h
  · rename_i hd
    have h2 := rdecode_walk a hd w
    rw [Option.some.inj h] at h2
    exact h2
  · cases h
end Go.Proofs.Ytokapofgbcbajaa.Fns
