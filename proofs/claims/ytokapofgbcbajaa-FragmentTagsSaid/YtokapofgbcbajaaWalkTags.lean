/- The law FragmentTags: its walk. -/
import Derived.Test.YtokapofgbcbajaaTagsPure
import Derived.Test.YtokapofgbcbajaaSortRow
import Derived.Test.YtokapofgbcbajaaMapI
import Derived.Test.YtokapofgbcbajaaAwake
namespace Go.Proofs.Ytokapofgbcbajaa.Fns
open Go.RowKit Go.Maps Go.Proofs.YtokapofgbcbajaaW.PrintWords Go.Proofs.YtokapofgbcbajaaW.PrintLast Go.Proofs.YtokapofgbcbajaaW.PrintMore
attribute [local go_sem high] eqA23
set_option linter.unusedVariables false
set_option linter.unusedSimpArgs false
/-- Another block has turned: a map that is not the receiver's, or a row of numbers. -/
theorem RW.besides {w w1 : World} {base p b : Nat} {hold time : Int} {live : List Nat} {es : List Ent} (h : RW w base p b hold time live es) {row : Option Nat} (hg : w.grownBy w1 row)
    (hk : ∀ k, row = some k → (k ≠ b ∧ ∃ a c, w.heap[k]? = some (.map a c)) ∨ ∃ cs f, w.heap[k]? = some (.cells cs 3 f)) : RW w1 base p b hold time live es := by
  have hoth : ∀ {j : Nat} {cs : Array Value} {e : TypeId} {f : Nat × Nat}, e ≠ 3 → w.heap[j]? = some (.cells cs e f) → w1.heap[j]? = some (.cells cs e f) := fun {j cs e f} he hj =>
    (hg.block j (Array.getElem?_eq_some_iff.1 hj).1 (fun e1 => by
      rcases hk j e1.symm with ⟨_, a, c, hm⟩ | ⟨cs', f', hm⟩
      · rw [hm] at hj
        cases hj
      · rw [hm] at hj
        injection hj with hj; injection hj with _ h2
        exact he h2.symm)).trans hj
  have hne : some b ≠ row := by
    intro e1
    rcases hk b e1.symm with ⟨h1, _⟩ | ⟨cs', f', hm⟩
    · exact h1 rfl
    · obtain ⟨a, c, hm2⟩ := h.mapblk
      rw [hm] at hm2
      cases hm2
  refine ⟨hoth (by decide) h.blk, h.hp, h.hb, h.map.kept hg hne, ?_, ?_, h.rise, h.apart, h.small⟩
  · intro B hB
    obtain ⟨g1, d, g2⟩ := h.lives B hB
    exact ⟨g1, d, hoth (by decide) g2.1, g2.2⟩
  · intro e he
    obtain ⟨g1, g2⟩ := h.dgs e he
    exact ⟨g1, hoth (by decide) g2.1, g2.2⟩
theorem RS.besides {w w1 : World} {base p b : Nat} {hold time : Int} {l : List (Int × Dg)} (h : RS w base p b hold time l) {row : Option Nat} (hg : w.grownBy w1 row)
    (hk : ∀ k, row = some k → (k ≠ b ∧ ∃ a c, w.heap[k]? = some (.map a c)) ∨ ∃ cs f, w.heap[k]? = some (.cells cs 3 f)) : RS w1 base p b hold time l := by
  obtain ⟨live, es, h1, h2⟩ := h.ex
  exact ⟨h.hh, h.ht, h.ok, live, es, h1.besides hg hk, h2⟩
theorem below_row {n : Nat} {w w1 : World} {row : Option Nat} (hg : w.grownBy w1 row) (hk : ∀ k, row = some k → n ≤ k) (hn : n ≤ w.heap.size) : Below n w w1 :=
  ⟨hg.os, hg.tape, hg.output, hg.size, fun i hi => hg.block i (by omega) (fun e => by have := hk i e.symm; omega)⟩
theorem at_natu {w : World} {A : Option Addr} {xs : List Int} {n : Nat} (h : Kd.C (Kd.int .u8) w A n xs) (hn : xs.length = n) {j : Nat} {x : Int} (hx : xs[j]? = some x) : ∃ a, A = some a ∧ w.cell? (a.add j) = some (.int .u8 x) := by
  have hj : j < xs.length := (List.getElem?_eq_some_iff.1 hx).1
  obtain ⟨a, rfl, hr⟩ := Kd.at_int h (j : Int) (by omega) (by omega)
  refine ⟨a, rfl, ?_⟩
  have e : rd xs (j : Int) = x := by
    unfold rd
    rw [Int.toNat_natCast, List.getD_eq_getElem?_getD, hx]; rfl
  rw [e] at hr
  simpa using hr
theorem tags_pick {x : Int} (hw : (Lit.int .u8 x).wf = true) : ∃ t k : Nat, t ≤ 9 ∧ k ≤ 1 ∧ Int.tmod x 10 = (t : Int) ∧ Int.tmod (wrap64 (Int.tdiv x 10)) 2 = (k : Int) ∧ wrap64 x = x ∧ wrap64 (t : Int) = (t : Int) ∧ wrap64 (k : Int) = (k : Int) := by
  have hb : 0 ≤ x ∧ x ≤ 255 := by
    simp [Lit.wf, IntKind.min, IntKind.max, IntKind.signed, IntKind.bits] at hw
    omega
  refine ⟨(x % 10).toNat, (x / 10 % 2).toNat, by omega, by omega, ?_, ?_, wrap_in (by omega), wrap_in (by omega), wrap_in (by omega)⟩
  · rw [tmod_nn hb.1]; omega
  · rw [tdiv_nn hb.1, wrap_in (by omega), tmod_nn (by omega)]; omega
theorem tags_step {i nx : Nat} (h : i < nx) (h60 : nx ≤ 60) : wrap64 ((i : Int) + 1) = ((i + 1 : Nat) : Int) ∧ decide ((i : Int) < (nx : Int)) = true ∧ decide (i < nx) = true ∧ (i : Int) < (nx : Int) :=
  ⟨by rw [wrap_in (by omega)]; omega, decide_eq_true (by omega), decide_eq_true h, by omega⟩
/-- The name of a tag's datagram. -/
theorem tags_name {t : Nat} (ht : t ≤ 9) : ∃ ch : ByteArray, wrap64 (97 + (t : Int)) = 97 + (t : Int) ∧ IntKind.i32.wrap (97 + (t : Int)) = 97 + (t : Int) ∧ Utf8.encode (97 + (t : Int)) = ch ∧
    ∀ w, (Op.stringOp .add ⟨#[97, 98]⟩ ch).run Try.prog w = .ok (.string (dt t)) w := by
  have hc : Utf8.encode (97 + (t : Int)) = ⟨#[UInt8.ofNat (97 + t)]⟩ := by
    obtain rfl | rfl | rfl | rfl | rfl | rfl | rfl | rfl | rfl | rfl : t = 0 ∨ t = 1 ∨ t = 2 ∨ t = 3 ∨ t = 4 ∨ t = 5 ∨ t = 6 ∨ t = 7 ∨ t = 8 ∨ t = 9 := by omega
    all_goals kernel_rfl
  refine ⟨_, wrap_in (by omega), ?_, hc, fun w => ?_⟩
  · unfold IntKind.wrap
    simp [IntKind.bits, IntKind.signed]
    omega
  · have h := run_string_add_sum (P := Try.prog) w ⟨#[97, 98]⟩ ⟨#[UInt8.ofNat (97 + t)]⟩ (by show 2 + 1 ≤ _; decide)
    rw [h]
    rfl
/-- What a round keeps. -/
structure TS (w W : World) (base p bm b2 : Nat) (v : Value) (time : Int) (f : Int → Int) (n : Nat) (l : List (Int × Dg)) (tg : List Int) : Prop where
  bel : Below w.heap.size w W
  rs : RS W base p bm 100 time l
  map : IMap W b2 f n
  own : W.ownsRow base 3 1 v tg.length (tg.map (Value.int .i64))
section
variable {w W Wx : World} {base p bm b2 : Nat} {v : Value} {time : Int} {f : Int → Int} {n : Nat} {l : List (Int × Dg)} {tg : List Int}
theorem TS.later (h : TS w W base p bm b2 v time f n l tg) (hb : Below W.heap.size W Wx) : TS w Wx base p bm b2 v time f n l tg :=
  ⟨h.bel.trans (hb.mono h.bel.size), h.rs.later hb, h.map.later hb, own_later hb h.own⟩
theorem TS.hb (h : TS w W base p bm b2 v time f n l tg) : base ≤ W.heap.size := by
  obtain ⟨live, es, hR, _⟩ := h.rs.ex
  have := (Array.getElem?_eq_some_iff.1 hR.blk).1
  have := hR.hp
  omega
theorem map_ne_cells {b k : Nat} {cs : Array Value} {e : TypeId} {q : Nat × Nat} (hm : ∃ a c, W.heap[b]? = some (.map a c)) (hc : W.heap[k]? = some (.cells cs e q)) : k ≠ b := by
  rintro rfl
  obtain ⟨a, c, h⟩ := hm
  rw [h] at hc
  cases hc
theorem TS.recv (h : TS w W base p bm b2 v time f n l tg) (hwb : w.heap.size ≤ base) (hne : b2 ≠ bm) {time' : Int} {l' : List (Int × Dg)} (hr : RS Wx base p bm 100 time' l') (hf : FrB SR base bm W Wx) : TS w Wx base p bm b2 v time' f n l' tg := by
  refine ⟨hf.toBelow h.bel hwb h.hb, hr, h.map.move (hf.block b2 h.map.lt (.inr ⟨?_, hne⟩)), own_move h.own (fun k hk => ?_)⟩
  · intro c e q hcl
    obtain ⟨a, cl, hm2⟩ := h.map.blk
    rw [hm2] at hcl
    cases hcl
  · obtain ⟨c, hc⟩ := own_typed h.own k hk
    exact hf.block k (h.own.lt k hk).2 (.inr ⟨other_of hc rfl, map_ne_cells h.rs.blk hc⟩)
theorem TS.turned (h : TS w W base p bm b2 v time f n l tg) (hwb : w.heap.size ≤ base) {row : Option Nat} (hg : W.grownBy Wx row) (hk : ∀ k, row = some k → base ≤ k ∧ ∃ cs, W.heap[k]? = some (.cells cs 3 (0, 0))) {v' : Value} {tg' : List Int}
    (ho : Wx.ownsRow base 3 1 v' tg'.length (tg'.map (Value.int .i64))) : TS w Wx base p bm b2 v' time f n l tg' := by
  refine ⟨h.bel.trans (below_row hg (fun k e => Nat.le_trans hwb (hk k e).1) h.bel.size), h.rs.besides hg (fun k e => .inr (by obtain ⟨_, cs, hc⟩ := hk k e; exact ⟨cs, _, hc⟩)), h.map.move (hg.block b2 h.map.lt (fun e => ?_)), ho⟩
  obtain ⟨_, cs, hc⟩ := hk b2 e.symm
  exact map_ne_cells h.map.blk hc rfl
theorem TS.own_row (h : TS w W base p bm b2 v time f n l tg) : ∀ k, v.ownBlock = some k → base ≤ k ∧ ∃ cs, W.heap[k]? = some (.cells cs 3 (0, 0)) :=
  fun k hk => ⟨(h.own.lt k hk).1, own_typed h.own k hk⟩
theorem TS.put (h : TS w W base p bm b2 v time f n l tg) (hwb : w.heap.size ≤ base) (hb : base ≤ b2) (hne : b2 ≠ bm) (hg : W.grownBy Wx (some b2)) {f' : Int → Int} {n' : Nat} (hm : IMap Wx b2 f' n') : TS w Wx base p bm b2 v time f' n' l tg := by
  refine ⟨h.bel.trans (below_row hg (fun k e => by have := Option.some.inj e; omega) h.bel.size), h.rs.besides hg (fun k e => .inl (by obtain rfl := Option.some.inj e; exact ⟨hne, h.map.blk⟩)), hm, own_move h.own (fun k hk => hg.block k (h.own.lt k hk).2 (fun e => ?_))⟩
  obtain ⟨c, hc⟩ := own_typed h.own k hk
  exact map_ne_cells h.map.blk hc (Option.some.inj e)
theorem TS.reads {A : Option Addr} {z c : Nat} (h : TS w W base p bm b2 (.slice A z c) time f n l tg) : z = tg.length ∧ z ≤ c ∧ Kd.C (Kd.int .i64) W A tg.length tg := by
  rcases h.own.2 with ⟨hv, hn⟩ | ⟨g, cap, cur, hv, hg, h1, h2, h3, h4, h5⟩
  · injection hv with e1 e2 e3
    subst e1; subst e2; subst e3
    exact ⟨hn.symm, Nat.le_refl _, rfl, by rw [hn]; decide, fun hh => by omega⟩
  · injection hv with e1 e2 e3
    subst e1; subst e2; subst e3
    exact ⟨rfl, h2, C_of_row (IsRow.mk h1 h2 h3 h4 h5 h.own.1) rfl⟩
end
theorem lookP_upd {t : Int} {D : Dg} : ∀ {l : List (Int × Dg)}, lookP l t ≠ none → lookP (updP l t D) t = some D
  | [], h => absurd rfl h
  | (s, y) :: r, h => by
    rw [lookP_cons] at h
    show lookP ((if s = t then (t, D) else (s, y)) :: updP r t D) t = _
    by_cases e : s = t
    · rw [if_pos e, lookP_cons, if_pos rfl]
    · rw [if_neg e] at h
      rw [if_neg e, lookP_cons, if_neg e]
      exact lookP_upd h
theorem bmp_of {l : List (Int × Dg)} {t : Int} {D : Dg} (h : lookP l t = some D) : bmpF l t = (D.bmp : Int) ∧ bmpE l t = 0 := by
  unfold bmpF bmpE
  rw [h]
  exact ⟨rfl, rfl⟩
/-- The ways of an arrival of a tag that is there. -/
theorem tags_out {t b k : Nat} (hb : 1 ≤ b ∧ b ≤ 3) (hk : k ≤ 1) : 1 ≤ b ||| 2 ^ k ∧ b ||| 2 ^ k ≤ 3 ∧
    ((((b : Int) != 3) = false ∧ (b != 3) = false ∧ outW (dt t) 2 b k = (⟨#[]⟩, false)) ∨
    (((b : Int) != 3) = true ∧ (b != 3) = true ∧ (((b ||| 2 ^ k : Nat) : Int) == 3) = false ∧ ((b ||| 2 ^ k : Nat) == 3) = false ∧ outW (dt t) 2 b k = (⟨#[]⟩, false)) ∨
    (((b : Int) != 3) = true ∧ (b != 3) = true ∧ (((b ||| 2 ^ k : Nat) : Int) == 3) = true ∧ ((b ||| 2 ^ k : Nat) == 3) = true ∧ outW (dt t) 2 b k = (dt t, true))) := by
  unfold outW
  rw [cnt_dt]
  obtain rfl | rfl : k = 0 ∨ k = 1 := by omega
  all_goals
    obtain rfl | rfl | rfl : b = 1 ∨ b = 2 ∨ b = 3 := by omega
    all_goals
      refine ⟨by decide, by decide, ?_⟩
      first
        | exact .inl ⟨by decide, by decide, if_neg (by decide)⟩
        | exact .inr (.inl ⟨by decide, by decide, by decide, by decide, if_neg (by decide)⟩)
        | exact .inr (.inr ⟨by decide, by decide, by decide, by decide, if_pos (by decide)⟩)
theorem tags_out0 {t k : Nat} (hk : k ≤ 1) : 1 ≤ 0 ||| 2 ^ k ∧ 0 ||| 2 ^ k ≤ 3 ∧ (((0 ||| 2 ^ k : Nat) : Int) == 3) = false ∧ ((0 ||| 2 ^ k : Nat) == 3) = false ∧ outW (dt t) 2 0 k = (⟨#[]⟩, false) := by
  unfold outW
  rw [cnt_dt]
  obtain rfl | rfl : k = 0 ∨ k = 1 := by omega
  all_goals exact ⟨by decide, by decide, by decide, by decide, if_neg (by decide)⟩
/-- The arrival: a tag that is there, a new one, a ninth one. -/
theorem tags_arrive {w W : World} {base p bm b2 : Nat} {v : Value} {time : Int} {f : Int → Int} {n : Nat} {l : List (Int × Dg)} {tg : List Int} (h : TS w W base p bm b2 v time f n l tg) (hT : TL f l) (hwb : w.heap.size ≤ base) (hne : b2 ≠ bm) {t k i : Nat} (ht : t ≤ 9) (hk : k ≤ 1) (hi : time ≤ (i : Int)) (h60 : i ≤ 60)
    {r : Res} (hr : recvF 100 time l i t k ((2 : Nat) : Int) ((3 : Nat) : Int) (pcs (dt t) 2 k) = r) :
    Calls Try.prog 22 #[.pointer (some ⟨p, 0, none⟩), .int .i64 (i : Int), .agg #[.int .i64 (t : Int), .int .i64 (k : Int), .int .i64 2, .int .i64 3, .string (pcs (dt t) 2 k)]] W fun e w' =>
      e = .returned (.tuple #[.string r.s, .bool r.ok, .int .i64 r.err]) ∧ TS w w' base p bm b2 v r.time f n r.l tg := by
  subst hr
  have hpz : (pcs (dt t) 2 k).size ≤ 140737488351232 := by
    have := (pcs_len (t := 3) (d := dt t) (m := 2) (j := k) (by decide) (by rw [dt_size]; decide) (by decide) (by rw [cnt_dt]; decide) (by rw [cnt_dt]; omega)).2
    omega
  refine (recv_calls h.hb h.rs (i : Int) (t : Int) (k : Int) 2 3 (pcs (dt t) 2 k) hpz).mono ?_
  rintro e w' ⟨rfl, hrs, hfr⟩
  exact ⟨rfl, h.recv hwb hne hrs hfr⟩
section
variable {time : Int} {f : Int → Int} {l : List (Int × Dg)} {t k i : Nat}
theorem arrive_have {b : Nat} {last : Int} (hT : TL f l) (ht : t ≤ 9) (hk : k ≤ 1) (hi : time ≤ (i : Int)) (h60 : i ≤ 60) (hb : b ≤ 3) (hD : lookP l (t : Int) = some (dgW (dt t) 2 b last)) :
    recvF 100 time l i t k ((2 : Nat) : Int) ((3 : Nat) : Int) (pcs (dt t) 2 k) = ⟨(outW (dt t) 2 b k).1, (outW (dt t) 2 b k).2, 0, i, updP l t (dgW (dt t) 2 (b ||| 2 ^ k) i)⟩ := by
  have hkept := hT.kept (i := (i : Int)) (by omega)
  have h := recv_have (d := dt t) (m := 2) (b := b) (k := k) (t := (t : Int)) (hold := 100) (time := time) (slot := (i : Int)) (l := l) (last := last) (by omega) (by rw [dt_size]; decide) (by decide) (by rw [cnt_dt]; decide) (by rw [cnt_dt]; omega) (by rw [cnt_dt]; omega) hi (by omega) (by rw [hkept]; exact hD)
  rw [cnt_dt, dt_size, hkept] at h
  exact h
theorem arrive_new (hT : TL f l) (ht : t ≤ 9) (hk : k ≤ 1) (hi : time ≤ (i : Int)) (h60 : i ≤ 60) (hD : lookP l (t : Int) = none) (h8 : l.length < 8) :
    recvF 100 time l i t k ((2 : Nat) : Int) ((3 : Nat) : Int) (pcs (dt t) 2 k) = ⟨(outW (dt t) 2 0 k).1, (outW (dt t) 2 0 k).2, 0, i, insP ((t : Int), dgW (dt t) 2 (0 ||| 2 ^ k) i) l⟩ := by
  have hkept := hT.kept (i := (i : Int)) (by omega)
  have h := recv_new (d := dt t) (m := 2) (k := k) (t := (t : Int)) (hold := 100) (time := time) (slot := (i : Int)) (l := l) (by omega) (by rw [dt_size]; decide) (by decide) (by rw [cnt_dt]; decide) (by rw [cnt_dt]; omega) hi (by omega) (by rw [hkept]; exact hD) (by rw [hkept]; exact h8)
  rw [cnt_dt, dt_size, hkept, updP_ins hD] at h
  exact h
theorem arrive_full (hT : TL f l) (ht : t ≤ 9) (hk : k ≤ 1) (hi : time ≤ (i : Int)) (h60 : i ≤ 60) (hD : lookP l (t : Int) = none) (h8 : 8 ≤ l.length) :
    recvF 100 time l i t k ((2 : Nat) : Int) ((3 : Nat) : Int) (pcs (dt t) 2 k) = ⟨⟨#[]⟩, false, 13, i, l⟩ := by
  have hkept := hT.kept (i := (i : Int)) (by omega)
  have h := recv_full (d := dt t) (m := 2) (k := k) (t := (t : Int)) (hold := 100) (time := time) (slot := (i : Int)) (l := l) (by omega) (by rw [dt_size]; decide) (by decide) (by rw [cnt_dt]; decide) (by rw [cnt_dt]; omega) hi (by omega) (by rw [hkept]; exact hD) (by rw [hkept]; exact h8)
  rw [cnt_dt, dt_size, hkept] at h
  exact h
end
theorem tags_get {t k : Nat} (hk : k ≤ 1) : (pieces t (dt t) 2 2)[k]? = some ⟨t, k, 2, 3, pcs (dt t) 2 k⟩ := by
  rw [pieces, List.getElem?_map, List.getElem?_range (by omega)]
  show some (piece t (dt t) 2 k) = _
  unfold piece pcs
  rw [cnt_dt, dt_size]
  rfl
theorem tags_nums {t k : Nat} (ht : t ≤ 9) (hk : k ≤ 1) : (k : Int) < 2 ∧ k < 2 ∧ (Lit.int .i64 (t : Int)).wf = true ∧ min k 64 = k := ⟨by omega, by omega, wf_small (by omega), by omega⟩
theorem tags_eight {n : Nat} (h : n ≤ 8) (h8 : ¬ n < 8) : ((n : Int) == 8) = true ∧ (n == 8) = true := ⟨by rw [beq_iff_eq]; omega, by rw [beq_iff_eq]; omega⟩
theorem tags_few {n : Nat} (h8 : n < 8) : ((n : Int) == 8) = false ∧ (n == 8) = false := ⟨by rw [beq_eq_false_iff_ne]; omega, by rw [beq_eq_false_iff_ne]; omega⟩
theorem tags_end {i nx : Nat} (h : ¬ i < nx) : decide ((i : Int) < (nx : Int)) = false ∧ decide (i < nx) = false := ⟨decide_eq_false (by omega), decide_eq_false h⟩
theorem tags_meas {i nx : Nat} (h : i < nx) : ((nx : Int) - ((i + 1 : Nat) : Int)).toNat < ((nx : Int) - (i : Int)).toNat := by omega
theorem refl_drew (W : World) : Below W.heap.size W W.drew := (Below.refl _ _).drew
theorem below_tr2 {base : Nat} {w : World} (h : base ≤ w.heap.size) : Below base w w := (Below.refl _ w).mono h
theorem tags_bytes {n : Nat} (h : n ≤ 8) : (n + 1) * 8 ≤ 140737488355328 := by omega
theorem tags_inslen (x : Int × Dg) (l : List (Int × Dg)) : (l.map (·.1)).length + 1 = (insP x l).length := by rw [(insP_perm x l).length_eq, List.length_cons, List.length_map]
theorem tags_b32 {b : Nat} (h : b ≤ 3) : b < 4294967296 := by omega
theorem tags_k32 {k : Nat} (h : k ≤ 1) : k < 32 := by omega
theorem updP_length (l : List (Int × Dg)) (t : Int) (D : Dg) : (updP l t D).length = l.length := by unfold updP; rw [List.length_map]
theorem tags_inv {m i : Nat} (h : m ≤ i) : m ≤ i + 1 ∧ (0 : Int) ≤ (i : Int) ∧ (i : Int) ≤ ((i + 1 : Nat) : Int) := ⟨by omega, by omega, by omega⟩
theorem tags_inv1 {m i : Nat} (h : m ≤ i) : m + 1 ≤ i + 1 ∧ (0 : Int) ≤ (i : Int) ∧ (i : Int) ≤ ((i + 1 : Nat) : Int) := ⟨by omega, by omega, by omega⟩
theorem tags_m {m i : Nat} (h : m ≤ i) (h60 : i ≤ 60) : m < 1000 := by omega
theorem if_same (f : Int → Int) (t b : Int) : (if t = t then b else f t) = b := if_pos rfl
theorem tags_zero {time : Int} {f : Int → Int} {l : List (Int × Dg)} {t k i : Nat} (hT : TL f l) (ht : t ≤ 9) (hk : k ≤ 1) (hi : time ≤ (i : Int)) (h60 : i ≤ 60) (hD : lookP l (t : Int) = none) (h8 : l.length < 8) :
    ∃ (b : Nat) (L : List (Int × Dg)), b ≤ 3 ∧ f (t : Int) = (b : Int) ∧ ((b : Int) != 3) = true ∧ (b != 3) = true ∧ (((b ||| 2 ^ k : Nat) : Int) == 3) = false ∧ ((b ||| 2 ^ k : Nat) == 3) = false ∧
      recvF 100 time l i t k ((2 : Nat) : Int) ((3 : Nat) : Int) (pcs (dt t) 2 k) = ⟨⟨#[]⟩, false, 0, i, L⟩ ∧ TL (fun x => if x = (t : Int) then ((b ||| 2 ^ k : Nat) : Int) else f x) L ∧ lookP L (t : Int) = some (dgW (dt t) 2 (b ||| 2 ^ k) i) ∧
      srt (l.map (·.1) ++ [(t : Int)]) = L.map (·.1) ∧ (l.map (·.1)).length + 1 = L.length := by
  obtain ⟨hc1, hc3, q3, q3', ho⟩ := tags_out0 (t := t) (k := k) hk
  have hr := arrive_new (time := time) hT ht hk hi h60 hD h8
  rw [ho] at hr
  exact ⟨0, _, by decide, hT.out _ hD, by decide, by decide, q3, q3', hr, hT.ins (t := t) (b := 0 ||| 2 ^ k) (i := (i : Int)) hD h8 ht ⟨hc1, hc3⟩ (Int.natCast_nonneg i), lookP_insP hD, tags_sorted hT hD, tags_inslen _ l⟩
theorem tags_append {w W w1 : World} {base p bm b2 : Nat} {v v1 : Value} {time : Int} {f : Int → Int} {n : Nat} {l : List (Int × Dg)} {tg tg' : List Int} {t : Int} (h : TS w W base p bm b2 v time f n l tg) (hwb : w.heap.size ≤ base) (hl : tg.length ≤ 8)
    (ho : w1.ownsRow base 3 1 v1 (tg.length + 1) (tg.map (Value.int .i64) ++ [.int .i64 t])) (hg : W.grownBy w1 v.ownBlock) {nn : Nat} (hn : tg.length + 1 = nn) (hs : srt (tg ++ [t]) = tg') :
    ∃ g cap, v1 = .slice (some ⟨g, 0, none⟩) nn cap ∧ Calls Try.prog 30 #[.slice (some ⟨g, 0, none⟩) nn cap] w1 (fun e w' => e = .returned (.tuple #[]) ∧ TS w w' base p bm b2 (.slice (some ⟨g, 0, none⟩) nn cap) time f n l tg') := by
  obtain ⟨g, cap, cur, hv, hgb, hir⟩ := Fns.own_row ho (Nat.succ_pos _)
  have hlen : (tg ++ [t]).length = tg.length + 1 := by rw [List.length_append]; rfl
  have hmap : tg.map (Value.int .i64) ++ [Value.int .i64 t] = (tg ++ [t]).map (Value.int .i64) := by rw [List.map_append]; rfl
  have h1 : TS w w1 base p bm b2 v1 time f n l (tg ++ [t]) := h.turned hwb hg h.own_row (by rw [hlen, ← hmap]; exact ho)
  rw [hmap] at hir
  rw [← hlen] at hir
  have hc := sort_calls w1 g cap (tg ++ [t]) cur (by rw [hlen]; omega) hir
  subst hv
  refine ⟨g, cap, by rw [hn], ?_⟩
  rw [hlen, hn] at hc
  refine hc.mono ?_
  rintro e w' ⟨he, ⟨cur', hir'⟩, hg'⟩
  refine ⟨he, ?_⟩
  have hsl : (srt (tg ++ [t])).length = nn := by rw [← hn, ← hlen]; exact List.length_mergeSort _
  rw [hlen, hn] at hir'
  rw [← hs]
  have hro := h1.own_row
  refine TS.turned h1 hwb hg' (fun k hk => ?_) ?_
  · exact hro k (by rw [← hk]; rfl)
  · rw [hsl]; exact hir'.own hgb
/-- Behind the table's update: the bitmap, the tags, and that they are equal. -/
theorem tags_after {w W : World} {base p bm b2 : Nat} {v : Value} {time : Int} {f : Int → Int} {n : Nat} {l : List (Int × Dg)} {t b : Nat} {last : Int} (h : TS w W base p bm b2 v time f n l (l.map (·.1))) (hT : TL f l) (ht : (Lit.int .i64 (t : Int)).wf = true) (hD : lookP l (t : Int) = some (dgW (dt t) 2 b last)) :
    Calls Try.prog 23 #[.pointer (some ⟨p, 0, none⟩), .int .i64 (t : Int)] W (fun e w' => e = .returned (.tuple #[.int .i64 (b : Int), .int .i64 0]) ∧ w' = W) ∧
    Calls Try.prog 29 #[.pointer (some ⟨p, 0, none⟩)] W (fun e w' => ∃ (A : Option Addr) (c : Nat), e = .returned (.slice A l.length c) ∧ TS w w' base p bm b2 v time f n l (l.map (·.1)) ∧
      ∀ (A5 : Option Addr) (c5 : Nat), v = .slice A5 l.length c5 → Calls Try.prog 20 #[.slice A l.length c, v] w' fun e w2 => e = .returned (.bool true) ∧ TS w w2 base p bm b2 v time f n l (l.map (·.1))) := by
  have hf := hT.few
  have hml : (l.map (·.1)).length = l.length := List.length_map _
  constructor
  · have h1 := bitmap_calls h.rs (t : Int) ht
    rw [(bmp_of hD).1, (bmp_of hD).2] at h1
    exact h1
  · refine (tags_calls h.rs (by omega)).mono ?_
    rintro e w' ⟨v', rfl, hrow, hb⟩
    have h1 := h.later hb
    obtain ⟨A, c, rfl⟩ := own_slice hrow
    refine ⟨A, c, rfl, h1, ?_⟩
    rintro A5 c5 rfl
    have hrow' : w'.ownsRow w.heap.size 3 1 (.slice A l.length c) (l.map (·.1)).length ((l.map (·.1)).map (Value.int .i64)) := by
      rw [hml]
      exact ownsRow_base_a hrow h.bel.size
    have hts : TS w w' w.heap.size p bm b2 (.slice A l.length c) time f n l (l.map (·.1)) → True := fun _ => trivial
    obtain ⟨_, h5, h6⟩ := h1.reads
    have hAC : l.length ≤ c ∧ Kd.C (Kd.int .i64) w' A (l.map (·.1)).length (l.map (·.1)) := by
      rcases hrow'.2 with ⟨hv, hn⟩ | ⟨g, cap, cur, hv, hg, k1, k2, k3, k4, k5⟩
      · injection hv with e1 e2 e3
        subst e1; subst e3
        rw [hml] at hn
        exact ⟨by omega, rfl, by rw [hml]; omega, fun hh => by rw [hml] at hh; omega⟩
      · injection hv with e1 e2 e3
        subst e1; subst e3
        rw [hml] at k2
        exact ⟨k2, C_of_row (IsRow.mk k1 (by rw [hml]; exact k2) k3 k4 k5 hrow'.1) rfl⟩
    have he := slices_Equal_int_int.calls _ A c (l.map (·.1)) A5 c5 (l.map (·.1)) true w' hAC.2 (by rw [hml]; exact hAC.1) h6 (by rw [hml]; exact h5) (eqI_refl _ (by rw [hml]; omega))
    rw [hml] at he
    refine he.mono ?_
    rintro e w2 ⟨rfl, hd⟩
    exact ⟨rfl, h1.later hd.below⟩
/-- slices.Contains of the tags, and what Equal of the tags says. -/
theorem tags_contains {w W : World} {base p bm b2 : Nat} {A : Option Addr} {c : Nat} {time : Int} {f : Int → Int} {n : Nat} {l : List (Int × Dg)} {tg : List Int} {z : Nat} (h : TS w W base p bm b2 (.slice A z c) time f n l tg) (ht : tg.length ≤ 8) (t : Int) {r : Bool} (hr : decide (t ∈ tg) = r) :
    Calls Try.prog 28 #[.slice A z c, .int .i64 t] W fun e w' => e = .returned (.bool r) ∧ TS w w' base p bm b2 (.slice A z c) time f n l tg := by
  obtain ⟨rfl, h2, h3⟩ := h.reads
  have hc := contains_eq tg t (by omega)
  rw [hr] at hc
  refine (slices_Contains_int_int.calls _ A c tg t r W h3 h2 hc).mono ?_
  rintro e w' ⟨rfl, hd⟩
  exact ⟨rfl, h.later hd.below⟩
theorem lp_none {l : List (Int × Dg)} {t : Int} (h : lookP l t = none) : decide (t ∈ l.map (·.1)) = false := decide_eq_false (lookP_iff.1 h)
theorem lp_some {l : List (Int × Dg)} {t : Int} {D : Dg} (h : lookP l t = some D) : decide (t ∈ l.map (·.1)) = true :=
  decide_eq_true (Classical.byContradiction fun hn => by rw [lookP_iff.2 hn] at h; cases h)
theorem TL.few' {f : Int → Int} {l : List (Int × Dg)} (h : TL f l) : (l.map (·.1)).length ≤ 8 := by rw [List.length_map]; exact h.few
set_option maxRecDepth 100000 in
set_option maxHeartbeats 8000000 in
theorem tags_walk (A : Option Addr) (xs : List Int) (c2 : Nat) (w : World) (hC : Kd.C (Kd.int .u8) w A xs.length xs) (hwf : ∀ x ∈ xs, (Lit.int .u8 x).wf = true) :
    Calls Try.prog 7 #[.slice A xs.length c2] w fun e w' => e = .returned (.bool true) ∧ Below w.heap.size w w' := by
  have hu23 := Try.underlying23
  have HA := Aside0.mk (show ∀ w, Calls Try.prog 10 #[] w fun e w' => e = .returned (.bool true) ∧ Below w.heap.size w w' from awake_walk)
  obtain ⟨nx, hnx⟩ : ∃ nx, xs.length = nx := ⟨_, rfl⟩
  rw [hnx]
  by_cases hbig : 60 < nx
  · have q2 : decide (60 < (nx : Int)) = true := decide_eq_true (by omega)
    have q2' : decide (60 < nx) = true := decide_eq_true hbig
    clear hbig hC hwf hnx
    go_enter Try.func7, Try.ntmps7
    go_wp2_with (go_at_call 10; (with_reducible refine (HA.out _).mono ?_); rintro e wa ⟨rfl, hba⟩)
    go_ret
    exact ⟨rfl, hba⟩
  · have q2 : decide (60 < (nx : Int)) = false := decide_eq_false (by omega)
    have q2' : decide (60 < nx) = false := decide_eq_false hbig
    have HN := Aside0.mk (fun w => newrecv_good w 100 (by decide))
    have HCX := Aside0.mk hC
    have HWF := Aside0.mk hwf
    have HNX := Aside0.mk hnx
    have HXS := Aside0.mk (show nx ≤ 60 by omega)
    clear hbig hC hwf hnx
    go_enter Try.func7, Try.ntmps7
    go_upto_region 5 with (go_at_call 10; (with_reducible refine (HA.out _).mono ?_); rintro e wa ⟨rfl, hba⟩)
    have HBA := Aside0.mk hba
    clear hba
    go_upto_region 8 with (go_at_call 21; (with_reducible refine (HN.out _).mono ?_); rintro e w2 ⟨p, bm, rfl, hS2, hb2⟩)
    have hmm := @run_makeMap Try.prog
    have HT0 := Aside0.mk (show TS w (w2.alloc (.map #[] 0)) wa.heap.size p bm w2.heap.size (.slice none 0 0) 0 (fun _ => 0) 0 [] [] from
      ⟨HBA.out.trans ((below_tr hb2 (below_new _ _)).mono HBA.out.size), hS2.later (below_new _ _), IMap.made w2, own_nil _ _ _ _⟩)
    have hbm : bm < w2.heap.size := by
      obtain ⟨a, c, h⟩ := hS2.blk
      exact (Array.getElem?_eq_some_iff.1 h).1
    have hwb : w.heap.size ≤ wa.heap.size := HBA.out.size
    have hbb : wa.heap.size ≤ w2.heap.size := hb2.size
    go_upto_region 10 with (fail)
    refine wp_world (F := fun W => TS w W wa.heap.size p bm w2.heap.size (.slice none 0 0) 0 (fun _ => 0) 0 [] []) HT0.out (fun W hF => ?_)
    obtain ⟨b2, hb2e⟩ : ∃ b2, w2.heap.size = b2 := ⟨_, rfl⟩
    obtain ⟨base, hbe⟩ : ∃ base, wa.heap.size = base := ⟨_, rfl⟩
    rw [hb2e, hbe] at hF
    rw [hb2e] at hbm hbb ⊢
    rw [hbe] at hbb hwb
    have HF := Aside0.mk hF
    have HMB := Aside0.mk hbm
    have HBB := Aside0.mk hbb
    have HWB := Aside0.mk hwb
    clear hF hbm hbb hwb hS2 hb2 hmm HT0 HA HN HBA hb2e hbe
    go_wp2
    go_loopw [5, 37] (fun t5 t37 wr => ∃ (i m : Nat) (f : Int → Int) (l : List (Int × Dg)) (time : Int), Aside0 (i ≤ nx) ∧ t37 = .int .i64 (i : Int) ∧ Aside0 (m ≤ i ∧ 0 ≤ time ∧ time ≤ (i : Int)) ∧ Aside0 (TS w wr base p bm b2 t5 time f m l (l.map (·.1))) ∧ Aside0 (TL f l)) (fun _ t37 _ => ((nx : Int) - intOf t37).toNat)
    case atStart => exact ⟨0, 0, _, _, 0, ⟨Nat.zero_le _⟩, rfl, ⟨Nat.le_refl _, Int.le_refl _, Int.le_refl _⟩, HF, ⟨TL.nil⟩⟩
    case round =>
      obtain ⟨i, m, f, l, time, HI, rfl, HM, HT, HTL⟩ := hrel
      obtain ⟨A5, c5, rfl⟩ := own_slice HT.out.own
      rw [List.length_map] at HT ⊢
      by_cases hlt : i < nx
      · obtain ⟨x, hx⟩ : ∃ x, xs[i]? = some x := ⟨_, List.getElem?_eq_getElem (by rw [HNX.out]; exact hlt)⟩
        have hCr := Kd.C_below HCX.out HT.out.bel
        obtain ⟨a, hA, hcell⟩ := at_natu (by rw [HNX.out] at hCr; exact hCr) HNX.out hx
        subst hA
        obtain ⟨t, k, ht, hk, hmt, hmk, hwx, hwt, hwk⟩ := tags_pick (HWF.out x (List.mem_of_getElem? hx))
        obtain ⟨h1, h2, h3, h4⟩ := tags_step hlt HXS.out
        obtain ⟨ch, hn1, hn2, hn3, hn4⟩ := tags_name ht
        clear hx hCr
        have HS := Aside0.mk (show ∀ w, Calls Try.prog 11 #[.int .i64 (t : Int), .string (dt t), .int .i64 2] w fun e w' => ∃ v0_ : Value, e = .returned (.tuple #[v0_, .int .i64 0]) ∧ Kd.R k23 23 w' w.heap.size (fun _ => True) v0_ (pieces t (dt t) 2 2) ∧ Below w.heap.size w w' from fun w => fragment_Split.calls 40 t (dt t) 2 _ 0 w (split_dt t ht))
        have HG := Aside0.mk (tags_get (t := t) hk)
        have hpl : (pieces (t : Int) (dt t) 2 2).length = 2 := pieces_length _ _ _ _
        obtain ⟨hk2, hk2', hwt2, hk64⟩ := tags_nums ht hk
        have HTT := Aside0.mk ht
        have HKK := Aside0.mk hk
        have HLT := Aside0.mk hlt
        have HI60 := Aside0.mk (Nat.le_trans (Nat.le_of_lt hlt) HXS.out)
        have HNE := Aside0.mk (Nat.ne_of_gt HMB.out)
        have HWT := Aside0.mk hwt2
        clear ht hk hlt hwt2
        go_upto_region 15 with (go_at_call 11; (with_reducible refine (HS.out _).mono ?_); rintro e w1 ⟨v1, rfl, hR, hb1⟩; obtain ⟨g, cap, cur, rfl, hg, hrow⟩ := own_row (row23 hR) (by rw [pieces_length]; decide))
        have HT1 := Aside0.mk (HT.out.later hb1)
        have HR1 := Aside0.mk (show FRow w1 g cap cur (pieces t (dt t) 2 2) from hrow)
        clear hR hb1 hg hrow HT HS hcell hmt hmk hn1 hn2 hn3 hn4
        obtain ⟨y0, y1, y2, y3, y4⟩ := HR1.out.at HG.out
        cases hD : lookP l (t : Int) with
        | none =>
          by_cases h8 : l.length < 8
          · obtain ⟨b, L, hb3, hfb, q1, q1', q3, q3', hr, htl, hlu, hsr, hle⟩ := tags_zero (time := time) HTL.out HTT.out HKK.out HM.out.2.2 HI60.out hD h8
            have HRC := Aside0.mk (tags_arrive HT1.out HTL.out HWB.out HNE.out HTT.out HKK.out HM.out.2.2 HI60.out hr)
            have HTL' := Aside0.mk htl
            have HLU := Aside0.mk hlu
            have HSR := Aside0.mk hsr
            have HLE := Aside0.mk hle
            have HFB := Aside0.mk hfb
            have HB3 := Aside0.mk hb3
            obtain ⟨z8, z8'⟩ := tags_few h8
            have HNM := Aside0.mk (lp_none hD)
            clear hD h8 hr htl hlu hsr hle hfb hb3
            go_upto_region 18 with (go_at_call 22; (with_reducible refine HRC.out.mono ?_); rintro e w2 ⟨rfl, ht2⟩)
            have HCT := Aside0.mk (tags_contains ht2 HTL.out.few' (t : Int) HNM.out)
            clear ht2 HRC HT1 y0 y1 y2 y3 y4
            go_upto_region 22 with (go_at_call 28; (with_reducible refine HCT.out.mono ?_); rintro e w3 ⟨rfl, ht3⟩; have HT3 := Aside0.mk ht3; clear ht3)
            clear HCT
            go_upto_region 23 with (first | ((with_reducible refine gate_builtin (b := .append) (xs := #[.tmp 93, .tmp 95]) rfl ?_); at_builtin; refine print_append_cells (w0 := w3) base rfl (.tmp 93) (.tmp 95) 32 3 (.int .i64 0) 1 8 rfl Try.underlying32 info3 rfl (by decide) (by decide) (.slice A5 l.length c5) (l.map (·.1)).length ((l.map (·.1)).map (Value.int .i64)) [.int .i64 (t : Int)] rfl rfl rfl (by simp [Value.oneCell']) HT3.out.own (below_tr2 HT3.out.hb) HT3.out.hb (tags_bytes HTL.out.few') ?_; intro v4 w4 ho4 hb4 hg4 hat4; have HAP := Aside0.mk (tags_append HT3.out HWB.out HTL.out.few' ho4 hg4 HLE.out HSR.out); clear ho4 hb4 hg4 hat4; obtain ⟨g4, cap4, hv4, hsc⟩ := HAP.out; subst hv4; have HSC := Aside0.mk hsc; clear hsc HAP))
            clear HT3
            go_upto_region 24 with (go_at_call 30; (with_reducible refine HSC.out.mono ?_); rintro e w3 ⟨rfl, ht3⟩; have HT3 := Aside0.mk ht3; clear ht3)
            clear HSC
            have hl3 := HT3.out.map.look HWT.out
            rw [HFB.out] at hl3
            go_upto_region 25 with (fail)
            clear hl3
            obtain ⟨w4, hrun4, hm4, hg4⟩ := IMap.put (w := w3.drew) (HT3.out.map.move rfl) HWT.out (tags_m HM.out.1 HI60.out) ((b ||| 2 ^ k : Nat) : Int)
            have hl4 := IMap.look (w := w3.drew) (HT3.out.map.move rfl) HWT.out
            rw [HFB.out] at hl4
            have HR4 := Aside0.mk hrun4
            have HOR := Aside0.mk (or_bmp b k (tags_b32 HB3.out) (tags_k32 HKK.out))
            have HT4 := Aside0.mk (TS.put (W := w3.drew) (HT3.out.later (refl_drew _)) HWB.out HBB.out HNE.out hg4 hm4)
            clear hrun4 hm4 hg4
            refine start_ (n := 7) (S := fun w' => ((Instr.lookup 58 (.map (some b2)) (.int .i64 (t : Int)) false).run Try.prog w' = .ok (.int .i64 (b : Int)) w')) (ds := [6]) #[false, false, false, false, false, false, false] (by kernel_rfl) rfl rfl hl4 (fun hHeld => ?_)
            refine pure_ (i := 0) (N := some 102) (v := ?_) (a' := ?_) #[true, false, false, false, false, false, false] rfl rfl (by kernel_rfl) (fun _ _ _ h => h) (Or.inl ⟨by rfl, ?_⟩) ?_ ?_
            rotate_left
            · intro w'
              go_simp
              with_reducible rfl
            rotate_left
            · simp only [Act.put, List.setIfInBounds_toArray, List.set_cons_zero, List.set_cons_succ, i64_w, i32_w]
              rfl
            refine pure_ (i := 1) (N := some 103) (v := ?_) (a' := ?_) #[true, true, false, false, false, false, false] rfl rfl (by kernel_rfl) (fun _ _ _ h => h) (Or.inl ⟨by rfl, ?_⟩) ?_ ?_
            rotate_left
            · intro w'
              go_simp
              with_reducible rfl
            rotate_left
            · simp only [Act.put, List.setIfInBounds_toArray, List.set_cons_zero, List.set_cons_succ, i64_w, i32_w]
              rfl
            refine take_ (i := 2) (N := some 104) (v := ?_) (a' := ?_) #[true, true, true, false, false, false, false] rfl rfl (by kernel_rfl) (fun _ _ _ h => h) (Or.inl ⟨by rfl, ?_⟩) hHeld ?_ ?_
            rotate_left
            · rintro w' s0
              go_simp
              with_reducible rfl
            rotate_left
            · simp only [Act.put, List.setIfInBounds_toArray, List.set_cons_zero, List.set_cons_succ, i64_w, i32_w]
              rfl
            refine pure_ (i := 3) (N := some 105) (v := ?_) (a' := ?_) #[true, true, true, true, false, false, false] rfl rfl (by kernel_rfl) (fun _ _ _ h => h) (Or.inl ⟨by rfl, ?_⟩) ?_ ?_
            rotate_left
            · intro w'
              go_simp
              with_reducible rfl
            rotate_left
            · simp only [Act.put, List.setIfInBounds_toArray, List.set_cons_zero, List.set_cons_succ, i64_w, i32_w]
              rfl
            refine pure_ (i := 4) (N := some 106) (v := ?_) (a' := ?_) #[true, true, true, true, true, false, false] rfl rfl (by kernel_rfl) (fun _ _ _ h => h) (Or.inl ⟨by rfl, ?_⟩) ?_ ?_
            rotate_left
            · intro w'
              go_simp
              with_reducible rfl
            rotate_left
            · simp only [Act.put, List.setIfInBounds_toArray, List.set_cons_zero, List.set_cons_succ, i64_w, i32_w]
              rfl
            refine pure_ (i := 5) (N := some 107) (v := ?_) (a' := ?_) #[true, true, true, true, true, true, false] rfl rfl (by kernel_rfl) (fun _ _ _ h => h) (Or.inl ⟨by rfl, ?_⟩) ?_ ?_
            rotate_left
            · intro w'
              go_simp
              with_reducible rfl
            rotate_left
            · simp only [Act.put, List.setIfInBounds_toArray, List.set_cons_zero, List.set_cons_succ, i64_w, i32_w]
              rfl
            refine last_ (i := 6) (N := none) #[true, true, true, true, true, true, true] rfl rfl (by kernel_rfl) (by decide) (fun K hK => ?_)
            refine skip_ (w1 := w4) (by rfl) rfl (exec_mapUpdate (vm := .map (some b2)) (vk := .int .i64 (t : Int)) (vx := .int .i64 ((b ||| 2 ^ k : Nat) : Int)) rfl (by rfl) (by rfl) (by rw [← HOR.out]; rfl) HR4.out) ?_
            refine hK.out _ _ ?_
            clear hK K
            refine done_ (by kernel_rfl) ?_
            clear hl4 hHeld HR4 HOR HT3
            have hl5 : (Instr.lookup 58 (.map (some b2)) (.int .i64 (t : Int)) false).run Try.prog w4 = .ok (.int .i64 (if (t : Int) = (t : Int) then ((b ||| 2 ^ k : Nat) : Int) else f t)) w4 := HT4.out.map.look HWT.out
            rw [if_pos rfl] at hl5
            have haft := tags_after HT4.out HTL'.out HWT.out HLU.out
            have HBM := Aside0.mk haft.1
            have HTG := Aside0.mk haft.2
            clear haft
            go_upto_region 27 with (go_at_call 23; (with_reducible refine HBM.out.mono ?_); rintro e wz ⟨rfl, rfl⟩)
            clear HBM
            obtain ⟨ch, hn1, hn2, hn3, hn4⟩ := tags_name HTT.out
            go_wp2_with (first
              | (go_at_call 29; (with_reducible refine HTG.out.mono ?_); rintro e w5 ⟨A6, c6, rfl, ht5, heq5⟩; have HEQ := Aside0.mk (heq5 (some ⟨g4, 0, none⟩) cap4 rfl); clear ht5 heq5)
              | (go_at_call 20; (with_reducible refine HEQ.out.mono ?_); rintro e w6 ⟨rfl, ht6⟩; have HT6 := Aside0.mk ht6; clear ht6))
            go_roundw
            case rel => exact ⟨i + 1, m + 1, _, L, i, ⟨HLT.out⟩, congrArg (Value.int .i64) h1, ⟨tags_inv1 HM.out.1⟩, HT6, HTL'⟩
            case measure => rw [h1]; exact tags_meas HLT.out
          · have HRC := Aside0.mk (tags_arrive HT1.out HTL.out HWB.out HNE.out HTT.out HKK.out HM.out.2.2 HI60.out (arrive_full HTL.out HTT.out HKK.out HM.out.2.2 HI60.out hD (Nat.le_of_not_lt h8)))
            obtain ⟨z8, z8'⟩ := tags_eight HTL.out.few h8
            have HNM := Aside0.mk (lp_none hD)
            clear hD h8
            go_upto_region 18 with (go_at_call 22; (with_reducible refine HRC.out.mono ?_); rintro e w2 ⟨rfl, ht2⟩)
            have HCT := Aside0.mk (tags_contains ht2 HTL.out.few' (t : Int) HNM.out)
            clear ht2 HRC HT1 y0 y1 y2 y3 y4
            go_wp2_with (go_at_call 28; (with_reducible refine HCT.out.mono ?_); rintro e w3 ⟨rfl, ht3⟩; have HT3 := Aside0.mk ht3; clear ht3)
            go_roundw
            case rel => exact ⟨i + 1, m, f, l, i, ⟨HLT.out⟩, congrArg (Value.int .i64) h1, ⟨tags_inv HM.out.1⟩, HT3, HTL⟩
            case measure => rw [h1]; exact tags_meas HLT.out
        | some D =>
          obtain ⟨b, last, hDD, hfb, hb1, hb3⟩ := HTL.out.has hD
          subst hDD
          have HRC := Aside0.mk (tags_arrive HT1.out HTL.out HWB.out HNE.out HTT.out HKK.out HM.out.2.2 HI60.out (arrive_have HTL.out HTT.out HKK.out HM.out.2.2 HI60.out hb3 hD))
          have HNM := Aside0.mk (lp_some hD)
          obtain ⟨hc1, hc3, hway⟩ := tags_out (t := t) (k := k) ⟨hb1, hb3⟩ HKK.out
          have HLU := Aside0.mk (lookP_upd (D := dgW (dt t) 2 (b ||| 2 ^ k) i) (show lookP l (t : Int) ≠ none by rw [hD]; exact Option.some_ne_none _))
          have HTL' := Aside0.mk (HTL.out.upd (t := t) (b := b ||| 2 ^ k) (i := (i : Int)) (by rw [hD]; exact Option.some_ne_none _) HTT.out ⟨hc1, hc3⟩ (Int.natCast_nonneg i))
          have HFB := Aside0.mk hfb
          have HB3 := Aside0.mk hb3
          clear hD hb1 hb3 hc1 hc3 hfb
          rcases hway with ⟨q1, q1', ho⟩ | ⟨q1, q1', q3, q3', ho⟩ | ⟨q1, q1', q3, q3', ho⟩
          all_goals
            have HRC := HRC.out
            rw [ho] at HRC
            have HRC := Aside0.mk HRC
            clear ho
            go_upto_region 18 with (go_at_call 22; (with_reducible refine HRC.out.mono ?_); rintro e w2 ⟨rfl, ht2⟩)
            have HCT := Aside0.mk (tags_contains ht2 HTL.out.few' (t : Int) HNM.out)
            clear ht2 HRC HT1 y0 y1 y2 y3 y4
            go_upto_region 24 with (go_at_call 28; (with_reducible refine HCT.out.mono ?_); rintro e w3 ⟨rfl, ht3⟩; have HT3 := Aside0.mk ht3; clear ht3)
            clear HCT
            have HT3 := HT3.out
            rw [← updP_fst l t (dgW (dt t) 2 (b ||| 2 ^ k) i), ← updP_length l t (dgW (dt t) 2 (b ||| 2 ^ k) i)] at HT3
            rw [← updP_length l t (dgW (dt t) 2 (b ||| 2 ^ k) i)]
            have HT3 := Aside0.mk HT3
            generalize updP l t (dgW (dt t) 2 (b ||| 2 ^ k) i) = L at HT3 HLU HTL' ⊢
            have hl3 := HT3.out.map.look HWT.out
            rw [HFB.out] at hl3
            go_upto_region 25 with (fail)
            clear hl3
            obtain ⟨w4, hrun4, hm4, hg4⟩ := IMap.put (w := w3.drew) (HT3.out.map.move rfl) HWT.out (tags_m HM.out.1 HI60.out) ((b ||| 2 ^ k : Nat) : Int)
            have hl4 := IMap.look (w := w3.drew) (HT3.out.map.move rfl) HWT.out
            rw [HFB.out] at hl4
            have HR4 := Aside0.mk hrun4
            have HOR := Aside0.mk (or_bmp b k (tags_b32 HB3.out) (tags_k32 HKK.out))
            have HT4 := Aside0.mk (TS.put (W := w3.drew) (HT3.out.later (refl_drew _)) HWB.out HBB.out HNE.out hg4 hm4)
            clear hrun4 hm4 hg4
            refine start_ (n := 7) (S := fun w' => ((Instr.lookup 58 (.map (some b2)) (.int .i64 (t : Int)) false).run Try.prog w' = .ok (.int .i64 (b : Int)) w')) (ds := [6]) #[false, false, false, false, false, false, false] (by kernel_rfl) rfl rfl hl4 (fun hHeld => ?_)
            refine pure_ (i := 0) (N := some 102) (v := ?_) (a' := ?_) #[true, false, false, false, false, false, false] rfl rfl (by kernel_rfl) (fun _ _ _ h => h) (Or.inl ⟨by rfl, ?_⟩) ?_ ?_
            rotate_left
            · intro w'
              go_simp
              with_reducible rfl
            rotate_left
            · simp only [Act.put, List.setIfInBounds_toArray, List.set_cons_zero, List.set_cons_succ, i64_w, i32_w]
              rfl
            refine pure_ (i := 1) (N := some 103) (v := ?_) (a' := ?_) #[true, true, false, false, false, false, false] rfl rfl (by kernel_rfl) (fun _ _ _ h => h) (Or.inl ⟨by rfl, ?_⟩) ?_ ?_
            rotate_left
            · intro w'
              go_simp
              with_reducible rfl
            rotate_left
            · simp only [Act.put, List.setIfInBounds_toArray, List.set_cons_zero, List.set_cons_succ, i64_w, i32_w]
              rfl
            refine take_ (i := 2) (N := some 104) (v := ?_) (a' := ?_) #[true, true, true, false, false, false, false] rfl rfl (by kernel_rfl) (fun _ _ _ h => h) (Or.inl ⟨by rfl, ?_⟩) hHeld ?_ ?_
            rotate_left
            · rintro w' s0
              go_simp
              with_reducible rfl
            rotate_left
            · simp only [Act.put, List.setIfInBounds_toArray, List.set_cons_zero, List.set_cons_succ, i64_w, i32_w]
              rfl
            refine pure_ (i := 3) (N := some 105) (v := ?_) (a' := ?_) #[true, true, true, true, false, false, false] rfl rfl (by kernel_rfl) (fun _ _ _ h => h) (Or.inl ⟨by rfl, ?_⟩) ?_ ?_
            rotate_left
            · intro w'
              go_simp
              with_reducible rfl
            rotate_left
            · simp only [Act.put, List.setIfInBounds_toArray, List.set_cons_zero, List.set_cons_succ, i64_w, i32_w]
              rfl
            refine pure_ (i := 4) (N := some 106) (v := ?_) (a' := ?_) #[true, true, true, true, true, false, false] rfl rfl (by kernel_rfl) (fun _ _ _ h => h) (Or.inl ⟨by rfl, ?_⟩) ?_ ?_
            rotate_left
            · intro w'
              go_simp
              with_reducible rfl
            rotate_left
            · simp only [Act.put, List.setIfInBounds_toArray, List.set_cons_zero, List.set_cons_succ, i64_w, i32_w]
              rfl
            refine pure_ (i := 5) (N := some 107) (v := ?_) (a' := ?_) #[true, true, true, true, true, true, false] rfl rfl (by kernel_rfl) (fun _ _ _ h => h) (Or.inl ⟨by rfl, ?_⟩) ?_ ?_
            rotate_left
            · intro w'
              go_simp
              with_reducible rfl
            rotate_left
            · simp only [Act.put, List.setIfInBounds_toArray, List.set_cons_zero, List.set_cons_succ, i64_w, i32_w]
              rfl
            refine last_ (i := 6) (N := none) #[true, true, true, true, true, true, true] rfl rfl (by kernel_rfl) (by decide) (fun K hK => ?_)
            refine skip_ (w1 := w4) (by rfl) rfl (exec_mapUpdate (vm := .map (some b2)) (vk := .int .i64 (t : Int)) (vx := .int .i64 ((b ||| 2 ^ k : Nat) : Int)) rfl (by rfl) (by rfl) (by rw [← HOR.out]; rfl) HR4.out) ?_
            refine hK.out _ _ ?_
            clear hK K
            refine done_ (by kernel_rfl) ?_
            clear hl4 hHeld HR4 HOR HT3
            have hl5 : (Instr.lookup 58 (.map (some b2)) (.int .i64 (t : Int)) false).run Try.prog w4 = .ok (.int .i64 (if (t : Int) = (t : Int) then ((b ||| 2 ^ k : Nat) : Int) else f t)) w4 := HT4.out.map.look HWT.out
            rw [if_pos rfl] at hl5
            have haft := tags_after HT4.out HTL'.out HWT.out HLU.out
            have HBM := Aside0.mk haft.1
            have HTG := Aside0.mk haft.2
            clear haft
            go_upto_region 27 with (go_at_call 23; (with_reducible refine HBM.out.mono ?_); rintro e wz ⟨rfl, rfl⟩)
            clear HBM
            obtain ⟨ch, hn1, hn2, hn3, hn4⟩ := tags_name HTT.out
            go_wp2_with (first
              | (go_at_call 29; (with_reducible refine HTG.out.mono ?_); rintro e w5 ⟨A6, c6, rfl, ht5, heq5⟩; have HEQ := Aside0.mk (heq5 A5 c5 rfl); clear ht5 heq5)
              | (go_at_call 20; (with_reducible refine HEQ.out.mono ?_); rintro e w6 ⟨rfl, ht6⟩; have HT6 := Aside0.mk ht6; clear ht6))
            go_roundw
            case rel => exact ⟨i + 1, m + 1, _, L, i, ⟨HLT.out⟩, congrArg (Value.int .i64) h1, ⟨tags_inv1 HM.out.1⟩, HT6, HTL'⟩
            case measure => rw [h1]; exact tags_meas HLT.out
      · obtain ⟨h1, h2⟩ := tags_end hlt
        clear hlt
        go_wp2
        go_ret
        exact ⟨rfl, HT.out.bel⟩
end Go.Proofs.Ytokapofgbcbajaa.Fns
