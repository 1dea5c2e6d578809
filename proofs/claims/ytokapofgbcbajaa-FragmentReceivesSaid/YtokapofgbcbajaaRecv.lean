/- Receive of package fragment: its walk. -/
import Derived.Test.YtokapofgbcbajaaRecvPure
import Derived.Test.YtokapofgbcbajaaJoin
namespace Go.Proofs.Ytokapofgbcbajaa.Fns
open Go.RowKit Go.Maps Go.Proofs.YtokapofgbcbajaaW.PrintWords Go.Proofs.YtokapofgbcbajaaW.PrintLast Go.Proofs.YtokapofgbcbajaaW.PrintMore
set_option linter.unusedVariables false
set_option linter.unusedSimpArgs false
def vF (t i c s : Int) (d : ByteArray) : Value := .agg #[.int .i64 t, .int .i64 i, .int .i64 c, .int .i64 s, .string d]
theorem below2 (w : World) (o1 o2 : Obj) : Below w.heap.size w ((w.alloc o1).alloc o2) := below_tr (below_new _ _) (below_new _ _)
set_option maxRecDepth 100000 in
set_option maxHeartbeats 2000000 in
theorem recv_bad (w : World) (p : Nat) (slot t i c s : Int) (d : ByteArray) (hd : d.size ≤ 140737488351232) (h : lenF t i c s d.size = 0) :
    Calls Try.prog 22 #[.pointer (some ⟨p, 0, none⟩), .int .i64 slot, .agg #[.int .i64 t, .int .i64 i, .int .i64 c, .int .i64 s, .string d]] w fun e w' => e = .returned (.tuple #[.string ⟨#[]⟩, .bool false, .int .i64 1]) ∧ Below w.heap.size w w' := by
  have hu23 := Try.underlying23
  have hc := fun w => check_calls t i c s d hd w
  rw [show chkF t i c s d.size = 1 by unfold chkF; rw [if_pos h]] at hc
  have HW := Aside0.mk (below2 w (.cells #[.pointer (some ⟨p, 0, none⟩)] 40) (.cells #[.int .i64 t, .int .i64 i, .int .i64 c, .int .i64 s, .string d] 23))
  clear h hd
  go_enter Try.func22, Try.ntmps22
  go_wp2_with (go_at_call 17; (with_reducible refine (hc _).mono ?_); rintro e w1 ⟨rfl, hb1⟩)
  go_ret3
  exact ⟨rfl, below_tr HW.out hb1⟩
/-- r's box. -/
def Ptr (w : World) (c p : Nat) : Prop := w.heap[c]? = some (.cells #[.pointer (some ⟨p, 0, none⟩)] 40 (0, 0))
theorem Ptr.cell {w : World} {c p : Nat} (h : Ptr w c p) : w.cell? ⟨c, 0, none⟩ = some (.pointer (some ⟨p, 0, none⟩)) := (blk_cell h 0).trans rfl
theorem Ptr.later {w wx : World} {c p : Nat} (h : Ptr w c p) (hb : Below w.heap.size w wx) : Ptr wx c p := blk_later hb h
theorem Ptr.new2 (w : World) (p : Nat) (o : Obj) : Ptr ((w.alloc (.cells #[.pointer (some ⟨p, 0, none⟩)] 40)).alloc o) w.heap.size p := blk_later (below_new _ o) (heap_alloc_new w _)
theorem Box.new2 (w : World) (o : Obj) (hs : (w.alloc o).heap.size = w.heap.size + 1) (t i c s : Int) (d : ByteArray) : Box ((w.alloc o).alloc (.cells #[.int .i64 t, .int .i64 i, .int .i64 c, .int .i64 s, .string d] 23)) (w.heap.size + 1) t i c s d := by
  rw [← hs]; exact Box.new _ _ _ _ _ _
set_option maxRecDepth 100000 in
set_option maxHeartbeats 2000000 in
theorem recv_order {w : World} {base p b : Nat} {hold time : Int} {live : List Nat} {es : List Ent} (h : RW w base p b hold time live es) (slot t i c s : Int) (d : ByteArray) (hd : d.size ≤ 140737488351232) (hL : lenF t i c s d.size ≠ 0) (ho : slot < time ∨ 109951162 < slot) :
    Calls Try.prog 22 #[.pointer (some ⟨p, 0, none⟩), .int .i64 slot, .agg #[.int .i64 t, .int .i64 i, .int .i64 c, .int .i64 s, .string d]] w fun e w' => e = .returned (.tuple #[.string ⟨#[]⟩, .bool false, .int .i64 5]) ∧ Below w.heap.size w w' := by
  have hu23 := Try.underlying23
  have hu79 := Try.underlying79
  have hc := fun w => check_calls t i c s d hd w
  rw [show chkF t i c s d.size = 0 by unfold chkF; rw [if_neg hL]] at hc
  have hb := below2 w (.cells #[.pointer (some ⟨p, 0, none⟩)] 40) (.cells #[.int .i64 t, .int .i64 i, .int .i64 c, .int .i64 s, .string d] 23)
  have HW := Aside0.mk hb
  have HR := Aside0.mk (h.later hb)
  have HP := Aside0.mk (Ptr.new2 w p (.cells #[.int .i64 t, .int .i64 i, .int .i64 c, .int .i64 s, .string d] 23))
  have HO := Aside0.mk ho
  clear hL hd hb h ho
  by_cases h1 : slot < time
  · have q1 : decide (slot < time) = true := decide_eq_true h1
    clear h1
    go_enter Try.func22, Try.ntmps22
    go_wp2_with (go_at_call 17; (with_reducible refine (hc _).mono ?_); rintro e w1 ⟨rfl, hb1⟩; have k0 := (HP.out.later hb1).cell; have k1 := (HR.out.later hb1).c1)
    go_ret3
    exact ⟨rfl, below_tr HW.out hb1⟩
  · have q1 : decide (slot < time) = false := decide_eq_false h1
    have q2 : decide (109951162 < slot) = true := decide_eq_true (HO.out.resolve_left h1)
    clear h1
    go_enter Try.func22, Try.ntmps22
    go_wp2_with (go_at_call 17; (with_reducible refine (hc _).mono ?_); rintro e w1 ⟨rfl, hb1⟩; have k0 := (HP.out.later hb1).cell; have k1 := (HR.out.later hb1).c1)
    go_ret3
    exact ⟨rfl, below_tr HW.out hb1⟩
theorem get_some {w : World} {base p b : Nat} {hold time : Int} {live : List Nat} {es : List Ent} (hbw : base ≤ w.heap.size) (h : RW w base p b hold time live es) (t i c s : Int) (d : ByteArray) (hd : d.size ≤ 140737488351232) (ht : 0 ≤ t ∧ t ≤ 255) (hr : (∃ e ∈ es, e.tag = t) ∨ es.length < 8) :
    Calls Try.prog 46 #[.pointer (some ⟨p, 0, none⟩), .agg #[.int .i64 t, .int .i64 i, .int .i64 c, .int .i64 s, .string d]] w fun en w' => ∃ live' es' e, en = .returned (.pointer (some ⟨e.blk, 0, none⟩)) ∧ RW w' base p b hold time live' es' ∧ e ∈ es' ∧ e.tag = t ∧ er es' = getP (er es) t (newD t i c s d) ∧ FrB SR base b w w' ∧ ∀ x ∈ es', x ∈ es ∨ x.d = newD t i c s d := by
  by_cases hf : ∃ e ∈ es, e.tag = t
  · obtain ⟨e, he, rfl⟩ := hf
    refine (get_found h he i c s d).mono ?_
    rintro en w' ⟨rfl, hb⟩
    exact ⟨live, es, e, rfl, h.later hb, he, rfl, by rw [getP, lookP_er h.rise he]; rfl, FrB.of_below hb, fun x hx => .inl hx⟩
  · have hn : ∀ e ∈ es, e.tag ≠ t := fun e he hte => hf ⟨e, he, hte⟩
    refine (get_new hbw h t i c s d hd ht hn (hr.resolve_left hf)).mono ?_
    rintro en w' ⟨B, rfl, hR, hF⟩
    refine ⟨B :: live, _, ⟨t, B, newD t i c s d⟩, rfl, hR, (insEnt_mem _ _ _).2 (.inl rfl), rfl, ?_, hF, fun x hx => ?_⟩
    · rw [er_ins, getP, lookP_er_none.2 hn]; rfl
    · rcases (insEnt_mem _ _ _).1 hx with rfl | hx
      · exact .inr rfl
      · exact .inl hx
theorem belongs_calls (w : World) (B j : Nat) (d0 : Dg) (h : DgAt w B d0) (t c s : Int) (d : ByteArray) (hd : d.size ≤ 140737488351232) (hj : j < 32) (hb32 : d0.bmp < 4294967296) :
    Calls Try.prog 47 #[.pointer (some ⟨B, 0, none⟩), .agg #[.int .i64 t, .int .i64 (j : Int), .int .i64 c, .int .i64 s, .string d]] w fun e w' => e = .returned (.bool (okF d0 t (j : Int) c s d)) ∧ Below w.heap.size w w' := by
  unfold okF
  rw [Int.toNat_natCast]
  by_cases h1 : c = d0.cnt
  · subst h1
    by_cases h2 : s = d0.siz
    · subst h2
      by_cases h3 : lenF t (j : Int) d0.cnt d0.siz d.size = d0.prt
      · rw [decide_eq_true rfl, decide_eq_true rfl, decide_eq_true h3]
        cases hb : d0.bmp.testBit j
        · exact belongs_new w B j d0 h t d hd h3 hj hb32 hb
        · exact belongs_old w B j d0 h t d hd h3 hj hb32 hb
      · rw [decide_eq_true rfl, decide_eq_true rfl, decide_eq_false h3]
        exact belongs_prt w B j d0 h t d hd h3
    · rw [decide_eq_true rfl, decide_eq_false h2]
      exact belongs_siz w B j d0 h t s d h2
  · rw [decide_eq_false h1]
    exact belongs_cnt w B j d0 h t c s d h1
theorem okF_true {d0 : Dg} {t i c s : Int} {d : ByteArray} (h : okF d0 t i c s d = true) : c = d0.cnt ∧ s = d0.siz ∧ lenF t i c s d.size = d0.prt := by
  unfold okF at h
  simp only [Bool.and_eq_true, decide_eq_true_eq] at h
  exact ⟨h.1.1.1, h.1.1.2, h.1.2⟩
theorem all_val (cn : Nat) (h : cn ≤ 32) : wrap64 (wrap64 (2 ^ cn) - 1) = ((2 ^ cn - 1 : Nat) : Int) := by
  have h1 : 2 ^ cn ≤ 2 ^ 32 := Nat.pow_le_pow_right (by decide) h
  have h2 : 0 < 2 ^ cn := Nat.two_pow_pos cn
  have h3 : (2 : Int) ^ cn = ((2 ^ cn : Nat) : Int) := by push_cast; rfl
  rw [h3]
  generalize 2 ^ cn = x at h1 h2
  rw [show wrap64 (x : Int) = (x : Int) from wrap_in (by omega), show wrap64 ((x : Int) - 1) = (x : Int) - 1 from wrap_in (by omega)]
  omega
theorem upd_upd (es : List Ent) (B : Nat) (d d' : Dg) : upd (upd es B d) B d' = upd es B d' := by
  unfold upd
  rw [List.map_map]
  refine List.map_congr_left (fun x _ => ?_)
  simp only [Function.comp]
  by_cases h : x.blk = B
  · rw [if_pos h, if_pos h]
    simp [h]
  · rw [if_neg h, if_neg h]
theorem RW.setDg2 {w : World} {base p b : Nat} {hold time : Int} {live : List Nat} {es : List Ent} {e : Ent} {d0 d1 : Dg} (h : RW w base p b hold time live (upd es e.blk d1)) (he : e ∈ es) (h0 : DgAt w e.blk d0) (j : Nat) (u : Value) (d : Dg) (hd : (dgL d0).toArray.setIfInBounds j u = (dgL d).toArray) (hl : d.parts.length = 32) :
    RW (w.setCell ⟨e.blk, j, none⟩ u) base p b hold time live (upd es e.blk d) := by
  have he' : ({ e with d := d1 } : Ent) ∈ upd es e.blk d1 := List.mem_map.2 ⟨e, he, by rw [if_pos rfl]⟩
  have := h.setDg he' (d0 := d0) h0 j u d hd hl
  rw [upd_upd] at this
  exact this
theorem set_part (d0 : Dg) (j : Nat) (x : ByteArray) : (dgL d0).toArray.setIfInBounds (5 + j) (.string x) = (dgL { d0 with parts := d0.parts.set j x }).toArray := by
  simp only [dgL, List.setIfInBounds_toArray]
  congr 1
  rw [List.set_append_right _ _ (by simp)]
  simp [List.map_set]
theorem or_bmp (b j : Nat) (hb : b < 4294967296) (hj : j < 32) : Go.bits .or .i64 (b : Int) (wrap64 (2 ^ j)) = ((b ||| 2 ^ j : Nat) : Int) := by
  have h1 : 2 ^ j ≤ 2 ^ 32 := Nat.pow_le_pow_right (by decide) (Nat.le_of_lt hj)
  have h3 : (2 : Int) ^ j = ((2 ^ j : Nat) : Int) := by push_cast; rfl
  rw [h3, show wrap64 ((2 ^ j : Nat) : Int) = ((2 ^ j : Nat) : Int) from by
    generalize 2 ^ j = x at h1
    exact wrap_in (by omega)]
  exact (bits_nat .i64 63 (by decide) wraps_i64 b (2 ^ j) (by omega) (by omega)).2
theorem lens_le (n : Nat) : ∀ xs : List (List UInt8), (∀ x ∈ xs, x.length ≤ n) → Lib.lens xs ≤ xs.length * n
  | [], _ => by simp [Lib.lens]
  | x :: r, h => by
    have h1 := lens_le n r (fun y hy => h y (by simp [hy]))
    have h2 := h x (by simp)
    unfold Lib.lens at *
    rw [List.map_cons, List.sum_cons, List.length_cons, Nat.add_mul]
    omega
theorem join_small (xs : List ByteArray) (h : ∀ x ∈ xs, x.size ≤ 120) (hl : xs.length ≤ 32) : (Lib.join (xs.map (·.data.toList)) []).length ≤ 140737488355328 := by
  cases xs with
  | nil => simp [Lib.join_nil]
  | cons x r =>
    rw [List.map_cons, Lib.join_length]
    have h1 := lens_le 120 ((x :: r).map (·.data.toList)) (fun y hy => by
      obtain ⟨z, hz, rfl⟩ := List.mem_map.1 hy
      have := h z hz
      simpa using this)
    rw [List.length_map] at h1
    simp only [List.length_nil, Nat.zero_mul, Nat.zero_add]
    rw [List.map_cons] at h1
    omega
theorem join_calls (d1 : Dg) (cn : Nat) (hcn : cn ≤ 32) (hl : d1.parts.length = 32) (hs : ∀ x ∈ d1.parts, x.size ≤ 120) (W : World) (B : Nat) (h : DgAt W B d1) :
    Calls Try.prog 48 #[.slice (some ⟨B, 5, none⟩) cn 32, .string ⟨#[]⟩] W fun en w' => en = .returned (.string (catP (d1.parts.take cn))) ∧ Below W.heap.size W w' := by
  have hln : (d1.parts.take cn).length = cn := by rw [List.length_take, hl]; omega
  have hc := Try.strings_Join B 5 32 (d1.parts.take cn) ⟨#[]⟩ W (fun j x hj => by
    have hjc : j < cn := by
      have := (List.getElem?_eq_some_iff.1 hj).1
      omega
    have hj' : d1.parts[j]? = some x := by
      rw [List.getElem?_take, if_pos hjc] at hj
      exact hj
    have := h.part (i := j) (by omega)
    rw [List.getD_eq_getElem?_getD, hj'] at this
    exact this) (Array.getElem?_eq_some_iff.1 h.1).1 (by omega) (by omega) (join_small _ (fun x hx => hs x (List.mem_of_mem_take hx)) (by omega))
  rw [hln] at hc
  exact hc
set_option maxRecDepth 100000 in
set_option maxHeartbeats 4000000 in
theorem recv_main {w : World} {base p b : Nat} {hold time : Int} {live : List Nat} {es : List Ent} (hbw : base ≤ w.heap.size) (h : RW w base p b hold time live es) (slot t c s : Int) (j : Nat) (d : ByteArray) (hd : d.size ≤ 140737488351232) (hL : lenF t (j : Int) c s d.size ≠ 0) (ho : ¬ (slot < time ∨ 109951162 < slot))
    (hh : 0 ≤ hold ∧ hold ≤ 4096) (htm : 0 ≤ time) (hok : ∀ e ∈ es, DgOk e.d) :
    Calls Try.prog 22 #[.pointer (some ⟨p, 0, none⟩), .int .i64 slot, .agg #[.int .i64 t, .int .i64 (j : Int), .int .i64 c, .int .i64 s, .string d]] w fun e w' => ∃ live' es',
      e = .returned (.tuple #[.string (recvF hold time (er es) slot t (j : Int) c s d).s, .bool (recvF hold time (er es) slot t (j : Int) c s d).ok, .int .i64 (recvF hold time (er es) slot t (j : Int) c s d).err]) ∧
      RW w' base p b hold slot live' es' ∧ er es' = (recvF hold time (er es) slot t (j : Int) c s d).l ∧ FrB SR base b w w' := by
  have hu23 := Try.underlying23
  have hu79 := Try.underlying79
  have hu84 := Try.underlying84
  have hfi := lenF_fine hL
  have hc := fun w => check_calls t (j : Int) c s d hd w
  rw [show chkF t (j : Int) c s d.size = 0 by unfold chkF; rw [if_neg hL]] at hc
  have hb := below2 w (.cells #[.pointer (some ⟨p, 0, none⟩)] 40) (.cells #[.int .i64 t, .int .i64 (j : Int), .int .i64 c, .int .i64 s, .string d] 23)
  have HW := Aside0.mk hb
  have HR := Aside0.mk (h.later hb)
  have HP := Aside0.mk (Ptr.new2 w p (.cells #[.int .i64 t, .int .i64 (j : Int), .int .i64 c, .int .i64 s, .string d] 23))
  have HX := Aside0.mk (Box.new2 w (.cells #[.pointer (some ⟨p, 0, none⟩)] 40) (by simp) t (j : Int) c s d)
  have HBW := Aside0.mk hbw
  have HD := Aside0.mk hd
  have HL := Aside0.mk hL
  have HOR := Aside0.mk ho
  have HOK := Aside0.mk hok
  have HFI := Aside0.mk hfi
  have hsub : wrap64 (slot - hold) = slot - hold := wrap_in (by omega)
  have HSUB := Aside0.mk hsub
  have q1 : decide (slot < time) = false := decide_eq_false (fun h => ho (.inl h))
  have q2 : decide (109951162 < slot) = false := decide_eq_false (fun h => ho (.inr h))
  clear hL hd hb h ho hbw hok hfi hsub hh htm
  go_enter Try.func22, Try.ntmps22
  go_upto_region 6 with (go_at_call 17; (with_reducible refine (hc _).mono ?_); rintro e w1 ⟨rfl, hb1⟩; have k0 := (HP.out.later hb1).cell; have k1 := (HR.out.later hb1).c1; have kf := blk_frozen (HR.out.later hb1).blk 1)
  refine wp_world (F := fun W => RW W base p b hold slot live es ∧ Ptr W w.heap.size p ∧ Box W (w.heap.size + 1) t (j : Int) c s d ∧ FrB SR base b w W) ?_ (fun W2 hF => ?_)
  · have hr := HR.out.later hb1
    have hoth : ∀ {k : Nat} {c : Array Value} {e : TypeId}, w1.heap[k]? = some (.cells c e (0, 0)) → e ≠ 79 → (w1.setCell ⟨p, 1, none⟩ (.int .i64 slot)).heap[k]? = some (.cells c e (0, 0)) := fun hk he => (Below.heap_setCell w1 ⟨p, 1, none⟩ _ _ (fun e1 => by
      subst e1
      have h1 := hr.blk
      rw [hk] at h1
      injection h1 with h1; injection h1 with _ h2; exact he h2)).trans hk
    exact ⟨hr.setTime slot, hoth (HP.out.later hb1) (by decide), hoth (HX.out.later hb1) (by decide), (FrB.of_below (below_tr HW.out hb1)).setCell hr.blk rfl hr.hp _⟩
  have HF := Aside0.mk hF
  clear hF q1 q2 k0 k1 kf hb1 HW HR HP HX
  have c2 := HF.out.1.c2
  have cp := HF.out.2.1.cell
  have hcb : w.heap.size ≠ b := fun e1 => by
    obtain ⟨a, k, hm⟩ := HF.out.1.mapblk
    have h1 := HF.out.2.1
    unfold Ptr at h1
    rw [e1, hm] at h1
    cases h1
  have hcb1 : w.heap.size + 1 ≠ b := fun e1 => by
    obtain ⟨a, k, hm⟩ := HF.out.1.mapblk
    have h1 := HF.out.2.2.1
    unfold Box at h1
    rw [e1, hm] at h1
    cases h1
  have HCB := Aside0.mk hcb
  have HCB1 := Aside0.mk hcb1
  clear hcb hcb1
  go_upto_region 7 with (go_at_call 44; (with_reducible refine (delete_calls HF.out.1 w.heap.size HSUB.out HF.out.2.1.cell HCB.out).mono ?_); rintro e w3 ⟨rfl, hk3, hg3⟩)
  refine wp_world (F := fun W => RW W base p b hold slot live (kept (slot - hold) es) ∧ Ptr W w.heap.size p ∧ Box W (w.heap.size + 1) t (j : Int) c s d ∧ FrB SR base b w W) ?_ (fun W3 hF => ?_)
  · exact ⟨hk3, (hg3.block _ (Array.getElem?_eq_some_iff.1 HF.out.2.1).1 (fun e => HCB.out (Option.some.inj e))).trans HF.out.2.1, (hg3.block _ (Array.getElem?_eq_some_iff.1 HF.out.2.2.1).1 (fun e => HCB1.out (Option.some.inj e))).trans HF.out.2.2.1, HF.out.2.2.2.grown hg3 HF.out.1.hb⟩
  have HG := Aside0.mk hF
  clear hF hk3 hg3 c2 cp HF
  obtain ⟨K, hK⟩ : ∃ K, K = kept (slot - hold) es := ⟨_, rfl⟩
  rw [← hK] at HG
  have HKe := Aside0.mk (show er K = keptP (slot - hold) (er es) by rw [hK, er_kept])
  have HKo := Aside0.mk (show ∀ e ∈ K, DgOk e.d from fun e he => HOK.out e (by rw [hK] at he; exact (List.mem_filter.1 he).1))
  clear hK
  have cp := HG.out.2.1.cell
  obtain ⟨a0, a1, a2, a3, a4⟩ := HG.out.2.2.1.cells
  have HBW3 := Aside0.mk (Nat.le_trans HBW.out HG.out.2.2.2.size)
  by_cases hroom : (∃ e ∈ K, e.tag = t) ∨ K.length < 8
  · have HGS := Aside0.mk (get_some HBW3.out HG.out.1 t (j : Int) c s d HD.out ⟨HFI.out.1.1, HFI.out.1.2.1⟩ hroom)
    have HNR := Aside0.mk (show ¬ (lookP (keptP (slot - hold) (er es)) t = none ∧ 8 ≤ (keptP (slot - hold) (er es)).length) by
      rw [← HKe.out, er_length]
      rintro ⟨h1, h2⟩
      rcases hroom with ⟨e, he, hte⟩ | h3
      · exact lookP_er_none.1 h1 e he hte
      · omega)
    clear hroom
    go_upto_region 8 with (go_at_call 46; (with_reducible refine (HGS.out).mono ?_); rintro en w4 ⟨live4, es4, e, rfl, hr4, he4, ht4, her4, hf4, hin4⟩)
    have hok4 : DgOk e.d := by
      rcases hin4 e he4 with h1 | h1
      · exact HKo.out e h1
      · rw [h1]
        exact ⟨⟨HFI.out.1.2.2.1, HFI.out.1.2.2.2.1⟩, by show (0 : Nat) < _; decide, fun x hx => by rw [(List.mem_replicate.1 hx).2]; decide, by simp [newD]⟩
    have hdg4 := (hr4.dgs e he4).2
    have hge : (lookP (getP (keptP (slot - hold) (er es)) t (newD t (j : Int) c s d)) t).getD zD = e.d := by
      rw [← HKe.out, ← her4, ← ht4, lookP_er hr4.rise he4]
      rfl
    refine wp_world (F := fun W => RW W base p b hold slot live4 es4 ∧ Box W (w.heap.size + 1) t (j : Int) c s d ∧ FrB SR base b w W ∧ DgAt W e.blk e.d) ⟨hr4, blk_frB hf4 HG.out.2.2.1 rfl HCB1.out, HG.out.2.2.2.trans hf4, hdg4⟩ (fun W4 hF => ?_)
    have HF4 := Aside0.mk hF
    have HM4 := Aside0.mk (show e ∈ es4 ∧ e.tag = t ∧ er es4 = getP (keptP (slot - hold) (er es)) t (newD t (j : Int) c s d) from ⟨he4, ht4, by rw [her4, HKe.out]⟩)
    have HO4 := Aside0.mk hok4
    have HRA := Aside0.mk (And.intro hr4.rise hr4.apart)
    have HGE := Aside0.mk hge
    have HDT := Aside0.mk (show ∀ x : ByteArray × Bool × Int, True from fun _ => trivial)
    clear hF hr4 he4 ht4 her4 hf4 hin4 hok4 hdg4 hge cp a0 a1 a2 a3 a4 HGS
    have HBL := Aside0.mk (belongs_calls W4 e.blk j e.d HF4.out.2.2.2 t c s d HD.out (by have := HFI.out.1; unfold Fine at this; omega) HO4.out.bmp)
    obtain ⟨a0, a1, a2, a3, a4⟩ := HF4.out.2.1.cells
    have hrv : recvF hold time (er es) slot t (j : Int) c s d = if okF e.d t (j : Int) c s d = false then ⟨⟨#[]⟩, false, 11, slot, er es4⟩ else ⟨(outF e.d (putF e.d slot j d)).1, (outF e.d (putF e.d slot j d)).2, 0, slot, updP (er es4) t (putF e.d slot j d)⟩ := by
      unfold recvF
      rw [if_neg HL.out, if_neg HOR.out, if_neg HNR.out]
      simp only
      rw [HGE.out, Int.toNat_natCast, ← HM4.out.2.2]
    have HRV := Aside0.mk hrv
    clear hrv
    by_cases hokb : okF e.d t (j : Int) c s d = true
    · have HRV2 := Aside0.mk (HRV.out.trans (if_neg (by rw [hokb]; decide)))
      rw [hokb] at HBL
      have HOT := Aside0.mk (okF_true hokb)
      clear hokb HRV
      go_upto_region 12 with (go_at_call 47; (with_reducible refine (HBL.out).mono ?_); rintro en w5 ⟨rfl, hb5⟩)
      refine wp_world (F := fun W => RW W base p b hold slot live4 es4 ∧ Box W (w.heap.size + 1) t (j : Int) c s d ∧ FrB SR base b w W ∧ DgAt W e.blk e.d) ⟨HF4.out.1.later hb5, HF4.out.2.1.later hb5, HF4.out.2.2.1.trans (FrB.of_below hb5), HF4.out.2.2.2.later hb5⟩ (fun W5 hF => ?_)
      have HF5 := Aside0.mk hF
      clear hF HF4 hb5 a0 a1 a2 a3 a4
      obtain ⟨cn, hcn⟩ : ∃ cn : Nat, e.d.cnt = (cn : Int) := ⟨e.d.cnt.toNat, (Int.toNat_of_nonneg (by have := HO4.out.cnt; omega)).symm⟩
      have HCN := Aside0.mk hcn
      have hcn32 : cn ≤ 32 := by have := HO4.out.cnt; omega
      obtain ⟨b0, b1, b2, b3, b4⟩ := HF5.out.2.2.2.cells
      rw [hcn] at b0
      clear hcn
      go_quiet (fail)
      have hall := all_val cn hcn32
      rw [hall]
      clear hall b0 b1 b2 b3 b4
      go_upto_region 13 with (fail)
      have hlv := (HF5.out.1.dgs e HM4.out.1).1
      have hle := (HF5.out.1.lives _ hlv).1
      have HLE := Aside0.mk hle
      obtain ⟨W6, hW6⟩ : ∃ W6, W6 = W5.drewN nq := ⟨_, rfl⟩
      rw [← hW6]
      have HF6 := Aside0.mk (show RW W6 base p b hold slot live4 es4 ∧ Box W6 (w.heap.size + 1) t (j : Int) c s d ∧ FrB SR base b w W6 ∧ DgAt W6 e.blk e.d by
        rw [hW6]
        have hb := drewN_below (Below.refl W5.heap.size W5) nq
        exact ⟨HF5.out.1.later hb, HF5.out.2.1.later hb, HF5.out.2.2.1.trans (FrB.of_below hb), HF5.out.2.2.2.later hb⟩)
      clear hW6 HF5 hlv hle
      have k3 := HF6.out.2.2.2.cells.2.2.2.1
      have kf := blk_frozen HF6.out.2.2.2.1 3
      go_upto_region 14 with (fail)
      have d1L : DgAt (W6.setCell ⟨e.blk, 3, none⟩ (.int .i64 slot)) e.blk { e.d with lst := slot } := ⟨blk_put HF6.out.2.2.2.1 3 _ rfl, HO4.out.len⟩
      have d1R := HF6.out.1.setDg HM4.out.1 HF6.out.2.2.2 3 (.int .i64 slot) { e.d with lst := slot } rfl HO4.out.len
      have d1F : FrB SR base b W6 (W6.setCell ⟨e.blk, 3, none⟩ (.int .i64 slot)) := (FrB.refl W6).setCell HF6.out.2.2.2.1 rfl HLE.out _
      refine wp_world (F := fun W => RW W base p b hold slot live4 (upd es4 e.blk { e.d with lst := slot }) ∧ Box W (w.heap.size + 1) t (j : Int) c s d ∧ FrB SR base b w W ∧ DgAt W e.blk { e.d with lst := slot }) ⟨d1R, blk_frB d1F HF6.out.2.1 rfl HCB1.out, HF6.out.2.2.1.trans d1F, d1L⟩ (fun W7 hF => ?_)
      have HF7 := Aside0.mk hF
      clear hF d1L d1R d1F k3 kf HF6
      have hj32 : j < 32 := by have := HFI.out.1; unfold Fine at this; omega
      have hj2 : (j : Int) < 32 := by omega
      have HJ := Aside0.mk hj32
      obtain ⟨a0, a1, a2, a3, a4⟩ := HF7.out.2.1.cells
      have k7 := HF7.out.2.2.2.part hj32
      have kf := blk_frozen HF7.out.2.2.2.1 (5 + j)
      refine start_ (n := 9) (S := fun w' => (w'.cell? ⟨w.heap.size + 1, 1, none⟩ = some (.int .i64 (j : Int))) ∧ (w'.cell? ⟨w.heap.size + 1, 4, none⟩ = some (.string d))) (ds := [8]) #[false, false, false, false, false, false, false, false, false] (by kernel_rfl) rfl rfl ⟨a1, a4⟩ (fun hHeld => ?_)
      refine pure_ (i := 0) (N := some 62) (v := ?_) (a' := ?_) #[true, false, false, false, false, false, false, false, false] rfl rfl (by kernel_rfl) (fun _ _ _ h => h) (Or.inl ⟨by rfl, ?_⟩) ?_ ?_
      rotate_left
      · intro w'
        go_simp
        with_reducible rfl
      rotate_left
      · simp only [Act.put, List.setIfInBounds_toArray, List.set_cons_zero, List.set_cons_succ, i64_w, i32_w]
        rfl
      refine pure_ (i := 1) (N := some 63) (v := ?_) (a' := ?_) #[true, true, false, false, false, false, false, false, false] rfl rfl (by kernel_rfl) (fun _ _ _ h => h) (Or.inl ⟨by rfl, ?_⟩) ?_ ?_
      rotate_left
      · intro w'
        go_simp
        with_reducible rfl
      rotate_left
      · simp only [Act.put, List.setIfInBounds_toArray, List.set_cons_zero, List.set_cons_succ, i64_w, i32_w]
        rfl
      refine take_ (i := 2) (N := some 64) (v := ?_) (a' := ?_) #[true, true, true, false, false, false, false, false, false] rfl rfl (by kernel_rfl) (fun _ _ _ h => h) (Or.inl ⟨by rfl, ?_⟩) hHeld ?_ ?_
      rotate_left
      · rintro w' ⟨s0, s1⟩
        go_simp
        with_reducible rfl
      rotate_left
      · simp only [Act.put, List.setIfInBounds_toArray, List.set_cons_zero, List.set_cons_succ, i64_w, i32_w]
        rfl
      refine pure_ (i := 3) (N := some 65) (v := ?_) (a' := ?_) #[true, true, true, true, false, false, false, false, false] rfl rfl (by kernel_rfl) (fun _ _ _ h => h) (Or.inl ⟨by rfl, ?_⟩) ?_ ?_
      rotate_left
      · intro w'
        go_simp
        with_reducible rfl
      rotate_left
      · simp only [Act.put, List.setIfInBounds_toArray, List.set_cons_zero, List.set_cons_succ, i64_w, i32_w]
        rfl
      refine take_ (i := 4) (N := some 66) (v := ?_) (a' := ?_) #[true, true, true, true, true, false, false, false, false] rfl rfl (by kernel_rfl) (fun _ _ _ h => h) (Or.inl ⟨by rfl, ?_⟩) hHeld ?_ ?_
      rotate_left
      · rintro w' ⟨s0, s1⟩
        go_simp
        with_reducible rfl
      rotate_left
      · simp only [Act.put, List.setIfInBounds_toArray, List.set_cons_zero, List.set_cons_succ, i64_w, i32_w]
        rfl
      refine pure_ (i := 5) (N := some 67) (v := ?_) (a' := ?_) #[true, true, true, true, true, true, false, false, false] rfl rfl (by kernel_rfl) (fun _ _ _ h => h) (Or.inl ⟨by rfl, ?_⟩) ?_ ?_
      rotate_left
      · intro w'
        go_simp
        with_reducible rfl
      rotate_left
      · simp only [Act.put, List.setIfInBounds_toArray, List.set_cons_zero, List.set_cons_succ, i64_w, i32_w]
        rfl
      refine pure_ (i := 6) (N := some 68) (v := ?_) (a' := ?_) #[true, true, true, true, true, true, true, false, false] rfl rfl (by kernel_rfl) (fun _ _ _ h => h) (Or.inl ⟨by rfl, ?_⟩) ?_ ?_
      rotate_left
      · intro w'
        go_simp
        with_reducible rfl
      rotate_left
      · simp only [Act.put, List.setIfInBounds_toArray, List.set_cons_zero, List.set_cons_succ, i64_w, i32_w]
        rfl
      refine pure_ (i := 7) (N := some 69) (v := ?_) (a' := ?_) #[true, true, true, true, true, true, true, true, false] rfl rfl (by kernel_rfl) (fun _ _ _ h => h) (Or.inl ⟨by rfl, ?_⟩) ?_ ?_
      rotate_left
      · intro w'
        go_simp
        with_reducible rfl
      rotate_left
      · simp only [Act.put, List.setIfInBounds_toArray, List.set_cons_zero, List.set_cons_succ, i64_w, i32_w]
        rfl
      refine last_ (i := 8) (N := none) #[true, true, true, true, true, true, true, true, true] rfl rfl (by kernel_rfl) (by decide) (fun K hK => ?_)
      refine skip_ (w1 := W7.drew.setCell ⟨e.blk, 5 + j, none⟩ (.string d)) (by rfl) rfl (exec_store (vx := .pointer (some ⟨e.blk, 5 + j, none⟩)) (vy := .string d) rfl (by rfl) (by rfl) (by first | (go_simp; done) | (go_simp; rfl))) ?_
      refine hK.out _ _ ?_
      clear hK K
      refine done_ (by kernel_rfl) ?_
      go_upto_region 15 with (fail)
      have hset : (dgL { e.d with lst := slot }).toArray.setIfInBounds (5 + j) (.string d) = (dgL { e.d with lst := slot, parts := e.d.parts.set j d }).toArray := set_part _ _ _
      have hln : (e.d.parts.set j d).length = 32 := by rw [List.length_set]; exact HO4.out.len
      have d1L : DgAt (W7.drew.setCell ⟨e.blk, 5 + j, none⟩ (.string d)) e.blk { e.d with lst := slot, parts := e.d.parts.set j d } := ⟨blk_put (w := W7.drew) HF7.out.2.2.2.1 (5 + j) _ hset, hln⟩
      have d1R := (HF7.out.1.drew).setDg2 HM4.out.1 (d0 := { e.d with lst := slot }) ⟨HF7.out.2.2.2.1, HO4.out.len⟩ (5 + j) (.string d) { e.d with lst := slot, parts := e.d.parts.set j d } hset hln
      have d1F : FrB SR base b W7 (W7.drew.setCell ⟨e.blk, 5 + j, none⟩ (.string d)) := ((FrB.refl W7).drew).setCell (y := W7.drew) HF7.out.2.2.2.1 rfl HLE.out _
      refine wp_world (F := fun W => RW W base p b hold slot live4 (upd es4 e.blk { e.d with lst := slot, parts := e.d.parts.set j d }) ∧ Box W (w.heap.size + 1) t (j : Int) c s d ∧ FrB SR base b w W ∧ DgAt W e.blk { e.d with lst := slot, parts := e.d.parts.set j d }) ⟨d1R, blk_frB d1F HF7.out.2.1 rfl HCB1.out, HF7.out.2.2.1.trans d1F, d1L⟩ (fun W8 hF => ?_)
      have HF8 := Aside0.mk hF
      clear hF d1L d1R d1F hset hln a0 a1 a2 a3 a4 k7 kf HF7 hHeld
      obtain ⟨a0, a1, a2, a3, a4⟩ := HF8.out.2.1.cells
      have b4 : W8.cell? ⟨e.blk, 4, none⟩ = some (.int .i64 (e.d.bmp : Int)) := HF8.out.2.2.2.cells.2.2.2.2
      have kf := blk_frozen HF8.out.2.2.2.1 4
      have hor := or_bmp e.d.bmp j HO4.out.bmp hj32
      have HOV := Aside0.mk hor
      have hj64 : j ≤ 64 := Nat.le_of_lt (Nat.lt_of_lt_of_le hj32 (by decide))
      clear hor hj32
      refine start_ (n := 11) (S := fun w' => (w'.cell? ⟨w.heap.size + 1, 1, none⟩ = some (.int .i64 (j : Int))) ∧ (w'.cell? ⟨e.blk, 4, none⟩ = some (.int .i64 (e.d.bmp : Int)))) (ds := [10]) #[false, false, false, false, false, false, false, false, false, false, false] (by kernel_rfl) rfl rfl ⟨a1, b4⟩ (fun hHeld => ?_)
      refine pure_ (i := 0) (N := some 70) (v := ?_) (a' := ?_) #[true, false, false, false, false, false, false, false, false, false, false] rfl rfl (by kernel_rfl) (fun _ _ _ h => h) (Or.inl ⟨by rfl, ?_⟩) ?_ ?_
      rotate_left
      · intro w'
        go_simp
        with_reducible rfl
      rotate_left
      · simp only [Act.put, List.setIfInBounds_toArray, List.set_cons_zero, List.set_cons_succ, i64_w, i32_w]
        rfl
      refine pure_ (i := 1) (N := some 71) (v := ?_) (a' := ?_) #[true, true, false, false, false, false, false, false, false, false, false] rfl rfl (by kernel_rfl) (fun _ _ _ h => h) (Or.inl ⟨by rfl, ?_⟩) ?_ ?_
      rotate_left
      · intro w'
        go_simp
        with_reducible rfl
      rotate_left
      · simp only [Act.put, List.setIfInBounds_toArray, List.set_cons_zero, List.set_cons_succ, i64_w, i32_w]
        rfl
      refine pure_ (i := 2) (N := some 72) (v := ?_) (a' := ?_) #[true, true, true, false, false, false, false, false, false, false, false] rfl rfl (by kernel_rfl) (fun _ _ _ h => h) (Or.inl ⟨by rfl, ?_⟩) ?_ ?_
      rotate_left
      · intro w'
        go_simp
        with_reducible rfl
      rotate_left
      · simp only [Act.put, List.setIfInBounds_toArray, List.set_cons_zero, List.set_cons_succ, i64_w, i32_w]
        rfl
      refine take_ (i := 3) (N := some 73) (v := ?_) (a' := ?_) #[true, true, true, true, false, false, false, false, false, false, false] rfl rfl (by kernel_rfl) (fun _ _ _ h => h) (Or.inl ⟨by rfl, ?_⟩) hHeld ?_ ?_
      rotate_left
      · rintro w' ⟨s0, s1⟩
        go_simp
        with_reducible rfl
      rotate_left
      · simp only [Act.put, List.setIfInBounds_toArray, List.set_cons_zero, List.set_cons_succ, i64_w, i32_w]
        rfl
      refine pure_ (i := 4) (N := some 74) (v := ?_) (a' := ?_) #[true, true, true, true, true, false, false, false, false, false, false] rfl rfl (by kernel_rfl) (fun _ _ _ h => h) (Or.inl ⟨by rfl, ?_⟩) ?_ ?_
      rotate_left
      · intro w'
        go_simp
        with_reducible rfl
      rotate_left
      · simp only [Act.put, List.setIfInBounds_toArray, List.set_cons_zero, List.set_cons_succ, i64_w, i32_w]
        rfl
      refine take_ (i := 5) (N := some 75) (v := ?_) (a' := ?_) #[true, true, true, true, true, true, false, false, false, false, false] rfl rfl (by kernel_rfl) (fun _ _ _ h => h) (Or.inl ⟨by rfl, ?_⟩) hHeld ?_ ?_
      rotate_left
      · rintro w' ⟨s0, s1⟩
        go_simp
        with_reducible rfl
      rotate_left
      · simp only [Act.put, List.setIfInBounds_toArray, List.set_cons_zero, List.set_cons_succ, i64_w, i32_w]
        rfl
      refine pure_ (i := 6) (N := some 76) (v := ?_) (a' := ?_) #[true, true, true, true, true, true, true, false, false, false, false] rfl rfl (by kernel_rfl) (fun _ _ _ h => h) (Or.inl ⟨by rfl, ?_⟩) ?_ ?_
      rotate_left
      · intro w'
        go_simp
        with_reducible rfl
      rotate_left
      · simp only [Act.put, List.setIfInBounds_toArray, List.set_cons_zero, List.set_cons_succ, i64_w, i32_w]
        rfl
      refine pure_ (i := 7) (N := some 77) (v := ?_) (a' := ?_) #[true, true, true, true, true, true, true, true, false, false, false] rfl rfl (by kernel_rfl) (fun _ _ _ h => h) (Or.inl ⟨by rfl, ?_⟩) ?_ ?_
      rotate_left
      · intro w'
        go_simp
        with_reducible rfl
      rotate_left
      · simp only [Act.put, List.setIfInBounds_toArray, List.set_cons_zero, List.set_cons_succ, i64_w, i32_w]
        rfl
      refine pure_ (i := 8) (N := some 78) (v := ?_) (a' := ?_) #[true, true, true, true, true, true, true, true, true, false, false] rfl rfl (by kernel_rfl) (fun _ _ _ h => h) (Or.inl ⟨by rfl, ?_⟩) ?_ ?_
      rotate_left
      · intro w'
        go_simp
        with_reducible rfl
      rotate_left
      · simp only [Act.put, List.setIfInBounds_toArray, List.set_cons_zero, List.set_cons_succ, i64_w, i32_w]
        rfl
      refine pure_ (i := 9) (N := some 79) (v := ?_) (a' := ?_) #[true, true, true, true, true, true, true, true, true, true, false] rfl rfl (by kernel_rfl) (fun _ _ _ h => h) (Or.inl ⟨by rfl, ?_⟩) ?_ ?_
      rotate_left
      · intro w'
        go_simp
        with_reducible rfl
      rotate_left
      · simp only [Act.put, List.setIfInBounds_toArray, List.set_cons_zero, List.set_cons_succ, i64_w, i32_w]
        rfl
      refine last_ (i := 10) (N := none) #[true, true, true, true, true, true, true, true, true, true, true] rfl rfl (by kernel_rfl) (by decide) (fun K hK => ?_)
      refine skip_ (w1 := W8.drew.setCell ⟨e.blk, 4, none⟩ (.int .i64 ((e.d.bmp ||| 2 ^ j : Nat) : Int))) (by rfl) rfl (exec_store (vx := .pointer (some ⟨e.blk, 4, none⟩)) (vy := .int .i64 ((e.d.bmp ||| 2 ^ j : Nat) : Int)) rfl (by rfl) (congrArg (Value.int .i64) HOV.out) (by first | (go_simp; done) | (go_simp; rfl))) ?_
      refine hK.out _ _ ?_
      clear hK K
      refine done_ (by kernel_rfl) ?_
      go_upto_region 16 with (fail)
      have hln : (putF e.d slot j d).parts.length = 32 := by show (e.d.parts.set j d).length = 32; rw [List.length_set]; exact HO4.out.len
      have d1L : DgAt (W8.drew.setCell ⟨e.blk, 4, none⟩ (.int .i64 ((e.d.bmp ||| 2 ^ j : Nat) : Int))) e.blk (putF e.d slot j d) := ⟨blk_put (w := W8.drew) HF8.out.2.2.2.1 4 _ rfl, hln⟩
      have d1R := (HF8.out.1.drew).setDg2 HM4.out.1 (d0 := { e.d with lst := slot, parts := e.d.parts.set j d }) ⟨HF8.out.2.2.2.1, hln⟩ 4 (.int .i64 ((e.d.bmp ||| 2 ^ j : Nat) : Int)) (putF e.d slot j d) rfl hln
      have d1F : FrB SR base b W8 (W8.drew.setCell ⟨e.blk, 4, none⟩ (.int .i64 ((e.d.bmp ||| 2 ^ j : Nat) : Int))) := ((FrB.refl W8).drew).setCell (y := W8.drew) HF8.out.2.2.2.1 rfl HLE.out _
      refine wp_world (F := fun W => RW W base p b hold slot live4 (upd es4 e.blk (putF e.d slot j d)) ∧ FrB SR base b w W ∧ DgAt W e.blk (putF e.d slot j d)) ⟨d1R, HF8.out.2.2.1.trans d1F, d1L⟩ (fun W9 hF => ?_)
      have HF9 := Aside0.mk hF
      have HER := Aside0.mk (show er (upd es4 e.blk (putF e.d slot j d)) = updP (er es4) t (putF e.d slot j d) by rw [er_upd HRA.out.1 HRA.out.2 HM4.out.1, HM4.out.2.1])
      clear hF d1L d1R d1F hln a0 a1 a2 a3 a4 b4 kf HF8 hHeld HOV
      obtain ⟨al, hal⟩ : ∃ al : Nat, al = 2 ^ cn - 1 := ⟨_, rfl⟩
      rw [← hal]
      have HAL := Aside0.mk (show allB e.d.cnt = al by unfold allB; rw [HCN.out, Int.toNat_natCast, hal])
      have b4 : W9.cell? ⟨e.blk, 4, none⟩ = some (.int .i64 ((e.d.bmp ||| 2 ^ j : Nat) : Int)) := HF9.out.2.2.cells.2.2.2.2
      have b0 : W9.cell? ⟨e.blk, 0, none⟩ = some (.int .i64 (cn : Int)) := by rw [HF9.out.2.2.cells.1]; show some (Value.int .i64 e.d.cnt) = _; rw [HCN.out]
      clear hal
      by_cases hx1 : e.d.bmp = al
      · have g1 : ((e.d.bmp : Int) == (al : Int)) = true := beq_iff_eq.2 (by rw [hx1])
        have HOU := Aside0.mk (show outF e.d (putF e.d slot j d) = (⟨#[]⟩, false) by unfold outF; rw [if_pos (.inl (by rw [HAL.out]; exact hx1))])
        clear hx1
        go_wp2
        go_ret3
        rw [HRV2.out, HOU.out]
        exact ⟨live4, _, rfl, HF9.out.1, HER.out, HF9.out.2.1⟩
      · have g1 : ((e.d.bmp : Int) == (al : Int)) = false := beq_eq_false_iff_ne.2 (fun h => hx1 (Int.ofNat_inj.1 h))
        have HX1 := Aside0.mk hx1
        clear hx1
        by_cases hx2 : e.d.bmp ||| 2 ^ j = al
        · have g2 : (((e.d.bmp ||| 2 ^ j : Nat) : Int) != (al : Int)) = false := by rw [hx2]; exact bne_self_eq_false _
          have HOU := Aside0.mk (show outF e.d (putF e.d slot j d) = (catP ((putF e.d slot j d).parts.take cn), true) by
            unfold outF
            rw [if_neg (by rw [HAL.out]; rintro (h | h); · exact HX1.out h
                           · exact h hx2), HCN.out, Int.toNat_natCast])
          have HJN := Aside0.mk (fun W => join_calls (putF e.d slot j d) cn hcn32 (show (e.d.parts.set j d).length = 32 by rw [List.length_set]; exact HO4.out.len) (fun x hx => by
            rcases List.mem_or_eq_of_mem_set hx with h | rfl
            · exact HO4.out.part x h
            · have := (lenF_small HL.out).1; omega) W e.blk)
          clear hx2
          go_upto_region 18 with (fail)
          have dg : DgAt W9 e.blk (putF e.d slot j d) := HF9.out.2.2
          have hc0 : 0 ≤ (cn : Int) := Int.natCast_nonneg _
          have hc32 : (cn : Int) ≤ 32 := Int.ofNat_le.2 hcn32
          refine start_ (n := 12) (S := fun w' => (w'.cell? ⟨e.blk, 0, none⟩ = some (.int .i64 (cn : Int))) ∧ (DgAt w' e.blk (putF e.d slot j d))) (ds := [99]) #[false, false, false, false, false, false, false, false, false, false, false, false] (by kernel_rfl) rfl rfl ⟨b0, dg⟩ (fun hHeld => ?_)
          refine pure_ (i := 0) (N := some 91) (v := ?_) (a' := ?_) #[true, false, false, false, false, false, false, false, false, false, false, false] rfl rfl (by kernel_rfl) (fun _ _ _ h => h) (Or.inl ⟨by rfl, ?_⟩) ?_ ?_
          rotate_left
          · intro w'
            go_simp
            with_reducible rfl
          rotate_left
          · simp only [Act.put, List.setIfInBounds_toArray, List.set_cons_zero, List.set_cons_succ, i64_w, i32_w]
            rfl
          refine pure_ (i := 1) (N := some 92) (v := ?_) (a' := ?_) #[true, true, false, false, false, false, false, false, false, false, false, false] rfl rfl (by kernel_rfl) (fun _ _ _ h => h) (Or.inl ⟨by rfl, ?_⟩) ?_ ?_
          rotate_left
          · intro w'
            go_simp
            with_reducible rfl
          rotate_left
          · simp only [Act.put, List.setIfInBounds_toArray, List.set_cons_zero, List.set_cons_succ, i64_w, i32_w]
            rfl
          refine pure_ (i := 2) (N := some 93) (v := ?_) (a' := ?_) #[true, true, true, false, false, false, false, false, false, false, false, false] rfl rfl (by kernel_rfl) (fun _ _ _ h => h) (Or.inl ⟨by rfl, ?_⟩) ?_ ?_
          rotate_left
          · intro w'
            go_simp
            with_reducible rfl
          rotate_left
          · simp only [Act.put, List.setIfInBounds_toArray, List.set_cons_zero, List.set_cons_succ, i64_w, i32_w]
            rfl
          refine pure_ (i := 3) (N := some 94) (v := ?_) (a' := ?_) #[true, true, true, true, false, false, false, false, false, false, false, false] rfl rfl (by kernel_rfl) (fun _ _ _ h => h) (Or.inl ⟨by rfl, ?_⟩) ?_ ?_
          rotate_left
          · intro w'
            go_simp
            with_reducible rfl
          rotate_left
          · simp only [Act.put, List.setIfInBounds_toArray, List.set_cons_zero, List.set_cons_succ, i64_w, i32_w]
            rfl
          refine pure_ (i := 4) (N := some 95) (v := ?_) (a' := ?_) #[true, true, true, true, true, false, false, false, false, false, false, false] rfl rfl (by kernel_rfl) (fun _ _ _ h => h) (Or.inl ⟨by rfl, ?_⟩) ?_ ?_
          rotate_left
          · intro w'
            go_simp
            with_reducible rfl
          rotate_left
          · simp only [Act.put, List.setIfInBounds_toArray, List.set_cons_zero, List.set_cons_succ, i64_w, i32_w]
            rfl
          refine pure_ (i := 5) (N := some 96) (v := ?_) (a' := ?_) #[true, true, true, true, true, true, false, false, false, false, false, false] rfl rfl (by kernel_rfl) (fun _ _ _ h => h) (Or.inl ⟨by rfl, ?_⟩) ?_ ?_
          rotate_left
          · intro w'
            go_simp
            with_reducible rfl
          rotate_left
          · simp only [Act.put, List.setIfInBounds_toArray, List.set_cons_zero, List.set_cons_succ, i64_w, i32_w]
            rfl
          refine take_ (i := 6) (N := some 97) (v := ?_) (a' := ?_) #[true, true, true, true, true, true, true, false, false, false, false, false] rfl rfl (by kernel_rfl) (fun _ _ _ h => h) (Or.inl ⟨by rfl, ?_⟩) hHeld ?_ ?_
          rotate_left
          · rintro w' ⟨s0, s1⟩
            go_simp
            with_reducible rfl
          rotate_left
          · simp only [Act.put, List.setIfInBounds_toArray, List.set_cons_zero, List.set_cons_succ, i64_w, i32_w]
            rfl
          refine pure_ (i := 7) (N := some 98) (v := ?_) (a' := ?_) #[true, true, true, true, true, true, true, true, false, false, false, false] rfl rfl (by kernel_rfl) (fun _ _ _ h => h) (Or.inl ⟨by rfl, ?_⟩) ?_ ?_
          rotate_left
          · intro w'
            go_simp
            with_reducible rfl
          rotate_left
          · simp only [Act.put, List.setIfInBounds_toArray, List.set_cons_zero, List.set_cons_succ, i64_w, i32_w]
            rfl
          refine one_ (i := 8) (N := some 99) #[true, true, true, true, true, true, true, true, true, false, false, false] rfl rfl (by kernel_rfl) (by decide) (fun K hK => ?_)
          refine goes_ Try.func48 (by kernel_rfl) rfl #[.slice (some ⟨e.blk, 5, none⟩) cn 32, .string ⟨#[]⟩] (by rfl) rfl rfl (by (try simp only [List.map_toArray, List.map_cons, List.map_nil]); first | done | rfl) ?_
          refine (HJN.out _ hHeld.2).mono ?_
          rintro en w10 ⟨rfl, hb10⟩
          refine ⟨_, rfl, ?_⟩
          refine hK.out _ _ ⟨cell_later hb10 hHeld.1, hHeld.2.later hb10⟩ (fun hHeld => ?_)
          clear hK K
          refine norm_ (a' := ?_) ?_ ?_
          rotate_left
          · show Act.put _ (some 99) _ = _
            simp only [Act.put, List.setIfInBounds_toArray, List.set_cons_zero, List.set_cons_succ, i64_w, i32_w]
            rfl
          refine pure_ (i := 9) (N := some 6) (v := ?_) (a' := ?_) #[true, true, true, true, true, true, true, true, true, true, false, false] rfl rfl (by kernel_rfl) (fun _ _ _ h => h) (Or.inl ⟨by rfl, ?_⟩) ?_ ?_
          rotate_left
          · intro w'
            go_simp
            with_reducible rfl
          rotate_left
          · simp only [Act.put, List.setIfInBounds_toArray, List.set_cons_zero, List.set_cons_succ, i64_w, i32_w]
            rfl
          refine pure_ (i := 10) (N := some 7) (v := ?_) (a' := ?_) #[true, true, true, true, true, true, true, true, true, true, true, false] rfl rfl (by kernel_rfl) (fun _ _ _ h => h) (Or.inl ⟨by rfl, ?_⟩) ?_ ?_
          rotate_left
          · intro w'
            go_simp
            with_reducible rfl
          rotate_left
          · simp only [Act.put, List.setIfInBounds_toArray, List.set_cons_zero, List.set_cons_succ, i64_w, i32_w]
            rfl
          refine pure_ (i := 11) (N := some 8) (v := ?_) (a' := ?_) #[true, true, true, true, true, true, true, true, true, true, true, true] rfl rfl (by kernel_rfl) (fun _ _ _ h => h) (Or.inl ⟨by rfl, ?_⟩) ?_ ?_
          rotate_left
          · intro w'
            go_simp
            with_reducible rfl
          rotate_left
          · simp only [Act.put, List.setIfInBounds_toArray, List.set_cons_zero, List.set_cons_succ, i64_w, i32_w]
            rfl
          refine done_ (by kernel_rfl) ?_
          go_wp2
          go_ret3
          rw [HRV2.out, HOU.out]
          have hbf : Below W9.heap.size W9 w10 := below_tr (show Below W9.heap.size W9 W9.drew from (Below.refl _ _).drew) hb10
          exact ⟨live4, _, rfl, HF9.out.1.later hbf, HER.out, HF9.out.2.1.trans (FrB.of_below hbf)⟩
        · have g2 : (((e.d.bmp ||| 2 ^ j : Nat) : Int) != (al : Int)) = true := bne_iff_ne.2 (fun h => hx2 (Int.ofNat_inj.1 h))
          have HOU := Aside0.mk (show outF e.d (putF e.d slot j d) = (⟨#[]⟩, false) by unfold outF; rw [if_pos (.inr (by rw [HAL.out]; exact hx2))])
          clear hx2
          go_wp2
          go_ret3
          rw [HRV2.out, HOU.out]
          exact ⟨live4, _, rfl, HF9.out.1, HER.out, HF9.out.2.1⟩
    · have hob : okF e.d t (j : Int) c s d = false := by simpa using hokb
      rw [hob] at HBL
      have HRV2 := Aside0.mk (HRV.out.trans (if_pos hob))
      clear hokb hob HRV
      go_wp2_with (go_at_call 47; (with_reducible refine (HBL.out).mono ?_); rintro en w5 ⟨rfl, hb5⟩)
      go_ret3
      rw [HRV2.out]
      exact ⟨live4, es4, rfl, HF4.out.1.later hb5, rfl, HF4.out.2.2.1.trans (FrB.of_below hb5)⟩
  · have HN := Aside0.mk (show (∀ e ∈ K, e.tag ≠ t) ∧ 8 ≤ K.length from ⟨fun e he hte => hroom (.inl ⟨e, he, hte⟩), Nat.le_of_not_lt (fun h => hroom (.inr h))⟩)
    clear hroom
    have HGF := Aside0.mk (get_full HG.out.1 t (j : Int) c s d ⟨HFI.out.1.1, HFI.out.1.2.1⟩ HN.out.1 HN.out.2)
    go_wp2_with (go_at_call 46; (with_reducible refine (HGF.out).mono ?_); rintro e w4 ⟨rfl, hb4⟩)
    go_ret3
    have hrv : recvF hold time (er es) slot t (j : Int) c s d = ⟨⟨#[]⟩, false, 13, slot, keptP (slot - hold) (er es)⟩ := by
      unfold recvF
      rw [if_neg HL.out, if_neg HOR.out, ← HKe.out, if_pos ⟨lookP_er_none.2 HN.out.1, by rw [er_length]; exact HN.out.2⟩]
    rw [hrv]
    exact ⟨live, K, rfl, HG.out.1.later hb4, HKe.out, HG.out.2.2.2.trans (FrB.of_below hb4)⟩
end Go.Proofs.Ytokapofgbcbajaa.Fns
