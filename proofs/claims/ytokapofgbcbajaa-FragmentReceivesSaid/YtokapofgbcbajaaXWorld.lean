/- What the reference's receiver holds in memory; find, whole, NewReceiver. -/
import Derived.Test.YtokapofgbcbajaaRecvAll
import Derived.Test.YtokapofgbcbajaaRows23
namespace Go.Proofs.Ytokapofgbcbajaa.Fns
open Go.RowKit Go.Maps Go.Proofs.YtokapofgbcbajaaW.PrintWords Go.Proofs.YtokapofgbcbajaaW.PrintLast Go.Proofs.YtokapofgbcbajaaW.PrintMore
set_option linter.unusedVariables false
set_option linter.unusedSimpArgs false
/-- A datagram of the reference: its numbers, the blocks of its parts and of what it has, and what they hold. -/
structure RD where
  tag : Int
  cnt : Int
  siz : Int
  len : Int
  slot : Int
  gp : Nat
  gh : Nat
  parts : List ByteArray
  has : List Bool
def encRD (d : RD) : List Value := [.int .i64 d.tag, .int .i64 d.cnt, .int .i64 d.siz, .int .i64 d.len, .int .i64 d.slot, .slice (some ⟨d.gp, 0, none⟩) d.has.length d.has.length, .slice (some ⟨d.gh, 0, none⟩) d.has.length d.has.length]
theorem encRD_length (d : RD) : (encRD d).length = 7 := rfl
structure RDAt (w : World) (base : Nat) (d : RD) : Prop where
  bp : base ≤ d.gp
  bh : base ≤ d.gh
  pb : w.heap[d.gp]? = some (.cells (d.parts.map Value.string).toArray 9 (0, 0))
  hb : w.heap[d.gh]? = some (.cells (d.has.map Value.bool).toArray 4 (0, 0))
  len : d.parts.length = d.has.length
  cnt : d.cnt = (d.has.length : Int)
  c32 : d.has.length ≤ 32
structure XR (w : World) (base p : Nat) (hold time : Int) (v : Value) (ds : List RD) : Prop where
  blk : w.heap[p]? = some (.cells #[.int .i64 hold, .int .i64 time, v] 110 (0, 0))
  hp : base ≤ p
  own : w.ownsRow base 113 7 v ds.length (flat encRD ds)
  at_ : ∀ d ∈ ds, RDAt w base d
  apart : ds.Pairwise (fun x y => x.gp ≠ y.gp ∧ x.gh ≠ y.gh)
def SX : TypeId → Bool := fun t => t == 110 || t == 113 || t == 9 || t == 4
section
variable {w wx : World} {base p : Nat} {hold time : Int} {v : Value} {ds : List RD}
theorem RDAt.move {d : RD} (h : RDAt w base d) (h1 : wx.heap[d.gp]? = w.heap[d.gp]?) (h2 : wx.heap[d.gh]? = w.heap[d.gh]?) : RDAt wx base d := ⟨h.bp, h.bh, h1.trans h.pb, h2.trans h.hb, h.len, h.cnt, h.c32⟩
theorem RDAt.later {d : RD} (h : RDAt w base d) (hb : Below w.heap.size w wx) : RDAt wx base d :=
  h.move (hb.block _ (Array.getElem?_eq_some_iff.1 h.pb).1) (hb.block _ (Array.getElem?_eq_some_iff.1 h.hb).1)
/-- All blocks of the types of the reference's receiver stay. -/
theorem XR.keep (h : XR w base p hold time v ds) (hk : ∀ (k : Nat) (c : Array Value) (e : TypeId), w.heap[k]? = some (Obj.cells c e (0, 0)) → SX e = true → wx.heap[k]? = w.heap[k]?) : XR wx base p hold time v ds := by
  refine ⟨(hk p _ _ h.blk rfl).trans h.blk, h.hp, own_move h.own (fun k hb => ?_), fun d hd => ?_, h.apart⟩
  · obtain ⟨c, hc⟩ := own_typed h.own k hb
    exact hk k _ _ hc rfl
  · have hd' := h.at_ d hd
    exact hd'.move (hk _ _ _ hd'.pb rfl) (hk _ _ _ hd'.hb rfl)
theorem XR.later (h : XR w base p hold time v ds) (hb : Below w.heap.size w wx) : XR wx base p hold time v ds :=
  h.keep (fun k c e hc _ => hb.block k (Array.getElem?_eq_some_iff.1 hc).1)
theorem XR.c0 (h : XR w base p hold time v ds) : w.cell? ⟨p, 0, none⟩ = some (.int .i64 hold) := (blk_cell h.blk 0).trans rfl
theorem XR.c1 (h : XR w base p hold time v ds) : w.cell? ⟨p, 1, none⟩ = some (.int .i64 time) := (blk_cell h.blk 1).trans rfl
theorem XR.c2 (h : XR w base p hold time v ds) : w.cell? ⟨p, 2, none⟩ = some v := (blk_cell h.blk 2).trans rfl
theorem XR.row (h : XR w base p hold time v ds) (hn : 0 < ds.length) : ∃ G cap cur, v = .slice (some ⟨G, 0, none⟩) ds.length cap ∧ base ≤ G ∧ IsRow w 113 7 G ds.length cap (flat encRD ds) cur := own_row h.own hn
end
theorem rd_cells {w : World} {G n cap : Nat} {cur : Array Value} {ds : List RD} (h : IsRow w 113 7 G n cap (flat encRD ds) cur) {i : Nat} {d : RD} (hd : ds[i]? = some d) :
    w.cell? ⟨G, i * 7, none⟩ = some (.int .i64 d.tag) ∧ w.cell? ⟨G, i * 7 + 1, none⟩ = some (.int .i64 d.cnt) ∧ w.cell? ⟨G, i * 7 + 2, none⟩ = some (.int .i64 d.siz) ∧ w.cell? ⟨G, i * 7 + 3, none⟩ = some (.int .i64 d.len) ∧ w.cell? ⟨G, i * 7 + 4, none⟩ = some (.int .i64 d.slot) ∧
    w.cell? ⟨G, i * 7 + 5, none⟩ = some (.slice (some ⟨d.gp, 0, none⟩) d.has.length d.has.length) ∧ w.cell? ⟨G, i * 7 + 6, none⟩ = some (.slice (some ⟨d.gh, 0, none⟩) d.has.length d.has.length) :=
  ⟨h.cell (flat_get encRD_length ds i 0 d _ hd rfl), h.cell (flat_get encRD_length ds i 1 d _ hd rfl), h.cell (flat_get encRD_length ds i 2 d _ hd rfl), h.cell (flat_get encRD_length ds i 3 d _ hd rfl), h.cell (flat_get encRD_length ds i 4 d _ hd rfl), h.cell (flat_get encRD_length ds i 5 d _ hd rfl), h.cell (flat_get encRD_length ds i 6 d _ hd rfl)⟩
theorem RDAt.hcell {w : World} {base : Nat} {d : RD} (h : RDAt w base d) {j : Nat} (hj : j < d.has.length) : w.cell? ⟨d.gh, j, none⟩ = some (.bool (d.has.getD j false)) := by
  rw [blk_cell h.hb j]
  simp [List.getD_eq_getElem?_getD, hj]
theorem RDAt.pcell {w : World} {base : Nat} {d : RD} (h : RDAt w base d) {j : Nat} (hj : j < d.has.length) : w.cell? ⟨d.gp, j, none⟩ = some (.string (d.parts.getD j ⟨#[]⟩)) := by
  rw [blk_cell h.pb j]
  have hl : j < d.parts.length := by rw [h.len]; exact hj
  simp [List.getD_eq_getElem?_getD, hl]
/-- The place of a tag. -/
def findX (ds : List RD) (t : Int) : Int := match ds.findIdx? (fun d => d.tag == t) with | some i => (i : Int) | none => -1
theorem x_step {n k : Nat} (h : k < n) (hn : n ≤ 4000) : wrap64 ((k : Int) + 1) = ((k + 1 : Nat) : Int) ∧ decide ((k : Int) < (n : Int)) = true ∧ decide (k < n) = true ∧ (k : Int) < (n : Int) ∧ (0 : Int) ≤ (k : Int) := ⟨by rw [wrap_in (by omega)]; omega, decide_eq_true (by omega), decide_eq_true h, by omega, by omega⟩
theorem x_stop {n k : Nat} (h : ¬ k < n) : decide ((k : Int) < (n : Int)) = false ∧ decide (k < n) = false := ⟨decide_eq_false (by omega), decide_eq_false h⟩
theorem x_meas {n k : Nat} (h : k < n) : ((n : Int) - ((k + 1 : Nat) : Int)).toNat < ((n : Int) - (k : Int)).toNat := by omega
theorem find_hit {ds : List RD} {t : Int} {k : Nat} {d : RD} (hd : ds[k]? = some d) (he : d.tag = t) (hno : ∀ j x, j < k → ds[j]? = some x → x.tag ≠ t) : findX ds t = (k : Int) := by
  obtain ⟨hk, hkd⟩ := List.getElem?_eq_some_iff.1 hd
  have h1 : ds.findIdx? (fun d => d.tag == t) = some k := by
    rw [List.findIdx?_eq_some_iff_getElem]
    refine ⟨hk, by rw [hkd]; simpa using he, fun j hj => ?_⟩
    have := hno j _ hj (List.getElem?_eq_getElem (by omega))
    simpa using this
  unfold findX
  rw [h1]
theorem find_miss {ds : List RD} {t : Int} (hno : ∀ j x, j < ds.length → ds[j]? = some x → x.tag ≠ t) : findX ds t = -1 := by
  have h1 : ds.findIdx? (fun d => d.tag == t) = none := by
    rw [List.findIdx?_eq_none_iff]
    intro x hx
    obtain ⟨j, hj, rfl⟩ := List.mem_iff_getElem.1 hx
    have := hno j _ hj (List.getElem?_eq_getElem hj)
    simpa using this
  unfold findX
  rw [h1]
theorem tag_beq {a b : Int} (h : a = b) : (a == b) = true := beq_iff_eq.2 h
theorem find_more {ds : List RD} {t : Int} {k : Nat} {d : RD} (hd : ds[k]? = some d) (he : d.tag ≠ t) (hno : ∀ j x, j < k → ds[j]? = some x → x.tag ≠ t) : ∀ j x, j < k + 1 → ds[j]? = some x → x.tag ≠ t := by
  intro j x hj hx
  by_cases e : j = k
  · subst e
    rw [hd] at hx
    rw [← Option.some.inj hx]; exact he
  · exact hno j x (by omega) hx
set_option maxRecDepth 100000 in
set_option maxHeartbeats 1000000 in
theorem find_calls {w : World} {base p : Nat} {hold time : Int} {v : Value} {ds : List RD} (h : XR w base p hold time v ds) (hl : ds.length ≤ 4000) (t : Int) :
    Calls Try.prog 64 #[.pointer (some ⟨p, 0, none⟩), .int .i64 t] w fun e w' => e = .returned (.int .i64 (findX ds t)) ∧ w' = w := by
  have hu110 := Try.underlying110
  have hu113 := Try.underlying113
  obtain ⟨A, cc, rfl⟩ := own_slice h.own
  have c2 := h.c2
  obtain ⟨n, hn⟩ : ∃ n, ds.length = n := ⟨_, rfl⟩
  rw [hn] at c2
  have H := Aside0.mk h
  have HN := Aside0.mk hn
  have HL := Aside0.mk hl
  clear h hn hl
  go_enter Try.func64, Try.ntmps64
  go_wp2
  go_loop [5] (fun t5 => ∃ k : Nat, Aside0 (k ≤ n) ∧ Aside0 (∀ j x, j < k → ds[j]? = some x → x.tag ≠ t) ∧ t5 = .int .i64 (k : Int)) (fun t5 => ((n : Int) - intOf t5).toNat)
  case atStart => exact ⟨0, ⟨Nat.zero_le _⟩, ⟨fun j x hj => absurd hj (Nat.not_lt_zero j)⟩, rfl⟩
  case round =>
    obtain ⟨k, HK, HNO, rfl⟩ := hrel
    by_cases hlt : k < n
    · obtain ⟨d, hd⟩ : ∃ d, ds[k]? = some d := ⟨_, List.getElem?_eq_getElem (by rw [HN.out]; exact hlt)⟩
      obtain ⟨G, cap, cur, hv, hG, hrow⟩ := H.out.row (by rw [HN.out]; exact Nat.lt_of_le_of_lt (Nat.zero_le _) hlt)
      injection hv with hA _ hcc
      subst hA; subst hcc
      have c70 := (rd_cells hrow hd).1
      obtain ⟨h1, h2, h3, h4, h5⟩ := x_step hlt (by rw [← HN.out]; exact HL.out)
      have HLT := Aside0.mk hlt
      have HD := Aside0.mk hd
      clear hrow hd hG hlt
      by_cases he : d.tag = t
      · have q := tag_beq he
        have HE := Aside0.mk he
        clear he
        go_wp2
        go_ret
        exact ⟨by rw [find_hit HD.out HE.out HNO.out]; rfl, rfl⟩
      · have q : (d.tag == t) = false := beq_eq_false_iff_ne.2 he
        have HE := Aside0.mk he
        clear he
        go_wp2
        go_round
        case rel => exact ⟨k + 1, ⟨HLT.out⟩, ⟨find_more HD.out HE.out HNO.out⟩, congrArg (Value.int .i64) h1⟩
        case measure => rw [h1]; exact x_meas HLT.out
    · obtain ⟨h1, h2⟩ := x_stop hlt
      have HE := Aside0.mk (Nat.le_antisymm HK.out (Nat.le_of_not_lt hlt))
      clear hlt
      go_wp2
      go_ret
      exact ⟨by rw [find_miss (fun j x hj hx => HNO.out j x (by rw [HE.out, ← HN.out]; exact hj) hx)]; rfl, rfl⟩
/-- Are all there? -/
def allH (hs : List Bool) : Bool := hs.all id
theorem all_hit {hs : List Bool} {k : Nat} (hk : hs.getD k false = false) (hl : k < hs.length) : allH hs = false := by
  unfold allH
  rw [List.all_eq_false]
  refine ⟨hs[k], List.getElem_mem hl, ?_⟩
  rw [List.getD_eq_getElem?_getD, List.getElem?_eq_getElem hl] at hk
  have h2 : hs[k] = false := hk
  simp [h2]
theorem all_miss {hs : List Bool} (h : ∀ j, j < hs.length → hs.getD j false = true) : allH hs = true := by
  unfold allH
  rw [List.all_eq_true]
  intro x hx
  obtain ⟨j, hj, rfl⟩ := List.mem_iff_getElem.1 hx
  have := h j hj
  rw [List.getD_eq_getElem?_getD, List.getElem?_eq_getElem hj] at this
  exact this
theorem all_more {hs : List Bool} {k : Nat} (h : ∀ j, j < k → hs.getD j false = true) (hk : hs.getD k false = true) : ∀ j, j < k + 1 → hs.getD j false = true := by
  intro j hj
  by_cases e : j = k
  · rw [e]; exact hk
  · exact h j (by omega)
set_option maxRecDepth 100000 in
set_option maxHeartbeats 1000000 in
theorem whole_calls {w : World} {g : Nat} {hs : List Bool} {n c : Nat} (hn : hs.length = n) (hl : n ≤ 4000) (hc : ∀ j, j < n → w.cell? ⟨g, j, none⟩ = some (.bool (hs.getD j false))) :
    Calls Try.prog 65 #[.slice (some ⟨g, 0, none⟩) n c] w fun e w' => e = .returned (.bool (allH hs)) ∧ w' = w := by
  have HC := Aside0.mk hc
  have HN := Aside0.mk hn
  have HL := Aside0.mk hl
  clear hc hn hl
  go_enter Try.func65, Try.ntmps65
  go_wp2
  go_loop [3] (fun t3 => ∃ k : Nat, Aside0 (k ≤ n) ∧ Aside0 (∀ j, j < k → hs.getD j false = true) ∧ t3 = .int .i64 (k : Int)) (fun t3 => ((n : Int) - intOf t3).toNat)
  case atStart => exact ⟨0, ⟨Nat.zero_le _⟩, ⟨fun j hj => absurd hj (Nat.not_lt_zero j)⟩, rfl⟩
  case round =>
    obtain ⟨k, HK, HA, rfl⟩ := hrel
    by_cases hlt : k < n
    · have hcell := HC.out k hlt
      obtain ⟨h1, h2, h3, h4, h5⟩ := x_step hlt HL.out
      have HLT := Aside0.mk hlt
      clear hlt
      cases hb : hs.getD k false with
      | false =>
        rw [hb] at hcell
        have HB := Aside0.mk hb
        clear hb
        go_wp2
        go_ret
        exact ⟨by rw [all_hit HB.out (by rw [HN.out]; exact HLT.out)]; rfl, rfl⟩
      | true =>
        rw [hb] at hcell
        have HB := Aside0.mk hb
        clear hb
        go_wp2
        go_round
        case rel => exact ⟨k + 1, ⟨HLT.out⟩, ⟨all_more HA.out HB.out⟩, congrArg (Value.int .i64) h1⟩
        case measure => rw [h1]; exact x_meas HLT.out
    · obtain ⟨h1, h2⟩ := x_stop hlt
      have HE := Aside0.mk (Nat.le_antisymm HK.out (Nat.le_of_not_lt hlt))
      clear hlt
      go_wp2
      go_ret
      exact ⟨by rw [all_miss (fun j hj => HA.out j (by rw [HE.out, ← HN.out]; exact hj))]; rfl, rfl⟩
theorem newX_bad (w : World) (hold : Int) (h : hold < 0 ∨ 4096 < hold) : Calls Try.prog 32 #[.int .i64 hold] w fun e w' => e = .returned (.tuple #[.pointer none, .int .i64 2]) ∧ w' = w := by
  by_cases h1 : hold < 0
  · have q1 : decide (hold < 0) = true := decide_eq_true h1
    clear h h1
    go_enter Try.func32, Try.ntmps32
    go_wp2
    go_ret2
    exact ⟨rfl, rfl⟩
  · have q1 : decide (hold < 0) = false := decide_eq_false h1
    have q2 : decide (4096 < hold) = true := decide_eq_true (h.resolve_left h1)
    clear h h1
    go_enter Try.func32, Try.ntmps32
    go_wp2
    go_ret2
    exact ⟨rfl, rfl⟩
theorem newX_good (w : World) (hold : Int) (h : 0 ≤ hold ∧ hold ≤ 4096) : Calls Try.prog 32 #[.int .i64 hold] w fun e w' => ∃ p, e = .returned (.tuple #[.pointer (some ⟨p, 0, none⟩), .int .i64 0]) ∧ XR w' w.heap.size p hold 0 (.slice none 0 0) [] ∧ Below w.heap.size w w' := by
  have q1 : decide (hold < 0) = false := decide_eq_false (by omega)
  have q2 : decide (4096 < hold) = false := decide_eq_false (by omega)
  have hu110 := Try.underlying110
  clear h
  go_enter Try.func32, Try.ntmps32
  go_wp2
  go_ret2
  exact ⟨w.heap.size, rfl, ⟨heap_alloc_new w _, Nat.le_refl _, own_nil _ _ _ _, by simp, List.Pairwise.nil⟩, below_new _ _⟩
end Go.Proofs.Ytokapofgbcbajaa.Fns
