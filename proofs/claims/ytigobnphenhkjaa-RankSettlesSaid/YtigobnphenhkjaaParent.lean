/- rank.parent: the parent of the first state with a node's number. -/
import Derived.Test.YtigobnphenhkjaaBase
namespace Go.Proofs.Ytigobnphenhkjaa.Fns
open Go.RowKit Go.Proofs.YtigobnphenhkjaaW.PrintWords Go.Proofs.YtigobnphenhkjaaW.PrintLast Go.Proofs.YtigobnphenhkjaaW.PrintMore
set_option linter.unusedVariables false
set_option linter.unusedSimpArgs false
set_option maxRecDepth 100000 in
set_option maxHeartbeats 2000000 in
theorem parent1_calls (s : S23) (n : Int) (b : Nat) (w : World) (hb : w.cell? ⟨b, 0, none⟩ = some (.int .i64 n)) :
    Calls Try.prog 51 #[.agg #[.int .i64 s.f0, .int .i64 s.f1, .int .i64 s.f2, .int .i64 s.f3, .int .i64 s.f4, .int .i64 s.f5], .pointer (some ⟨b, 0, none⟩)] w fun e w' => e = .returned (.bool (s.f0 == n)) ∧ Below w.heap.size w w' := by
  have hu23 := Try.underlying23
  have hw : Below w.heap.size w (w.alloc (.cells #[.int .i64 s.f0, .int .i64 s.f1, .int .i64 s.f2, .int .i64 s.f3, .int .i64 s.f4, .int .i64 s.f5] 23)) := (Below.refl _ _).alloc (Nat.le_refl _) _
  have hb' := cell_later hw hb
  have HW := Aside0.mk hw
  clear hw hb
  go_enter Try.func51, Try.ntmps51
  go_wp2
  go_ret
  exact ⟨rfl, HW.out⟩
def parentOf (l : List S23) (n : Int) : Option Int := (l.find? (fun s => s.f0 == n)).map (fun s => s.f2)
def idxOf (l : List S23) (n : Int) : Int := match l.findIdx? (fun s => s.f0 == n) with
  | some i => (i : Int)
  | none => -1
theorem idxOf_at {l : List S23} {n : Int} {k : Nat} (hk : k < l.length) (hb : ∀ j, j < k → ((rd_T23 l (j : Int)).f0 == n) = false) (h : ((rd_T23 l (k : Int)).f0 == n) = true) : idxOf l n = (k : Int) := by
  have e : l.findIdx? (fun s => s.f0 == n) = some k := by
    rw [List.findIdx?_eq_some_iff_getElem]
    refine ⟨hk, by simpa [rd_T23, hk] using h, fun j hj => ?_⟩
    have := hb j hj
    have hjl : j < l.length := by omega
    simpa [rd_T23, hjl] using this
  unfold idxOf; rw [e]
theorem idxOf_none {l : List S23} {n : Int} (hb : ∀ j, j < l.length → ((rd_T23 l (j : Int)).f0 == n) = false) : idxOf l n = -1 := by
  have e : l.findIdx? (fun s => s.f0 == n) = none := by
    rw [List.findIdx?_eq_none_iff]
    intro x hx
    obtain ⟨j, hj, rfl⟩ := List.getElem_of_mem hx
    have := hb j hj
    simpa [rd_T23, hj] using this
  unfold idxOf; rw [e]
def IdxPost (l : List S23) (n : Int) (w : World) (e : Ending) (w' : World) : Prop := e = .returned (.int .i64 (idxOf l n)) ∧ Below w.heap.size w w'
set_option maxRecDepth 100000 in
set_option maxHeartbeats 2000000 in
theorem indexFunc_calls (l : List S23) (A : Option Addr) (c : Nat) (b : Nat) (n : Int) (w : World) (hC : Kd.C k23 w A l.length l) (hb : w.cell? ⟨b, 0, none⟩ = some (.int .i64 n)) :
    Calls Try.prog 48 #[.slice A l.length c, .func (.func 51) #[] #[.pointer (some ⟨b, 0, none⟩)]] w (IdxPost l n w) := by
  have hu23 := Try.underlying23
  have HC := Aside0.mk hC
  have HB := Aside0.mk hb
  have hmax : l.length ≤ 9223372036854775807 := hC.2.1
  clear hC hb
  go_enter Try.func48, Try.ntmps48
  go_wp2
  go_loopw [8] (fun v wr => ∃ k : Nat, Aside0 (k ≤ l.length) ∧ v = .int .i64 (k : Int) ∧ Aside0 (∀ j, j < k → ((rd_T23 l (j : Int)).f0 == n) = false) ∧ Aside0 (Below w.heap.size w wr)) (fun v _ => l.length - (intOf v).toNat)
  case atStart => exact ⟨0, ⟨Nat.zero_le _⟩, rfl, ⟨fun j hj => by omega⟩, ⟨Below.refl _ _⟩⟩
  case round =>
    obtain ⟨k, hk, rfl, HN, HW⟩ := hrel
    by_cases hlt : k < l.length
    · have hlt' : decide ((k : Int) < (l.length : Int)) = true := decide_eq_true (by omega)
      have HK := Aside0.mk hlt
      obtain ⟨ad, hA, x0, x1, x2, x3, x4, x5⟩ := at_T23 (Kd.C_below HC.out HW.out) (k : Int) (by omega) (by omega)
      subst hA
      rw [Int.toNat_natCast] at x0 x1 x2 x3 x4 x5
      have hb := cell_later HW.out HB.out
      have hp := parent1_calls (rd_T23 l (k : Int)) n b wr hb
      by_cases hm : ((rd_T23 l (k : Int)).f0 == n) = true
      · have HM := Aside0.mk hm
        rw [hm] at hp
        clear hm hb
        have hk1 : k < l.length := hlt
        go_wp2_with (go_at_call 51; refine hp.mono ?_; rintro e w1 ⟨rfl, hb1⟩)
        go_ret
        exact ⟨by rw [idxOf_at HK.out HN.out HM.out]; rfl, HW.out.trans (hb1.mono HW.out.size)⟩
      · have hm2 : ((rd_T23 l (k : Int)).f0 == n) = false := by simpa using hm
        have HM := Aside0.mk hm2
        rw [hm2] at hp
        clear hm hm2 hb
        have hk1 : k < l.length := hlt
        go_wp2_with (go_at_call 51; refine hp.mono ?_; rintro e w1 ⟨rfl, hb1⟩)
        go_roundw
        case rel => exact ⟨k + 1, ⟨HK.out⟩, by go_num, ⟨fun j hj => by rcases Nat.lt_succ_iff_lt_or_eq.1 hj with h | rfl; exact HN.out j h; exact HM.out⟩, ⟨HW.out.trans (hb1.mono HW.out.size)⟩⟩
        case measure => simp [intOf]; omega
    · have hlt' : decide ((k : Int) < (l.length : Int)) = false := decide_eq_false (by omega)
      have hk2 : k = l.length := by have := hk.out; omega
      have HE := Aside0.mk (idxOf_none (n := n) (l := l) (by rw [← hk2]; exact HN.out))
      have hltn : decide (k < l.length) = false := decide_eq_false hlt
      clear hlt hk2
      go_wp2
      go_ret
      exact ⟨by rw [HE.out]; rfl, HW.out⟩
def ParPost (l : List S23) (n : Int) (w : World) (e : Ending) (w' : World) : Prop :=
  e = .returned (.tuple #[.int .i64 ((parentOf l n).getD 0), .bool (parentOf l n).isSome]) ∧ Below w.heap.size w w'
theorem idx_parent (l : List S23) (n : Int) : (idxOf l n = -1 ∧ parentOf l n = none) ∨ ∃ k : Nat, k < l.length ∧ idxOf l n = (k : Int) ∧ parentOf l n = some (rd_T23 l (k : Int)).f2 := by
  unfold idxOf parentOf
  cases h : l.findIdx? (fun s => s.f0 == n) with
  | none =>
    left
    refine ⟨rfl, ?_⟩
    rw [List.findIdx?_eq_none_iff] at h
    rw [List.find?_eq_none.2 (fun x hx => by simpa using h x hx)]
    rfl
  | some k =>
    right
    rw [List.findIdx?_eq_some_iff_getElem] at h
    obtain ⟨hk, h1, h2⟩ := h
    refine ⟨k, hk, rfl, ?_⟩
    have e : l.find? (fun s => s.f0 == n) = some l[k] := by
      rw [List.find?_eq_some_iff_getElem]
      exact ⟨h1, k, hk, rfl, fun j hj => by simpa using h2 j hj⟩
    rw [e]
    simp [rd_T23, hk]
set_option maxRecDepth 100000 in
set_option maxHeartbeats 2000000 in
theorem parent_calls (l : List S23) (A : Option Addr) (c : Nat) (n : Int) (w : World) (hC : Kd.C k23 w A l.length l) :
    Calls Try.prog 47 #[.slice A l.length c, .int .i64 n] w (ParPost l n w) := by
  have hu23 := Try.underlying23
  have hmax : l.length ≤ 9223372036854775807 := hC.2.1
  have hw : Below w.heap.size w (w.alloc (.cells #[.int .i64 n] 3)) := (Below.refl _ _).alloc (Nat.le_refl _) _
  have hq := indexFunc_calls l A c w.heap.size n (w.alloc (.cells #[.int .i64 n] 3)) (Kd.C_below hC hw) (by simp)
  have HC := Aside0.mk hC
  have HW := Aside0.mk hw
  clear hC hw
  rcases idx_parent l n with ⟨h1, h2⟩ | ⟨k, hk, h1, h2⟩
  · unfold IdxPost at hq
    rw [h1] at hq
    have H2 := Aside0.mk h2
    clear h1 h2
    go_enter Try.func47, Try.ntmps47
    go_wp2_with (go_at_call 48; refine hq.mono ?_; rintro e w1 ⟨rfl, hb1⟩)
    go_ret2
    exact ⟨by rw [H2.out]; rfl, HW.out.trans (hb1.mono (by simp))⟩
  · unfold IdxPost at hq
    rw [h1] at hq
    have H2 := Aside0.mk h2
    clear h1 h2
    have hk1 : decide ((k : Int) < 0) = false := decide_eq_false (by omega)
    go_enter Try.func47, Try.ntmps47
    go_upto_region 4 with (go_at_call 48; refine hq.mono ?_; rintro e w1 ⟨rfl, hb1⟩)
    have hbw := HW.out.trans (hb1.mono (by simp))
    obtain ⟨ad, hA, x0, x1, x2, x3, x4, x5⟩ := at_T23 (Kd.C_below HC.out hbw) (k : Int) (by omega) (by omega)
    subst hA
    rw [Int.toNat_natCast] at x0 x1 x2 x3 x4 x5
    have HB := Aside0.mk hbw
    clear hbw hb1 hq x0 x1 x3 x4 x5
    go_wp2
    go_ret2
    exact ⟨by rw [H2.out]; rfl, HB.out⟩
end Go.Proofs.Ytigobnphenhkjaa.Fns
