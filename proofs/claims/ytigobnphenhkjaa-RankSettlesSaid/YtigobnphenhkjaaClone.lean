/- slices.Clone of events: its contract. -/
import Derived.Test.YtigobnphenhkjaaPlayStep
import Derived.Test.YtigobnphenhkjaaVb
import Derived.Lib.SliceRun
namespace Go.Proofs.Ytigobnphenhkjaa.Fns
open Go.RowKit Go.Proofs.YtigobnphenhkjaaW.PrintWords Go.Proofs.YtigobnphenhkjaaW.PrintLast Go.Proofs.YtigobnphenhkjaaW.PrintMore
set_option linter.unusedVariables false
set_option linter.unusedSimpArgs false
def api_RankEvent.f (l : List S50) : Option (List S50) := if l.length ≤ 100 then some l else none
theorem info50b : (Try.prog.info? 50).map (fun i => (i.zero, i.size, i.bytes)) = some (some (.agg #[(.int .i64 0), (.int .i64 0), (.int .i64 0), (.int .i64 0)]), 4, 32) := by kernel_rfl
theorem k50_KM (w : World) (base : Nat) (ok : Nat → Prop) (x : S50) (cs : List Value) (h : k50.K w x cs) : k50.M w base ok x cs := by
  rw [k50_open h]
  exact k50_mkM w base ok x
set_option maxRecDepth 100000 in
set_option maxHeartbeats 2000000 in
theorem clone_walk (l : List S50) (A : Option Addr) (c : Nat) (w : World) (hC : Kd.C k50 w A l.length l) (hc : l.length ≤ c) (hl : l.length ≤ 100) :
    Calls Try.prog 32 #[.slice A l.length c] w fun e w' => ∃ v0_ : Value, e = .returned v0_ ∧ Kd.R k50 50 w' w.heap.size (fun _ => True) v0_ l ∧ Below w.heap.size w w' := by
  have hu39 := Try.underlying39
  have HC := Aside0.mk hC
  clear hC
  cases A with
  | none =>
    have h0 : l = [] := by
      cases l with
      | nil => rfl
      | cons x r =>
        obtain ⟨ad, h, _⟩ := HC.out.2.2 (by simp)
        exact absurd h (by simp)
    subst h0
    have hq : ∀ w, (binOp .eql 39 (.slice none 0 c) (.slice none 0 0)).run Try.prog w = .ok (.bool true) w := fun w => Go.Lib.run_eql_slice_nil w 39 50 none 0 c 0 0 Try.underlying39
    go_enter Try.func32, Try.ntmps32
    go_wp2
    go_ret
    exact ⟨.slice none 0 0, rfl, Kd.R_nil _ _ _ _ _, Below.refl _ _⟩
  | some ad =>
    have hq : ∀ w, (binOp .eql 39 (.slice (some ad) l.length c) (.slice none 0 0)).run Try.prog w = .ok (.bool false) w := fun w => Go.Lib.run_eql_slice_nil w 39 50 (some ad) l.length c 0 0 Try.underlying39
    go_enter Try.func32, Try.ntmps32
    go_upto_region 3 with (fail)
    refine wp_region_lit ?_
    refine stepL_value (N := some 5) (v := .slice (some ⟨w.heap.size, 0, none⟩) 0 0) (w1 := w.alloc (.cells #[] 50)) rfl rfl (by first | (go_simp; done) | (go_simp; rfl)) ?_
    refine wpList_norm (a' := ?_) ?_ ?_
    rotate_left
    · simp only [Act.put, List.setIfInBounds_toArray, List.set_cons_zero, List.set_cons_succ]
      rfl
    refine stepL_value (N := some 6) (v := .slice (some ad) l.length c) (w1 := w.alloc (.cells #[] 50)) rfl rfl (by rfl) ?_
    refine wpList_norm (a' := ?_) ?_ ?_
    rotate_left
    · simp only [Act.put, List.setIfInBounds_toArray, List.set_cons_zero, List.set_cons_succ]
      rfl
    have hb : Below w.heap.size w (w.alloc (.cells #[] 50)) := (Below.refl _ _).alloc (Nat.le_refl _) _
    have hR : Kd.R k50 50 (w.alloc (.cells #[] 50)) w.heap.size (fun _ => True) (.slice (some ⟨w.heap.size, 0, none⟩) 0 0) [] :=
      ⟨fun _ _ => trivial, [], ⟨by simp, .inr ⟨w.heap.size, 0, #[], rfl, Nat.le_refl _, heap_alloc_new w (.cells #[] 50), Nat.le_refl _, Nat.zero_le _, by simp, by simp⟩⟩, Reps.none _ _⟩
    refine Kd.R_append_rows k50 (w0 := w) w.heap.size rfl (.tmp 5) (.tmp 6) 39 50 (.agg #[(.int .i64 0), (.int .i64 0), (.int .i64 0), (.int .i64 0)]) 32 rfl Try.underlying39 info50b rfl (by decide) (by decide) (.slice (some ⟨w.heap.size, 0, none⟩) 0 0) [] l (some ad) l.length c (fun _ => True) (fun k_ => False) (by rfl) (by rfl) hR (Kd.C_below HC.out hb) (fun x cs h => k50_KM _ _ _ x cs h) (fun _ h => h.elim) (fun _ _ => trivial) hb (by simp) (by simp; omega) ?_
    intro v1 w1 h1 h2 h3 h4
    refine wpList_norm (a' := ?_) ?_ ?_
    rotate_left
    · simp only [Act.put, List.setIfInBounds_toArray, List.set_cons_zero, List.set_cons_succ]
      rfl
    refine stepL_value (N := some 2) (v := v1) (w1 := w1) rfl rfl (by rfl) ?_
    refine wpList_norm (a' := ?_) ?_ ?_
    rotate_left
    · simp only [Act.put, List.setIfInBounds_toArray, List.set_cons_zero, List.set_cons_succ]
      rfl
    refine wpList_nil ?_
    go_wp2
    go_ret
    exact ⟨v1, rfl, by simpa using h1, h2⟩
theorem api_RankEvent.calls (A0 : Option Addr) (c0 : Nat) (l0 : List S50) (r : List S50) (w : World) (hC : Kd.C k50 w A0 l0.length l0) (hc : l0.length ≤ c0) (h : api_RankEvent.f l0 = some r) :
    Calls Try.prog 32 #[.slice A0 l0.length c0] w fun e w' => ∃ v0_ : Value, e = .returned v0_ ∧ Kd.R k50 50 w' w.heap.size (fun _ => True) v0_ r ∧ Below w.heap.size w w' := by
  unfold api_RankEvent.f at h
  split at h
  · rename_i hh
    cases h
    exact clone_walk l0 A0 c0 w hC hc hh
  · cases h
end Go.Proofs.Ytigobnphenhkjaa.Fns
