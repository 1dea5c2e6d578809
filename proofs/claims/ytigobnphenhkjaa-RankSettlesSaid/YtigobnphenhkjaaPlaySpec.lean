/- What Play computes, and the walk of Play up to its events. -/
import Derived.Test.YtigobnphenhkjaaHear
namespace Go.Proofs.Ytigobnphenhkjaa.Fns
open Go.RowKit Go.Proofs.YtigobnphenhkjaaW.PrintWords Go.Proofs.YtigobnphenhkjaaW.PrintLast Go.Proofs.YtigobnphenhkjaaW.PrintMore
set_option linter.unusedVariables false
set_option linter.unusedSimpArgs false

def evErr (n : Int) (x : S50) : Int :=
  if ¬ (1 ≤ x.f0 ∧ x.f0 ≤ 5) then 1
  else if ¬ (0 ≤ x.f1 ∧ x.f1 ≤ n - 1) ∨ (x.f0 = 2 ∧ (x.f2 < 0 ∨ ¬ okCost x.f3)) then 2 else 0
def stepE (x : S50) (st : List S23 × List Adv) : List S23 × List Adv :=
  if x.f0 = 1 then (st.1.set x.f1.toNat (advS (st.1.getD x.f1.toNat z23)), advM x.f1.toNat (st.1.getD x.f1.toNat z23) st.2)
  else if x.f0 = 2 then (if st.2 = [] then st else (st.1.set x.f1.toNat (hearS (st.2.getD (x.f2.tmod st.2.length).toNat ⟨0, 0, 0⟩) x.f3 x.f1 (st.1.getD x.f1.toNat z23)), st.2))
  else if x.f0 = 5 then (st.1.set x.f1.toNat (renewS (st.1.getD x.f1.toNat z23)), st.2)
  else (st.1.set x.f1.toNat (lose (st.1.getD x.f1.toNat z23)), st.2)
def runE (n : Int) : List S50 → List S23 × List Adv → List S23 × Int
  | [], st => (st.1, 0)
  | x :: r, st => if evErr n x = 0 then runE n r (stepE x st) else ([], evErr n x)
def startL (n : Nat) : List S23 := (List.range n).map fun i : Nat => (start (i : Int)).1
def play (n : Int) (l : List S50) : List S23 × Int :=
  if ¬ (1 ≤ n ∧ n ≤ 32) then ([], 2) else if l.length > 4096 then ([], 8) else runE n l (startL n.toNat, [])
def rank_Play.f (a0 : Int) (l1 : List S50) : Option (List S23 × Int) := some (play a0 l1)

set_option maxRecDepth 100000 in
set_option maxHeartbeats 2000000 in
theorem hear_none (w : World) (base p : Nat) (L : List S23) (x : S50) 
    (hX : WX w base p L []) :
    Calls Try.prog 41 #[.pointer (some ⟨p, 0, none⟩), vE x] w fun e w' => e = .returned (.tuple #[]) ∧ WX w' base p L [] ∧ Fr base w w' := by
  obtain ⟨g, cap, cur, av, hW⟩ := hX
  have hu50 := Try.underlying50
  have hu60 := Try.underlying60
  obtain ⟨k, nd, wh, cost⟩ := x
  obtain ⟨A, ca, hav⟩ := own_slice hW.said
  have hw : Below w.heap.size w (w.alloc (.cells #[.int .i64 k, .int .i64 nd, .int .i64 wh, .int .i64 cost] 50)) := (Below.refl _ _).alloc (Nat.le_refl _) _
  have c1 : w.cell? ⟨p, 1, none⟩ = some (.slice A 0 ca) := by rw [hW.cell1, hav]; rfl
  have c1' := cell_later hw c1
  have HW2 := Aside0.mk (hW.later hw)
  have HF := Aside0.mk (Fr.of_below (base := base) hw)
  clear hw c1 hW hav
  show Calls Try.prog 41 #[.pointer (some ⟨p, 0, none⟩), .agg #[.int .i64 k, .int .i64 nd, .int .i64 wh, .int .i64 cost]] w _
  go_enter Try.func41, Try.ntmps41
  go_wp2
  (first | go_end0 | ((try simp only [Exit.inBlock, Exit.then]); refine bodyPost_ret (results_none rfl _ _ _) rfl ?_))
  exact ⟨rfl, ⟨g, cap, cur, av, HW2.out⟩, HF.out⟩

theorem within_calls (a b c : Int) (w : World) : Calls Try.prog 36 #[.int .i64 a, .int .i64 b, .int .i64 c] w fun e w' => e = .returned (.bool (decide (b ≤ a ∧ a ≤ c))) ∧ Drawn0 w w' :=
  rank_within.calls a b c _ w (within_eq a b c)
theorem start_calls' (n : Int) (w : World) : Calls Try.prog 11 #[.int .i64 n] w fun e w' => e = .returned (.tuple #[.agg #[.int .i64 (start n).1.f0, .int .i64 (start n).1.f1, .int .i64 (start n).1.f2, .int .i64 (start n).1.f3, .int .i64 (start n).1.f4, .int .i64 (start n).1.f5], .int .i64 (start n).2]) ∧ Below w.heap.size w w' :=
  start_calls n w

/-- While the states are made: nothing has been said. -/
structure W0 (w : World) (base p : Nat) (sv : Value) (L : List S23) : Prop where
  blk : w.heap[p]? = some (.cells #[sv, .slice none 0 0] 60 (0, 0))
  hp : base ≤ p
  own : w.ownsRow base 23 6 sv L.length (flat cS L)
theorem W0.later {w wx : World} {base p : Nat} {sv : Value} {L : List S23} (h : W0 w base p sv L) (hb : Below w.heap.size w wx) : W0 wx base p sv L :=
  ⟨blk_later hb h.blk, h.hp, own_later hb h.own⟩
theorem W0.drew {w : World} {base p : Nat} {sv : Value} {L : List S23} (h : W0 w base p sv L) : W0 w.drew base p sv L := ⟨h.blk, h.hp, own_move h.own (fun _ _ => rfl)⟩
theorem W0.cell {w : World} {base p : Nat} {sv : Value} {L : List S23} (h : W0 w base p sv L) : w.cell? ⟨p, 0, none⟩ = some sv := (blk_cell h.blk 0).trans rfl
theorem W0.append {W w1 : World} {base p : Nat} {sv v1 : Value} {L : List S23} {s : S23} (h : W0 W base p sv L)
    (ho : w1.ownsRow base 23 6 v1 (L.length + 1) (flat cS L ++ cS s)) (hg : W.grownBy w1 sv.ownBlock) :
    W0 (w1.setCell ⟨p, 0, none⟩ v1) base p v1 (L ++ [s]) ∧ Fr base W (w1.setCell ⟨p, 0, none⟩ v1) := by
  have hp1 : w1.heap[p]? = some (.cells #[sv, .slice none 0 0] 60 (0, 0)) := blk_grown h.blk hg (own_ne_blk h.own h.blk (by decide))
  refine ⟨⟨?_, h.hp, ?_⟩, ?_⟩
  · exact blk_put hp1 0 v1 rfl
  · rw [List.length_append, flat_append, flat_one]
    refine own_move ho (fun k hk => Below.heap_setCell w1 ⟨p, 0, none⟩ v1 k ?_)
    rintro rfl
    exact own_ne_blk ho hp1 (by decide) hk.symm
  · have f2 : Fr base W w1 := (Fr.refl _ _).grown hg (fun k hk => ⟨(h.own.lt k hk).1, by obtain ⟨c, hc⟩ := own_typed h.own k hk; exact ⟨c, 23, hc, .inr (.inl rfl)⟩⟩)
    exact f2.setCell hp1 (.inl rfl) h.hp v1
theorem W0.cell_after {W w1 : World} {base p : Nat} {sv : Value} {L : List S23} (h : W0 W base p sv L) (hg : W.grownBy w1 sv.ownBlock) :
    w1.cell? ⟨p, 0, none⟩ = some sv ∧ w1.frozen? ⟨p, 0, none⟩ = false := by
  have hp1 : w1.heap[p]? = some (.cells #[sv, .slice none 0 0] 60 (0, 0)) := blk_grown h.blk hg (own_ne_blk h.own h.blk (by decide))
  exact ⟨(blk_cell hp1 0).trans rfl, blk_frozen hp1 0⟩
theorem W0.world {w : World} {base p : Nat} {sv : Value} {L : List S23} (h : W0 w base p sv L) (hl : 0 < L.length) : WX w base p L [] := by
  obtain ⟨g, cap, cur, rfl, hg, hr⟩ := own_row h.own hl
  exact ⟨g, cap, cur, .slice none 0 0, h.blk, h.hp, hg, hr, World.ownsRow_nil w base 69 3⟩
theorem startL_succ (k : Nat) : startL (k + 1) = startL k ++ [(start (k : Int)).1] := by simp [startL, List.range_succ]
theorem startL_length (k : Nat) : (startL k).length = k := by simp [startL]
end Go.Proofs.Ytigobnphenhkjaa.Fns
