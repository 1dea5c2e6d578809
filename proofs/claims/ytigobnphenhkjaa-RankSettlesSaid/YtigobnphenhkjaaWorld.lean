/- What a *rank.world holds in memory, and how it changes. -/
import Derived.Test.YtigobnphenhkjaaBase
import Derived.Test.YtigobnphenhkjaaSpec
namespace Go.Proofs.Ytigobnphenhkjaa.Fns
open Go.RowKit Go.Proofs.YtigobnphenhkjaaW.PrintWords Go.Proofs.YtigobnphenhkjaaW.PrintLast Go.Proofs.YtigobnphenhkjaaW.PrintMore

structure Adv where
  src : Int
  ep : Int
  rk : Int
def cA (a : Adv) : List Value := [.int .i64 a.src, .int .i64 a.ep, .int .i64 a.rk]
theorem cA_length (a : Adv) : (cA a).length = 3 := rfl
def vE (x : S50) : Value := .agg #[.int .i64 x.f0, .int .i64 x.f1, .int .i64 x.f2, .int .i64 x.f3]

/-- A world's struct in block p: its states L (in a row g of its own), what was said M (in a slice av). -/
structure WI (w : World) (base p g cap : Nat) (cur : Array Value) (av : Value) (L : List S23) (M : List Adv) : Prop where
  blk : w.heap[p]? = some (.cells #[.slice (some ⟨g, 0, none⟩) L.length cap, av] 60 (0, 0))
  hp : base ≤ p
  hg : base ≤ g
  row : IsRow w 23 6 g L.length cap (flat cS L) cur
  said : w.ownsRow base 69 3 av M.length (flat cA M)

theorem IsRow.move {w w1 : World} {e : TypeId} {size g n cap : Nat} {xs : List Value} {cur : Array Value} (h : IsRow w e size g n cap xs cur) (hm : w1.heap[g]? = w.heap[g]?) : IsRow w1 e size g n cap xs cur :=
  ⟨hm.trans h.blk, h.le, h.small, h.full, h.take, h.len⟩
theorem WI.later {w wx : World} {base p g cap : Nat} {cur : Array Value} {av : Value} {L : List S23} {M : List Adv} (h : WI w base p g cap cur av L M) (hb : Below w.heap.size w wx) : WI wx base p g cap cur av L M :=
  ⟨blk_later hb h.blk, h.hp, h.hg, h.row.move (hb.block g h.row.lt), own_later hb h.said⟩
theorem WI.drew {w : World} {base p g cap : Nat} {cur : Array Value} {av : Value} {L : List S23} {M : List Adv} (h : WI w base p g cap cur av L M) : WI w.drew base p g cap cur av L M :=
  ⟨h.blk, h.hp, h.hg, h.row.move rfl, own_move h.said (fun _ _ => rfl)⟩
theorem WI.fr {w wx : World} {base b2 p g cap : Nat} {cur : Array Value} {av : Value} {L : List S23} {M : List Adv} (h : WI w base p g cap cur av L M) (hb : ∀ k, k < w.heap.size → (k = p ∨ k = g ∨ some k = av.ownBlock) → wx.heap[k]? = w.heap[k]?) (_ : b2 = b2) : WI wx base p g cap cur av L M :=
  ⟨(hb p (blk_lt h.blk) (.inl rfl)).trans h.blk, h.hp, h.hg, h.row.move (hb g h.row.lt (.inr (.inl rfl))), own_move h.said (fun k hk => hb k (h.said.lt k hk).2 (.inr (.inr hk.symm)))⟩
theorem WI.ne_pg {w : World} {base p g cap : Nat} {cur : Array Value} {av : Value} {L : List S23} {M : List Adv} (h : WI w base p g cap cur av L M) : p ≠ g := by
  rintro rfl
  have h1 := h.blk
  rw [h.row.blk] at h1
  injection h1 with h1; injection h1 with _ h2; exact absurd h2 (by decide)
theorem own_ne_blk {w : World} {base : Nat} {e t : TypeId} {size n g : Nat} {v : Value} {xs : List Value} {cs : Array Value} (h : w.ownsRow base e size v n xs) (hg : w.heap[g]? = some (.cells cs t (0, 0))) (ht : e ≠ t) : some g ≠ v.ownBlock := by
  intro e1
  obtain ⟨c, hc⟩ := own_typed h g e1.symm
  rw [hg] at hc
  injection hc with hc; injection hc with _ h2; exact ht h2.symm
/-- The cells of state i. -/
theorem WI.at {w : World} {base p g cap : Nat} {cur : Array Value} {av : Value} {L : List S23} {M : List Adv} (h : WI w base p g cap cur av L M) {i : Nat} {x : S23} (hx : L[i]? = some x) :
    w.cell? ⟨g, i * 6, none⟩ = some (.int .i64 x.f0) ∧ w.cell? ⟨g, i * 6 + 1, none⟩ = some (.int .i64 x.f1) ∧ w.cell? ⟨g, i * 6 + 2, none⟩ = some (.int .i64 x.f2) ∧ w.cell? ⟨g, i * 6 + 3, none⟩ = some (.int .i64 x.f3) ∧ w.cell? ⟨g, i * 6 + 4, none⟩ = some (.int .i64 x.f4) ∧ w.cell? ⟨g, i * 6 + 5, none⟩ = some (.int .i64 x.f5) :=
  ⟨h.row.cell (flat_get cS_length L i 0 x _ hx rfl), h.row.cell (flat_get cS_length L i 1 x _ hx rfl), h.row.cell (flat_get cS_length L i 2 x _ hx rfl), h.row.cell (flat_get cS_length L i 3 x _ hx rfl), h.row.cell (flat_get cS_length L i 4 x _ hx rfl), h.row.cell (flat_get cS_length L i 5 x _ hx rfl)⟩
theorem WI.cell0 {w : World} {base p g cap : Nat} {cur : Array Value} {av : Value} {L : List S23} {M : List Adv} (h : WI w base p g cap cur av L M) : w.cell? ⟨p, 0, none⟩ = some (.slice (some ⟨g, 0, none⟩) L.length cap) := (blk_cell h.blk 0).trans rfl
theorem WI.cell1 {w : World} {base p g cap : Nat} {cur : Array Value} {av : Value} {L : List S23} {M : List Adv} (h : WI w base p g cap cur av L M) : w.cell? ⟨p, 1, none⟩ = some av := (blk_cell h.blk 1).trans rfl
def nrow (cur : Array Value) (i : Nat) (y : S23) : Array Value := (cur.toList.take (i * 6) ++ cS y ++ cur.toList.drop (i * 6 + (cS y).length)).toArray
/-- State i is written. -/
theorem WI.store {w : World} {base p g cap : Nat} {cur : Array Value} {av : Value} {L : List S23} {M : List Adv} (h : WI w base p g cap cur av L M) {i : Nat} (hi : i < L.length) (y : S23) :
    WI (w.setRow g (nrow cur i y)) base p g cap (nrow cur i y) av (L.set i y) M := by
  refine ⟨?_, h.hp, h.hg, ?_, own_move h.said (fun k hk => setRow_other w g k _ ?_)⟩
  · rw [setRow_other w g p _ h.ne_pg, List.length_set]; exact h.blk
  · rw [List.length_set]; exact IsRow.set cS_length h.row rfl hi y
  · rintro rfl; exact own_ne_blk h.said h.row.blk (by decide) hk.symm
theorem WI.run_store {w : World} {base p g cap : Nat} {cur : Array Value} {av : Value} {L : List S23} {M : List Adv} (h : WI w base p g cap cur av L M) {i : Nat} (hi : i < L.length) (y : S23) :
    (Instr.storeAt 23 (.pointer (some ⟨g, i * 6, none⟩)) (vS y)).run Try.prog w = .ok () (w.setRow g (nrow cur i y)) := by
  refine run_store23 h.row.blk ?_ y
  have h1 := h.row.full; have h2 := h.row.le
  omega
theorem WI.frame {w : World} {base p g cap : Nat} {cur : Array Value} {av : Value} {L : List S23} {M : List Adv} (h : WI w base p g cap cur av L M) (i : Nat) (y : S23) : Fr base w (w.setRow g (nrow cur i y)) :=
  (Fr.refl base w).setRow h.row.blk (.inr (.inl rfl)) h.hg _
end Go.Proofs.Ytigobnphenhkjaa.Fns
