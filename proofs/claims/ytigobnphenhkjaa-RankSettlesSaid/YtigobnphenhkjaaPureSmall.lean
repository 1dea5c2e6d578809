/- Small words that the plain laws share. -/
import Derived.Test.YtigobnphenhkjaaPureawake
import Derived.OpenShut
namespace Go.Proofs.Ytigobnphenhkjaa.Fns
open Go.RowKit Go.Proofs.YtigobnphenhkjaaW.PrintWords Go.Proofs.YtigobnphenhkjaaW.PrintLast Go.Proofs.YtigobnphenhkjaaW.PrintMore
theorem wrap_small {a : Int} (h : -1000000 ≤ a ∧ a ≤ 1000000) : wrap64 a = a := by unfold wrap64; omega
theorem nodes_eq {a : Int} (h0 : 0 ≤ a) (h1 : a < 256) : ∃ n : Nat, 1 ≤ n ∧ n ≤ 8 ∧ wrap64 (1 + (Int.tmod (wrap64 a) 8)) = (n : Int) := by
  have h2 : wrap64 a = a := wrap_small (by omega)
  have h3 : 0 ≤ a.tmod 8 := Int.tmod_nonneg _ h0
  have h4 : a.tmod 8 < 8 := Int.tmod_lt_of_pos _ (by decide)
  rw [h2, wrap_small (by omega)]
  exact ⟨(1 + a.tmod 8).toNat, by omega, by omega, by omega⟩
theorem awake_k : ∀ k, hopmeshlaw22_awake.f (k + 9) = some true := by
  intro k
  have h : hopmeshlaw22_awake.f 9 = some true := Pure.awake9
  induction k with
  | zero => exact h
  | succ k ih => exact hopmeshlaw22_awake.mono _ _ ih
theorem rd_nat (L : List S23) (i : Nat) : rd_T23 L (i : Int) = L.getD i z23 := by unfold rd_T23; rw [Int.toNat_natCast]
theorem u8_range {a : Int} (h : (Lit.int .u8 a).wf = true) : 0 ≤ a ∧ a < 256 := by
  have := bounds_u8 h
  omega
end Go.Proofs.Ytigobnphenhkjaa.Fns
