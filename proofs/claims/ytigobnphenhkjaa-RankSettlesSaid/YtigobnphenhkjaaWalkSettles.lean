/- RankSettles: the walk and the plain law together. -/
import Derived.Test.YtigobnphenhkjaaSettlesCalls
import Derived.Test.YtigobnphenhkjaaPureSettles2
namespace Go.Proofs.Ytigobnphenhkjaa.Fns
open Go.RowKit Go.Proofs.YtigobnphenhkjaaW.PrintWords Go.Proofs.YtigobnphenhkjaaW.PrintLast Go.Proofs.YtigobnphenhkjaaW.PrintMore
theorem settles_walk (A : Option Addr) (c : Nat) (l : List S50) (a : Int) (A2 : Option Addr) (c2 : Nat) (l2 : List Int) (w : World) (hC : Kd.C k50 w A l.length l) (hc : l.length ≤ c)
    (hw : (Lit.int .u8 a).wf = true) (hC2 : Kd.C (Kd.int .u8) w A2 l2.length l2) (hc2 : l2.length ≤ c2) (hb : ∀ x ∈ l2, (Lit.int .u8 x).wf = true) :
    Calls Try.prog 9 #[.slice A l.length c, .int .u8 a, .slice A2 l2.length c2] w fun e w' => e = .returned (.bool true) ∧ Below w.heap.size w w' := by
  obtain ⟨h0, h1⟩ := u8_range hw
  obtain ⟨k, h⟩ := settles_pure l a l2 h0 h1 (fun x hx => u8_range (hb x hx))
  exact hopmeshlaw22_RankSettles.calls k A c l a A2 c2 l2 true w hC hc hC2 hc2 h
end Go.Proofs.Ytigobnphenhkjaa.Fns
