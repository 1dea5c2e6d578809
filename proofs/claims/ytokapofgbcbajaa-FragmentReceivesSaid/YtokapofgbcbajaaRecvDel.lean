/- The closure of Receive, and maps.DeleteFunc over it: its library contract, laid over this dump. -/
import Derived.Shelf.SlMaps.DeleteFunc
import Derived.Test.YtokapofgbcbajaaRecvMap
namespace Go.Proofs
open Go.Shelf
def Try.delLays_ren : Go.Shelf.Ren := ⟨fun | 5 => 44 | n => n, fun | 0 => 0 | 4 => 4 | 23 => 77 | 24 => 81 | 26 => 3 | 27 => 85 | n => n, fun | n => n⟩
theorem Try.delLays : Go.Proofs.SlLaysDf.n5 Try.prog Try.delLays_ren := {
  mixed := by kernel_rfl
  f5 := ⟨Try.f44.name, by decide, Try.func44.trans (congrArg some (by kernel_rfl))⟩
  t0 := Try.underlying0
  a0 := Try.isAgg0
  z0 := Try.sizeOf0
  v0 := Try.zeroValue0
  t4 := Try.underlying4
  a4 := Try.isAgg4
  z4 := Try.sizeOf4
  v4 := Try.zeroValue4
  t23 := Try.underlying77
  a23 := Try.isAgg77
  z23 := Try.sizeOf77
  v23 := Try.zeroValue77
  a24 := Try.isAgg81
  z24 := Try.sizeOf81
  a26 := Try.isAgg3
  z26 := Try.sizeOf3
  t27 := Try.underlying85
  a27 := Try.isAgg85
  z27 := Try.sizeOf85
  v27 := Try.zeroValue85
}
namespace Ytokapofgbcbajaa.Fns
open Go.RowKit Go.Maps Go.Proofs.YtokapofgbcbajaaW.PrintWords Go.Proofs.YtokapofgbcbajaaW.PrintLast Go.Proofs.YtokapofgbcbajaaW.PrintMore
set_option linter.unusedVariables false
set_option linter.unusedSimpArgs false
set_option maxHeartbeats 1000000 in
theorem clos_calls (W : World) (c p B : Nat) (key last time hold : Int) (hs : wrap64 (time - hold) = time - hold) (hc : W.cell? ⟨c, 0, none⟩ = some (.pointer (some ⟨p, 0, none⟩))) (h0 : W.cell? ⟨p, 0, none⟩ = some (.int .i64 hold)) (h1 : W.cell? ⟨p, 1, none⟩ = some (.int .i64 time)) (h3 : W.cell? ⟨B, 3, none⟩ = some (.int .i64 last)) :
    Calls Try.prog 45 #[.int .i64 key, .pointer (some ⟨B, 0, none⟩), .pointer (some ⟨c, 0, none⟩)] W fun e w' => e = .returned (.bool (decide (last < time - hold))) ∧ ∃ n, w' = W.drewN n := by
  have hu79 := Try.underlying79
  have hu84 := Try.underlying84
  go_enter Try.func45, Try.ntmps45
  go_wp2
  go_quiet (fail)
  go_wp2
  go_ret
  exact ⟨rfl, _, rfl⟩
theorem delete_calls {w : World} {base p b : Nat} {hold time : Int} {live : List Nat} {es : List Ent} (h : RW w base p b hold time live es) (c : Nat) (hs : wrap64 (time - hold) = time - hold) (hc : w.cell? ⟨c, 0, none⟩ = some (.pointer (some ⟨p, 0, none⟩))) (hcb : c ≠ b) :
    Calls Try.prog 44 #[.map (some b), .func (.func 45) #[] #[.pointer (some ⟨c, 0, none⟩)]] w fun e w' => e = .returned (.tuple #[]) ∧ RW w' base p b hold time live (kept (time - hold) es) ∧ w.grownBy w' (some b) := by
  refine (AnyDf.maps_DeleteFunc Try.delLays key3 (pR live) (pdel w (time - hold)) 45 #[.pointer (some ⟨c, 0, none⟩)] b es.length (mD es) w (enters_of Try.func45 (by kernel_rfl) rfl) h.map ?_).mono ?_
  · intro W key val kl yd yp hg hkey hR
    obtain ⟨B, hB, rfl, hz⟩ := pR_inv hR
    obtain ⟨x, rfl, _, _⟩ := Maps.keyOf_int_inv Try.underlying3 hkey
    obtain ⟨_, d, hd⟩ := h.lives B hB
    have k0 := cell_grown h.c0 hg (fun e => h.ne_pb (Option.some.inj e).symm)
    have k1 := cell_grown h.c1 hg (fun e => h.ne_pb (Option.some.inj e).symm)
    have k3 := cell_grown hd.cells.2.2.2.1 hg (fun e => (h.ne_dg hB).1 (Option.some.inj e).symm)
    have kc := cell_grown hc hg (fun e => hcb (Option.some.inj e).symm)
    refine (clos_calls W c p B x d.lst time hold hs kc k0 k1 k3).mono ?_
    rintro e w' ⟨rfl, n, rfl⟩
    have e1 : yd = .lit (.int .i64 (B : Int)) := congrArg Prod.fst hz
    subst e1
    refine ⟨?_, grown_of_below (Drawn0.below ⟨⟨n, rfl⟩⟩) none⟩
    show _ = Ending.returned (.bool (decide (lastOf w (B : Int) < time - hold)))
    rw [lastOf_at hd]
  · rintro e w' ⟨rfl, hown, hg⟩
    exact ⟨rfl, h.deleted hown hg, hg⟩
end Ytokapofgbcbajaa.Fns
end Go.Proofs
