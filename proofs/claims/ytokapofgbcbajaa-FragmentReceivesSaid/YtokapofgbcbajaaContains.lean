/- slices.ContainsFunc over a set of numbers, where no element is in the set. -/
import Derived.Test.YtokapofgbcbajaaMapI
import Derived.Shelf.Abstract
namespace Go.Proofs.Ytokapofgbcbajaa.Fns
open Go.RowKit Go.Maps Go.Proofs.YtokapofgbcbajaaW.PrintWords Go.Proofs.YtokapofgbcbajaaW.PrintLast Go.Proofs.YtokapofgbcbajaaW.PrintMore
set_option linter.unusedVariables false
set_option linter.unusedSimpArgs false
/-- The closure of FragmentWhole: is a number in the set? -/
theorem inset_calls (W : World) (q b n : Nat) (S : Int → Bool) (x : Int) (hx : (Lit.int .i64 x).wf = true) (hc : W.cell? ⟨q, 0, none⟩ = some (.map (some b))) (hS : BSet W b S n) :
    Calls Try.prog 25 #[.int .i64 x, .pointer (some ⟨q, 0, none⟩)] W fun e w' => e = .returned (.bool (S x)) ∧ w' = W := by
  have hl := hS.look hx
  clear hS hx
  go_enter Try.func25, Try.ntmps25
  go_wp2
  go_ret
  exact ⟨rfl, rfl⟩
theorem at_nat {w : World} {A : Option Addr} {xs : List Int} (h : Kd.C (Kd.int .i64) w A xs.length xs) {j : Nat} {x : Int} (hx : xs[j]? = some x) : ∃ a, A = some a ∧ w.cell? (a.add j) = some (.int .i64 x) := by
  have hj : j < xs.length := (List.getElem?_eq_some_iff.1 hx).1
  obtain ⟨a, rfl, hr⟩ := Kd.at_int h (j : Int) (by omega) (by omega)
  refine ⟨a, rfl, ?_⟩
  have e : rd xs (j : Int) = x := by
    unfold rd
    rw [Int.toNat_natCast, List.getD_eq_getElem?_getD, hx]; rfl
  rw [e] at hr
  simpa using hr
theorem in_step {n k : Nat} (h : k < n) (hn : n ≤ 4000) : wrap64 ((k : Int) + 1) = ((k + 1 : Nat) : Int) ∧ decide ((k : Int) < (n : Int)) = true ∧ decide (k < n) = true ∧ (k : Int) < (n : Int) ∧ (0 : Int) ≤ (k : Int) := ⟨by rw [wrap_in (by omega)]; omega, decide_eq_true (by omega), decide_eq_true h, by omega, by omega⟩
theorem in_stop {n k : Nat} (h : ¬ k < n) : decide ((k : Int) < (n : Int)) = false ∧ decide (k < n) = false := ⟨decide_eq_false (by omega), decide_eq_false h⟩
theorem in_meas {n k : Nat} (h : k < n) : ((n : Int) - ((k + 1 : Nat) : Int)).toNat < ((n : Int) - (k : Int)).toNat := by omega
set_option maxRecDepth 100000 in
set_option maxHeartbeats 1000000 in
theorem index_none (w : World) (A : Option Addr) (c : Nat) (xs : List Int) (q b n : Nat) (S : Int → Bool) (hC : Kd.C (Kd.int .i64) w A xs.length xs) (hl : xs.length ≤ 4000) (hwf : ∀ x ∈ xs, (Lit.int .i64 x).wf = true)
    (hc : w.cell? ⟨q, 0, none⟩ = some (.map (some b))) (hS : BSet w b S n) (hn : ∀ x ∈ xs, S x = false) :
    Calls Try.prog 49 #[.slice A xs.length c, .func (.func 25) #[] #[.pointer (some ⟨q, 0, none⟩)]] w fun e w' => e = .returned (.int .i64 (-1)) ∧ w' = w := by
  have e25 : ∀ args w, (callFunc 25 args).run Try.prog w = .ok (.enter 25 args) w := Go.Proofs.enters_of Try.func25 (by kernel_rfl) rfl
  have HP := Aside0.mk (show ∀ x ∈ xs, Calls Try.prog 25 #[.int .i64 x, .pointer (some ⟨q, 0, none⟩)] w fun e w' => e = .returned (.bool false) ∧ w' = w from fun x hx => by
    have h := inset_calls w q b n S x (hwf x hx) hc hS
    rw [hn x hx] at h
    exact h)
  have HC := Aside0.mk hC
  have HL := Aside0.mk hl
  clear hC hwf hc hS hn hl
  obtain ⟨m, hm⟩ : ∃ m, xs.length = m := ⟨_, rfl⟩
  rw [hm]
  have HM := Aside0.mk hm
  clear hm
  go_enter Try.func49, Try.ntmps49
  go_wp2
  go_loop [5, 8] (fun t5 t8 => ∃ k : Nat, Aside0 (k ≤ m) ∧ t8 = .int .i64 (k : Int)) (fun t5 t8 => ((m : Int) - intOf t8).toNat)
  case atStart => exact ⟨0, ⟨Nat.zero_le _⟩, rfl⟩
  case round =>
    obtain ⟨k, HK, rfl⟩ := hrel
    by_cases hlt : k < m
    · obtain ⟨x, hx⟩ : ∃ x, xs[k]? = some x := ⟨_, List.getElem?_eq_getElem (by rw [HM.out]; exact hlt)⟩
      obtain ⟨a, rfl, hcell⟩ := at_nat HC.out hx
      have hcall := Aside0.mk (HP.out x (List.mem_of_getElem? hx))
      obtain ⟨h1, h2, h3, h4, h5⟩ := in_step hlt (by rw [← HM.out]; exact HL.out)
      have HLT := Aside0.mk hlt
      clear hx hlt
      go_wp2_with (go_at_fn 25; refine hcall.out.mono ?_; rintro e w' ⟨rfl, rfl⟩)
      go_round
      case rel => exact ⟨k + 1, ⟨HLT.out⟩, by go_num⟩
      case measure => rw [h1]; exact in_meas HLT.out
    · obtain ⟨h1, h2⟩ := in_stop hlt
      clear hlt
      go_wp2
      go_ret
      exact ⟨rfl, rfl⟩
theorem contains_none (w : World) (A : Option Addr) (c : Nat) (xs : List Int) (q b n : Nat) (S : Int → Bool) (hC : Kd.C (Kd.int .i64) w A xs.length xs) (hl : xs.length ≤ 4000) (hwf : ∀ x ∈ xs, (Lit.int .i64 x).wf = true)
    (hc : w.cell? ⟨q, 0, none⟩ = some (.map (some b))) (hS : BSet w b S n) (hn : ∀ x ∈ xs, S x = false) :
    Calls Try.prog 24 #[.slice A xs.length c, .func (.func 25) #[] #[.pointer (some ⟨q, 0, none⟩)]] w fun e w' => e = .returned (.bool false) ∧ w' = w := by
  have HI := Aside0.mk (index_none w A c xs q b n S hC hl hwf hc hS hn)
  clear hC hl hwf hc hS hn
  generalize xs.length = m at HI ⊢
  go_enter Try.func24, Try.ntmps24
  go_wp2_with (go_at_call 49; refine HI.out.mono ?_; rintro e w' ⟨rfl, rfl⟩)
  go_ret
  exact ⟨rfl, rfl⟩
end Go.Proofs.Ytokapofgbcbajaa.Fns
