/- RankFalls: the plain law. -/
import Derived.Test.YtigobnphenhkjaaPlayInv
import Derived.Test.YtigobnphenhkjaaPureSmall
import Derived.Test.YtigobnphenhkjaaFx19
import Derived.OpenShut
namespace Go.Proofs.Ytigobnphenhkjaa.Fns
open Go.RowKit Go.Proofs.YtigobnphenhkjaaW.PrintWords Go.Proofs.YtigobnphenhkjaaW.PrintLast Go.Proofs.YtigobnphenhkjaaW.PrintMore
theorem falls_loop {n : Nat} {L : List S23} {M : List Adv} (h : Inv n L M) : ∀ (m i K : Nat), i + m = n → 2 * m + 5 ≤ K → hopmeshlaw22_RankFalls.l0 K (n : Int) L L (n : Int) (i : Int) = some true := by
  intro m
  induction m with
  | zero =>
    intro i K hi hK
    obtain ⟨K, rfl⟩ : ∃ K', K = K' + 1 := ⟨K - 1, by omega⟩
    rw [hopmeshlaw22_RankFalls.l0, if_neg (by omega)]
  | succ m ih =>
    intro i K hi hK
    obtain ⟨K, rfl⟩ : ∃ K', K = K' + 4 := ⟨K - 4, by omega⟩
    have hin : i < n := by omega
    obtain ⟨hg, h0⟩ := h.good i hin
    have hlen := h.len
    rw [hopmeshlaw22_RankFalls.l0, if_pos (by omega), if_pos (by omega), if_pos (by omega), rd_nat, Check_eq, Option.bind_some, if_pos ((chk_zero _).2 hg), if_pos h0]
    have hn8 := h.small
    have hnext : hopmeshlaw22_RankFalls.l0 (K + 2) (n : Int) L L (n : Int) (wrap64 ((i : Int) + 1)) = some true := by
      rw [wrap_small (by omega)]
      have := ih (i + 1) (K + 2) (by omega) (by omega)
      rw [show ((i : Int) + 1) = ((i + 1 : Nat) : Int) by omega]
      exact this
    have hp2 : (L.getD i z23).f2 = -1 ∨ ∃ p : Nat, p < n ∧ (L.getD i z23).f2 = (p : Int) ∧ Past (L.getD p z23) (L.getD i z23).f1 (L.getD i z23).f3 := h.par i hin
    rw [if_neg (by rcases hp2 with hp | ⟨p, q1, q2, _⟩ <;> omega), decide_eq_false (by rcases hp2 with hp | ⟨p, q1, q2, _⟩ <;> omega)]
    rw [hopmeshlaw22_RankFalls.j2, if_neg (by decide)]
    rcases hp2 with hp | ⟨p, q1, q2, q3⟩
    · rw [if_pos hp]
      exact hnext
    · have hne : (L.getD i z23).f2 ≠ -1 := by omega
      obtain ⟨g1, g2, g3, g4, g5, g6, g7, g8⟩ := good_parent hg hne
      rw [if_neg hne, if_pos (by omega), if_pos (by omega), q2, rd_nat]
      unfold Past at q3
      rw [if_neg (by omega)]
      by_cases he : (L.getD p z23).f1 = (L.getD i z23).f1
      · rw [if_pos he, if_neg (by omega), if_neg (by omega), if_neg (by omega)]
        exact hnext
      · rw [if_neg he, if_neg (by omega), if_neg (by omega)]
        exact hnext
theorem falls_pure (a : Int) (l : List S50) (h0 : 0 ≤ a) (h1 : a < 256) : ∃ k, hopmeshlaw22_RankFalls.f k a l = some true := by
  obtain ⟨n, n1, n2, hn⟩ := nodes_eq h0 h1
  refine ⟨31 + 9, ?_⟩
  unfold hopmeshlaw22_RankFalls.f
  rw [awake_k, Option.bind_some, if_pos rfl, hn]
  have hpl : rank_Play.f (n : Int) l = some (play (n : Int) l) := rfl
  rw [hpl, Option.bind_some]
  by_cases hl : (l.length : Int) > 60
  · rw [if_pos hl, hopmeshlaw22_RankFalls.j0, if_pos rfl]
  · rw [if_neg hl]
    by_cases he : (play (n : Int) l).2 = 0
    · rw [he, hopmeshlaw22_RankFalls.j0, if_neg (by decide)]
      obtain ⟨_, q2, q3⟩ := play_inv n1 (by omega) (by omega) he
      rw [q2, q3.len, if_pos rfl]
      exact falls_loop q3 n 0 _ (by omega) (by omega)
    · rw [hopmeshlaw22_RankFalls.j0, if_pos (by simpa using he)]
theorem falls_walk (a : Int) (A : Option Addr) (c : Nat) (l : List S50) (w : World) (hw : (Lit.int .u8 a).wf = true) (hC : Kd.C k50 w A l.length l) (hc : l.length ≤ c) :
    Calls Try.prog 7 #[.int .u8 a, .slice A l.length c] w fun e w' => e = .returned (.bool true) ∧ Below w.heap.size w w' := by
  obtain ⟨h0, h1⟩ := u8_range hw
  obtain ⟨k, h⟩ := falls_pure a l h0 h1
  exact hopmeshlaw22_RankFalls.calls k a A c l true w hC hc h
end Go.Proofs.Ytigobnphenhkjaa.Fns
