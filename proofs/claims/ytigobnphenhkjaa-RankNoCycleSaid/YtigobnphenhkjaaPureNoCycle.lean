/- RankNoCycle: the plain law. -/
import Derived.Test.YtigobnphenhkjaaPlayInv
import Derived.Test.YtigobnphenhkjaaPureSmall
import Derived.Test.YtigobnphenhkjaaFx18
namespace Go.Proofs.Ytigobnphenhkjaa.Fns
open Go.RowKit Go.Proofs.YtigobnphenhkjaaW.PrintWords Go.Proofs.YtigobnphenhkjaaW.PrintLast Go.Proofs.YtigobnphenhkjaaW.PrintMore
/-- t is strictly later than s -/
def Lt (s t : S23) : Prop := s.f1 < t.f1 ∨ (t.f1 = s.f1 ∧ t.f5 < s.f5)
instance (s t : S23) : Decidable (Lt s t) := inferInstanceAs (Decidable (_ ∨ _))
theorem Lt.irrefl (s : S23) : ¬ Lt s s := by unfold Lt; omega
theorem Lt.trans {s t u : S23} (h1 : Lt s t) (h2 : Lt t u) : Lt s u := by unfold Lt at *; omega
theorem Inv.lt {n : Nat} {L : List S23} {M : List Adv} (h : Inv n L M) {i : Nat} (hi : i < n) : (L.getD i z23).f2 = -1 ∨ ∃ p : Nat, p < n ∧ (L.getD i z23).f2 = (p : Int) ∧ Lt (L.getD i z23) (L.getD p z23) := by
  rcases h.par i hi with h1 | ⟨p, h1, h2, h3⟩
  · exact .inl h1
  · refine .inr ⟨p, h1, h2, ?_⟩
    have hg := good_parent (h.good i hi).1 (by omega)
    unfold Past at h3
    unfold Lt
    omega
theorem parentOf_some {n : Nat} {L : List S23} {M : List Adv} (h : Inv n L M) {a b : Int} (hp : parentOf L a = some b) : ∃ i : Nat, i < n ∧ a = (i : Int) ∧ b = (L.getD i z23).f2 := by
  unfold parentOf at hp
  obtain ⟨x, hx, hb⟩ := Option.map_eq_some_iff.1 hp
  have h1 := List.find?_some hx
  have h2 := List.mem_of_find?_eq_some hx
  obtain ⟨j, hj, hxj⟩ := List.mem_iff_getElem.1 h2
  have hn := h.len
  have hg : L.getD j z23 = x := by simp [List.getD_eq_getElem?_getD, hj, hxj]
  have h3 := (h.good j (by omega)).2
  rw [hg] at h3
  refine ⟨j, by omega, ?_, ?_⟩
  · rw [← h3]; exact (beq_iff_eq.1 h1).symm
  · rw [hg]; exact hb.symm
theorem wayC_none {n : Nat} {L : List S23} {M : List Adv} (h : Inv n L M) (s : Int) : ∀ (k : Nat) (at_ : Int) (way : List Int),
    (∀ i : Nat, i < n → at_ = (i : Int) → at_ = s ∨ ∃ j : Nat, j < n ∧ s = (j : Int) ∧ Lt (L.getD j z23) (L.getD i z23)) → wayC L s k at_ way = none := by
  intro k
  induction k with
  | zero => intro at_ way _; rfl
  | succ k ih =>
    intro at_ way hc
    unfold wayC
    cases hp : parentOf L at_ with
    | none => rfl
    | some next =>
      obtain ⟨i, hi, ha, hb⟩ := parentOf_some h hp
      have hl := h.lt hi
      have hs := hc i hi ha
      show (if next = s then some (way ++ [at_]) else wayC L s k next (way ++ [at_])) = none
      have hne : ¬ next = s := by
        intro e
        rcases hl with hl | ⟨p, p1, p2, p3⟩
        · rcases hs with hs | ⟨j, j1, j2, j3⟩ <;> omega
        · rcases hs with hs | ⟨j, j1, j2, j3⟩
          · have : i = p := by omega
            subst this
            exact Lt.irrefl _ p3
          · have : j = p := by omega
            subst this
            exact Lt.irrefl _ (p3.trans j3)
      rw [if_neg hne]
      refine ih next _ ?_
      intro q hq hnq
      right
      rcases hl with hl | ⟨p, p1, p2, p3⟩
      · omega
      · have : q = p := by omega
        subst this
        rcases hs with hs | ⟨j, j1, j2, j3⟩
        · exact ⟨i, hi, by omega, p3⟩
        · exact ⟨j, j1, j2, j3.trans p3⟩
theorem firstC_none {n : Nat} {L : List S23} {M : List Adv} (h : Inv n L M) : ∀ cs : List Int, firstC L cs = []
  | [] => rfl
  | s :: r => by
    unfold firstC
    rw [wayC_none h s _ s [] (fun i _ _ => .inl rfl)]
    exact firstC_none h r
theorem cycle_none {n : Nat} {L : List S23} {M : List Adv} (h : Inv n L M) (h1 : 1 ≤ n) : rank_Cycle.f L = some [] := by
  unfold rank_Cycle.f
  have := h.small
  have := h.len
  rw [if_pos (by omega)]
  exact congrArg some (firstC_none h _)
theorem countP_lt {p q : Nat → Bool} : ∀ (l : List Nat), (∀ x, p x = true → q x = true) → ∀ a, a ∈ l → p a = false → q a = true → l.countP p < l.countP q
  | [], _, a, h, _, _ => by simp at h
  | x :: r, hpq, a, h, h1, h2 => by
    have hle : ∀ l : List Nat, l.countP p ≤ l.countP q := fun l => List.countP_mono_left (fun y _ => hpq y)
    rw [List.countP_cons, List.countP_cons]
    rcases List.mem_cons.1 h with rfl | h
    · rw [h1, h2]
      have := hle r
      simp
      omega
    · have := countP_lt r hpq a h h1 h2
      by_cases hx : p x = true
      · rw [hx, hpq x hx]; simp; omega
      · rw [Bool.not_eq_true] at hx
        rw [hx]
        simp
        omega
def cnt (n : Nat) (L : List S23) (i : Nat) : Nat := (List.range n).countP (fun j => decide (Lt (L.getD i z23) (L.getD j z23)))
theorem cnt_lt {n : Nat} (L : List S23) {i : Nat} (hi : i < n) : cnt n L i < n := by
  have h := countP_lt (p := fun j => decide (Lt (L.getD i z23) (L.getD j z23))) (q := fun _ => true) (List.range n) (fun _ _ => rfl) i (List.mem_range.2 hi) (decide_eq_false (Lt.irrefl _)) rfl
  rw [List.countP_true, List.length_range] at h
  exact h
theorem cnt_down {n : Nat} {L : List S23} {i p : Nat} (hp : p < n) (h : Lt (L.getD i z23) (L.getD p z23)) : cnt n L p < cnt n L i := by
  refine countP_lt _ (fun j hj => ?_) p (List.mem_range.2 hp) (decide_eq_false (Lt.irrefl _)) (decide_eq_true h)
  exact decide_eq_true (h.trans (of_decide_eq_true hj))
theorem nc_l2 {n : Nat} {L : List S23} {M : List Adv} (h : Inv n L M) (l : List S50) (b i j : Int) (R : Nat) (hcont : ∀ K, R ≤ K → hopmeshlaw22_RankNoCycle.l1 K l (n : Int) L b i (n : Int) (wrap64 (j + 1)) = some true) :
    ∀ (r t K : Nat) (at_ : Int), t + r = n → (at_ = -1 ∨ ∃ q : Nat, q < n ∧ at_ = (q : Int) ∧ cnt n L q < r) → r + 1 + R ≤ K →
      hopmeshlaw22_RankNoCycle.l2 K l (n : Int) L at_ b i (n : Int) j (n : Int) (t : Int) = some true := by
  intro r
  have hsm := h.small
  have hlen := h.len
  induction r with
  | zero =>
    intro t K at_ ht ha hK
    obtain ⟨K, rfl⟩ : ∃ K', K = K' + 1 := ⟨K - 1, by omega⟩
    have ha : at_ = -1 := by rcases ha with ha | ⟨q, _, _, h3⟩ <;> omega
    rw [hopmeshlaw22_RankNoCycle.l2, if_neg (by omega), if_pos ha]
    exact hcont K (by omega)
  | succ r ih =>
    intro t K at_ ht ha hK
    obtain ⟨K, rfl⟩ : ∃ K', K = K' + 1 := ⟨K - 1, by omega⟩
    rw [hopmeshlaw22_RankNoCycle.l2, if_pos (by omega), wrap_small (by omega), show ((t : Int) + 1) = ((t + 1 : Nat) : Int) by omega]
    rcases ha with ha | ⟨q, q1, q2, q3⟩
    · rw [if_neg (by omega)]
      exact ih (t + 1) K at_ (by omega) (.inl ha) (by omega)
    · rw [if_pos (by omega), if_pos (by omega), if_pos (by omega), if_pos (by omega), q2, rd_nat]
      refine ih (t + 1) K _ (by omega) ?_ (by omega)
      rcases h.lt q1 with hl | ⟨p, p1, p2, p3⟩
      · exact .inl hl
      · exact .inr ⟨p, p1, p2, by have := cnt_down p1 p3; omega⟩
theorem nc_l1 {n : Nat} {L : List S23} {M : List Adv} (h : Inv n L M) (l : List S50) (b i : Int) (R : Nat) (hcont : ∀ K, R ≤ K → hopmeshlaw22_RankNoCycle.l0 K l (n : Int) b (wrap64 (i + 1)) = some true) :
    ∀ (r j K : Nat), j + r = n → r * (n + 2) + 1 + R ≤ K → hopmeshlaw22_RankNoCycle.l1 K l (n : Int) L b i (n : Int) (j : Int) = some true := by
  intro r
  have hsm := h.small
  induction r with
  | zero =>
    intro j K hj hK
    obtain ⟨K, rfl⟩ : ∃ K', K = K' + 1 := ⟨K - 1, by omega⟩
    rw [hopmeshlaw22_RankNoCycle.l1, if_neg (by omega)]
    exact hcont K (by omega)
  | succ r ih =>
    intro j K hj hK
    obtain ⟨K, rfl⟩ : ∃ K', K = K' + 1 := ⟨K - 1, by omega⟩
    rw [hopmeshlaw22_RankNoCycle.l1, if_pos (by omega)]
    rw [Nat.add_mul, Nat.one_mul] at hK
    refine nc_l2 h l b i (j : Int) (r * (n + 2) + 1 + R) ?_ n 0 K (j : Int) (by omega) (.inr ⟨j, by omega, rfl, cnt_lt L (by omega)⟩) (by omega)
    intro K' hK'
    rw [wrap_small (by omega), show ((j : Int) + 1) = ((j + 1 : Nat) : Int) by omega]
    exact ih (j + 1) K' (by omega) hK'
theorem nc_l0 {n : Nat} (n1 : 1 ≤ n) (n8 : n ≤ 8) (l : List S50) (hl : l.length ≤ 60) : ∀ (m i K : Nat), i + m = l.length + 1 → m * 100 + 1 ≤ K →
    hopmeshlaw22_RankNoCycle.l0 K l (n : Int) ((l.length : Int) + 1) (i : Int) = some true := by
  intro m
  induction m with
  | zero =>
    intro i K hi hK
    obtain ⟨K, rfl⟩ : ∃ K', K = K' + 1 := ⟨K - 1, by omega⟩
    rw [hopmeshlaw22_RankNoCycle.l0, if_neg (by omega)]
  | succ m ih =>
    intro i K hi hK
    obtain ⟨K, rfl⟩ : ∃ K', K = K' + 2 := ⟨K - 2, by omega⟩
    have hpl : rank_Play.f (n : Int) (l.take i) = some (play (n : Int) (l.take i)) := rfl
    have hle : (l.take i).length ≤ 4096 := by rw [List.length_take]; omega
    rw [hopmeshlaw22_RankNoCycle.l0, if_pos (by omega), if_pos (by omega), if_pos (by omega), Int.toNat_natCast, hpl, Option.bind_some]
    by_cases he : (play (n : Int) (l.take i)).2 = 0
    · obtain ⟨_, q2, q3⟩ := play_inv n1 (by omega) hle he
      rw [if_pos he, q2, q3.len, if_pos rfl, cycle_none q3 n1, Option.bind_some]
      rw [show decide ((([] : List Int).length : Int) > 0) = false from rfl]
      rw [hopmeshlaw22_RankNoCycle.j1, if_neg (by decide), q3.len]
      have hn : n * (n + 2) ≤ 8 * (8 + 2) := Nat.mul_le_mul n8 (by omega)
      refine nc_l1 q3 l _ (i : Int) (m * 100 + 1) ?_ n 0 K (by omega) (by omega)
      intro K' hK'
      rw [wrap_small (by omega), show ((i : Int) + 1) = ((i + 1 : Nat) : Int) by omega]
      exact ih (i + 1) K' (by omega) hK'
    · rw [if_neg he, play_err n1 (by omega) hle he]
      rfl
theorem nocycle_pure (a : Int) (l : List S50) (h0 : 0 ≤ a) (h1 : a < 256) : ∃ k, hopmeshlaw22_RankNoCycle.f k a l = some true := by
  obtain ⟨n, n1, n2, hn⟩ := nodes_eq h0 h1
  refine ⟨6300 + 9, ?_⟩
  unfold hopmeshlaw22_RankNoCycle.f
  rw [awake_k, Option.bind_some, if_pos rfl, hn]
  by_cases hl : (l.length : Int) > 60
  · rw [if_pos hl]
  · rw [if_neg hl, wrap_small (by omega)]
    exact nc_l0 n1 n2 l (by omega) (l.length + 1) 0 _ (by omega) (by omega)
theorem nocycle_walk (a : Int) (A : Option Addr) (c : Nat) (l : List S50) (w : World) (hw : (Lit.int .u8 a).wf = true) (hC : Kd.C k50 w A l.length l) (hc : l.length ≤ c) :
    Calls Try.prog 6 #[.int .u8 a, .slice A l.length c] w fun e w' => e = .returned (.bool true) ∧ Below w.heap.size w w' := by
  obtain ⟨h0, h1⟩ := u8_range hw
  obtain ⟨k, h⟩ := nocycle_pure a l h0 h1
  exact hopmeshlaw22_RankNoCycle.calls k a A c l true w hC hc h
end Go.Proofs.Ytigobnphenhkjaa.Fns
