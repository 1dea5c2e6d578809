/- RankSettles: the printed law answers true. -/
import Derived.Test.YtigobnphenhkjaaPureSettles
import Derived.Test.YtigobnphenhkjaaSettlesDef
namespace Go.Proofs.Ytigobnphenhkjaa.Fns
open Go.RowKit Go.Proofs.YtigobnphenhkjaaW.PrintWords Go.Proofs.YtigobnphenhkjaaW.PrintLast Go.Proofs.YtigobnphenhkjaaW.PrintMore
def st0 (n : Nat) : List S23 × List Adv := (startL n, [])
theorem rd_get50 {l : List S50} {i : Nat} (hi : i < l.length) : rd_T50 l (i : Int) = l[i] := by
  unfold rd_T50
  rw [Int.toNat_natCast, List.getD_eq_getElem?_getD, List.getElem?_eq_getElem hi]
  rfl
theorem play_eq {n : Nat} {l : List S50} (h1 : 1 ≤ n) (hn : n ≤ 32) (hl : l.length ≤ 4096) (h : ∀ x ∈ l, evErr (n : Int) x = 0) : rank_Play.f (n : Int) l = some ((foldE l (st0 n)).1, 0) := by
  show some (play (n : Int) l) = _
  rw [play_all h1 hn hl h]
  rfl
theorem inv_of {n : Nat} {l : List S50} (h1 : 1 ≤ n) (hn : n ≤ 32) (h : ∀ x ∈ l, evErr (n : Int) x = 0) : Inv n (foldE l (st0 n)).1 (foldE l (st0 n)).2 := Inv.fold l (st := st0 n) (Inv.start h1 hn) h
theorem len_bne {a b : Nat} (h : a = b) : ((a : Int) != (b : Int)) = false := by rw [h]; exact bne_self_eq_false _
theorem count_loop {n : Nat} {all : List S50} (hn : 1 ≤ n) (hn32 : n ≤ 32) (hall : ∀ x ∈ all, evErr (n : Int) x = 0) (hlen : all.length ≤ 100) (x2 : List Int) (KK : Nat)
    (hl1 : ∀ K', KK ≤ K' → hopmeshlaw22_RankSettles.l1 K' x2 (n : Int) all ((foldE all (st0 n)).2.length : Int) [0] 1 = some true) :
    ∀ m i K, i + m = all.length → KK + 2 * m + 1 ≤ K → hopmeshlaw22_RankSettles.l0 K x2 (n : Int) all ((foldE (all.take i) (st0 n)).2.length : Int) (all.length : Int) (i : Int) = some true := by
  intro m
  induction m with
  | zero =>
    intro i K hi hK
    obtain ⟨K, rfl⟩ : ∃ K', K = K' + 1 := ⟨K - 1, by omega⟩
    rw [hopmeshlaw22_RankSettles.l0, if_neg (by omega), List.take_of_length_le (by omega)]
    exact hl1 K (by omega)
  | succ m ih =>
    intro i K hi hK
    obtain ⟨K, rfl⟩ : ∃ K', K = K' + 2 := ⟨K - 2, by omega⟩
    have hil : i < all.length := by omega
    have hpre : ∀ x ∈ all.take i, evErr (n : Int) x = 0 := fun x hx => hall x (List.mem_of_mem_take hx)
    have hx := hall (all[i]) (List.getElem_mem hil)
    have hinv := inv_of hn hn32 hpre
    have hs := said_step hinv hx
    rw [← foldE_take hil] at hs
    have hw : wrap64 ((i : Int) + 1) = ((i + 1 : Nat) : Int) := by rw [wrap_small (by omega)]; omega
    have hsm : (foldE (all.take i) (st0 n)).2.length ≤ 100 := by
      have h1 : ∀ j, j ≤ i → (foldE (all.take j) (st0 n)).2.length ≤ j := by
        intro j
        induction j with
        | zero => intro _; simp [foldE, st0]
        | succ j ihj =>
          intro hj
          have hjl : j < all.length := by omega
          have h2 := said_step (inv_of (l := all.take j) hn hn32 (fun x hx => hall x (List.mem_of_mem_take hx))) (hall (all[j]) (List.getElem_mem hjl))
          rw [← foldE_take hjl] at h2
          have h3 := ihj (by omega)
          rw [h2]
          split <;> omega
      have := h1 i (Nat.le_refl _)
      omega
    have hnext : ∀ K', KK + 2 * m + 1 ≤ K' → hopmeshlaw22_RankSettles.l0 K' x2 (n : Int) all ((foldE (all.take (i + 1)) (st0 n)).2.length : Int) (all.length : Int) (wrap64 ((i : Int) + 1)) = some true := by
      intro K' hK'
      rw [hw]
      exact ih (i + 1) K' (by omega) hK'
    rw [hopmeshlaw22_RankSettles.l0, if_pos (by omega), if_pos (by omega), if_pos (by omega), rd_get50 hil]
    by_cases h1 : (all[i]).f0 = 1
    · rw [if_pos h1, if_pos (by omega), Int.toNat_natCast, play_eq hn hn32 (by simp; omega) hpre, Option.bind_some, if_pos rfl]
      obtain ⟨e1, e2⟩ := ev_node hx
      rw [len_bne hinv.len, hopmeshlaw22_RankSettles.j2, if_neg (by decide), if_pos (by omega), if_pos (by omega), rd_get50 hil, if_pos (by omega), if_pos (by rw [hinv.len]; omega), ← e2, rd_nat]
      by_cases h4 : ((foldE (all.take i) (st0 n)).1.getD (all[i]).f1.toNat z23).f4 = 65535
      · rw [if_pos h4]
        rw [if_neg (fun h2 : (all[i]).f0 = 1 ∧ ((foldE (all.take i) (st0 n)).1.getD (all[i]).f1.toNat z23).f4 ≠ 65535 => h2.2 h4)] at hs
        rw [← hs]
        exact hnext _ (by omega)
      · rw [if_neg h4]
        rw [if_pos ⟨h1, h4⟩] at hs
        rw [wrap_small (by omega), show (((foldE (all.take i) (st0 n)).2.length : Int) + 1) = ((foldE (all.take (i + 1)) (st0 n)).2.length : Int) by rw [hs]; omega]
        exact hnext _ (by omega)
    · rw [if_neg h1]
      rw [if_neg (fun h2 : (all[i]).f0 = 1 ∧ ((foldE (all.take i) (st0 n)).1.getD (all[i]).f1.toNat z23).f4 ≠ 65535 => h1 h2.1)] at hs
      rw [← hs]
      exact hnext _ (by omega)
def costAt (x2 : List Int) (i : Nat) : Int := if i < x2.length then 1 + x2.getD i 0 else 1
def want (x2 : List Int) : Nat → Int
  | 0 => 0
  | i + 1 => want x2 i + costAt x2 i
theorem cost_le {x2 : List Int} (h : ∀ x ∈ x2, 0 ≤ x ∧ x < 256) (i : Nat) : 1 ≤ costAt x2 i ∧ costAt x2 i ≤ 256 := by
  unfold costAt
  split
  · rename_i hi
    have := h (x2.getD i 0) (by rw [List.getD_eq_getElem?_getD, List.getElem?_eq_getElem hi]; exact List.getElem_mem hi)
    omega
  · omega
theorem want_le {x2 : List Int} (h : ∀ x ∈ x2, 0 ≤ x ∧ x < 256) : ∀ i : Nat, 0 ≤ want x2 i ∧ want x2 i ≤ 256 * i
  | 0 => by simp [want]
  | i + 1 => by
    have h1 := want_le h i
    have h2 := cost_le h i
    rw [want]
    omega
theorem wants_length (x2 : List Int) (k : Nat) : ((List.range k).map (want x2)).length = k := by simp
theorem wants_get (x2 : List Int) {k i : Nat} (hi : i < k) : rd ((List.range k).map (want x2)) (i : Int) = want x2 i := by
  unfold rd
  rw [Int.toNat_natCast]
  simp [List.getD_eq_getElem?_getD, hi]
theorem wants_succ (x2 : List Int) (k : Nat) : (List.range (k + 1)).map (want x2) = (List.range k).map (want x2) ++ [want x2 k] := by simp [List.range_succ]
theorem check_loop {n : Nat} {L : List S23} {x2 : List Int} (hlen : L.length = n) (hn : n ≤ 32) (hd : ∀ j, j < n → (L.getD j z23).f4 = want x2 j ∧ (L.getD j z23).f2 = (j : Int) - 1) :
    ∀ m i K, i + m = n → m + 1 ≤ K → hopmeshlaw22_RankSettles.l2 K ((List.range n).map (want x2)) L (n : Int) (i : Int) = some true := by
  intro m
  induction m with
  | zero =>
    intro i K hi hK
    obtain ⟨K, rfl⟩ : ∃ K', K = K' + 1 := ⟨K - 1, by omega⟩
    rw [hopmeshlaw22_RankSettles.l2, if_neg (by omega)]
  | succ m ih =>
    intro i K hi hK
    obtain ⟨K, rfl⟩ : ∃ K', K = K' + 1 := ⟨K - 1, by omega⟩
    have hin : i < n := by omega
    obtain ⟨h1, h2⟩ := hd i hin
    rw [hopmeshlaw22_RankSettles.l2, if_pos (by omega), if_pos (by omega), if_pos (by omega), wants_length, if_pos (by omega), rd_nat, wants_get x2 hin, if_pos h1, if_pos (by rw [h2, wrap_small (by omega)]),
      wrap_small (by omega), show ((i : Int) + 1) = ((i + 1 : Nat) : Int) by omega]
    exact ih (i + 1) K (by omega) (by omega)
theorem line_loop {n : Nat} {E : Int} {x2 : List Int} (hn : 1 ≤ n) (hn8 : n ≤ 8) (hx2 : ∀ x ∈ x2, 0 ≤ x ∧ x < 256) :
    ∀ (m k : Nat) (A : List S50) (K : Nat), k + m = n → 1 ≤ k → Line n k E (want x2) (foldE A (st0 n)).1 (foldE A (st0 n)).2 → (∀ x ∈ A, evErr (n : Int) x = 0) → A.length + 2 * m ≤ 100 → (foldE A (st0 n)).2.length + m ≤ 200 →
      m + 20 ≤ K → hopmeshlaw22_RankSettles.l1 K x2 (n : Int) A ((foldE A (st0 n)).2.length : Int) ((List.range k).map (want x2)) (k : Int) = some true := by
  intro m
  induction m with
  | zero =>
    intro k A K hk h1 hL hA hAl hMl hK
    obtain ⟨K, rfl⟩ : ∃ K', K = K' + 2 := ⟨K - 2, by omega⟩
    obtain rfl : k = n := by omega
    rw [hopmeshlaw22_RankSettles.l1, if_neg (by omega), play_eq hn (by omega) (by omega) hA, Option.bind_some, if_pos rfl]
    show hopmeshlaw22_RankSettles.j4 (K + 1) (foldE A (st0 k)).1 _ (((foldE A (st0 k)).1.length : Int) != (k : Int)) = _
    rw [len_bne hL.inv.len, hopmeshlaw22_RankSettles.j4, if_neg (by decide), hL.inv.len]
    exact check_loop hL.inv.len (by omega) (fun j hj => ⟨(hL.done j hj).2.1, (hL.done j hj).2.2⟩) k 0 K (by omega) (by omega)
  | succ m ih =>
    intro k A K hk h1 hL hA hAl hMl hK
    obtain ⟨K, rfl⟩ : ∃ K', K = K' + 1 := ⟨K - 1, by omega⟩
    have hkn : k < n := by omega
    have hk1 : k - 1 < k := by omega
    have hi1 : wrap64 ((k : Int) - 1) = ((k - 1 : Nat) : Int) := by rw [wrap_small (by omega)]; omega
    have hi2 : wrap64 ((k : Int) + 1) = ((k + 1 : Nat) : Int) := by rw [wrap_small (by omega)]; omega
    have hc := cost_le hx2 (k - 1)
    have hw : want x2 k = want x2 (k - 1) + costAt x2 (k - 1) := by
      obtain ⟨q, rfl⟩ : ∃ q, k = q + 1 := ⟨k - 1, by omega⟩
      rfl
    have hb1 := want_le hx2 (k - 1)
    have hb2 := want_le hx2 k
    obtain ⟨e1, e2, e3, e4⟩ := line_step hL h1 hkn ⟨hc.1, by omega⟩ hw hb1.1 (by omega)
    obtain ⟨M', hM⟩ := hL.last
    have hM1 : 1 ≤ (foldE A (st0 n)).2.length := by rw [hM]; simp
    have e5 : foldE [hearE k (((foldE A (st0 n)).2.length : Int) - 1) (costAt x2 (k - 1)), advE k] ((foldE A (st0 n)).1, (foldE A (st0 n)).2) = foldE (A ++ [hearE k (((foldE A (st0 n)).2.length : Int) - 1) (costAt x2 (k - 1)), advE k]) (st0 n) := (foldE_append _ _ _).symm
    rw [e5] at e3 e4
    have hnx := ih (k + 1) (A ++ [hearE k (((foldE A (st0 n)).2.length : Int) - 1) (costAt x2 (k - 1)), advE k]) K (by omega) (by omega) e3
      (by
        intro x hx
        rcases List.mem_append.1 hx with hx | hx
        · exact hA x hx
        · simp only [List.mem_cons, List.not_mem_nil, or_false] at hx
          rcases hx with rfl | rfl
          · exact e1
          · exact e2)
      (by simp; omega) (by rw [e4]; omega) (by omega)
    rw [e4, wants_succ] at hnx
    clear e1 e2 e3 e4 e5 hM hL ih
    generalize (foldE A (st0 n)).2.length = q at hnx hM1 hMl ⊢
    have hi3 : wrap64 ((q : Int) - 1) = (q : Int) - 1 := wrap_small (by omega)
    have hi4 : wrap64 ((q : Int) + 1) = ((q + 1 : Nat) : Int) := by rw [wrap_small (by omega)]; omega
    have hWl := wants_length x2 k
    have hWg := wants_get x2 hk1
    generalize (List.range k).map (want x2) = W at hnx hWl hWg ⊢
    have hkn' : (k : Int) < (n : Int) := by omega
    rw [hopmeshlaw22_RankSettles.l1]
    rw [if_pos hkn']
    rw [hi1, hi2, hi3, hi4, hWl, hWg]
    by_cases hl : k - 1 < x2.length
    · have hcv : costAt x2 (k - 1) = 1 + x2.getD (k - 1) 0 := by unfold costAt; rw [if_pos hl]
      have hr : rd x2 ((k - 1 : Nat) : Int) = x2.getD (k - 1) 0 := by unfold rd; rw [Int.toNat_natCast]
      have hv1 : wrap64 (1 + wrap64 (rd x2 ((k - 1 : Nat) : Int))) = costAt x2 (k - 1) := by
        have hin : wrap64 (x2.getD (k - 1) 0) = x2.getD (k - 1) 0 := wrap_small (by omega)
        rw [hr, hin, wrap_small (by omega), hcv]
      have hv2 : wrap64 (want x2 (k - 1) + costAt x2 (k - 1)) = want x2 k := by rw [wrap_small (by omega), hw]
      rw [if_pos (by omega), if_pos (by omega), if_pos (by omega), if_pos (by omega), Option.bind_some, hv1, hv2, if_pos (by simp; omega)]
      exact hnx
    · have hcv : costAt x2 (k - 1) = 1 := by unfold costAt; rw [if_neg hl]
      have hv2 : wrap64 (want x2 (k - 1) + 1) = want x2 k := by rw [wrap_small (by omega), hw, hcv]
      rw [hcv] at hnx
      rw [if_neg (by omega), if_pos (by omega), if_pos (by omega), if_pos (by omega), Option.bind_some, hv2, if_pos (by simp; omega)]
      exact hnx
theorem settles_pure (l : List S50) (a : Int) (x2 : List Int) (h0 : 0 ≤ a) (h1 : a < 256) (hx2 : ∀ x ∈ x2, 0 ≤ x ∧ x < 256) : ∃ k, hopmeshlaw22_RankSettles.f k l a x2 = some true := by
  obtain ⟨n, n1, n2, hn⟩ := nodes_eq h0 h1
  refine ⟨1000 + 9, ?_⟩
  unfold hopmeshlaw22_RankSettles.f
  rw [awake_k, Option.bind_some, if_pos rfl, hn]
  have hpl : rank_Play.f (n : Int) l = some (play (n : Int) l) := rfl
  rw [hpl, Option.bind_some]
  by_cases hl : (l.length : Int) > 40
  · rw [if_pos hl, hopmeshlaw22_RankSettles.j0, if_pos rfl, if_pos hl]
  · rw [if_neg hl]
    by_cases he : (play (n : Int) l).2 = 0
    · rw [if_pos he]
      obtain ⟨q1, q2, q3⟩ := play_inv n1 (by omega) (by omega) he
      rw [q2, len_bne q3.len, hopmeshlaw22_RankSettles.j0, if_neg (by decide)]
      unfold api_RankEvent.f
      rw [if_pos (by omega), Option.bind_some, Option.bind_some, if_pos (by simp; omega), Option.bind_some]
      show hopmeshlaw22_RankSettles.l0 1008 x2 (n : Int) (l ++ [renewE, advE 0]) 0 ((l ++ [renewE, advE 0]).length : Int) 0 = some true
      have hev : ∀ x ∈ l ++ [renewE, advE 0], evErr (n : Int) x = 0 := by
        intro x hx
        rcases List.mem_append.1 hx with hx | hx
        · exact q1 x hx
        · simp only [List.mem_cons, List.not_mem_nil, or_false] at hx
          rcases hx with rfl | rfl
          · exact ev_ok ⟨by decide, by decide⟩ ⟨by omega, by omega⟩ (by decide)
          · exact ev_ok ⟨by decide, by decide⟩ ⟨by omega, by omega⟩ (by decide)
      have hroot := root_fold n1 l (st := st0 n) (Inv.start n1 (by omega)) q1
      have hs0 : ((st0 n).1.getD 0 z23).f1 = 1 := by
        show ((startL n).getD 0 z23).f1 = 1
        rw [startL_getD (by omega), (start_good 0 (by omega)).2.2.2, if_pos rfl]
      obtain ⟨E, hL⟩ := line_start (want := want x2) (st := foldE l (st0 n)) q3 n1 (by omega) rfl
      rw [← foldE_append] at hL
      have hM : ∀ A : List S50, (∀ x ∈ A, evErr (n : Int) x = 0) → (foldE A (st0 n)).2.length ≤ A.length := by
        intro A hA
        have h1 : ∀ j, j ≤ A.length → (foldE (A.take j) (st0 n)).2.length ≤ j := by
          intro j
          induction j with
          | zero => intro _; simp [foldE, st0]
          | succ j ihj =>
            intro hj
            have hjl : j < A.length := by omega
            have h2 := said_step (inv_of (l := A.take j) n1 (by omega) (fun x hx => hA x (List.mem_of_mem_take hx))) (hA (A[j]) (List.getElem_mem hjl))
            rw [← foldE_take hjl] at h2
            have h3 := ihj (by omega)
            rw [h2]
            split <;> omega
        have := h1 A.length (Nat.le_refl _)
        rwa [List.take_length] at this
      have hlen : (l ++ [renewE, advE 0]).length = l.length + 2 := by simp
      have hMl := hM _ hev
      refine count_loop n1 (by omega) hev (by omega) x2 50 (fun K' hK' => ?_) (l ++ [renewE, advE 0]).length 0 1008 (by omega) (by omega)
      exact line_loop n1 n2 hx2 (n - 1) 1 (l ++ [renewE, advE 0]) K' (by omega) (Nat.le_refl _) hL hev (by omega) (by omega) (by omega)
    · rw [if_neg he, hopmeshlaw22_RankSettles.j0, if_pos rfl, if_neg hl]
      simp [he]
end Go.Proofs.Ytigobnphenhkjaa.Fns
