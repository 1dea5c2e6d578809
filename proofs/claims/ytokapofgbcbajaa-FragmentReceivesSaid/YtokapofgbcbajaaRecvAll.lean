/- A receiver: Receive, Bitmap and NewReceiver, for every input. -/
import Derived.Test.YtokapofgbcbajaaRecv
namespace Go.Proofs.Ytokapofgbcbajaa.Fns
open Go.RowKit Go.Maps Go.Proofs.YtokapofgbcbajaaW.PrintWords Go.Proofs.YtokapofgbcbajaaW.PrintLast Go.Proofs.YtokapofgbcbajaaW.PrintMore
set_option linter.unusedVariables false
set_option linter.unusedSimpArgs false
/-- A receiver that is in order, its datagrams by their tags. -/
structure RS (w : World) (base p b : Nat) (hold time : Int) (l : List (Int × Dg)) : Prop where
  hh : 0 ≤ hold ∧ hold ≤ 4096
  ht : 0 ≤ time
  ok : ∀ x ∈ l, DgOk x.2
  ex : ∃ live es, RW w base p b hold time live es ∧ er es = l
theorem RS.later {w wx : World} {base p b : Nat} {hold time : Int} {l : List (Int × Dg)} (h : RS w base p b hold time l) (hb : Below w.heap.size w wx) : RS wx base p b hold time l := by
  obtain ⟨live, es, h1, h2⟩ := h.ex
  exact ⟨h.hh, h.ht, h.ok, live, es, h1.later hb, h2⟩
theorem RS.blk {w : World} {base p b : Nat} {hold time : Int} {l : List (Int × Dg)} (h : RS w base p b hold time l) : ∃ a c, w.heap[b]? = some (.map a c) := by
  obtain ⟨live, es, h1, h2⟩ := h.ex
  exact h1.mapblk
theorem putF_ok {d0 : Dg} (h : DgOk d0) {slot : Int} {j : Nat} {d : ByteArray} (hj : j < 32) (hd : d.size ≤ 120) : DgOk (putF d0 slot j d) := by
  refine ⟨h.cnt, ?_, ?_, ?_⟩
  · show d0.bmp ||| 2 ^ j < 4294967296
    have h1 : (2 : Nat) ^ j < 2 ^ 32 := Nat.pow_lt_pow_right (by decide) hj
    exact Nat.or_lt_two_pow (n := 32) h.bmp h1
  · intro x hx
    rcases List.mem_or_eq_of_mem_set hx with h1 | rfl
    · exact h.part x h1
    · exact hd
  · show (d0.parts.set j d).length = 32
    rw [List.length_set]; exact h.len
theorem newD_ok {t i c s : Int} {d : ByteArray} (hL : lenF t i c s d.size ≠ 0) : DgOk (newD t i c s d) := by
  obtain ⟨⟨h1, h2, h3, h4, _⟩, _⟩ := lenF_fine hL
  exact ⟨⟨h3, h4⟩, by show (0 : Nat) < _; decide, fun x hx => by rw [(List.mem_replicate.1 hx).2]; decide, by simp [newD]⟩
theorem insP_mem (x : Int × Dg) : ∀ (l : List (Int × Dg)) (e : Int × Dg), e ∈ insP x l ↔ e = x ∨ e ∈ l
  | [], e => by simp [insP]
  | y :: r, e => by
    rw [insP]
    split
    · simp
    · rw [List.mem_cons, insP_mem x r e, List.mem_cons]
      constructor
      · rintro (h | h | h)
        · exact .inr (.inl h)
        · exact .inl h
        · exact .inr (.inr h)
      · rintro (h | h | h)
        · exact .inr (.inl h)
        · exact .inl h
        · exact .inr (.inr h)
theorem getP_mem {l : List (Int × Dg)} {t : Int} {nd : Dg} {e : Int × Dg} (h : e ∈ getP l t nd) : e = (t, nd) ∨ e ∈ l := by
  unfold getP at h
  split at h
  · exact .inr h
  · exact (insP_mem _ _ _).1 h
theorem lookP_mem {l : List (Int × Dg)} {t : Int} {d : Dg} (h : lookP l t = some d) : (t, d) ∈ l := by
  unfold lookP at h
  obtain ⟨x, hx, rfl⟩ := Option.map_eq_some_iff.1 h
  have h1 := List.mem_of_find?_eq_some hx
  have h2 := List.find?_some hx
  have h3 : x.1 = t := by simpa using h2
  rw [← h3]
  exact h1
theorem lookP_none {l : List (Int × Dg)} {t : Int} : lookP l t = none ↔ ∀ x ∈ l, x.1 ≠ t := by
  unfold lookP
  rw [Option.map_eq_none_iff, List.find?_eq_none]
  simp
theorem lookP_ins_none {l : List (Int × Dg)} {t : Int} {nd : Dg} (h : lookP l t = none) : lookP (insP (t, nd) l) t ≠ none := by
  intro h2
  exact lookP_none.1 h2 (t, nd) ((insP_mem _ _ _).2 (.inl rfl)) rfl
theorem getP_some (l : List (Int × Dg)) (t : Int) (nd : Dg) : ∃ d, lookP (getP l t nd) t = some d ∧ (t, d) ∈ getP l t nd := by
  unfold getP
  cases h : lookP l t with
  | some d => exact ⟨d, by rw [Option.isSome_some, if_pos rfl]; exact h, by rw [Option.isSome_some, if_pos rfl]; exact lookP_mem h⟩
  | none =>
    rw [Option.isSome_none, if_neg (by decide)]
    cases h2 : lookP (insP (t, nd) l) t with
    | some d => exact ⟨d, rfl, lookP_mem h2⟩
    | none => exact absurd h2 (lookP_ins_none h)
theorem recvF_ok {hold time : Int} {l : List (Int × Dg)} (h : ∀ x ∈ l, DgOk x.2) (slot t i c s : Int) (d : ByteArray) : ∀ x ∈ (recvF hold time l slot t i c s d).l, DgOk x.2 := by
  unfold recvF
  split
  · exact h
  · rename_i hL
    have hk : ∀ x ∈ keptP (slot - hold) l, DgOk x.2 := fun x hx => h x (List.mem_filter.1 hx).1
    split
    · exact h
    · split
      · exact hk
      · have hg : ∀ x ∈ getP (keptP (slot - hold) l) t (newD t i c s d), DgOk x.2 := fun x hx => by
          rcases getP_mem hx with rfl | hx
          · exact newD_ok hL
          · exact hk x hx
        simp only
        split
        · exact hg
        · intro x hx
          obtain ⟨y, hy, rfl⟩ := List.mem_map.1 hx
          split
          · obtain ⟨d0, hd0, hm⟩ := getP_some (keptP (slot - hold) l) t (newD t i c s d)
            show DgOk (putF ((lookP (getP (keptP (slot - hold) l) t (newD t i c s d)) t).getD zD) slot i.toNat d)
            rw [hd0]
            have h1 := lenF_fine hL
            have h2 := lenF_small hL
            unfold Fine at h1
            exact putF_ok (hg _ hm) (by omega) (by have := h2.1; omega)
          · exact hg y hy
theorem recvF_time {hold time : Int} {l : List (Int × Dg)} (h : 0 ≤ time) (slot t i c s : Int) (d : ByteArray) : 0 ≤ (recvF hold time l slot t i c s d).time := by
  unfold recvF
  split
  · exact h
  · split
    · exact h
    · rename_i h2
      split
      · show 0 ≤ slot; omega
      · simp only
        split
        · show 0 ≤ slot; omega
        · show 0 ≤ slot; omega
theorem recv_calls {w : World} {base p b : Nat} {hold time : Int} {l : List (Int × Dg)} (hbw : base ≤ w.heap.size) (h : RS w base p b hold time l) (slot t i c s : Int) (d : ByteArray) (hd : d.size ≤ 140737488351232) :
    Calls Try.prog 22 #[.pointer (some ⟨p, 0, none⟩), .int .i64 slot, .agg #[.int .i64 t, .int .i64 i, .int .i64 c, .int .i64 s, .string d]] w fun e w' =>
      e = .returned (.tuple #[.string (recvF hold time l slot t i c s d).s, .bool (recvF hold time l slot t i c s d).ok, .int .i64 (recvF hold time l slot t i c s d).err]) ∧
      RS w' base p b hold (recvF hold time l slot t i c s d).time (recvF hold time l slot t i c s d).l ∧ FrB SR base b w w' := by
  obtain ⟨live, es, hR, rfl⟩ := h.ex
  by_cases hL : lenF t i c s d.size = 0
  · refine (recv_bad w p slot t i c s d hd hL).mono ?_
    rintro e w' ⟨rfl, hb⟩
    rw [show recvF hold time (er es) slot t i c s d = ⟨⟨#[]⟩, false, 1, time, er es⟩ by unfold recvF; rw [if_pos hL]]
    exact ⟨rfl, h.later hb, FrB.of_below hb⟩
  · by_cases ho : slot < time ∨ 109951162 < slot
    · refine (recv_order hR slot t i c s d hd hL ho).mono ?_
      rintro e w' ⟨rfl, hb⟩
      rw [show recvF hold time (er es) slot t i c s d = ⟨⟨#[]⟩, false, 5, time, er es⟩ by unfold recvF; rw [if_neg hL, if_pos ho]]
      exact ⟨rfl, h.later hb, FrB.of_below hb⟩
    · obtain ⟨⟨_, _, _, _, h5, h6, _⟩, _⟩ := lenF_fine hL
      obtain ⟨j, rfl⟩ : ∃ j : Nat, i = (j : Int) := ⟨i.toNat, (Int.toNat_of_nonneg h5).symm⟩
      have hok : ∀ e ∈ es, DgOk e.d := fun e he => h.ok (e.tag, e.d) (List.mem_map.2 ⟨e, he, rfl⟩)
      refine (recv_main hbw hR slot t c s j d hd hL ho h.hh h.ht hok).mono ?_
      rintro e w' ⟨live', es', rfl, h1, h2, h3⟩
      have htm : (recvF hold time (er es) slot t (j : Int) c s d).time = slot := by
        unfold recvF
        rw [if_neg hL, if_neg ho]
        split
        · rfl
        · simp only
          split <;> rfl
      refine ⟨rfl, ⟨h.hh, recvF_time h.ht _ _ _ _ _ _, recvF_ok h.ok _ _ _ _ _ _, live', es', ?_, h2⟩, h3⟩
      rw [htm]
      exact h1
def bmpF (l : List (Int × Dg)) (t : Int) : Int := match lookP l t with | some d => (d.bmp : Int) | none => 0
def bmpE (l : List (Int × Dg)) (t : Int) : Int := match lookP l t with | some _ => 0 | none => 7
set_option maxRecDepth 100000 in
set_option maxHeartbeats 2000000 in
theorem bitmap_calls {w : World} {base p b : Nat} {hold time : Int} {l : List (Int × Dg)} (h : RS w base p b hold time l) (t : Int) (ht : (Lit.int .i64 t).wf = true) :
    Calls Try.prog 23 #[.pointer (some ⟨p, 0, none⟩), .int .i64 t] w fun e w' => e = .returned (.tuple #[.int .i64 (bmpF l t), .int .i64 (bmpE l t)]) ∧ w' = w := by
  obtain ⟨live, es, hR, rfl⟩ := h.ex
  have hu79 := Try.underlying79
  have hu84 := Try.underlying84
  have c2 := hR.c2
  rcases hR.look true ht with ⟨e, he, hte, hr⟩ | ⟨hn, hr⟩
  · have hl := lookP_er hR.rise he
    have b4 := (hR.dgs e he).2.cells.2.2.2.2
    rw [show bmpF (er es) t = (e.d.bmp : Int) by unfold bmpF; rw [← hte, hl], show bmpE (er es) t = 0 by unfold bmpE; rw [← hte, hl]]
    rw [if_pos rfl] at hr
    clear hR h he hte hl ht
    go_enter Try.func23, Try.ntmps23
    go_wp2
    go_ret2
    exact ⟨rfl, rfl⟩
  · have hl := lookP_er_none.2 hn
    rw [show bmpF (er es) t = 0 by unfold bmpF; rw [hl], show bmpE (er es) t = 7 by unfold bmpE; rw [hl]]
    rw [if_pos rfl] at hr
    clear hR h hn hl ht
    go_enter Try.func23, Try.ntmps23
    go_wp2
    go_ret2
    exact ⟨rfl, rfl⟩
set_option maxRecDepth 100000 in
theorem newrecv_bad (w : World) (hold : Int) (h : hold < 0 ∨ 4096 < hold) : Calls Try.prog 21 #[.int .i64 hold] w fun e w' => e = .returned (.tuple #[.pointer none, .int .i64 2]) ∧ w' = w := by
  by_cases h1 : hold < 0
  · have q1 : decide (hold < 0) = true := decide_eq_true h1
    clear h h1
    go_enter Try.func21, Try.ntmps21
    go_wp2
    go_ret2
    exact ⟨rfl, rfl⟩
  · have q1 : decide (hold < 0) = false := decide_eq_false h1
    have q2 : decide (4096 < hold) = true := decide_eq_true (h.resolve_left h1)
    clear h h1
    go_enter Try.func21, Try.ntmps21
    go_wp2
    go_ret2
    exact ⟨rfl, rfl⟩
set_option maxRecDepth 100000 in
theorem newrecv_good (w : World) (hold : Int) (h : 0 ≤ hold ∧ hold ≤ 4096) : Calls Try.prog 21 #[.int .i64 hold] w fun e w' => ∃ p b, e = .returned (.tuple #[.pointer (some ⟨p, 0, none⟩), .int .i64 0]) ∧ RS w' w.heap.size p b hold 0 [] ∧ Below w.heap.size w w' := by
  have q1 : decide (hold < 0) = false := decide_eq_false (by omega)
  have q2 : decide (4096 < hold) = false := decide_eq_false (by omega)
  have hu79 := Try.underlying79
  have hmm := @run_makeMap Try.prog
  have HH := Aside0.mk h
  clear h
  go_enter Try.func21, Try.ntmps21
  go_wp2
  go_ret2
  refine ⟨w.heap.size + 1, w.heap.size, rfl, ⟨HH.out, Int.le_refl _, by simp, [], [], ⟨?_, by omega, Nat.le_refl _, ?_, by simp, by simp, List.Pairwise.nil, List.Pairwise.nil, by simp⟩, rfl⟩, below2 _ _ _⟩
  · have := heap_alloc_new (w.alloc (.map #[] 0)) (.cells #[.int .i64 hold, .int .i64 0, .map (some w.heap.size)] 79)
    simpa using this
  · exact (World.ownsMap_made w Try.prog 3 (pR [])).alloc _
end Go.Proofs.Ytokapofgbcbajaa.Fns
