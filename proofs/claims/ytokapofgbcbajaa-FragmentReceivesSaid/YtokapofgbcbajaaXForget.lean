/- forget of the reference's receiver. -/
import Derived.Test.YtokapofgbcbajaaXWorld
import Derived.BigQuiet
import Derived.Deep.QuietTactic
namespace Go.Proofs.Ytokapofgbcbajaa.Fns
open Go.RowKit Go.Maps Go.Proofs.YtokapofgbcbajaaW.PrintWords Go.Proofs.YtokapofgbcbajaaW.PrintLast Go.Proofs.YtokapofgbcbajaaW.PrintMore
set_option linter.unusedVariables false
set_option linter.unusedSimpArgs false
theorem info113 : (Try.prog.info? 113).map (fun i => (i.zero, i.size, i.bytes)) = some (some (.agg #[.int .i64 0, .int .i64 0, .int .i64 0, .int .i64 0, .int .i64 0, .slice none 0 0, .slice none 0 0]), 7, 88) := by kernel_rfl
def keptX (lim : Int) (ds : List RD) : List RD := ds.filter fun d => decide (lim ≤ d.slot)
theorem keptX_take {lim : Int} {ds : List RD} {k : Nat} {d : RD} (hd : ds[k]? = some d) : keptX lim (ds.take (k + 1)) = keptX lim (ds.take k) ++ (if decide (lim ≤ d.slot) then [d] else []) := by
  obtain ⟨hk, hkd⟩ := List.getElem?_eq_some_iff.1 hd
  unfold keptX
  rw [List.take_succ_eq_append_getElem hk, List.filter_append, hkd]
  congr 1
  by_cases h : lim ≤ d.slot
  · simp [h]
  · simp [h]
theorem keptX_len (lim : Int) (ds : List RD) (k : Nat) : (keptX lim (ds.take k)).length ≤ ds.length := by
  unfold keptX
  have h1 := List.length_filter_le (fun d : RD => decide (lim ≤ d.slot)) (ds.take k)
  have h2 := List.length_take_le k ds
  rw [List.length_take] at h1
  omega
theorem own_empty {w : World} {base g : Nat} {e : TypeId} {size : Nat} (hg : base ≤ g) (h : w.heap[g]? = some (.cells #[] e (0, 0))) : w.ownsRow base e size (.slice (some ⟨g, 0, none⟩) 0 0) 0 [] :=
  ⟨by simp, .inr ⟨g, 0, #[], rfl, hg, h, Nat.le_refl _, Nat.zero_le _, by simp, by simp⟩⟩
theorem fg_bytes {n m : Nat} (h : m ≤ n) (hn : n ≤ 4000) : (m + 1) * 88 ≤ 140737488355328 := by omega
theorem enc_one (d : RD) : ∀ u ∈ encRD d, u.oneCell' = true := by
  intro u hu
  simp only [encRD, List.mem_cons, List.not_mem_nil, or_false] at hu
  rcases hu with rfl | rfl | rfl | rfl | rfl | rfl | rfl <;> rfl
theorem XR.setAll {w : World} {base p : Nat} {hold time : Int} {v v' : Value} {ds ds' : List RD} (h : XR w base p hold time v ds) (ho : w.ownsRow base 113 7 v' ds'.length (flat encRD ds')) (hat : ∀ d ∈ ds', RDAt w base d) (hap : ds'.Pairwise (fun x y => x.gp ≠ y.gp ∧ x.gh ≠ y.gh)) :
    XR (w.setCell ⟨p, 2, none⟩ v') base p hold time v' ds' := by
  have hoth : ∀ k, k ≠ p → (w.setCell ⟨p, 2, none⟩ v').heap[k]? = w.heap[k]? := fun k hk => Below.heap_setCell w ⟨p, 2, none⟩ v' k hk
  have hne : ∀ (k : Nat) (c : Array Value) (e : TypeId), w.heap[k]? = some (Obj.cells c e (0, 0)) → e ≠ 110 → k ≠ p := by
    rintro k c e hk he rfl
    rw [h.blk] at hk
    injection hk with hk; injection hk with _ h2
    exact he h2.symm
  refine ⟨blk_put h.blk 2 v' rfl, h.hp, own_move ho (fun k hk => ?_), fun d hd => ?_, hap⟩
  · obtain ⟨c, hc⟩ := own_typed ho k hk
    exact hoth k (hne k c 113 hc (by decide))
  · have hd' := hat d hd
    exact hd'.move (hoth _ (hne _ _ 9 hd'.pb (by decide))) (hoth _ (hne _ _ 4 hd'.hb (by decide)))
theorem XR.setTime {w : World} {base p : Nat} {hold time : Int} {v : Value} {ds : List RD} (h : XR w base p hold time v ds) (t : Int) : XR (w.setCell ⟨p, 1, none⟩ (.int .i64 t)) base p hold t v ds := by
  have hoth : ∀ k, k ≠ p → (w.setCell ⟨p, 1, none⟩ (.int .i64 t)).heap[k]? = w.heap[k]? := fun k hk => Below.heap_setCell w ⟨p, 1, none⟩ _ k hk
  have hne : ∀ (k : Nat) (c : Array Value) (e : TypeId), w.heap[k]? = some (Obj.cells c e (0, 0)) → e ≠ 110 → k ≠ p := by
    rintro k c e hk he rfl
    rw [h.blk] at hk
    injection hk with hk; injection hk with _ h2
    exact he h2.symm
  refine ⟨blk_put h.blk 1 _ rfl, h.hp, own_move h.own (fun k hk => ?_), fun d hd => ?_, h.apart⟩
  · obtain ⟨c, hc⟩ := own_typed h.own k hk
    exact hoth k (hne k c 113 hc (by decide))
  · have hd' := h.at_ d hd
    exact hd'.move (hoth _ (hne _ _ 9 hd'.pb (by decide))) (hoth _ (hne _ _ 4 hd'.hb (by decide)))
theorem forget_done {w wr : World} {base p : Nat} {hold time lim : Int} {v v' : Value} {ds : List RD} {n k : Nat} (hbw : base ≤ w.heap.size) (hx : XR wr base p hold time v ds) (hb : Below w.heap.size w wr) (hn : ds.length = n) (hk : k = n)
    (ho : wr.ownsRow w.heap.size 113 7 v' (keptX lim (ds.take k)).length (flat encRD (keptX lim (ds.take k)))) :
    (∃ u, XR (wr.setCell ⟨p, 2, none⟩ v') base p hold time u (keptX lim ds)) ∧ Fr SX base w (wr.setCell ⟨p, 2, none⟩ v') := by
  rw [List.take_of_length_le (by omega)] at ho
  refine ⟨⟨v', hx.setAll (own_weaken ho hbw) (fun d hd => hx.at_ d (List.mem_filter.1 hd).1) (hx.apart.filter _)⟩, (Fr.of_below hb).setCell hx.blk rfl hx.hp v'⟩
theorem xr_cells {w : World} {base p : Nat} {hold time : Int} {G cap n : Nat} {ds : List RD} (h : XR w base p hold time (.slice (some ⟨G, 0, none⟩) n cap) ds) {i : Nat} {d : RD} (hd : ds[i]? = some d) :
    w.cell? ⟨G, i * 7, none⟩ = some (.int .i64 d.tag) ∧ w.cell? ⟨G, i * 7 + 1, none⟩ = some (.int .i64 d.cnt) ∧ w.cell? ⟨G, i * 7 + 2, none⟩ = some (.int .i64 d.siz) ∧ w.cell? ⟨G, i * 7 + 3, none⟩ = some (.int .i64 d.len) ∧ w.cell? ⟨G, i * 7 + 4, none⟩ = some (.int .i64 d.slot) ∧
    w.cell? ⟨G, i * 7 + 5, none⟩ = some (.slice (some ⟨d.gp, 0, none⟩) d.has.length d.has.length) ∧ w.cell? ⟨G, i * 7 + 6, none⟩ = some (.slice (some ⟨d.gh, 0, none⟩) d.has.length d.has.length) := by
  obtain ⟨G', cap', cur, hv, _, hrow⟩ := h.row (Nat.lt_of_le_of_lt (Nat.zero_le _) (List.getElem?_eq_some_iff.1 hd).1)
  injection hv with hA _ _
  injection hA with hA
  injection hA with hA
  subst hA
  exact rd_cells hrow hd
set_option maxRecDepth 100000 in
set_option maxHeartbeats 2000000 in
theorem forget_calls {w : World} {base p : Nat} {hold time : Int} {v : Value} {ds : List RD} (hbw : base ≤ w.heap.size) (h : XR w base p hold time v ds) (hl : ds.length ≤ 4000) (hs : wrap64 (time - hold) = time - hold) :
    Calls Try.prog 63 #[.pointer (some ⟨p, 0, none⟩)] w fun e w' => e = .returned (.tuple #[]) ∧ (∃ v', XR w' base p hold time v' (keptX (time - hold) ds)) ∧ Fr SX base w w' := by
  have hu110 := Try.underlying110
  have hu113 := Try.underlying113
  obtain ⟨A, cc, rfl⟩ := own_slice h.own
  obtain ⟨n, hn⟩ : ∃ n, ds.length = n := ⟨_, rfl⟩
  have H := Aside0.mk h
  have HN := Aside0.mk hn
  have HL := Aside0.mk hl
  have HBW := Aside0.mk hbw
  have HS := Aside0.mk hs
  have hbe := below_new w (.cells #[] 113)
  have HE := Aside0.mk (own_empty (size := 7) (Nat.le_refl w.heap.size) (show (w.alloc (.cells #[] 113)).heap[w.heap.size]? = some (.cells #[] 113 (0, 0)) from heap_alloc_new w _))
  have HBE := Aside0.mk hbe
  clear h hn hl hbw hbe hs
  go_enter Try.func63, Try.ntmps63
  go_wp2
  go_loopw [2, 3] (fun t2 t3 wr => ∃ k : Nat, Aside0 (k ≤ n) ∧ t3 = .int .i64 (k : Int) ∧ Aside0 (Below w.heap.size w wr) ∧ Aside0 (wr.ownsRow w.heap.size 113 7 t2 (keptX (time - hold) (ds.take k)).length (flat encRD (keptX (time - hold) (ds.take k))))) (fun _ t3 _ => ((n : Int) - intOf t3).toNat)
  case atStart => exact ⟨0, ⟨Nat.zero_le _⟩, rfl, HBE, HE⟩
  case round =>
    obtain ⟨k, HK, rfl, HB, HO⟩ := hrel
    have HX := Aside0.mk (H.out.later HB.out)
    have c0 := HX.out.c0
    have c1 := HX.out.c1
    have c2 := HX.out.c2
    rw [HN.out] at c2
    by_cases hlt : k < n
    · obtain ⟨d, hd⟩ : ∃ d, ds[k]? = some d := ⟨_, List.getElem?_eq_getElem (by rw [HN.out]; exact hlt)⟩
      obtain ⟨G, cap, cur, hv, hG, hrow⟩ := HX.out.row (by rw [HN.out]; exact Nat.lt_of_le_of_lt (Nat.zero_le _) hlt)
      injection hv with hA _ hcc
      subst hA; subst hcc
      obtain ⟨r0, r1, r2, r3, r4, r5, r6⟩ := rd_cells hrow hd
      obtain ⟨h1, h2, h3, h4, h5⟩ := x_step hlt (by rw [← HN.out]; exact HL.out)
      have HLT := Aside0.mk hlt
      have HD := Aside0.mk hd
      have htk := keptX_take (lim := time - hold) hd
      have HKL := Aside0.mk (fg_bytes (keptX_len (time - hold) ds k) HL.out)
      have hw := HS.out
      clear hrow hd hG hlt
      by_cases hk : time - hold ≤ d.slot
      · have q : decide (time - hold ≤ d.slot) = true := decide_eq_true hk
        rw [q, if_pos rfl] at htk
        have HTK := Aside0.mk htk
        have HQ := Aside0.mk hk
        clear hk htk
        go_upto_region 4 with (fail)
        go_quiet (fail)
        go_upto_region 5 with (fail)
        refine wp_world (F := fun W => XR W base p hold time (.slice (some ⟨G, 0, none⟩) ds.length cc) ds ∧ Below w.heap.size w W ∧ W.ownsRow w.heap.size 113 7 u2 (keptX (time - hold) (ds.take k)).length (flat encRD (keptX (time - hold) (ds.take k)))) ⟨HX.out.later (drewN_below (Below.refl _ _) _), drewN_below HB.out _, own_later (drewN_below (Below.refl _ _) _) HO.out⟩ (fun W hF => ?_)
        obtain ⟨HX1, HB1, HO1⟩ : Aside0 (XR W base p hold time (.slice (some ⟨G, 0, none⟩) ds.length cc) ds) ∧ Aside0 (Below w.heap.size w W) ∧ Aside0 (W.ownsRow w.heap.size 113 7 u2 (keptX (time - hold) (ds.take k)).length (flat encRD (keptX (time - hold) (ds.take k)))) := ⟨⟨hF.1⟩, ⟨hF.2.1⟩, ⟨hF.2.2⟩⟩
        clear hF c0 c1 c2 r0 r1 r2 r3 r4 r5 r6
        have c2 := HX1.out.c2
        rw [HN.out] at c2
        obtain ⟨r0, r1, r2, r3, r4, r5, r6⟩ := xr_cells HX1.out HD.out
        go_wp2_with (first | ((with_reducible refine gate_builtin (b := .append) (xs := #[.tmp 32, .tmp 40]) rfl ?_); at_builtin; refine print_append_cells (w0 := w) w.heap.size rfl (.tmp 32) (.tmp 40) 108 113 (.agg #[.int .i64 0, .int .i64 0, .int .i64 0, .int .i64 0, .int .i64 0, .slice none 0 0, .slice none 0 0]) 7 88 rfl Try.underlying108 info113 rfl (by decide) (by decide) u2 (keptX (time - hold) (ds.take k)).length (flat encRD (keptX (time - hold) (ds.take k))) (encRD d) rfl rfl rfl (enc_one d) HO1.out HB1.out HB1.out.size HKL.out ?_; intro v4 w4 ho4 hb4 hg4 hat4; have HO4 := Aside0.mk ho4; have HB4 := Aside0.mk hb4; clear ho4 hb4 hg4 hat4))
        go_roundw
        case rel => exact ⟨k + 1, ⟨HLT.out⟩, congrArg (Value.int .i64) h1, HB4, ⟨by rw [HTK.out, List.length_append, flat_append, flat_one]; exact HO4.out⟩⟩
        case measure => rw [h1]; exact x_meas HLT.out
      · have q : decide (time - hold ≤ d.slot) = false := decide_eq_false hk
        rw [q, if_neg (by decide), List.append_nil] at htk
        have HTK := Aside0.mk htk
        clear hk htk
        go_upto_region 4 with (fail)
        go_quiet (fail)
        go_wp2
        go_roundw
        case rel => exact ⟨k + 1, ⟨HLT.out⟩, congrArg (Value.int .i64) h1, ⟨drewN_below HB.out _⟩, ⟨by rw [HTK.out]; exact own_later (drewN_below (Below.refl _ _) _) HO.out⟩⟩
        case measure => rw [h1]; exact x_meas HLT.out
    · obtain ⟨h1, h2⟩ := x_stop hlt
      have HEQ := Aside0.mk (Nat.le_antisymm HK.out (Nat.le_of_not_lt hlt))
      clear hlt
      have hf := blk_frozen HX.out.blk 2
      obtain ⟨A2, k2, rfl⟩ := own_slice HO.out
      go_wp2
      (first | go_end0 | ((try simp only [Exit.inBlock, Exit.then]); refine bodyPost_ret (results_none rfl _ _ _) rfl ?_))
      obtain ⟨e1, e2⟩ := forget_done HBW.out HX.out HB.out HN.out HEQ.out HO.out
      exact ⟨rfl, e1, e2⟩
end Go.Proofs.Ytokapofgbcbajaa.Fns
