/- A *fragment.Receiver's map: an entry more, old entries gone; what a call leaves alone. -/
import Derived.Test.YtokapofgbcbajaaRecvWorld
namespace Go.Proofs.Ytokapofgbcbajaa.Fns
open Go.RowKit Go.Maps Go.Proofs.YtokapofgbcbajaaW.PrintWords Go.Proofs.YtokapofgbcbajaaW.PrintLast Go.Proofs.YtokapofgbcbajaaW.PrintMore
set_option linter.unusedVariables false
set_option linter.unusedSimpArgs false
def insEnt (x : Ent) : List Ent → List Ent
  | [] => [x]
  | y :: r => if x.tag < y.tag then x :: y :: r else y :: insEnt x r
theorem insEnt_length (x : Ent) : ∀ es : List Ent, (insEnt x es).length = es.length + 1
  | [] => rfl
  | y :: r => by
    rw [insEnt]
    split
    · rfl
    · simp [insEnt_length x r]
theorem insEnt_mem (x : Ent) : ∀ (es : List Ent) (e : Ent), e ∈ insEnt x es ↔ e = x ∨ e ∈ es
  | [], e => by simp [insEnt]
  | y :: r, e => by
    rw [insEnt]
    split
    · simp
    · rw [List.mem_cons, insEnt_mem x r e, List.mem_cons]
      constructor
      · rintro (h | h | h)
        · exact .inr (.inl h)
        · exact .inl h
        · exact .inr (.inr h)
      · rintro (h | h | h)
        · exact .inr (.inl h)
        · exact .inl h
        · exact .inr (.inr h)
theorem insEnt_rise (x : Ent) : ∀ es : List Ent, es.Pairwise (fun a b => a.tag < b.tag) → (∀ e ∈ es, e.tag ≠ x.tag) → (insEnt x es).Pairwise (fun a b => a.tag < b.tag)
  | [], _, _ => by simp [insEnt]
  | y :: r, h, hn => by
    obtain ⟨h1, h2⟩ := List.pairwise_cons.1 h
    rw [insEnt]
    split
    · rename_i hlt
      refine List.pairwise_cons.2 ⟨fun e he => ?_, h⟩
      rcases List.mem_cons.1 he with rfl | he
      · exact hlt
      · have := h1 e he; omega
    · rename_i hlt
      refine List.pairwise_cons.2 ⟨fun e he => ?_, insEnt_rise x r h2 (fun e he => hn e (List.mem_cons_of_mem _ he))⟩
      rcases (insEnt_mem x r e).1 he with rfl | he
      · have := hn y (by simp); omega
      · exact h1 e he
theorem insEnt_apart (x : Ent) : ∀ es : List Ent, es.Pairwise (fun a b => a.blk ≠ b.blk) → (∀ e ∈ es, e.blk ≠ x.blk) → (insEnt x es).Pairwise (fun a b => a.blk ≠ b.blk)
  | [], _, _ => by simp [insEnt]
  | y :: r, h, hn => by
    obtain ⟨h1, h2⟩ := List.pairwise_cons.1 h
    rw [insEnt]
    split
    · refine List.pairwise_cons.2 ⟨fun e he => ?_, h⟩
      exact fun e1 => hn e he e1.symm
    · refine List.pairwise_cons.2 ⟨fun e he => ?_, insEnt_apart x r h2 (fun e he => hn e (List.mem_cons_of_mem _ he))⟩
      rcases (insEnt_mem x r e).1 he with rfl | he
      · exact hn y (by simp)
      · exact h1 e he
theorem ins_map (x : Ent) : ∀ es : List Ent, DataW.insert (kv x) (es.map kv) = (insEnt x es).map kv
  | [] => rfl
  | y :: r => by
    rw [List.map_cons, DataW.insert, insEnt]
    by_cases h : x.tag < y.tag
    · rw [if_pos h, if_pos (by simp [kv, Lit.before, h])]
      rfl
    · rw [if_neg h, if_neg (by simp [kv, Lit.before, h]), ins_map x r]
      rfl
theorem put_mD (x : Ent) (es : List Ent) (h : ∀ e ∈ es, e.tag ≠ x.tag) : (mD es).put (.int .i64 x.tag) (.lit (.int .i64 (x.blk : Int))) = mD (insEnt x es) := by
  unfold mD DataW.put
  simp only
  rw [List.filter_eq_self.2 (fun q hq => by
    obtain ⟨e, he, rfl⟩ := List.mem_map.1 hq
    simp [kv, Lit.sameKey, h e he])]
  exact congrArg DataW.map (ins_map x es)
def lastOf (w : World) (B : Int) : Int :=
  match w.heap[B.toNat]? with
  | some (Obj.cells c _ _) => (match (c : Array Value)[3]? with
    | some (Value.int _ x) => x
    | _ => 0)
  | _ => 0
def pdel (w : World) (lim : Int) (_ : Lit) (x : DataW Unit) : Bool := match x with | .lit (.int _ B) => decide (lastOf w B < lim) | _ => false
theorem lastOf_at {w : World} {B : Nat} {d : Dg} (h : DgAt w B d) : lastOf w (B : Int) = d.lst := by
  unfold lastOf
  rw [Int.toNat_natCast, h.1]
  rfl
def kept (lim : Int) (es : List Ent) : List Ent := es.filter fun e => !decide (e.d.lst < lim)
structure FrB (S : TypeId → Bool) (base b : Nat) (w w' : World) : Prop where
  os : w'.os = w.os
  tape : w'.tape = w.tape
  output : w'.output = w.output
  size : w.heap.size ≤ w'.heap.size
  block : ∀ k, k < w.heap.size → k < base ∨ (Other S w k ∧ k ≠ b) → w'.heap[k]? = w.heap[k]?
section
variable {S : TypeId → Bool} {base b : Nat}
theorem FrB.refl (w : World) : FrB S base b w w := ⟨rfl, rfl, rfl, Nat.le_refl _, fun _ _ _ => rfl⟩
theorem FrB.trans {x y z : World} (h : FrB S base b x y) (k : FrB S base b y z) : FrB S base b x z :=
  ⟨k.os.trans h.os, k.tape.trans h.tape, k.output.trans h.output, Nat.le_trans h.size k.size, fun i hi ho =>
    (k.block i (Nat.lt_of_lt_of_le hi h.size) (ho.imp id (fun ho => ⟨fun c e f hc => ho.1 c e f ((h.block i hi (.inr ho)).symm.trans hc), ho.2⟩))).trans (h.block i hi ho)⟩
theorem FrB.of_below {x y : World} (h : Below x.heap.size x y) : FrB S base b x y := ⟨h.os, h.tape, h.output, h.size, fun k hk _ => h.block k hk⟩
theorem FrB.below {x y : World} (h : FrB S base b x y) (hb : base ≤ x.heap.size) : Below base x y := ⟨h.os, h.tape, h.output, h.size, fun k hk => h.block k (by omega) (.inl hk)⟩
theorem FrB.drew {x y : World} (h : FrB S base b x y) : FrB S base b x y.drew := ⟨h.os, h.tape, h.output, h.size, h.block⟩
theorem FrB.setCell {x y : World} (h : FrB S base b x y) {g j : Nat} {cur : Array Value} {e : TypeId} (hg : y.heap[g]? = some (.cells cur e (0, 0))) (he : S e = true) (hb : base ≤ g) (u : Value) : FrB S base b x (y.setCell ⟨g, j, none⟩ u) :=
  h.trans ⟨rfl, rfl, rfl, by simp, fun k _ hk => by
    by_cases hkg : k = g
    · subst hkg
      rcases hk with hk | hk
      · omega
      · have := hk.1 _ _ _ hg
        rw [he] at this
        cases this
    · exact Below.heap_setCell y ⟨g, j, none⟩ u k hkg⟩
theorem FrB.grown {x y z : World} (h : FrB S base b x y) (hg : y.grownBy z (some b)) (hb : base ≤ b) : FrB S base b x z :=
  h.trans ⟨hg.os, hg.tape, hg.output, hg.size, fun k hk ho => hg.block k hk (fun e => by
    have e1 : k = b := Option.some.inj e
    rcases ho with ho | ho
    · omega
    · exact ho.2 e1)⟩
theorem blk_frB {w w1 : World} {k : Nat} {c : Array Value} {e : TypeId} {f : Nat × Nat} (hf : FrB S base b w w1) (h : w.heap[k]? = some (.cells c e f)) (he : S e = false) (hk : k ≠ b) : w1.heap[k]? = some (.cells c e f) :=
  (hf.block k (Array.getElem?_eq_some_iff.1 h).1 (.inr ⟨other_of h he, hk⟩)).trans h
end
section
variable {w w1 : World} {base p b : Nat} {hold time : Int} {live : List Nat} {es : List Ent}
/-- Everything but the map's block stays. -/
theorem RW.remap (h : RW w base p b hold time live es) (hg : w.grownBy w1 (some b)) {live' : List Nat} {es' : List Ent} (hm : w1.ownsMap Try.prog 3 (pR live') b es'.length (mD es'))
    (hl : ∀ B ∈ live', base ≤ B ∧ ∃ d, DgAt w B d) (hd : ∀ e ∈ es', e.blk ∈ live' ∧ DgAt w e.blk e.d) (hr : es'.Pairwise (fun x y => x.tag < y.tag)) (ha : es'.Pairwise (fun x y => x.blk ≠ y.blk)) (hs : ∀ e ∈ es', 0 ≤ e.tag ∧ e.tag ≤ 255) :
    RW w1 base p b hold time live' es' := by
  have hne : ∀ {B d}, DgAt w B d → B ≠ b := by
    rintro B d hd rfl
    obtain ⟨a, c, hm⟩ := h.mapblk
    rw [hd.1] at hm
    cases hm
  have hoth : ∀ {k : Nat} {o : Obj}, w.heap[k]? = some o → k ≠ b → w1.heap[k]? = some o := fun ho hk => (hg.block _ (Array.getElem?_eq_some_iff.1 ho).1 (fun e => hk (Option.some.inj e))).trans ho
  refine ⟨hoth h.blk h.ne_pb, h.hp, h.hb, hm, ?_, ?_, hr, ha, hs⟩
  · intro B hB
    obtain ⟨g1, d, g2⟩ := hl B hB
    exact ⟨g1, d, hoth g2.1 (hne g2), g2.2⟩
  · intro e he
    obtain ⟨g1, g2⟩ := hd e he
    exact ⟨g1, hoth g2.1 (hne g2), g2.2⟩
theorem RW.insert (h : RW w base p b hold time live es) {t : Int} (ht : 0 ≤ t ∧ t ≤ 255) (hn : ∀ e ∈ es, e.tag ≠ t) {B : Nat} {d : Dg} (hB : DgAt w B d) (hbB : base ≤ B) (hBl : B ∉ live) (hl : es.length < 1000) :
    ∃ w', (Instr.mapUpdate 77 (.map (some b)) (.int .i64 t) (.pointer (some ⟨B, 0, none⟩))).run Try.prog w = .ok () w' ∧ RW w' base p b hold time (B :: live) (insEnt ⟨t, B, d⟩ es) ∧ w.grownBy w' (some b) := by
  have hm := owns_stay h.map (R' := pR (B :: live)) (fun v z hz => pR_mono (fun B' hB' => List.mem_cons_of_mem _ hB') hz)
  obtain ⟨w', hrun, hown, hg⟩ := hm.update key3 Try.underlying77 (by unfold maxLen; omega) (key_of (wf_small ht)) (pR_mk (live := B :: live) (B := B) (by simp))
  refine ⟨w', hrun, h.remap hg ?_ ?_ ?_ ?_ ?_ ?_, hg⟩
  · have e := put_mD ⟨t, B, d⟩ es hn
    simp only at e
    rw [e] at hown
    rw [insEnt_length]
    exact hown
  · intro B' hB'
    rcases List.mem_cons.1 hB' with rfl | hB'
    · exact ⟨hbB, d, hB⟩
    · exact h.lives B' hB'
  · intro e he
    rcases (insEnt_mem _ _ e).1 he with rfl | he
    · exact ⟨by simp, hB⟩
    · exact ⟨List.mem_cons_of_mem _ (h.dgs e he).1, (h.dgs e he).2⟩
  · exact insEnt_rise _ _ h.rise hn
  · exact insEnt_apart _ _ h.apart (fun e he e1 => hBl (by have := (h.dgs e he).1; rw [e1] at this; exact this))
  · intro e he
    rcases (insEnt_mem _ _ e).1 he with rfl | he
    · exact ht
    · exact h.small e he
theorem RW.del_mD (h : RW w base p b hold time live es) (lim : Int) : Lib.deleteFuncD (pdel w lim) (mD es) = mD (kept lim es) := by
  unfold mD Lib.deleteFuncD kept
  simp only
  rw [List.filter_map]
  congr 2
  refine List.filter_congr (fun e he => ?_)
  simp only [Function.comp, kv, pdel]
  rw [lastOf_at (h.dgs e he).2]
theorem RW.deleted (h : RW w base p b hold time live es) {lim : Int} {n : Nat} (hown : w1.ownsMap Try.prog 3 (pR live) b n (Lib.deleteFuncD (pdel w lim) (mD es))) (hg : w.grownBy w1 (some b)) : RW w1 base p b hold time live (kept lim es) := by
  have hsub : ∀ e ∈ kept lim es, e ∈ es := fun e he => (List.mem_filter.1 he).1
  refine h.remap hg ?_ h.lives (fun e he => h.dgs e (hsub e he)) (h.rise.filter _) (h.apart.filter _) (fun e he => h.small e (hsub e he))
  rw [h.del_mD] at hown
  have := owns_tight hown
  simpa [mD, Maps.size] using this
end
end Go.Proofs.Ytokapofgbcbajaa.Fns
