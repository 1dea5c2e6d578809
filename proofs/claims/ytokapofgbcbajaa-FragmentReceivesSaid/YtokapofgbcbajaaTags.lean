/- slices.Sorted(maps.Keys(..)): the library's contracts laid over this dump; and Tags of a receiver. -/
import Derived.Shelf.SlIterI.Nil
import Derived.Shelf.SortM.Plain
import Derived.Shelf.SortM.SortNone
import Derived.Test.YtokapofgbcbajaaRecvAll
namespace Go.Proofs
open Go.Shelf
def Try.keysL_ren : Go.Shelf.Ren := ⟨fun | 7 => 58 | 10 => 80 | n => n, fun | 23 => 77 | 26 => 3 | 3 => 81 | 28 => 101 | 0 => 0 | 27 => 100 | 33 => 49 | 4 => 4 | n => n, fun | n => n⟩
theorem Try.keysL : Go.Proofs.SlLaysZI.n7 Try.prog Try.keysL_ren := {
  mixed := by kernel_rfl
  f7 := ⟨Try.f58.name, by decide, Try.func58.trans (congrArg some (by kernel_rfl))⟩
  f10 := ⟨Try.f80.name, by decide, Try.func80.trans (congrArg some (by kernel_rfl))⟩
  t0 := Try.underlying0
  a0 := Try.isAgg0
  z0 := Try.sizeOf0
  v0 := Try.zeroValue0
  t4 := Try.underlying4
  a4 := Try.isAgg4
  z4 := Try.sizeOf4
  v4 := Try.zeroValue4
  t23 := Try.underlying77
  a23 := Try.isAgg77
  z23 := Try.sizeOf77
  v23 := Try.zeroValue77
  t26 := Try.underlying3
  a26 := Try.isAgg3
  z26 := Try.sizeOf3
  v26 := Try.zeroValue3
  t27 := Try.underlying100
  a27 := Try.isAgg100
  z27 := Try.sizeOf100
  v27 := Try.zeroValue100
  t28 := Try.underlying101
  a28 := Try.isAgg101
  z28 := Try.sizeOf101
  v28 := Try.zeroValue101
  t33 := Try.underlying49
  a33 := Try.isAgg49
  z33 := Try.sizeOf49
  v33 := Try.zeroValue49
}

def Try.sortedL_ren : Go.Shelf.Ren := ⟨fun | 6 => 57 | 8 => 79 | 9 => 30 | 11 => 97 | 13 => 60 | 12 => 59 | 23 => 90 | 24 => 91 | 14 => 81 | 15 => 82 | 16 => 83 | 17 => 84 | 18 => 85 | 19 => 86 | 20 => 87 | 21 => 88 | 22 => 89 | 25 => 98 | 26 => 99 | 27 => 100 | 28 => 101 | 29 => 102 | 30 => 103 | 31 => 106 | n => n, fun | 26 => 3 | 28 => 101 | 24 => 32 | 0 => 0 | 3 => 3 | 37 => 105 | 48 => 149 | 50 => 132 | 4 => 4 | 40 => 141 | 39 => 140 | 45 => 146 | 5 => 5 | 9 => 9 | 51 => 155 | 55 => 159 | 57 => 164 | 58 => 165 | 33 => 49 | n => n, fun | n => n⟩
theorem Try.sortedL : Go.Proofs.SlLaysZI.n6 Try.prog Try.sortedL_ren := {
  mixed := by kernel_rfl
  f6 := ⟨Try.f57.name, by decide, Try.func57.trans (congrArg some (by kernel_rfl))⟩
  f8 := ⟨Try.f79.name, by decide, Try.func79.trans (congrArg some (by kernel_rfl))⟩
  f11 := ⟨Try.f97.name, by decide, Try.func97.trans (congrArg some (by kernel_rfl))⟩
  t0 := Try.underlying0
  a0 := Try.isAgg0
  z0 := Try.sizeOf0
  v0 := Try.zeroValue0
  t24 := Try.underlying32
  a24 := Try.isAgg32
  z24 := Try.sizeOf32
  v24 := Try.zeroValue32
  t26 := Try.underlying3
  a26 := Try.isAgg3
  z26 := Try.sizeOf3
  v26 := Try.zeroValue3
  t28 := Try.underlying101
  a28 := Try.isAgg101
  z28 := Try.sizeOf101
  v28 := Try.zeroValue101
  i26 := by kernel_rfl
}

def Try.sortL_ren : Go.Shelf.Ren := ⟨fun | 5 => 30 | 8 => 60 | 7 => 59 | 19 => 90 | 20 => 91 | 10 => 81 | 11 => 82 | 12 => 83 | 13 => 84 | 14 => 85 | 15 => 86 | 16 => 87 | 17 => 88 | 18 => 89 | 30 => 98 | 31 => 99 | 32 => 100 | 33 => 101 | 34 => 102 | 35 => 103 | 40 => 106 | n => n, fun | 23 => 32 | 25 => 3 | 3 => 3 | 32 => 105 | 22 => 32 | 0 => 0 | 44 => 149 | 46 => 132 | 4 => 4 | 36 => 141 | 35 => 140 | 41 => 146 | 5 => 5 | 9 => 9 | 53 => 155 | 57 => 159 | 63 => 164 | 64 => 165 | n => n, fun | n => n⟩
theorem Try.sortL : Go.Proofs.SlLaysM.n5 Try.prog Try.sortL_ren := {
  mixed := by kernel_rfl
  f5 := ⟨Try.f30.name, by decide, Try.func30.trans (congrArg some (by kernel_rfl))⟩
  f7 := ⟨Try.f59.name, by decide, Try.func59.trans (congrArg some (by kernel_rfl))⟩
  f8 := Try.func60.trans (congrArg some (by kernel_rfl))
  f10 := ⟨Try.f81.name, by decide, Try.func81.trans (congrArg some (by kernel_rfl))⟩
  f11 := ⟨Try.f82.name, by decide, Try.func82.trans (congrArg some (by kernel_rfl))⟩
  f12 := ⟨Try.f83.name, by decide, Try.func83.trans (congrArg some (by kernel_rfl))⟩
  f13 := ⟨Try.f84.name, by decide, Try.func84.trans (congrArg some (by kernel_rfl))⟩
  f14 := ⟨Try.f85.name, by decide, Try.func85.trans (congrArg some (by kernel_rfl))⟩
  f15 := ⟨Try.f86.name, by decide, Try.func86.trans (congrArg some (by kernel_rfl))⟩
  f16 := ⟨Try.f87.name, by decide, Try.func87.trans (congrArg some (by kernel_rfl))⟩
  f17 := ⟨Try.f88.name, by decide, Try.func88.trans (congrArg some (by kernel_rfl))⟩
  f18 := ⟨Try.f89.name, by decide, Try.func89.trans (congrArg some (by kernel_rfl))⟩
  f19 := Try.func90.trans (congrArg some (by kernel_rfl))
  f20 := Try.func91.trans (congrArg some (by kernel_rfl))
  f30 := ⟨Try.f98.name, by decide, Try.func98.trans (congrArg some (by kernel_rfl))⟩
  f31 := Try.func99.trans (congrArg some (by kernel_rfl))
  f32 := Try.func100.trans (congrArg some (by kernel_rfl))
  f33 := ⟨Try.f101.name, by decide, Try.func101.trans (congrArg some (by kernel_rfl))⟩
  f34 := ⟨Try.f102.name, by decide, Try.func102.trans (congrArg some (by kernel_rfl))⟩
  f35 := ⟨Try.f103.name, by decide, Try.func103.trans (congrArg some (by kernel_rfl))⟩
  f40 := ⟨Try.f106.name, by decide, Try.func106.trans (congrArg some (by kernel_rfl))⟩
  t0 := Try.underlying0
  a0 := Try.isAgg0
  z0 := Try.sizeOf0
  v0 := Try.zeroValue0
  t3 := Try.underlying3
  a3 := Try.isAgg3
  z3 := Try.sizeOf3
  v3 := Try.zeroValue3
  t4 := Try.underlying4
  a4 := Try.isAgg4
  z4 := Try.sizeOf4
  v4 := Try.zeroValue4
  t5 := Try.underlying5
  a5 := Try.isAgg5
  z5 := Try.sizeOf5
  v5 := Try.zeroValue5
  t9 := Try.underlying9
  a9 := Try.isAgg9
  z9 := Try.sizeOf9
  v9 := Try.zeroValue9
  t22 := Try.underlying32
  a22 := Try.isAgg32
  z22 := Try.sizeOf32
  v22 := Try.zeroValue32
  t23 := Try.underlying32
  a23 := Try.isAgg32
  z23 := Try.sizeOf32
  v23 := Try.zeroValue32
  t25 := Try.underlying3
  a25 := Try.isAgg3
  z25 := Try.sizeOf3
  v25 := Try.zeroValue3
  t32 := Try.underlying105
  a32 := Try.isAgg105
  z32 := Try.sizeOf105
  v32 := Try.zeroValue105
  t35 := Try.underlying140
  a35 := Try.isAgg140
  z35 := Try.sizeOf140
  v35 := Try.zeroValue140
  t36 := Try.underlying141
  a36 := Try.isAgg141
  z36 := Try.sizeOf141
  v36 := Try.zeroValue141
  t41 := Try.underlying146
  a41 := Try.isAgg146
  z41 := Try.sizeOf146
  v41 := Try.zeroValue146
  t44 := Try.underlying149
  a44 := Try.isAgg149
  z44 := Try.sizeOf149
  v44 := Try.zeroValue149
  t46 := Try.underlying132
  a46 := Try.isAgg132
  z46 := Try.sizeOf132
  v46 := Try.zeroValue132
  t53 := Try.underlying155
  a53 := Try.isAgg155
  z53 := Try.sizeOf155
  v53 := Try.zeroValue155
  t57 := Try.underlying159
  a57 := Try.isAgg159
  z57 := Try.sizeOf159
  v57 := Try.zeroValue159
  t63 := Try.underlying164
  a63 := Try.isAgg164
  z63 := Try.sizeOf164
  v63 := Try.zeroValue164
  t64 := Try.underlying165
  a64 := Try.isAgg165
  z64 := Try.sizeOf165
  v64 := Try.zeroValue165
}
namespace Ytokapofgbcbajaa.Fns
open Go.RowKit Go.Maps Go.Sort Go.Proofs.YtokapofgbcbajaaW.PrintWords Go.Proofs.YtokapofgbcbajaaW.PrintLast Go.Proofs.YtokapofgbcbajaaW.PrintMore
set_option linter.unusedVariables false
set_option linter.unusedSimpArgs false
theorem sortsIn (m : Nat) : AnyZI.SortsIn Try.prog Try.sortedL_ren Fence.wide m :=
  ⟨fun blk off cap ss W hH hblk hsz => callsIn_wide.2 (AnyM.slices_Sort_int Try.sortL blk off cap ss W hH hblk hsz),
   fun p cap W => callsIn_wide.2 (AnyM.slices_Sort_int_none Try.sortL p cap W)⟩
theorem keys_of (es : List Ent) : intKeys (mD es) = es.map Ent.tag := by
  show (es.map kv).map (fun p => Go.intOf p.1) = _
  rw [List.map_map]
  rfl
theorem sorted_tags {es : List Ent} (hr : es.Pairwise (fun x y => x.tag < y.tag)) {ss : List Int} (hp : ss.Perm (intKeys (mD es))) : ss.mergeSort (fun x y => decide (x ≤ y)) = es.map Ent.tag := by
  rw [mergeSort_of_perm_i hp, keys_of]
  refine List.mergeSort_of_pairwise ?_
  rw [List.pairwise_map]
  exact hr.imp (fun h => decide_eq_true (by omega))
set_option maxHeartbeats 1000000 in
theorem tags_calls {w : World} {base p b : Nat} {hold time : Int} {l : List (Int × Dg)} (h : RS w base p b hold time l) (hl : l.length ≤ 1000) :
    Calls Try.prog 29 #[.pointer (some ⟨p, 0, none⟩)] w fun e w' => ∃ v, e = .returned v ∧ w'.ownsRow w.heap.size 3 1 v l.length ((l.map (·.1)).map (Value.int .i64)) ∧ Below w.heap.size w w' := by
  obtain ⟨live, es, hR, rfl⟩ := h.ex
  refine (callsIn_wide (n := 6)).1 ?_
  have hu79 := Try.underlying79
  have hown := hR.map
  have hbl := hown.lt
  have c2 := hR.c2
  have hsz : Maps.size (mD es) = es.length := by simp [mD, Maps.size]
  have hle : es.length ≤ 1000 := by rw [er_length] at hl; exact hl
  have hseq : SeqGives Fence.wide 2 Try.prog 80 #[.pointer (some ⟨w.heap.size, 0, none⟩)] encZ (fun ss => ss.Perm (intKeys (mD es))) (Maps.size (mD es)) (w.alloc (.cells #[.map (some b)] 77)) :=
    AnyZI.keys_gives (ρ := Try.keysL_ren) { Try.keysL with } Fence.wide _ trivial rfl (by omega) w.heap.size b es.length (mD es) _ (by simp) (by simp) (by
      obtain ⟨es', clock, hb, Ft, hs, hD⟩ := hown
      exact ⟨es', clock, (Below.heap_alloc _ _ b hbl).trans hb, Ft, hs, hD⟩)
  have cK : ∀ mb W, CallsIn Fence.wide 5 Try.prog 58 #[.map mb] W fun e w' => e = .returned (.func (.func 80) #[] #[.pointer (some ⟨W.heap.size, 0, none⟩)]) ∧ w' = W.alloc (.cells #[.map mb] 77) := fun mb W => AnyZI.keys_in Try.keysL Fence.wide 5 trivial rfl mb W
  have cS := AnyZI.sorted_in Try.sortedL Fence.wide 5 trivial trivial trivial trivial rfl (by omega) (sortsIn _) (enters_of Try.func30 (by kernel_rfl) rfl) 80 #[.pointer (some ⟨w.heap.size, 0, none⟩)] trivial (enters_of Try.func80 (by kernel_rfl) rfl) _ _ (by rw [hsz]; unfold maxLen; omega) (by rw [hsz]; omega) _ hseq
  change CallsIn _ _ Try.prog 57 _ _ _ at cS
  have hfK : Fence.wide.fn 58 := trivial
  have hfS : Fence.wide.fn 57 := trivial
  have HR := Aside0.mk hR.rise
  have HLE := Aside0.mk hle
  clear hown hbl hsz hle hseq h hR hl
  refine callsIn_of_wp Try.func29 rfl trivial ?_ rfl
  simp only [Try.ntmps29, List.size_toArray, List.length_cons, List.length_nil, Nat.reduceAdd, Nat.reduceSub, Array.replicate_succ, Array.replicate_zero, List.push_toArray, List.append_toArray, List.nil_append, List.cons_append]
  gi_wp2_with (first
    | (gi_at_call 58; refine (cK _ _).mono ?_; rintro e w' ⟨rfl, rfl⟩)
    | (gi_at_call 57; refine cS.mono ?_; rintro e w' ⟨v, ss, rfl, hS, hrow, hnil, hb⟩))
  go_ret
  have e1 := sorted_tags HR.out hS
  have e2 : ss.length = (er es).length := by
    have := congrArg List.length e1
    rw [List.length_mergeSort, List.length_map] at this
    rw [er_length]; exact this
  refine ⟨v, rfl, ?_, ((Below.refl _ w).alloc (Nat.le_refl _) _).trans (hb.mono (by simp))⟩
  rw [e1, e2] at hrow
  have e3 : (er es).map (·.1) = es.map Ent.tag := by simp [er]
  rw [e3]
  exact ownsRow_base_a hrow (by simp)
end Ytokapofgbcbajaa.Fns
end Go.Proofs
