/- Maps keyed by ints, entry by entry: what a look-up and an insertion do. -/
import Derived.Test.YtigobnphenhkjaaBase
namespace Go.Proofs.Ytigobnphenhkjaa.Fns
open Go.RowKit Go.Proofs.YtigobnphenhkjaaW.PrintWords Go.Proofs.YtigobnphenhkjaaW.PrintLast Go.Proofs.YtigobnphenhkjaaW.PrintMore

def setB (w : World) (b : Nat) (o : Obj) : World := { w with heap := w.heap.setIfInBounds b o }
theorem setB_same {w : World} {b : Nat} {o1 : Obj} (h : w.heap[b]? = some o1) (o : Obj) : (setB w b o).heap[b]? = some o := by
  have hb := (Array.getElem?_eq_some_iff.1 h).1
  simp [setB, hb]
theorem setB_other (w : World) (b : Nat) (o : Obj) {k : Nat} (h : k ≠ b) : (setB w b o).heap[k]? = w.heap[k]? := by
  simp [setB, Ne.symm h]
theorem setB_size (w : World) (b : Nat) (o : Obj) : (setB w b o).heap.size = w.heap.size := by simp [setB]
theorem below_setB {B : Nat} {a w : World} (h : Below B a w) {b : Nat} (hb : B ≤ b) (o : Obj) : Below B a (setB w b o) :=
  h.trans ⟨rfl, rfl, rfl, by rw [setB_size]; exact Nat.le_refl _, fun k hk => setB_other w b o (by omega)⟩
section
variable {P : Program} {w : World} {t K E : TypeId} {r : Nat} {es : Array MapEntry} {clock : Nat} {k : Int}
theorem run_getObj_m (hb : w.heap[r]? = some (.map es clock)) : (getObj r).run P w = .ok (.map es clock) w := by simp [getObj, Sem.run, hb]
theorem run_setObj_m (hb : w.heap[r]? = some (.map es clock)) (o : Obj) : (setObj r o).run P w = .ok () (setB w r o) := by simp [setObj, Sem.run, hb, setB]
theorem run_checkKey_int (hK : P.underlying K = some (.int .i64)) (e : Bool) (n : Nat) (w : World) : (Instr.checkKey e (n + 1) K (.int .i64 k)).run P w = .ok () w := by
  simp [Instr.checkKey, run_underlying hK]
theorem run_findKey_int (hK : P.underlying K = some (.int .i64)) {x : Option (Nat × Value)} {l : List MapEntry} (hf : Instr.findNow (.int .i64) (.int .i64 k) l 0 = some x) (w : World) : (Instr.findKey K (.int .i64 k) l).run P w = .ok x w := by
  simp [Instr.findKey, run_underlying hK, hf]
/-- 'm[k]', k is there. -/
theorem run_look_some (ht : P.underlying t = some (.map K E)) (hK : P.underlying K = some (.int .i64)) (hb : w.heap[r]? = some (.map es clock)) {i : Nat} {v : Value}
    (hf : Instr.findNow (.int .i64) (.int .i64 k) es.toList 0 = some (some (i, v))) (ok : Bool) :
    (Instr.lookup t (.map (some r)) (.int .i64 k) ok).run P w = .ok (if ok then .tuple #[v, .bool true] else v) w := by
  have h1 : ∀ e, (Instr.checkKey e 10000 K (.int .i64 k)).run P w = .ok () w := fun e => run_checkKey_int hK e 9999 w
  simp [Instr.lookup, run_underlying ht, run_getObj_m hb, h1, run_findKey_int hK hf]
/-- 'm[k]', k is not there. -/
theorem run_look_none (ht : P.underlying t = some (.map K E)) (hK : P.underlying K = some (.int .i64)) (hb : w.heap[r]? = some (.map es clock)) {z : Value} (hz : (zeroValue E).run P w = .ok z w)
    (hf : Instr.findNow (.int .i64) (.int .i64 k) es.toList 0 = some none) (ok : Bool) :
    (Instr.lookup t (.map (some r)) (.int .i64 k) ok).run P w = .ok (if ok then .tuple #[z, .bool false] else z) w := by
  have h1 : ∀ e, (Instr.checkKey e 10000 K (.int .i64 k)).run P w = .ok () w := fun e => run_checkKey_int hK e 9999 w
  simp [Instr.lookup, run_underlying ht, run_getObj_m hb, h1, run_findKey_int hK hf, hz]
/-- 'm[k] = v', k is new. -/
theorem run_put_new (ht : P.underlying t = some (.map K E)) (hK : P.underlying K = some (.int .i64)) (hb : w.heap[r]? = some (.map es clock))
    (hf : Instr.findNow (.int .i64) (.int .i64 k) es.toList 0 = some none) (v : Value) :
    (Instr.mapUpdate t (.map (some r)) (.int .i64 k) v).run P w = .ok () (setB w r (.map (es.push ⟨.int .i64 k, v, clock⟩) (clock + 1))) := by
  have h1 : ∀ e, (Instr.checkKey e 10000 K (.int .i64 k)).run P w = .ok () w := fun e => run_checkKey_int hK e 9999 w
  simp [Instr.mapUpdate, run_underlying ht, run_getObj_m hb, h1, run_findKey_int hK hf, run_setObj_m hb]
end
section
variable {P : Program} {ops : Array Oper} {Q : Exit → Act → World → Prop} {rest : List Oper}
/-- One operation of a plain region that leaves a value. -/
theorem stepL_value {o : Oper} {a : Act} {w w1 : World} {v : Value} {N : Option Tmp} (hg : o.guard = none) (hd : o.dst = N) (hrun : (execOp a.eval o).run P w = .ok (.value v) w1)
    (h : wpList P ops Q rest (a.put N v) w1) : wpList P ops Q (o :: rest) a w := by
  refine wpList_plain hg fun K hK => ?_
  subst hd
  unfold Oper.wp
  rw [hrun]
  exact hK _ _ h
/-- One operation of a plain region that only writes. -/
theorem stepL_skip {o : Oper} {a : Act} {w w1 : World} (hg : o.guard = none) (hd : o.dst = none) (hrun : (execOp a.eval o).run P w = .ok .skip w1)
    (h : wpList P ops Q rest a w1) : wpList P ops Q (o :: rest) a w := by
  refine wpList_plain hg fun K hK => ?_
  unfold Oper.wp
  rw [hrun]
  refine hK _ _ ?_
  rw [hd]
  exact h
theorem exec_insert {w w1 : World} {a : Act} {o : Oper} {t : TypeId} {m k x : Operand} {vm vk vx : Value} (ho : o.op = .insert t m k x) (hm : a.eval m = vm) (hk : a.eval k = vk) (hx : a.eval x = vx)
    (h : (Instr.mapUpdate t vm vk vx).run P w = .ok () w1) : (execOp a.eval o).run P w = .ok .skip w1 := by
  unfold execOp
  simp [ho, hm, hk, hx, h]
end
end Go.Proofs.Ytigobnphenhkjaa.Fns
