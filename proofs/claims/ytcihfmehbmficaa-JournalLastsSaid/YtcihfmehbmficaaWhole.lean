/- For all worlds: a struct or an array is loaded whole, and stored whole into a block that is known. Conditions: the cells are there. -/
import Derived.Test.YtcihfmehbmficaaWWords
import Derived.WalkKit
import Derived.OwnWalk
import Derived.Deep.MidRow
import Derived.Deep.WholeRow
namespace Go.Proofs.Ytcihfmehbmficaa.Whole
open Go Go.RowKit Go.Proofs.YtcihfmehbmficaaW.PrintWords
set_option linter.unusedVariables false
set_option linter.unusedSimpArgs false
section
variable {P : Program} {ops : Array Oper} {rest : List Oper} {op : Oper} {a : Act} {w : World} {Q : Exit → Act → World → Prop}
theorem exec_load (ty : TypeId) (x : Operand) (ho : op.op = .load ty x) (p u : Value) (hx : a.eval x = p) (h : (Instr.loadAt ty p).run P w = .ok u w) : (execOp a.eval op).run P w = .ok (.value u) w := by
  unfold execOp
  simp only [ho, hx, Sem.run_bind, h]
  rfl
theorem run_store (ty : TypeId) (gb o : Nat) (t0 : TypeId) (cur cells new : Array Value) (hg : w.heap[gb]? = some (.cells cur t0 (0, 0))) (hfit : o + cells.size ≤ cur.size) (hi : (P.info? ty).map (·.size) = some cells.size) (h1 : ∀ u ∈ cells.toList, u.oneCell' = true)
    (hnew : (cur.toList.take o ++ cells.toList ++ cur.toList.drop (o + cells.size)).toArray = new) : ∃ w1, (Instr.storeAt ty (.pointer (some ⟨gb, o, none⟩)) (.agg cells)).run P w = .ok () w1 ∧ w1.heap[gb]? = some (.cells new t0 (0, 0)) ∧ w.grownBy w1 (some gb) ∧ w1.heap.size = w.heap.size := by
  subst hnew
  have hst := run_storeCells_at P gb o t0 cells.toList 0 cur w hg (by simpa using hfit) h1
  have hrun : (storeVar ty ⟨gb, o, none⟩ (.agg cells)).run P w = .ok () (w.setRow gb (cur.toList.take o ++ cells.toList ++ cur.toList.drop (o + cells.size)).toArray) := by
    cases hq : P.info? ty with
    | none => simp [hq] at hi
    | some i =>
      have hs : cells.size = i.size := by simp [hq] at hi; omega
      simp only [Nat.add_zero, Array.length_toList] at hst
      simp [storeVar, sizeOf, typeInfo, hq, Value.cells, hs, hst]
  refine ⟨_, by simp only [Instr.storeAt, Instr.sureAddr, Sem.run_bind, Sem.run_pure, Result.andThen_ok, hrun], setRow_heap _ _ _ _ _ _ hg, ⟨rfl, rfl, rfl, by simp, fun k _ hn => setRow_other _ _ _ _ (fun e => hn (by rw [e]))⟩, by simp⟩
theorem exec_store {w1 : World} (ty : TypeId) (x y : Operand) (ho : op.op = .store ty x y) (p u : Value) (hx : a.eval x = p) (hy : a.eval y = u) (h : (Instr.storeAt ty p u).run P w = .ok () w1) : (execOp a.eval op).run P w = .ok .skip w1 := by
  unfold execOp
  simp only [ho, hx, hy, Sem.run_bind, h]
  rfl
end
end Go.Proofs.Ytcihfmehbmficaa.Whole
