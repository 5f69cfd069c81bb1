/- For all worlds: a struct or an array is loaded whole, and stored whole into a block that is known. Conditions: the cells are there. -/
import Derived.Test.YtbdbjlfdnijfeaaWWords
import Derived.WalkKit
import Derived.OwnWalk
import Derived.Deep.MidRow
import Derived.Deep.WholeRow
namespace Go.Proofs.Ytbdbjlfdnijfeaa.Whole
open Go Go.RowKit Go.Proofs.YtbdbjlfdnijfeaaW.PrintWords
set_option linter.unusedVariables false
set_option linter.unusedSimpArgs false
section
variable {P : Program} {ops : Array Oper} {rest : List Oper} {op : Oper} {a : Act} {w : World} {Q : Exit → Act → World → Prop}
theorem run_load (ty : TypeId) (ad : Addr) (cs : List Value) (d : TypeDesc) (hc : ∀ (j : Nat) (u : Value), cs[j]? = some u → w.cell? (ad.add j) = some u) (hu : P.underlying ty = some d) (hd : (match d with | .struct _ | .array _ _ => true | _ => false) = true)
    (hi : (P.info? ty).map (·.size) = some cs.length) : (Instr.loadAt ty (.pointer (some ad))).run P w = .ok (.agg cs.toArray) w := by
  have hl : (loadCells ad cs.length).run P w = .ok cs.toArray w := run_loadCells_list (P := P) w ad cs hc
  cases hq : P.info? ty with
  | none => simp [hq] at hi
  | some i =>
    have hs : i.size = cs.length := by simpa [hq] using hi
    have hagg : (isAgg ty).run P w = .ok true w := by
      unfold isAgg
      rw [Sem.run_bind, run_underlying hu w]
      simp only [Result.andThen_ok]
      cases d <;> simp_all
    simp only [Instr.loadAt, Instr.sureAddr, Sem.run_bind, Sem.run_pure, Result.andThen_ok]
    simp [loadVar, Sem.run_bind, hagg, sizeOf, typeInfo, hq, hs, hl]
theorem load_ (hgd : op.guard = none) (ty : TypeId) (x : Operand) (ho : op.op = .load ty x) (ad : Addr) (cs : List Value) (d : TypeDesc) (hx : a.eval x = .pointer (some ad)) (hc : ∀ (j : Nat) (u : Value), cs[j]? = some u → w.cell? (ad.add j) = some u)
    (hu : P.underlying ty = some d) (hd : (match d with | .struct _ | .array _ _ => true | _ => false) = true) (hi : (P.info? ty).map (·.size) = some cs.length) (h : wpList P ops Q rest (a.put op.dst (.agg cs.toArray)) w) : wpList P ops Q (op :: rest) a w := by
  refine wpList_plain hgd fun K hK => ?_
  unfold Oper.wp execOp
  simp only [ho, hx, Sem.run_bind, run_load ty ad cs d hc hu hd hi, Result.andThen_ok]
  exact hK _ _ h
theorem exec_load (ty : TypeId) (x : Operand) (ho : op.op = .load ty x) (p u : Value) (hx : a.eval x = p) (h : (Instr.loadAt ty p).run P w = .ok u w) : (execOp a.eval op).run P w = .ok (.value u) w := by
  unfold execOp
  simp only [ho, hx, Sem.run_bind, h]
  rfl
/-- A block's cells, as a list. -/
theorem cells_at {g : Nat} {cs : Array Value} {t : TypeId} {fr : Nat × Nat} (h : w.heap[g]? = some (.cells cs t fr)) (o : Nat) (l : List Value) (hl : ∀ (j : Nat) (u : Value), l[j]? = some u → cs[o + j]? = some u) : ∀ (j : Nat) (u : Value), l[j]? = some u → w.cell? ((⟨g, o, none⟩ : Addr).add j) = some u := fun j u hj => by
  rw [Addr.add_mid, cell_of_row _ _ (o + j) cs t fr h]
  exact hl j u hj
theorem store_ (hgd : op.guard = none) (hN : op.dst = none) (ty : TypeId) (x y : Operand) (ho : op.op = .store ty x y) (gb o : Nat) (t0 : TypeId) (cur cells new : Array Value) (hx : a.eval x = .pointer (some ⟨gb, o, none⟩)) (hy : a.eval y = .agg cells)
    (hg : w.heap[gb]? = some (.cells cur t0 (0, 0))) (hfit : o + cells.size ≤ cur.size) (hi : (P.info? ty).map (·.size) = some cells.size) (h1 : ∀ u ∈ cells.toList, u.oneCell' = true) (hnew : (cur.toList.take o ++ cells.toList ++ cur.toList.drop (o + cells.size)).toArray = new)
    (h : ∀ w1, w1.heap[gb]? = some (.cells new t0 (0, 0)) → w.grownBy w1 (some gb) → w1.heap.size = w.heap.size → wpList P ops Q rest a w1) : wpList P ops Q (op :: rest) a w := by
  subst hnew
  refine wpList_plain hgd fun K hK => ?_
  have hst := run_storeCells_at P gb o t0 cells.toList 0 cur w hg (by simpa using hfit) h1
  have hrun : (storeVar ty ⟨gb, o, none⟩ (.agg cells)).run P w = .ok () (w.setRow gb (cur.toList.take o ++ cells.toList ++ cur.toList.drop (o + cells.size)).toArray) := by
    cases hq : P.info? ty with
    | none => simp [hq] at hi
    | some i =>
      have hs : cells.size = i.size := by simp [hq] at hi; omega
      simp only [Nat.add_zero, Array.length_toList] at hst
      simp [storeVar, sizeOf, typeInfo, hq, Value.cells, hs, hst]
  unfold Oper.wp execOp
  simp only [ho, hx, hy, Instr.storeAt, Instr.sureAddr, Sem.run_bind, Sem.run_pure, Result.andThen_ok, hrun]
  have hp : a.put op.dst undef = a := by rw [hN]; rfl
  have hk := hK _ _ (h _ (setRow_heap _ _ _ _ _ _ hg) ⟨rfl, rfl, rfl, by simp, fun k _ hn => setRow_other _ _ _ _ (fun e => hn (by rw [e]))⟩ (by simp))
  rw [← hp] at hk
  exact hk
theorem run_store (ty : TypeId) (gb o : Nat) (t0 : TypeId) (cur cells new : Array Value) (hg : w.heap[gb]? = some (.cells cur t0 (0, 0))) (hfit : o + cells.size ≤ cur.size) (hi : (P.info? ty).map (·.size) = some cells.size) (h1 : ∀ u ∈ cells.toList, u.oneCell' = true)
    (hnew : (cur.toList.take o ++ cells.toList ++ cur.toList.drop (o + cells.size)).toArray = new) : ∃ w1, (Instr.storeAt ty (.pointer (some ⟨gb, o, none⟩)) (.agg cells)).run P w = .ok () w1 ∧ w1.heap[gb]? = some (.cells new t0 (0, 0)) ∧ w.grownBy w1 (some gb) ∧ w1.heap.size = w.heap.size := by
  subst hnew
  have hst := run_storeCells_at P gb o t0 cells.toList 0 cur w hg (by simpa using hfit) h1
  have hrun : (storeVar ty ⟨gb, o, none⟩ (.agg cells)).run P w = .ok () (w.setRow gb (cur.toList.take o ++ cells.toList ++ cur.toList.drop (o + cells.size)).toArray) := by
    cases hq : P.info? ty with
    | none => simp [hq] at hi
    | some i =>
      have hs : cells.size = i.size := by simp [hq] at hi; omega
      simp only [Nat.add_zero, Array.length_toList] at hst
      simp [storeVar, sizeOf, typeInfo, hq, Value.cells, hs, hst]
  refine ⟨_, by simp only [Instr.storeAt, Instr.sureAddr, Sem.run_bind, Sem.run_pure, Result.andThen_ok, hrun], setRow_heap _ _ _ _ _ _ hg, ⟨rfl, rfl, rfl, by simp, fun k _ hn => setRow_other _ _ _ _ (fun e => hn (by rw [e]))⟩, by simp⟩
theorem exec_store {w1 : World} (ty : TypeId) (x y : Operand) (ho : op.op = .store ty x y) (p u : Value) (hx : a.eval x = p) (hy : a.eval y = u) (h : (Instr.storeAt ty p u).run P w = .ok () w1) : (execOp a.eval op).run P w = .ok .skip w1 := by
  unfold execOp
  simp only [ho, hx, hy, Sem.run_bind, h]
  rfl
theorem arr_ (hgd : op.guard = none) (t : TypeId) (x : Operand) (ho : op.op = .sliceToArrayPointer t x) (A : Option Addr) (n c : Nat) (e : TypeId) (hx : a.eval x = .slice A n c) (hu : P.underlying t = some (.array n e)) (h : wpList P ops Q rest (a.put op.dst (.pointer A)) w) : wpList P ops Q (op :: rest) a w := by
  refine wpList_plain hgd fun K hK => ?_
  unfold Oper.wp execOp
  simp only [ho, hx, Instr.arrayAt, Sem.run_bind, run_underlying hu w, Result.andThen_ok]
  simp
  exact hK _ _ h
end
end Go.Proofs.Ytbdbjlfdnijfeaa.Whole
