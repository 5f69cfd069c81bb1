/- Walks of field.Text and of the reference's Text. -/
import Derived.Test.YtnccbebjligpdaaField
import Derived.Test.YtnccbebjligpdaaRef
import Derived.Test.YtnccbebjligpdaaWLast
import Derived.Laws.CopyRow
import Derived.Lib.AppendStr
import Derived.IntWalk
namespace Go.Proofs.Ytnccbebjligpdaa.Text
open Go Go.RowKit Go.Proofs.YtnccbebjligpdaaW.PrintWords Go.Proofs.YtnccbebjligpdaaW.PrintLast Go.Proofs.YtnccbebjligpdaaW.PrintMore Go.Proofs.Ytnccbebjligpdaa.Field Go.Proofs.Ytnccbebjligpdaa.Spin
set_option linter.unusedVariables false
set_option linter.unusedSimpArgs false

/-- copy of a text into a row. -/
theorem run_copy_str {P : Program} (w : World) (dT sT ty elem : TypeId) (g o dLen dCap : Nat) (s : ByteArray) (cur : Array Value) (t : TypeId)
    (hu : P.underlying dT = some (.slice elem)) (hs : (P.info? elem).map (·.size) = some 1)
    (hg : w.heap[g]? = some (.cells cur t (0, 0))) (hn : s.size ≤ dLen) (hfit : o + s.size ≤ cur.size) :
    (Builtin.copy_ #[dT, sT] ty #[.slice (some ⟨g, o, none⟩) dLen dCap, .string s]).run P w =
      .ok (goInt s.size) (w.setRow g (cur.toList.take o ++ Lib.strCells s ++ cur.toList.drop (o + s.size)).toArray) := by
  have hst := run_storeCells_at P g o t (Lib.strCells s) 0 cur w hg (by simpa [Lib.strCells_length] using hfit) (Lib.strCells_oneCell s)
  simp only [Nat.add_zero, Lib.strCells_length] at hst
  have hf := Lib.run_firstCells_string (P := P) w 1 s
  have hmin : Nat.min s.size dLen = s.size := Nat.min_eq_left hn
  cases hq : P.info? elem with
  | none => simp [hq] at hs
  | some i =>
    have hi : i.size = 1 := by simpa [hq] using hs
    simp [Builtin.copy_, run_underlying hu, Builtin.lenOf, sizeOf, typeInfo, hq, hi, hmin, hf, hst]

theorem Wrote.setRow {g : Nat} {cs : Array Value} {w w' : World} (h : Wrote g cs w w') (cs' : Array Value) : Wrote g cs' w (w'.setRow g cs') :=
  ⟨setRow_heap w' g cs cs' _ _ h.blk, by simp only [World.setRow, Array.size_modify]; exact h.size, fun j hj => (by rw [← h.far j hj]; exact setRow_other w' g j cs' hj), h.os, h.tape, h.output⟩

/-- A block with a text at a place. -/
def textL (l : List Int) (o : Nat) (s : ByteArray) : List Int := l.take o ++ bytesOf s ++ l.drop (o + s.size)
theorem textL_length (l : List Int) (o : Nat) (s : ByteArray) (h : o + s.size ≤ l.length) : (textL l o s).length = l.length := by
  unfold textL
  rw [List.length_append, List.length_append, List.length_take, List.length_drop, bytesOf_length]
  omega

/-- What Text gives. -/
def textF (l : List Int) (a1 : Int) (s : ByteArray) : Option (List Int × Int) :=
  if s.size ≤ 140737488351232 then (if l.length = 64 then (if 0 ≤ a1 ∧ a1 ≤ 60 - s.size then some (textL l a1.toNat s, 0) else some ([], 1)) else some ([], 2)) else none

theorem str_nums (s : ByteArray) : nums .u8 (bytesOf s) = Lib.strCells s := by simp [nums, bytesOf, Lib.strCells]

theorem R_append_str_step {P : Program} {ops : Array Oper} {o : Oper} {a : Act} {Q : Exit → Act → World → Prop} {Kc : Act → World → Prop} {w0 W : World} (base : Nat) (hw : Region.wanted o (yielded ops a.tmps) = true) (s x : Operand) (t u e : TypeId)
    (ho : o.op = .call { callee := .builtin .append, args := #[s, x], argTypes := #[t, u] })
    (ht : P.underlying t = some (.slice e)) (hu : P.underlying u = some .string) (hinfo : (P.info? e).map (fun i => (i.zero, i.size, i.bytes)) = some (some (.int .u8 0), 1, 1))
    (v : Value) (xs : List Int) (y : ByteArray) (hs : a.eval s = v) (hx : a.eval x = .string y)
    (HO : Kd.R B e W base (fun _ => True) v xs) (HB : Below base w0 W) (hbase : base ≤ W.heap.size) (hl : xs.length + y.size ≤ 140737488355328)
    (h : ∀ v1 w1, Kd.R B e w1 base (fun _ => True) v1 (xs ++ bytesOf y) → Below base w0 w1 → Kc (a.put o.dst v1) w1) :
    if Region.wanted o (yielded ops a.tmps) = true then Oper.wp P o a W Kc Q else Kc (a.put o.dst undef) W := by
  obtain ⟨i0, hi, hzz⟩ := Option.map_eq_some_iff.1 hinfo
  simp only [Prod.mk.injEq] at hzz
  obtain ⟨hz0, hz1, hz2⟩ := hzz
  have hown := Kd.own_of_R HO
  obtain ⟨v1, w1, hr, h2, h3, _⟩ := Lib.run_append_own_string (P := P) W base t u o.type e i0 ht hu hi hz0 hz1 hz2 v xs.length _ hown y (by simp only [maxLen]; omega) hl hbase
  have hl2 : (xs ++ bytesOf y).length = xs.length + y.size := by rw [List.length_append, bytesOf_length]
  have hc : encs (Value.int .u8) (xs ++ bytesOf y) = encs (Value.int .u8) xs ++ Lib.strCells y := by
    simp [encs, bytesOf, Lib.strCells]
  refine event_step hw (v := v1) (w1 := w1) ?_ (h v1 w1 (Kd.R_of_own (by rw [hl2, hc]; exact h2) (fun _ _ => trivial)) (HB.grown h3 hbase (own_base hown)))
  unfold execOp
  simp only [ho, resolve, invoke, builtin, Sem.run_bind, Sem.run_pure, Result.andThen_ok, List.map_toArray, List.map_cons, List.map_nil, hs, hx, hr]

end Go.Proofs.Ytnccbebjligpdaa.Text
