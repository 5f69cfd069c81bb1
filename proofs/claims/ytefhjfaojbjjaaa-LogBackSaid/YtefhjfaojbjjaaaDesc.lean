/- A struct by value of a number and a list of numbers, opened. -/
import Derived.Lib.SmallJoins
import Derived.RowKit
import Derived.Test.YtefhjfaojbjjaaaWWords
import Derived.Test.YtefhjfaojbjjaaaWLast
namespace Go.Proofs.Ytefhjfaojbjjaaa.Struct
open Go Go.ChangeShapes Go.WideShapes Go.ChangeAt Go.RowKit Go.Joins Go.Deep Go.Proofs.YtefhjfaojbjjaaaW.PrintWords Go.Proofs.YtefhjfaojbjjaaaW.PrintLast
set_option linter.unusedVariables false
section
variable {H : Type} {enc : TypeId × Value → H} {P : Program} {w : World} {base : Nat} {held : Bool}
theorem open_desc {r : Reach} {b0 : Nat} {t e : TypeId} {f0 f1 : Field} {v : Value} {d : DataW H} {p : List MemPlace} {K0 K1 : IntKind} (hs : P.underlying t = some (.struct #[f0, f1])) (hone : oneCellFields P #[f0, f1] = true) (hC : P.cellsOf t = 2)
    (u0 : P.underlying f0.type = some (.int K0)) (u1 : P.underlying f1.type = some (.slice e)) (ue : P.underlying e = some (.int K1)) (ce : P.cellsOf e = 1)
    (hv : Value.okWide P w r b0 t v) (h : DataW.Trod enc P w base (fun _ => true) held t v d p) :
    ∃ z A cap l, v = .agg #[.int K0 z, .slice A l.length cap] ∧ Kd.C (Kd.int K1) w A l.length l ∧ l.length ≤ cap ∧ (Lit.int K0 z).wf = true ∧ ∀ x ∈ l, (Lit.int K1 x).wf = true := by
  obtain ⟨c0, c1, y0, y1, m, rfl, rfl, rfl, hy0, hy1⟩ := open_agg2 hs hone hC hv h
  obtain ⟨z, e0, _, wz⟩ := DataW.trod_int u0 hy0
  simp only [List.cons.injEq, and_true] at e0
  subst e0
  rcases open_ints u1 ue ce hy1 with ⟨hcs, _⟩ | ⟨x, l, c, zs, hcs, _, hl, hm, hz, _, hcell, hwz⟩
  · simp only [List.cons.injEq, and_true] at hcs
    subst hcs
    exact ⟨z, none, 0, [], rfl, Kd.C_nil _ _, Nat.zero_le _, wz, fun x h => nomatch h⟩
  · simp only [List.cons.injEq, and_true] at hcs
    subst hcs
    obtain ⟨l0, rfl, hr0, _, hw0, hc0⟩ := ReadsInt.ofRowC (k := K1) (w := w) (a := some x) (len := l) (cap := c) (zs := zs) (.inr ⟨_, rfl, hl, hm, by simpa using hz, hcell, hwz⟩)
    exact ⟨z, some x, c, l0, rfl, Kd.C_of_reads (d := (0 : Int)) (h1 := fun _ => rfl) hr0, hc0, wz, hw0⟩
end
end Go.Proofs.Ytefhjfaojbjjaaa.Struct
