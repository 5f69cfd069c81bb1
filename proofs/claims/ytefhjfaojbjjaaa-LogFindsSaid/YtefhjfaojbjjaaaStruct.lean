/- A struct by value of five one-cell fields, opened; structs of whole numbers by value, opened to their numbers. -/
import Derived.Lib.SmallJoins
import Derived.RowKit
namespace Go.Proofs.Ytefhjfaojbjjaaa.Struct
open Go Go.ChangeShapes Go.WideShapes Go.ChangeAt Go.RowKit Go.Joins Go.Deep
set_option linter.unusedVariables false
section
variable {H : Type} {enc : TypeId × Value → H} {P : Program} {w : World} {base : Nat} {spare : Nat → Bool} {held : Bool}
/-- A struct of whole numbers, field by field. -/
theorem ints_field {t : TypeId} {fs : Array Field} {cs : List Value} {xs : List (DataW H × List MemPlace)} {n i : Nat} {f : Field} {c : Value} {K : IntKind} (hone : oneCellFields P fs = true) (hi : fs[i]? = some f) (hk : P.underlying f.type = some (.int K)) (hc : cs[i]? = some c)
    (hf : ∃ y, DataW.trod enc P w base spare held n f.type ((cs.drop f.offset).take (P.cellsOf f.type)) = some y) : ∃ z, c = .int K z ∧ (Lit.int K z).wf = true := by
  obtain ⟨o, k⟩ := hone_of hone i f hi
  obtain ⟨y, hf⟩ := hf
  rw [o, k] at hf
  have hl : i < cs.length := (List.getElem?_eq_some_iff.1 hc).1
  have e : (cs.drop i).take 1 = [c] := by
    have : cs[i] = c := (List.getElem?_eq_some_iff.1 hc).2
    rw [List.drop_eq_getElem_cons hl, this]; rfl
  rw [e] at hf
  obtain ⟨a, e0, rfl, wa⟩ := DataW.trod_int hk hf
  simp at e0
  exact ⟨a, e0, wa⟩
theorem open_ints2 {r : Reach} {b0 : Nat} {t : TypeId} {f0 f1 : Field} {v : Value} {d : DataW H} {p : List MemPlace} {K0 K1 : IntKind} (hs : P.underlying t = some (.struct #[f0, f1])) (hone : oneCellFields P #[f0, f1] = true) (hC : P.cellsOf t = 2)
    (u0 : P.underlying f0.type = some (.int K0)) (u1 : P.underlying f1.type = some (.int K1))
    (hv : Value.okWide P w r b0 t v) (h : DataW.Trod enc P w base spare held t v d p) :
    ∃ z0 z1, v = .agg #[.int K0 z0, .int K1 z1] ∧ (Lit.int K0 z0).wf = true ∧ (Lit.int K1 z1).wf = true := by
  obtain ⟨cs, rfl, hsz⟩ := okWide_struct hs hv
  obtain ⟨c0, c1, rfl⟩ := array2 (hsz.trans hC)
  obtain ⟨fuel, hf⟩ := h
  obtain ⟨xs, n, _, _, hl, hlen, hf⟩ := DataW.trod_struct hs hf
  have g : ∀ (i : Nat) (f : Field), #[f0, f1][i]? = some f → ∃ y, DataW.trod enc P w base spare held n f.type ((((Value.agg #[c0, c1]).cells.toList).drop f.offset).take (P.cellsOf f.type)) = some y := fun i f hi => ⟨xs[i]'(by rw [hlen]; exact (Array.getElem?_eq_some_iff.1 hi).1), by rw [hf i f hi]; exact List.getElem?_eq_getElem _⟩
  obtain ⟨z0, rfl, w0⟩ := ints_field (t := t) (xs := xs) (cs := [c0, c1]) hone (i := 0) rfl u0 rfl (by simpa [Value.cells] using g 0 f0 rfl)
  obtain ⟨z1, rfl, w1⟩ := ints_field (t := t) (xs := xs) (cs := [.int K0 z0, c1]) hone (i := 1) rfl u1 rfl (by simpa [Value.cells] using g 1 f1 rfl)
  exact ⟨z0, z1, rfl, w0, w1⟩
end
end Go.Proofs.Ytefhjfaojbjjaaa.Struct
