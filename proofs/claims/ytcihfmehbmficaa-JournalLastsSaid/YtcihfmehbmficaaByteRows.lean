/- Rows of rows of bytes among the arguments, opened. -/
import Derived.Deep.Slices
import Derived.ChangeSlices
import Derived.RowKit
import Derived.Test.YtcihfmehbmficaaWWords
namespace Go.Proofs.Ytcihfmehbmficaa.Struct
open Go Go.ChangeShapes Go.WideShapes Go.RowKit Go.Deep Go.Proofs.YtcihfmehbmficaaW.PrintWords
set_option linter.unusedVariables false
section
variable {H : Type} {enc : TypeId × Value → H} {P : Program} {w : World} {base : Nat} {spare : Nat → Bool} {held : Bool}
theorem bytes_cells {t e : TypeId} {fuel : Nat} {cs : List Value} {x : DataW H × List MemPlace} (ht : P.underlying t = some (.slice e)) (he : P.underlying e = some (.int .u8)) (ce : P.cellsOf e = 1)
    (h : DataW.trod enc P w base spare held fuel t cs = some x) :
    ∃ (A : Option Addr) (cap : Nat) (l : List Int), cs = [.slice A l.length cap] ∧ Kd.C (Kd.int .u8) w A l.length l ∧ l.length ≤ cap ∧ ∀ x ∈ l, (Lit.int .u8 x).wf = true := by
  rcases open_ints ht he ce h with ⟨rfl, _⟩ | ⟨a, len, cap, zs, rfl, hb, hl, hm, hz, _, hcell, hw⟩
  · exact ⟨none, 0, [], rfl, Kd.C_nil _ _, Nat.zero_le _, fun x h => nomatch h⟩
  · have hlm : len ≤ zs.length := by rw [hz]; split <;> omega
    have hlen : (zs.take len).length = len := by rw [List.length_take]; omega
    refine ⟨some a, cap, zs.take len, by rw [hlen], ?_, by rw [hlen]; exact hl, fun x hx => hw x (List.mem_of_mem_take hx)⟩
    refine Kd.C_of_reads (d := (0 : Int)) (h1 := fun _ => rfl) ⟨rfl, ?_, fun h0 => ⟨a, rfl, fun j hj => ?_⟩⟩
    · rw [hlen]
      have : maxLen ≤ 9223372036854775807 := by decide
      omega
    · rw [hlen] at hj
      rw [hcell j (by omega)]
      rw [List.getD_eq_getElem?_getD, List.getD_eq_getElem?_getD, List.getElem?_take, if_pos hj]
theorem open_rows {t q e : TypeId} {a : Option Addr} {len cap : Nat} {d : DataW H} {p : List MemPlace} (hq : P.underlying t = some (.slice q)) (cq : P.cellsOf q = 1) (ht : P.underlying q = some (.slice e)) (he : P.underlying e = some (.int .u8)) (ce : P.cellsOf e = 1)
    (h : DataW.Trod enc P w base spare held t (.slice a len cap) d p) :
    ∃ l : List (List Int), len = l.length ∧ Kd.C (Kd.slice e (Kd.int .u8)) w a l.length l ∧ l.length ≤ cap ∧ ∀ b ∈ l, ∀ x ∈ b, (Lit.int .u8 x).wf = true := by
  obtain ⟨fuel, hf⟩ := h
  rcases open_slice1 hq cq hf with ⟨hcs, _⟩ | ⟨ad, len', cap', m, n, V, D, Pl, hcs, hb, hl, hm, hmm, _, hx⟩
  · simp [Value.cells] at hcs
    obtain ⟨rfl, rfl, rfl⟩ := hcs
    exact ⟨[], rfl, Kd.C_nil _ _, Nat.zero_le _, fun x h => nomatch h⟩
  · simp [Value.cells] at hcs
    obtain ⟨rfl, rfl, rfl⟩ := hcs
    have hlm : len ≤ m := by rw [hmm]; split <;> omega
    have each : ∀ i, i < len → ∃ y : Option Addr × Nat × List Int, V i = .slice y.1 y.2.2.length y.2.1 ∧ Kd.C (Kd.int .u8) w y.1 y.2.2.length y.2.2 ∧ y.2.2.length ≤ y.2.1 ∧ ∀ x ∈ y.2.2, (Lit.int .u8 x).wf = true := fun i hi => by
      obtain ⟨A, c, l, hcs, hC, hlc, hs⟩ := bytes_cells ht he ce (hx i (by omega)).2
      exact ⟨(A, c, l), by simpa using hcs, hC, hlc, hs⟩
    obtain ⟨Y, hY⟩ := choose_lt (α := Option Addr × Nat × List Int) each
    have hlen : ((List.range len).map fun i => (Y i).2.2).length = len := by simp
    refine ⟨(List.range len).map fun i => (Y i).2.2, hlen.symm, ?_, by rw [hlen]; exact hl, ?_⟩
    · refine ⟨rfl, ?_, fun _ => ⟨ad, rfl, fun j x hj => ?_⟩⟩
      · rw [hlen]
        have : maxLen ≤ 9223372036854775807 := by decide
        omega
      · have hjl : j < len := by
          have := (List.getElem?_eq_some_iff.1 hj).1
          rwa [hlen] at this
        obtain rfl : (Y j).2.2 = x := by
          rw [List.getElem?_map, List.getElem?_range hjl] at hj
          exact Option.some.inj hj
        obtain ⟨e0, hC, hlc, _⟩ := hY j hjl
        refine ⟨[.slice (Y j).1 (Y j).2.2.length (Y j).2.1], rfl, ⟨(Y j).1, (Y j).2.1, rfl, hlc, hC⟩, fun i u hi => ?_⟩
        cases i with
        | zero =>
          obtain rfl : Value.slice (Y j).1 (Y j).2.2.length (Y j).2.1 = u := by simpa using hi
          rw [← e0]
          show w.cell? (ad.add (j * 1 + 0)) = _
          rw [Nat.mul_one, Nat.add_zero]
          exact (hx j (by omega)).1
        | succ i => simp at hi
    · intro b h
      obtain ⟨i, hi, rfl⟩ := List.mem_map.1 h
      exact (hY i (List.mem_range.1 hi)).2.2.2
end
end Go.Proofs.Ytcihfmehbmficaa.Struct
