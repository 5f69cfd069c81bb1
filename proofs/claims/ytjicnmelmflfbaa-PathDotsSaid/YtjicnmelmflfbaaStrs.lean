/- A list of texts among the arguments, opened. -/
import Derived.Deep.Strs
import Derived.RowKit
import Derived.Test.YtjicnmelmflfbaaWWords
namespace Go.Proofs.Ytjicnmelmflfbaa.Struct
open Go Go.ChangeShapes Go.WideShapes Go.RowKit Go.Deep Go.Proofs.YtjicnmelmflfbaaW.PrintWords
set_option linter.unusedVariables false
section
variable {H : Type} {enc : TypeId × Value → H} {P : Program} {w : World} {base : Nat} {spare : Nat → Bool} {held : Bool}
theorem open_strsC {t e : TypeId} {a : Option Addr} {len cap : Nat} {d : DataW H} {p : List MemPlace} (ht : P.underlying t = some (.slice e)) (he : P.underlying e = some .string) (hc : P.cellsOf e = 1)
    (h : DataW.Trod enc P w base spare held t (.slice a len cap) d p) : ∃ l : List ByteArray, len = l.length ∧ Kd.C Kd.string w a l.length l ∧ l.length ≤ cap ∧ ∀ x ∈ l, x.size ≤ maxLen := by
  obtain ⟨fuel, hf⟩ := h
  rcases open_strs ht he hc hf with ⟨hcs, _⟩ | ⟨ad, len', cap', m, Sx, hcs, _, hl, hm, hmm, _, hx⟩
  · simp [Value.cells] at hcs
    obtain ⟨rfl, rfl, rfl⟩ := hcs
    exact ⟨[], rfl, Kd.C_nil _ _, Nat.zero_le _, fun x h => nomatch h⟩
  · simp [Value.cells] at hcs
    obtain ⟨rfl, rfl, rfl⟩ := hcs
    have hlm : len ≤ m := by rw [hmm]; split <;> omega
    have hlen : ((List.range len).map Sx).length = len := by simp
    refine ⟨(List.range len).map Sx, hlen.symm, ?_, by rw [hlen]; exact hl, ?_⟩
    · refine Kd.C_of_reads (d := ByteArray.empty) (h1 := fun _ => rfl) ⟨rfl, ?_, fun h0 => ⟨ad, rfl, fun j hj => ?_⟩⟩
      · rw [hlen]
        have : maxLen ≤ 9223372036854775807 := by decide
        omega
      · rw [hlen] at hj
        rw [(hx j (by omega)).1]
        simp [hj]
    · intro x h
      obtain ⟨i, hi, rfl⟩ := List.mem_map.1 h
      exact (hx i (by have := List.mem_range.1 hi; omega)).2
end
end Go.Proofs.Ytjicnmelmflfbaa.Struct
