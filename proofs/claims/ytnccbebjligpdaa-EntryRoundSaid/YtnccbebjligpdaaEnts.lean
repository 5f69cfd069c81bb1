/- Rows of entries, and rows of rows of entries, among the arguments, opened. -/
import Derived.Deep.SlicePairs
import Derived.RowKit
import Derived.Lib.SmallJoins
import Derived.Test.YtnccbebjligpdaaPAllx0
namespace Go.Proofs.Ytnccbebjligpdaa.Struct
open Go Go.ChangeShapes Go.WideShapes Go.RowKit Go.Deep Go.Proofs.YtnccbebjligpdaaW.PrintWords Go.Proofs.Ytnccbebjligpdaa.PAll
set_option linter.unusedVariables false
instance : Inhabited S41 := ⟨z41⟩
section
variable {H : Type} {enc : TypeId × Value → H} {P : Program} {w : World} {base : Nat} {spare : Nat → Bool} {held : Bool}
theorem ents_cells {t e : TypeId} {f0 f1 : Field} {fuel : Nat} {cs : List Value} {x : DataW H × List MemPlace} (ht : P.underlying t = some (.slice e)) (he : P.underlying e = some (.struct #[f0, f1]))
    (ce : P.cellsOf e = 2) (o0 : f0.offset = 0) (o1 : f1.offset = 1) (c0 : P.cellsOf f0.type = 1) (c1 : P.cellsOf f1.type = 1) (u0 : P.underlying f0.type = some (.int .i64)) (u1 : P.underlying f1.type = some .string)
    (h : DataW.trod enc P w base spare held fuel t cs = some x) :
    ∃ (A : Option Addr) (cap : Nat) (l : List S41), cs = [.slice A l.length cap] ∧ Kd.C k41 w A l.length l ∧ l.length ≤ cap ∧ ∀ x ∈ l, x.f1.size ≤ maxLen := by
  rcases open_slice_pairs ht he ce o0 o1 c0 c1 h with ⟨rfl, _⟩ | ⟨a, len, cap, m, n, V0, V1, D0, D1, P0, P1, rfl, hb, hl, hm, hmm, _, hx⟩
  · exact ⟨none, 0, [], rfl, Kd.C_nil _ _, Nat.zero_le _, fun x h => nomatch h⟩
  · have hlm : len ≤ m := by rw [hmm]; split <;> omega
    have each : ∀ i, i < len → ∃ x : S41, V0 i = .int .i64 x.f0 ∧ V1 i = .string x.f1 ∧ x.f1.size ≤ maxLen := fun i hi => by
      obtain ⟨_, _, h2, h3⟩ := hx i (by omega)
      obtain ⟨z, e0, _, _⟩ := DataW.trod_int u0 h2
      obtain ⟨s, e1, _, h4⟩ := DataW.trod_string u1 h3
      exact ⟨⟨z, s⟩, by simpa using e0, by simpa using e1, h4⟩
    obtain ⟨X, hX⟩ := choose_lt (α := S41) each
    have hlen : ((List.range len).map X).length = len := by simp
    refine ⟨some a, cap, (List.range len).map X, by rw [hlen], ?_, by rw [hlen]; exact hl, ?_⟩
    · refine ⟨rfl, ?_, fun _ => ⟨a, rfl, fun j x hj => ?_⟩⟩
      · rw [hlen]
        have : maxLen ≤ 9223372036854775807 := by decide
        omega
      · have hjl : j < len := by
          have := (List.getElem?_eq_some_iff.1 hj).1
          rwa [hlen] at this
        obtain rfl : X j = x := by
          rw [List.getElem?_map, List.getElem?_range hjl] at hj
          exact Option.some.inj hj
        refine ⟨[.int .i64 (X j).f0, .string (X j).f1], rfl, k41_mk _ _, fun i u hi => ?_⟩
        obtain ⟨h0, h1, _⟩ := hx j (by omega)
        obtain ⟨e0, e1, _⟩ := hX j hjl
        match i, hi with
        | 0, hi =>
          obtain rfl : Value.int .i64 (X j).f0 = u := by simpa using hi
          rw [← e0]; exact h0
        | 1, hi =>
          obtain rfl : Value.string (X j).f1 = u := by simpa using hi
          rw [← e1]; exact h1
        | i + 2, hi => simp at hi
    · intro x h
      obtain ⟨i, hi, rfl⟩ := List.mem_map.1 h
      exact (hX i (List.mem_range.1 hi)).2.2
theorem open_ents {t e : TypeId} {f0 f1 : Field} {a : Option Addr} {len cap : Nat} {d : DataW H} {p : List MemPlace} (ht : P.underlying t = some (.slice e)) (he : P.underlying e = some (.struct #[f0, f1]))
    (ce : P.cellsOf e = 2) (o0 : f0.offset = 0) (o1 : f1.offset = 1) (c0 : P.cellsOf f0.type = 1) (c1 : P.cellsOf f1.type = 1) (u0 : P.underlying f0.type = some (.int .i64)) (u1 : P.underlying f1.type = some .string)
    (h : DataW.Trod enc P w base spare held t (.slice a len cap) d p) :
    ∃ l : List S41, len = l.length ∧ Kd.C k41 w a l.length l ∧ l.length ≤ cap ∧ ∀ x ∈ l, x.f1.size ≤ maxLen := by
  obtain ⟨fuel, hf⟩ := h
  obtain ⟨A, cap', l, hcs, hC, hl, hs⟩ := ents_cells ht he ce o0 o1 c0 c1 u0 u1 hf
  simp [Value.cells] at hcs
  obtain ⟨rfl, rfl, rfl⟩ := hcs
  exact ⟨l, rfl, hC, hl, hs⟩
theorem open_blocks {t q e : TypeId} {f0 f1 : Field} {a : Option Addr} {len cap : Nat} {d : DataW H} {p : List MemPlace} (hq : P.underlying t = some (.slice q)) (cq : P.cellsOf q = 1) (ht : P.underlying q = some (.slice e)) (he : P.underlying e = some (.struct #[f0, f1]))
    (ce : P.cellsOf e = 2) (o0 : f0.offset = 0) (o1 : f1.offset = 1) (c0 : P.cellsOf f0.type = 1) (c1 : P.cellsOf f1.type = 1) (u0 : P.underlying f0.type = some (.int .i64)) (u1 : P.underlying f1.type = some .string)
    (h : DataW.Trod enc P w base spare held t (.slice a len cap) d p) :
    ∃ l : List (List S41), len = l.length ∧ Kd.C (Kd.slice e k41) w a l.length l ∧ l.length ≤ cap ∧ ∀ b ∈ l, ∀ x ∈ b, x.f1.size ≤ maxLen := by
  obtain ⟨fuel, hf⟩ := h
  rcases open_slice1 hq cq hf with ⟨hcs, _⟩ | ⟨ad, len', cap', m, n, V, D, Pl, hcs, hb, hl, hm, hmm, _, hx⟩
  · simp [Value.cells] at hcs
    obtain ⟨rfl, rfl, rfl⟩ := hcs
    exact ⟨[], rfl, Kd.C_nil _ _, Nat.zero_le _, fun x h => nomatch h⟩
  · simp [Value.cells] at hcs
    obtain ⟨rfl, rfl, rfl⟩ := hcs
    have hlm : len ≤ m := by rw [hmm]; split <;> omega
    have each : ∀ i, i < len → ∃ y : Option Addr × Nat × List S41, V i = .slice y.1 y.2.2.length y.2.1 ∧ Kd.C k41 w y.1 y.2.2.length y.2.2 ∧ y.2.2.length ≤ y.2.1 ∧ ∀ x ∈ y.2.2, x.f1.size ≤ maxLen := fun i hi => by
      obtain ⟨A, c, l, hcs, hC, hlc, hs⟩ := ents_cells ht he ce o0 o1 c0 c1 u0 u1 (hx i (by omega)).2
      exact ⟨(A, c, l), by simpa using hcs, hC, hlc, hs⟩
    obtain ⟨Y, hY⟩ := choose_lt (α := Option Addr × Nat × List S41) each
    have hlen : ((List.range len).map fun i => (Y i).2.2).length = len := by simp
    refine ⟨(List.range len).map fun i => (Y i).2.2, hlen.symm, ?_, by rw [hlen]; exact hl, ?_⟩
    · refine ⟨rfl, ?_, fun _ => ⟨ad, rfl, fun j x hj => ?_⟩⟩
      · rw [hlen]
        have : maxLen ≤ 9223372036854775807 := by decide
        omega
      · have hjl : j < len := by
          have := (List.getElem?_eq_some_iff.1 hj).1
          rwa [hlen] at this
        obtain rfl : (Y j).2.2 = x := by
          rw [List.getElem?_map, List.getElem?_range hjl] at hj
          exact Option.some.inj hj
        obtain ⟨e0, hC, hlc, _⟩ := hY j hjl
        refine ⟨[.slice (Y j).1 (Y j).2.2.length (Y j).2.1], rfl, ⟨(Y j).1, (Y j).2.1, rfl, hlc, hC⟩, fun i u hi => ?_⟩
        cases i with
        | zero =>
          obtain rfl : Value.slice (Y j).1 (Y j).2.2.length (Y j).2.1 = u := by simpa using hi
          rw [← e0]
          show w.cell? (ad.add (j * 1 + 0)) = _
          rw [Nat.mul_one, Nat.add_zero]
          exact (hx j (by omega)).1
        | succ i => simp at hi
    · intro b h
      obtain ⟨i, hi, rfl⟩ := List.mem_map.1 h
      exact (hY i (List.mem_range.1 hi)).2.2.2
/-- A row of entries that came in, as one that may be shared. -/
theorem ents_V {W : World} {b : Nat} {A : Option Addr} {c : Nat} {l : List S41} (hC : Kd.C k41 W A l.length l) (hc : l.length ≤ c) : Kd.V k41 41 W b (fun _ => True) (.slice A l.length c) l :=
  Kd.V_mk hc (fun W' hW => ⟨hC.1, hC.2.1, fun hn => by
    obtain ⟨ad, e, h⟩ := hC.2.2 hn
    refine ⟨ad, e, fun j p hj => ?_⟩
    obtain ⟨cs, h1, h2, h3⟩ := h j p hj
    have h4 := k41_open h2
    subst h4
    exact ⟨_, h1, k41_mk W' p, fun i u hu => (World.cell?_of_block (hW _ trivial (World.block_lt_of_cell? W _ (h3 i u hu)))).trans (h3 i u hu)⟩⟩)
theorem open_entry {r : Reach} {b0 : Nat} {t : TypeId} {f0 f1 : Field} {v : Value} {d : DataW H} {p : List MemPlace} (hs : P.underlying t = some (.struct #[f0, f1])) (hone : oneCellFields P #[f0, f1] = true) (hC : P.cellsOf t = 2)
    (u0 : P.underlying f0.type = some (.int .i64)) (u1 : P.underlying f1.type = some .string)
    (hv : Value.okWide P w r b0 t v) (h : DataW.Trod enc P w base (fun _ => true) held t v d p) :
    ∃ (z : Int) (s : ByteArray), v = .agg #[.int .i64 z, .string s] ∧ s.size ≤ maxLen := by
  obtain ⟨c0, c1, y0, y1, m, rfl, rfl, rfl, hy0, hy1⟩ := Go.Joins.open_agg2 hs hone hC hv h
  obtain ⟨z, e0, _, wz⟩ := DataW.trod_int u0 hy0
  simp only [List.cons.injEq, and_true] at e0
  subst e0
  obtain ⟨s, e1, _, h4⟩ := DataW.trod_string u1 hy1
  simp only [List.cons.injEq, and_true] at e1
  subst e1
  exact ⟨z, s, rfl, h4⟩
end
end Go.Proofs.Ytnccbebjligpdaa.Struct
