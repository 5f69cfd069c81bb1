/- For all worlds: what comes in, opened kind by kind: numbers, rows of any kind, structs of two and of four fields; each with a bound from beneath on its bulk. Conditions: the types are as they are named. -/
import Derived.Deep.Slices
import Derived.Lib.SmallJoins
import Derived.RowKit
import Derived.Test.YtbdbjlfdnijfeaaWWords
import Derived.Test.YtbdbjlfdnijfeaaRows
namespace Go.Proofs.Ytbdbjlfdnijfeaa.Open
open Go Go.ChangeShapes Go.WideShapes Go.RowKit Go.Deep Go.Proofs.YtbdbjlfdnijfeaaW.PrintWords
set_option linter.unusedVariables false
section
variable {H : Type} {enc : TypeId × Value → H} {P : Program} {w : World} {base : Nat} {spare : Nat → Bool} {held : Bool}
/-- Whatever is read as a value of type t is of kind d, with Q known of it, and its bulk is no less than B. -/
def Opn (enc : TypeId × Value → H) (P : Program) (w : World) (base : Nat) (spare : Nat → Bool) (held : Bool) {α : Type} (t : TypeId) (d : Kd α) (Q : α → Prop) (B : α → Nat) : Prop :=
  P.cellsOf t = d.sz ∧ ∀ (fuel : Nat) (cs : List Value) (x : DataW H × List MemPlace), DataW.trod enc P w base spare held fuel t cs = some x → ∃ a, d.K w a cs ∧ Q a ∧ B a ≤ Rows.uptoBulk x.1
theorem Opn.int {t : TypeId} {k : IntKind} (hu : P.underlying t = some (.int k)) (hc : P.cellsOf t = 1) : Opn enc P w base spare held t (Kd.int k) (fun z => (Lit.int k z).wf = true) (fun _ => 1) :=
  ⟨hc, fun fuel cs x h => by
    obtain ⟨z, rfl, rfl, hw⟩ := DataW.trod_int hu h
    exact ⟨z, rfl, hw, Nat.le_refl _⟩⟩
theorem bulkAll_sum : ∀ (l : List (DataW H)), Rows.uptoBulkAll l = (l.map Rows.uptoBulk).sum
  | [] => rfl
  | d :: r => by rw [Rows.uptoBulkAll, bulkAll_sum r]; simp
theorem sum_le_of {α : Type} (f g : α → Nat) : ∀ (l : List α), (∀ x ∈ l, f x ≤ g x) → (l.map f).sum ≤ (l.map g).sum
  | [], _ => Nat.le_refl _
  | x :: l, h => by
    have h1 := h x List.mem_cons_self
    have h2 := sum_le_of f g l (fun y hy => h y (List.mem_cons_of_mem _ hy))
    simp only [List.map_cons, List.sum_cons]
    omega
theorem Opn.slice {t e : TypeId} {α : Type} [Inhabited α] {d : Kd α} {Q : α → Prop} {B : α → Nat} (ht : P.underlying t = some (.slice e)) (ct : P.cellsOf t = 1) (he : Opn enc P w base spare held e d Q B) :
    Opn enc P w base spare held t (Kd.slice e d) (fun l => ∀ x ∈ l, Q x) (fun l => (l.map B).sum + 1) :=
  ⟨ct, fun fuel cs x h => by
    rcases open_slice ht h with ⟨rfl, rfl⟩ | ⟨a, len, cap, m, n, D, Pl, rfl, hb, hl, hm, hmm, rfl, hx⟩
    · refine ⟨[], ⟨none, 0, rfl, Nat.le_refl _, Kd.C_nil _ _⟩, ?_, ?_⟩
      · intro x h; exact absurd h List.not_mem_nil
      · show (([] : List α).map B).sum + 1 ≤ Rows.uptoBulk (DataW.nil : DataW H)
        simp [Rows.uptoBulk]
    · have hlm : len ≤ m := by rw [hmm]; split <;> omega
      have each : ∀ i, i < len → ∃ y : α, (∃ cs', w.cells? base (a.add (i * P.cellsOf e)) (P.cellsOf e) = some cs' ∧ d.K w y cs') ∧ Q y ∧ B y ≤ Rows.uptoBulk (D i) := fun i hi => by
        obtain ⟨cs', h1, h2⟩ := hx i (by omega)
        obtain ⟨y, hK, hQ, hB⟩ := he.2 _ _ _ h2
        exact ⟨y, ⟨cs', h1, hK⟩, hQ, hB⟩
      obtain ⟨Y, hY⟩ := choose_lt each
      have hlen : ((List.range len).map Y).length = len := by simp
      refine ⟨(List.range len).map Y, ⟨some a, cap, by rw [hlen], by rw [hlen]; exact hl, rfl, ?_, fun _ => ⟨a, rfl, fun j x hj => ?_⟩⟩, fun x hx => ?_, ?_⟩
      · rw [hlen]
        have : maxLen ≤ 9223372036854775807 := by decide
        omega
      · have hjl : j < len := by
          have := (List.getElem?_eq_some_iff.1 hj).1
          rwa [hlen] at this
        obtain rfl : Y j = x := by
          rw [List.getElem?_map, List.getElem?_range hjl] at hj
          exact Option.some.inj hj
        obtain ⟨⟨cs', h1, hK⟩, _⟩ := hY j hjl
        rw [he.1] at h1
        obtain ⟨_, h2, h3⟩ := World.cells?_some h1
        refine ⟨cs', h2, hK, fun i u hi => ?_⟩
        have hil : i < d.sz := by rw [← h2]; exact (List.getElem?_eq_some_iff.1 hi).1
        rw [← Deep.add_add, ← hi]
        exact h3 i hil
      · obtain ⟨i, hi, rfl⟩ := List.mem_map.1 hx
        exact (hY i (List.mem_range.1 hi)).2.1
      · show (((List.range len).map Y).map B).sum + 1 ≤ Rows.uptoBulk (.slice _ _)
        rw [Rows.uptoBulk, bulkAll_sum, List.map_map, List.map_map]
        have := sum_le_of (B ∘ Y) (Rows.uptoBulk ∘ D) (List.range len) (fun i hi => (hY i (List.mem_range.1 hi)).2.2)
        omega⟩
theorem Opn.two {t : TypeId} {f0 f1 : Field} {α β : Type} {d0 : Kd α} {d1 : Kd β} {Q0 : α → Prop} {Q1 : β → Prop} {B0 : α → Nat} {B1 : β → Nat} (ht : P.underlying t = some (.struct #[f0, f1])) (ct : P.cellsOf t = d0.sz + d1.sz)
    (o0 : f0.offset = 0) (o1 : f1.offset = d0.sz) (h0 : Opn enc P w base spare held f0.type d0 Q0 B0) (h1 : Opn enc P w base spare held f1.type d1 Q1 B1) :
    Opn enc P w base spare held t (Kd.pair d0 d1) (fun x => Q0 x.1 ∧ Q1 x.2) (fun x => B0 x.1 + B1 x.2) :=
  ⟨ct, fun fuel cs x h => by
    obtain ⟨y0, y1, n, rfl, hl, g0, g1⟩ := trod_struct2 ht h
    rw [o0, h0.1, List.drop_zero] at g0
    rw [o1, h1.1] at g1
    obtain ⟨a, ka, qa, ba⟩ := h0.2 _ _ _ g0
    obtain ⟨b, kb, qb, bb⟩ := h1.2 _ _ _ g1
    refine ⟨(a, b), ⟨_, _, ?_, ka, kb⟩, ⟨qa, qb⟩, ?_⟩
    · rw [List.take_of_length_le (l := cs.drop d0.sz) (by rw [List.length_drop, hl, ct]; omega), List.take_append_drop]
    · show _ ≤ Rows.uptoBulk (.agg [y0.1, y1.1])
      simp only [Rows.uptoBulk, Rows.uptoBulkAll]
      omega⟩
theorem Opn.four {t : TypeId} {f0 f1 f2 f3 : Field} {α β γ δ : Type} {d0 : Kd α} {d1 : Kd β} {d2 : Kd γ} {d3 : Kd δ} {Q0 : α → Prop} {Q1 : β → Prop} {Q2 : γ → Prop} {Q3 : δ → Prop} {B0 : α → Nat} {B1 : β → Nat} {B2 : γ → Nat} {B3 : δ → Nat}
    (ht : P.underlying t = some (.struct #[f0, f1, f2, f3])) (ct : P.cellsOf t = d0.sz + (d1.sz + (d2.sz + d3.sz)))
    (o0 : f0.offset = 0) (o1 : f1.offset = d0.sz) (o2 : f2.offset = d0.sz + d1.sz) (o3 : f3.offset = d0.sz + (d1.sz + d2.sz))
    (h0 : Opn enc P w base spare held f0.type d0 Q0 B0) (h1 : Opn enc P w base spare held f1.type d1 Q1 B1) (h2 : Opn enc P w base spare held f2.type d2 Q2 B2) (h3 : Opn enc P w base spare held f3.type d3 Q3 B3) :
    Opn enc P w base spare held t (Kd.pair d0 (Kd.pair d1 (Kd.pair d2 d3))) (fun x => Q0 x.1 ∧ Q1 x.2.1 ∧ Q2 x.2.2.1 ∧ Q3 x.2.2.2) (fun x => B0 x.1 + (B1 x.2.1 + (B2 x.2.2.1 + B3 x.2.2.2))) :=
  ⟨ct, fun fuel cs x h => by
    obtain ⟨y0, y1, y2, y3, n, rfl, hl, g0, g1, g2, g3⟩ := Go.Joins.trod_struct4 ht h
    rw [o0, h0.1, List.drop_zero] at g0
    rw [o1, h1.1] at g1
    rw [o2, h2.1] at g2
    rw [o3, h3.1] at g3
    obtain ⟨a, ka, qa, ba⟩ := h0.2 _ _ _ g0
    obtain ⟨b, kb, qb, bb⟩ := h1.2 _ _ _ g1
    obtain ⟨c, kc, qc, bc⟩ := h2.2 _ _ _ g2
    obtain ⟨e, ke, qe, be⟩ := h3.2 _ _ _ g3
    refine ⟨(a, b, c, e), ⟨_, _, ?_, ka, _, _, rfl, kb, _, _, rfl, kc, ke⟩, ⟨qa, qb, qc, qe⟩, ?_⟩
    · rw [List.take_of_length_le (l := cs.drop (d0.sz + (d1.sz + d2.sz))) (by rw [List.length_drop, hl, ct]; omega)]
      have e1 : cs.drop (d0.sz + (d1.sz + d2.sz)) = ((cs.drop d0.sz).drop d1.sz).drop d2.sz := by rw [List.drop_drop, List.drop_drop]; first | done | (congr 1; omega)
      have e2 : cs.drop (d0.sz + d1.sz) = (cs.drop d0.sz).drop d1.sz := by rw [List.drop_drop]
      rw [e1, e2, List.take_append_drop, List.take_append_drop, List.take_append_drop]
    · show _ ≤ Rows.uptoBulk (.agg [y0.1, y1.1, y2.1, y3.1])
      simp only [Rows.uptoBulk, Rows.uptoBulkAll]
      omega⟩
theorem Opn.iso {t : TypeId} {α β : Type} {d : Kd α} {Q : α → Prop} {B : α → Nat} (f : β → α) (g : α → β) (hf : ∀ x, f (g x) = x) (h : Opn enc P w base spare held t d Q B) : Opn enc P w base spare held t (Kd.iso d f) (fun x => Q (f x)) (fun x => B (f x)) :=
  ⟨h.1, fun fuel cs x hx => by
    obtain ⟨a, hK, hQ, hB⟩ := h.2 _ _ _ hx
    exact ⟨g a, by show d.K w (f (g a)) cs; rw [hf]; exact hK, by show Q (f (g a)); rw [hf]; exact hQ, by show B (f (g a)) ≤ _; rw [hf]; exact hB⟩⟩
theorem Opn.mono {t : TypeId} {α : Type} {d : Kd α} {Q Q' : α → Prop} {B B' : α → Nat} (h : Opn enc P w base spare held t d Q B) (hQ : ∀ x, Q x → Q' x) (hB : ∀ x, B' x ≤ B x) : Opn enc P w base spare held t d Q' B' :=
  ⟨h.1, fun fuel cs x hx => by
    obtain ⟨a, hK, hq, hb⟩ := h.2 _ _ _ hx
    exact ⟨a, hK, hQ a hq, Nat.le_trans (hB a) hb⟩⟩
/-- A row among the arguments. -/
theorem Opn.arg {t e : TypeId} {α : Type} [Inhabited α] {d : Kd α} {Q : α → Prop} {B : α → Nat} {a : Option Addr} {len cap : Nat} {x : DataW H} {p : List MemPlace} (ht : P.underlying t = some (.slice e)) (ct : P.cellsOf t = 1) (he : Opn enc P w base spare held e d Q B)
    (h : DataW.Trod enc P w base spare held t (.slice a len cap) x p) : ∃ l : List α, len = l.length ∧ Kd.C d w a l.length l ∧ l.length ≤ cap ∧ (∀ y ∈ l, Q y) ∧ (l.map B).sum + 1 ≤ Rows.uptoBulk x := by
  obtain ⟨fuel, hf⟩ := h
  obtain ⟨l, ⟨A, c, hcs, hl, hC⟩, hQ, hB⟩ := (Opn.slice ht ct he).2 _ _ _ hf
  simp [Value.cells] at hcs
  obtain ⟨rfl, rfl, rfl⟩ := hcs
  exact ⟨l, rfl, hC, hl, hQ, hB⟩
end
end Go.Proofs.Ytbdbjlfdnijfeaa.Open
