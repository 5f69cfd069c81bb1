/- For every block and every two numbers at places that do not meet: they may be set in either order. Conditions: none beyond the form's own. -/
import Derived.Test.YtbgnmiicbaecfaaPAllx7
import Derived.Test.YtbgnmiicbaecfaaFieldPure
namespace Go.Proofs.Ytbgnmiicbaecfaa.Pure
open Go.RowKit Go.Proofs.Ytbgnmiicbaecfaa.PAll Go.Proofs.YtbgnmiicbaecfaaW.PrintWords Go.Proofs.YtbgnmiicbaecfaaW.PrintLast Go.Proofs.Ytbgnmiicbaecfaa.Spin Go.Proofs.Ytbgnmiicbaecfaa.Field
set_option linter.unusedVariables false

theorem set_cases (l : List Int) (a1 a2 a3 : Int) : (setF l a1 a2 a3 = some (putL l a1.toNat a3 a2.toNat, 0) ∧ checkI l.length a1 a2 4 = 0 ∧ 0 ≤ a3 ∧ a3 / 2 ^ (8 * a2).toNat = 0) ∨ ∃ r e, setF l a1 a2 a3 = some (r, e) ∧ e ≠ 0 := by
  unfold setF
  by_cases h : checkI l.length a1 a2 4 = 0
  · rw [if_pos h]
    by_cases g : 0 ≤ a3 ∧ a3 / 2 ^ (8 * a2).toNat = 0
    · rw [if_pos g]
      exact .inl ⟨rfl, h, g.1, g.2⟩
    · rw [if_neg g]
      exact .inr ⟨_, _, rfl, by decide⟩
  · rw [if_neg h]
    exact .inr ⟨_, _, rfl, h⟩

theorem j0_true (k : Nat) (x1 x2 x3 x4 x5 : Int) (y z : List Int) : drydocklaw04_FieldApart.j0 (k + 1) x1 x2 x3 x4 x5 y z true = some true := by
  simp only [drydocklaw04_FieldApart.j0]
  rw [if_pos trivial, awake_true]
  rfl

theorem FieldApart : drydocklaw04_FieldApart.Pure := by
  intro l a1 a2 a3 a4 a5 h1 h2 h3 w1 w2 w3 w4 w5
  refine ⟨1, ?_⟩
  unfold drydocklaw04_FieldApart.f field_Set.f
  rw [awake_true]
  rcases set_cases l a1 a2 a3 with ⟨s1, c1, n1, q1⟩ | ⟨r, e, s1, he⟩
  · rcases set_cases l a4 a2 a5 with ⟨s2, c2, n2, q2⟩ | ⟨r, e, s2, he⟩
    · rw [s1, s2]
      simp only [Option.bind_some]
      obtain ⟨b64, b1, b2, b3, b4⟩ := checkI_zero c1
      obtain ⟨_, d1, d2, d3, d4⟩ := checkI_zero c2
      have e1 : wrap64 (a4 + a2) = a4 + a2 := by unfold wrap64; omega
      have e2 : wrap64 (a1 + a2) = a1 + a2 := by unfold wrap64; omega
      rw [if_pos trivial, if_pos trivial, if_pos trivial, e1, e2]
      have fin : (a1 + a2 ≤ a4 ∨ a4 + a2 ≤ a1) → drydocklaw04_FieldApart.j0 1 a1 a2 a3 a4 a5 (putL l a1.toNat a3 a2.toNat) (putL l a4.toNat a5 a2.toNat) false = some true := by
        intro hap
        simp only [drydocklaw04_FieldApart.j0]
        unfold field_Set.f
        rw [if_neg (by decide), set_eq (by rw [putL_length]; exact c2) n2 q2, set_eq (by rw [putL_length]; exact c1) n1 q1]
        simp only [Option.bind_some]
        rw [if_pos trivial, if_pos trivial, putL_comm l a1.toNat a4.toNat a3 a5 a2.toNat a2.toNat (by omega)]
        simp
      by_cases g1 : a1 < a4 + a2
      · rw [if_pos g1]
        by_cases g2 : a4 < a1 + a2
        · rw [decide_eq_true g2]
          exact j0_true _ _ _ _ _ _ _ _
        · rw [decide_eq_false g2]
          exact fin (by omega)
      · rw [if_neg g1]
        exact fin (by omega)
    · rw [s1, s2]
      simp only [Option.bind_some]
      rw [if_pos trivial, if_pos trivial, if_neg he]
      exact j0_true _ _ _ _ _ _ _ _
  · obtain ⟨⟨r2, e2⟩, s2⟩ : ∃ r, setF l a4 a2 a5 = some r := by
      unfold setF
      repeat' split
      all_goals exact ⟨_, rfl⟩
    rw [s1, s2]
    simp only [Option.bind_some]
    rw [if_pos trivial, if_neg he]
    exact j0_true _ _ _ _ _ _ _ _

end Go.Proofs.Ytbgnmiicbaecfaa.Pure
