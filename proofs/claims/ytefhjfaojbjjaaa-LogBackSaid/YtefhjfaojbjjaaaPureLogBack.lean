/- For every descriptor, number and count: what was written is read as it was, and no first block is a last one. Conditions: none beyond the form's own. -/
import Derived.Test.YtefhjfaojbjjaaaPAllx7
import Derived.Test.YtefhjfaojbjjaaaLogPure
import Derived.Test.YtefhjfaojbjjaaaLogInts
namespace Go.Proofs.Ytefhjfaojbjjaaa.Pure
open Go Go.RowKit Go.Proofs.Ytefhjfaojbjjaaa.PAll Go.Proofs.YtefhjfaojbjjaaaW.PrintWords Go.Proofs.Ytefhjfaojbjjaaa.Spin Go.Proofs.Ytefhjfaojbjjaaa.Field Go.Proofs.Ytefhjfaojbjjaaa.Log
set_option linter.unusedVariables false

theorem back15_j0 (a1 a2 : Int) : drydocklaw15_LogBack.j0 101 a1 a2 = some true := by
  rw [drydocklaw15_LogBack.j0, end_eq, Option.bind_some]
  unfold endI
  by_cases h : endB a1 a2 = true
  · have hb := sealI_bytes (endP_bytes a1 a2)
    rw [if_pos h, if_pos rfl, ends_eq hb, end_lastI _ _ h, Option.bind_some, begins_eq hb _ (by omega), begI_no (notB a1 a2), Option.bind_some, awake15_true _ (by omega), Option.bind_some, if_pos rfl, if_pos rfl, if_pos rfl, if_pos rfl]
    rfl
  · rw [if_neg h, if_neg (by decide), awake15_true _ (by omega)]
    rfl
theorem LogBack (a0 : Int) (t : List Int) (a1 a2 : Int) : ∃ k, drydocklaw15_LogBack.f k a0 t a1 a2 = some true := by
  refine ⟨101, ?_⟩
  unfold drydocklaw15_LogBack.f
  rw [begin_eq _ _ _ (by omega), Option.bind_some]
  unfold beginI
  by_cases h : sndB a0 t = true
  · have h5 := (sndB_facts h).2.2.2.2
    have hb := sealI_bytes (beginP_bytes a0 t h5)
    rw [if_pos h, if_pos rfl, begins_eq hb _ (by omega), begin_begI _ _ h, Option.bind_some, ends_eq hb, lastI_no (notE a0 t h5), Option.bind_some, if_pos rfl, if_pos rfl, ints_same _ (by show t.length < _; omega) _ (by show t.length < _; omega), Option.bind_some, if_pos rfl, if_pos rfl, back15_j0]
  · rw [if_neg h, if_neg (by decide), back15_j0]

end Go.Proofs.Ytefhjfaojbjjaaa.Pure
