/- For every number, count and block: the program's and the reference's last blocks, and readings of a block, are the same. Conditions: none beyond the form's own. -/
import Derived.Test.YtefhjfaojbjjaaaPAllx8
import Derived.Test.YtefhjfaojbjjaaaLogEndRef
namespace Go.Proofs.Ytefhjfaojbjjaaa.Pure
open Go Go.RowKit Go.Proofs.Ytefhjfaojbjjaaa.PAll Go.Proofs.YtefhjfaojbjjaaaW.PrintWords Go.Proofs.Ytefhjfaojbjjaaa.Spin Go.Proofs.Ytefhjfaojbjjaaa.Field Go.Proofs.Ytefhjfaojbjjaaa.Log
set_option linter.unusedVariables false

theorem LogEnds : drydocklaw15_LogEnds.Pure := by
  intro a0 a1 l _ _ _ _ h3
  have hb : Bytes l := bytes_wf h3
  refine ⟨100, ?_⟩
  unfold drydocklaw15_LogEnds.f
  rw [end_eq, Option.bind_some, rend_eq _ _ _ (by omega), Option.bind_some, ends_eq hb, Option.bind_some, rends_eq hb _ (by omega), Option.bind_some, awake15_true _ (by omega), Option.bind_some, if_pos rfl, if_pos rfl, if_pos rfl, if_pos rfl, if_pos rfl, beq_self_eq_true]

end Go.Proofs.Ytefhjfaojbjjaaa.Pure
