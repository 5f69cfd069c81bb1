/- For every Super and every Head: the program's and the reference's blocks are the same. Conditions: none beyond the form's own. -/
import Derived.Test.YtbgnmiicbaecfaaPAllx4
import Derived.Test.YtbgnmiicbaecfaaSuperPureRef
namespace Go.Proofs.Ytbgnmiicbaecfaa.Pure
open Go Go.RowKit Go.Proofs.Ytbgnmiicbaecfaa.PAll Go.Proofs.YtbgnmiicbaecfaaW.PrintWords Go.Proofs.YtbgnmiicbaecfaaW.PrintLast Go.Proofs.Ytbgnmiicbaecfaa.Spin Go.Proofs.Ytbgnmiicbaecfaa.Field Go.Proofs.Ytbgnmiicbaecfaa.Super
set_option linter.unusedVariables false

theorem enc_he (a0 a1 a2 a3 a4 : Int) : super_Encode.f a0 a1 a2 a3 a4 = some (if superB a0 a1 a2 a3 a4 = true then (sealI (encodeP a0 a1 a2 a3 a4), 0) else ([], 2)) := encodeF_eq a0 a1 a2 a3 a4
theorem enc_hh (a0 a1 : Int) : super_PutHead.f a0 a1 = some (if headB a0 a1 = true then (sealI (headP a0 a1), 0) else ([], 2)) := headF_eq a0 a1
theorem SuperEncodes (a0 a1 a2 a3 a4 b0 b1 : Int) : ∃ k, drydocklaw08_SuperEncodes.f k a0 a1 a2 a3 a4 b0 b1 = some true := by
  refine ⟨0 + 6, ?_⟩
  unfold drydocklaw08_SuperEncodes.f
  rw [enc_he, Option.bind_some, refEncode_eq, encodeF_eq, Option.bind_some, enc_hh, Option.bind_some, refHead_eq, headF_eq, Option.bind_some, awake8_true, Option.bind_some, if_pos rfl, if_pos rfl, if_pos rfl, if_pos rfl, beq_self_eq_true]

end Go.Proofs.Ytbgnmiicbaecfaa.Pure
