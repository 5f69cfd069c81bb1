/- For every block: the program's and the reference's readings of it as a Super and as a Head are the same. Conditions: none beyond the form's own. -/
import Derived.Test.YtbgnmiicbaecfaaPAllx10
import Derived.Test.YtbgnmiicbaecfaaSuperPureRefBack
namespace Go.Proofs.Ytbgnmiicbaecfaa.Pure
open Go.RowKit Go.Proofs.Ytbgnmiicbaecfaa.PAll Go.Proofs.YtbgnmiicbaecfaaW.PrintWords Go.Proofs.YtbgnmiicbaecfaaW.PrintLast Go.Proofs.Ytbgnmiicbaecfaa.Spin Go.Proofs.Ytbgnmiicbaecfaa.Field
set_option linter.unusedVariables false

theorem SuperDecodes : drydocklaw08_SuperDecodes.Pure := by
  intro l h1 h2 h3
  refine ⟨6, ?_⟩
  have hb : Bytes l := bytes_wf h3
  unfold drydocklaw08_SuperDecodes.f
  have r1 := refDecode_eq hb 0
  have r2 := refGetHead_eq hb 0
  rw [Nat.zero_add] at r1 r2
  rw [Decode_eq hb, Option.bind_some, r1, Option.bind_some, GetHead_eq hb, Option.bind_some, r2, Option.bind_some, awake8_true]
  simp
end Go.Proofs.Ytbgnmiicbaecfaa.Pure
