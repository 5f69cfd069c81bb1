/- For every text: the program and the reference say alike whether it is a name. Conditions: none beyond the form's own. -/
import Derived.Test.YtnccbebjligpdaaPAllx11
import Derived.Test.YtnccbebjligpdaaEntryBytes
namespace Go.Proofs.Ytnccbebjligpdaa.Pure
open Go Go.RowKit Go.Proofs.Ytnccbebjligpdaa.PAll Go.Proofs.YtnccbebjligpdaaW.PrintWords Go.Proofs.Ytnccbebjligpdaa.PathLaw
set_option linter.unusedVariables false

theorem EntryNames : drydocklaw10_EntryNames.Pure := by
  intro a h
  refine ⟨a.size + 10, ?_⟩
  unfold drydocklaw10_EntryNames.f
  rw [awake10_true _ (by omega), Option.bind_some, if_pos rfl, named_eq, Option.bind_some, rnamed_eq a (by omega) _ (by omega), Option.bind_some, beq_self_eq_true]

end Go.Proofs.Ytnccbebjligpdaa.Pure
