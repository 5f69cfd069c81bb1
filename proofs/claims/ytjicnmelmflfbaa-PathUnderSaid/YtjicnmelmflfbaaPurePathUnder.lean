/- For every two texts: whether one path lies within the other is as the reference says. Conditions: none beyond the form's own. -/
import Derived.Test.YtjicnmelmflfbaaPAllx8
import Derived.Test.YtjicnmelmflfbaaPathPure
namespace Go.Proofs.Ytjicnmelmflfbaa.Pure
open Go Go.RowKit Go.Proofs.Ytjicnmelmflfbaa.PAll Go.Proofs.YtjicnmelmflfbaaW.PrintWords Go.Proofs.Ytjicnmelmflfbaa.PathLaw
set_option linter.unusedVariables false

theorem PathUnder : drydocklaw14_PathUnder.Pure := by
  intro a b _ _
  refine ⟨1066001, ?_⟩
  unfold drydocklaw14_PathUnder.f
  have ga := (split_facts a).1.1
  have gb := (split_facts b).1.1
  rw [under_eq a b _ (by omega), Option.bind_some, refSplit_eq a _ (by omega), Option.bind_some, refSplit_eq b _ (by omega), Option.bind_some]
  by_cases h1 : (split a).2 = 0
  · rw [if_pos h1, if_pos h1]
    by_cases h2 : (split b).2 = 0
    · rw [if_pos h2, drydocklaw14_PathUnder.j0, if_pos h2, awake14_true _ (by omega), Option.bind_some, if_pos rfl, if_pos rfl, begins_eq _ _ (by omega) _ (by omega), Option.bind_some, beq_self_eq_true]
    · rw [if_neg h2, drydocklaw14_PathUnder.j0, if_neg h2, awake14_true _ (by omega), Option.bind_some, if_pos rfl, if_pos rfl]
      rfl
  · rw [if_neg h1, if_neg h1, drydocklaw14_PathUnder.j0, if_neg h1, awake14_true _ (by omega), Option.bind_some, if_pos rfl, if_pos rfl]
    rfl

end Go.Proofs.Ytjicnmelmflfbaa.Pure
