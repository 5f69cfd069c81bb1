/- For every text: the program's and the reference's names of it are the same. Conditions: none beyond the form's own. -/
import Derived.Test.YtjicnmelmflfbaaPAllx6
import Derived.Test.YtjicnmelmflfbaaPathPure
namespace Go.Proofs.Ytjicnmelmflfbaa.Pure
open Go Go.RowKit Go.Proofs.Ytjicnmelmflfbaa.PAll Go.Proofs.YtjicnmelmflfbaaW.PrintWords Go.Proofs.Ytjicnmelmflfbaa.PathLaw
set_option linter.unusedVariables false

theorem PathSplits : drydocklaw14_PathSplits.Pure := by
  intro a h
  refine ⟨1066000, ?_⟩
  unfold drydocklaw14_PathSplits.f
  have hg := (split_facts a).1.1
  rw [pathSplit_eq a _ (by omega), Option.bind_some, refSplit_eq a _ (by omega), Option.bind_some, awake14_true _ (by omega), Option.bind_some, if_pos rfl, if_pos rfl, same_eq _ _ (by omega) _ (by omega), Option.bind_some, decide_eq_true rfl]

end Go.Proofs.Ytjicnmelmflfbaa.Pure
