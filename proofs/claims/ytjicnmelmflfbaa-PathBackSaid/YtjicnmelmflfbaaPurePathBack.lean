/- For every list of names and every path: names that were joined are split again; a path's names joined are a path with these names. Conditions: none beyond the form's own. -/
import Derived.Test.YtjicnmelmflfbaaPAllx9
import Derived.Test.YtjicnmelmflfbaaPathPure
namespace Go.Proofs.Ytjicnmelmflfbaa.Pure
open Go Go.RowKit Go.Proofs.Ytjicnmelmflfbaa.PAll Go.Proofs.YtjicnmelmflfbaaW.PrintWords Go.Proofs.Ytjicnmelmflfbaa.PathLaw
set_option linter.unusedVariables false

theorem back14_j0 (s : ByteArray) : drydocklaw14_PathBack.j0 2001 s = some true := by
  have hg := (split_facts s).1
  rw [drydocklaw14_PathBack.j0, pathSplit_eq s _ (by omega), Option.bind_some]
  by_cases h : (split s).2 = 0
  · have hz := split_size h
    have h2 := ((split_facts s).2 h).1
    have hw : wrap64 ((s.size : Int) + 1) = (s.size : Int) + 1 := by unfold wrap64; omega
    have hl := hg.1
    rw [if_pos h, pathJoin_eq, Option.bind_some, join_of_good hg, pathSplit_eq _ _ (by omega), Option.bind_some, split_join hg, awake14_true _ (by omega), Option.bind_some, if_pos rfl, if_pos rfl, if_pos rfl, same_eq _ _ (by omega) _ (by omega), Option.bind_some, decide_eq_true rfl, if_pos rfl, hw, decide_eq_true]
    show ((B (joinL (split s).1)).size : Int) ≤ _
    omega
  · rw [if_neg h, awake14_true _ (by omega)]
    rfl
theorem PathBack (l : List ByteArray) (s : ByteArray) : ∃ k, drydocklaw14_PathBack.f k l s = some true := by
  refine ⟨2001, ?_⟩
  unfold drydocklaw14_PathBack.f
  rw [pathJoin_eq, Option.bind_some]
  by_cases h : (join l).2 = 0
  · obtain ⟨hg, hj⟩ := join_good h
    have hl := hg.1
    rw [hj, if_pos rfl, pathSplit_eq _ _ (by omega), Option.bind_some, split_join hg, if_pos rfl, same_eq _ _ (by show l.length < _; omega) _ (by show l.length < _; omega), Option.bind_some, decide_eq_true rfl, if_pos rfl, back14_j0]
  · rw [if_neg h, back14_j0]

end Go.Proofs.Ytjicnmelmflfbaa.Pure
