/- For every path and every name: the name and two points behind the path change nothing. Conditions: none beyond the form's own. -/
import Derived.Test.YtjicnmelmflfbaaPAllx10
import Derived.Test.YtjicnmelmflfbaaPathPure
namespace Go.Proofs.Ytjicnmelmflfbaa.Pure
open Go Go.RowKit Go.Proofs.Ytjicnmelmflfbaa.PAll Go.Proofs.YtjicnmelmflfbaaW.PrintWords Go.Proofs.Ytjicnmelmflfbaa.PathLaw
set_option linter.unusedVariables false

theorem PathUp : drydocklaw14_PathUp.Pure := by
  intro a b ha hb
  refine ⟨1066001, ?_⟩
  unfold drydocklaw14_PathUp.f
  have hg := (split_facts a).1.1
  have jt : ∀ l, drydocklaw14_PathUp.j0 1066001 a b l true = some true := by
    intro l
    rw [drydocklaw14_PathUp.j0, if_pos rfl, awake14_true _ (by omega)]
    rfl
  rw [pathSplit_eq a _ (by omega), Option.bind_some, awake14_true _ (by omega), Option.bind_some, if_pos rfl]
  by_cases h1 : (split a).2 = 0
  · rw [if_pos h1]
    have hw : wrap64 ((a.size : Int) + (b.size : Int)) = (a.size : Int) + (b.size : Int) := by unfold wrap64; omega
    rw [hw]
    by_cases h2 : (a.size : Int) + (b.size : Int) > 900
    · rw [if_pos h2, jt]
    · rw [if_neg h2]
      by_cases h3 : (split a).1.length < 16
      · have e1 : (⟨#[47]⟩ : ByteArray).size = 1 := rfl
        have e3 : (⟨#[47, 46, 46]⟩ : ByteArray).size = 3 := rfl
        rw [decide_eq_false (by omega), drydocklaw14_PathUp.j0, if_neg (by decide), pathJoin_eq, Option.bind_some, if_pos (by omega), if_pos (by rw [ByteArray.size_append]; omega), if_pos (by rw [ByteArray.size_append, ByteArray.size_append]; omega), pathSplit_eq _ _ (by omega), Option.bind_some]
        cases hn : nm b.toList with
        | true =>
          have hj : join [b] = (B (joinL [b]), 0) := join_of_good ⟨by simp, fun x hx => by rw [List.mem_singleton.1 hx]; exact hn⟩
          rw [hj, if_pos rfl, split_up h1 h3 (by omega) hn, if_pos rfl, same_eq _ _ (by omega) _ (by omega), Option.bind_some, decide_eq_true rfl]
        | false =>
          have hj : join [b] = ((⟨#[]⟩ : ByteArray), 9) := by
            unfold join
            rw [if_neg (by simp), if_pos]
            simp [hn]
          rw [hj, if_neg (by decide)]
      · rw [decide_eq_true (by omega), jt]
  · rw [if_neg h1, jt]

end Go.Proofs.Ytjicnmelmflfbaa.Pure
