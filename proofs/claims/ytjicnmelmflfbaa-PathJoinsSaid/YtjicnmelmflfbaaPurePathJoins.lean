/- For every list of names: the program's and the reference's path of them are the same. Conditions: none beyond the form's own. -/
import Derived.Test.YtjicnmelmflfbaaPAllx7
import Derived.Test.YtjicnmelmflfbaaPathPure
namespace Go.Proofs.Ytjicnmelmflfbaa.Pure
open Go Go.RowKit Go.Proofs.Ytjicnmelmflfbaa.PAll Go.Proofs.YtjicnmelmflfbaaW.PrintWords Go.Proofs.Ytjicnmelmflfbaa.PathLaw
set_option linter.unusedVariables false

theorem sum_ge (l : List ByteArray) : ∀ x ∈ l, x.size ≤ (l.map (·.size)).sum := by
  induction l with
  | nil => intro x h; nomatch h
  | cons y ys ih =>
    intro x hx
    rw [List.map_cons, List.sum_cons]
    rcases List.mem_cons.1 hx with rfl | hx
    · omega
    · have := ih x hx
      omega
theorem PathJoins (l : List ByteArray) (hs' : ∀ x ∈ l, x.size ≤ maxLen) : ∃ k, drydocklaw14_PathJoins.f k l = some true := by
  have hs : ∀ x ∈ l, x.size ≤ 9223372036854775807 := fun x hx => Nat.le_trans (hs' x hx) (by decide)
  refine ⟨(l.map (·.size)).sum + 2000, ?_⟩
  unfold drydocklaw14_PathJoins.f
  rw [pathJoin_eq, Option.bind_some, refJoin_eq l hs _ (fun x hx => by have := sum_ge l x hx; omega) (by omega), Option.bind_some, awake14_true _ (by omega), Option.bind_some, if_pos rfl, if_pos rfl, beq_self_eq_true]

end Go.Proofs.Ytjicnmelmflfbaa.Pure
