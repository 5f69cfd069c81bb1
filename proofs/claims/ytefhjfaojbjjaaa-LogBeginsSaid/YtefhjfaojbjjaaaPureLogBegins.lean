/- For every descriptor and block: the program's and the reference's first blocks, and readings of a block, are the same. Conditions: none beyond the form's own. -/
import Derived.Test.YtefhjfaojbjjaaaPAllx10
import Derived.Test.YtefhjfaojbjjaaaLogPureRef
import Derived.Test.YtefhjfaojbjjaaaLogInts
namespace Go.Proofs.Ytefhjfaojbjjaaa.Pure
open Go Go.RowKit Go.Proofs.Ytefhjfaojbjjaaa.PAll Go.Proofs.YtefhjfaojbjjaaaW.PrintWords Go.Proofs.Ytefhjfaojbjjaaa.Spin Go.Proofs.Ytefhjfaojbjjaaa.Field Go.Proofs.Ytefhjfaojbjjaaa.Log
set_option linter.unusedVariables false

theorem LogBegins (a0 : Int) (t l : List Int) (h3 : ∀ x ∈ l, (Lit.int .u8 x).wf = true) : ∃ k, drydocklaw15_LogBegins.f k a0 t l = some true := by
  have hb : Bytes l := bytes_wf h3
  refine ⟨1000, ?_⟩
  have hl : (begI l).2.1.length ≤ 20 := by
    unfold begI
    split
    · rename_i h; show (numsI l (cntI l)).length ≤ 20; rw [numsI_length]; exact h.2.1
    · exact Nat.zero_le _
  unfold drydocklaw15_LogBegins.f
  rw [begin_eq _ _ _ (by omega), Option.bind_some, rbegin_eq _ _ _ (by omega), Option.bind_some, begins_eq hb _ (by omega), Option.bind_some, rbegins_eq hb _ (by omega), Option.bind_some, awake15_true _ (by omega), Option.bind_some, if_pos rfl, if_pos rfl, if_pos rfl, if_pos rfl, if_pos rfl, ints_same _ (by omega) _ (by omega), Option.bind_some]

end Go.Proofs.Ytefhjfaojbjjaaa.Pure
