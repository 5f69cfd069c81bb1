/- For every entries: the program's and the reference's blocks of them are the same. Conditions: none beyond the form's own. -/
import Derived.Test.YtnccbebjligpdaaPAllx9
import Derived.Test.YtnccbebjligpdaaEntryRefPure
namespace Go.Proofs.Ytnccbebjligpdaa.Pure
open Go Go.RowKit Go.Proofs.Ytnccbebjligpdaa.PAll Go.Proofs.YtnccbebjligpdaaW.PrintWords Go.Proofs.Ytnccbebjligpdaa.PathLaw Go.Proofs.Ytnccbebjligpdaa.Spin Go.Proofs.Ytnccbebjligpdaa.Field
set_option linter.unusedVariables false

theorem le_sum1 : ∀ (l : List Nat) (x : Nat), x ∈ l → x ≤ l.sum
  | a :: r, x, h => by
    rw [List.sum_cons]
    rcases List.mem_cons.1 h with rfl | h
    · omega
    · have := le_sum1 r x h; omega
theorem EntryEncodes (l : List S41) (hs : ∀ x ∈ l, x.f1.size ≤ maxLen) : ∃ k, drydocklaw10_EntryEncodes.f k l = some true := by
  have hm : maxLen = 9223372036854775807 := rfl
  refine ⟨200 + (l.map (·.f1.size)).sum, ?_⟩
  unfold drydocklaw10_EntryEncodes.f
  rw [enc_eq l hs, Option.bind_some, renc_eq l (100 + (l.map (·.f1.size)).sum) (by omega) (fun x hx => ⟨by have := le_sum1 (l.map (·.f1.size)) x.f1.size (List.mem_map.2 ⟨x, hx, rfl⟩); omega, by have := hs x hx; omega⟩) _ (by omega), Option.bind_some,
    awake10_true _ (by omega), Option.bind_some, if_pos rfl, if_pos rfl, beq_self_eq_true]
end Go.Proofs.Ytnccbebjligpdaa.Pure
