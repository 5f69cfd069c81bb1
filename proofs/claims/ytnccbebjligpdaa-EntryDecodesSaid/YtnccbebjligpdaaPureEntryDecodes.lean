/- For every bytes: the program and the reference say alike which entries they are. Conditions: none beyond the form's own. -/
import Derived.Test.YtnccbebjligpdaaPAllx12
import Derived.Test.YtnccbebjligpdaaEntryRefPure
namespace Go.Proofs.Ytnccbebjligpdaa.Pure
open Go Go.RowKit Go.Proofs.Ytnccbebjligpdaa.PAll Go.Proofs.YtnccbebjligpdaaW.PrintWords Go.Proofs.Ytnccbebjligpdaa.PathLaw Go.Proofs.Ytnccbebjligpdaa.Spin Go.Proofs.Ytnccbebjligpdaa.Field
set_option linter.unusedVariables false

theorem EntryDecodes : drydocklaw10_EntryDecodes.Pure := by
  intro b hm hm2 hw
  have hb : Bytes b := bytes_wf hw
  refine ⟨200, ?_⟩
  have h3 := dec_len b
  unfold drydocklaw10_EntryDecodes.f
  rw [dec_eq b hb 200 (by omega), Option.bind_some, rdec_eq b hb 200 (by omega), Option.bind_some, awake10_true _ (by omega), Option.bind_some, if_pos rfl, if_pos rfl,
    same_refl [(decI b).1] (by simp) (fun c hc => by rw [List.mem_singleton.1 hc]; omega) 200 (by simp), Option.bind_some]
end Go.Proofs.Ytnccbebjligpdaa.Pure
