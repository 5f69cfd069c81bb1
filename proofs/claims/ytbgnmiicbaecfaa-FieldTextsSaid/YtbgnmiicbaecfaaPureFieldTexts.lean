/- For every block, every place and every text: the program's Text is the reference's. Conditions: none beyond the form's own. -/
import Derived.Test.YtbgnmiicbaecfaaPAllx1
import Derived.Test.YtbgnmiicbaecfaaFieldPure
namespace Go.Proofs.Ytbgnmiicbaecfaa.Pure
open Go.RowKit Go.Proofs.Ytbgnmiicbaecfaa.PAll Go.Proofs.YtbgnmiicbaecfaaW.PrintWords Go.Proofs.YtbgnmiicbaecfaaW.PrintLast Go.Proofs.Ytbgnmiicbaecfaa.Spin Go.Proofs.Ytbgnmiicbaecfaa.Field
set_option linter.unusedVariables false

theorem FieldTexts : drydocklaw04_FieldTexts.Pure := by
  intro l a1 s h1 h2 h3 w1 h4
  have ht : ∃ r, field_Text.f l a1 s = some r := by
    unfold field_Text.f Text.textF
    rw [if_pos h4]
    split
    · split
      · exact ⟨_, rfl⟩
      · exact ⟨_, rfl⟩
    · exact ⟨_, rfl⟩
  obtain ⟨r, hr⟩ := ht
  have hr2 : drydockref04_Text.f l a1 s = some r := hr
  unfold drydocklaw04_FieldTexts.f
  rw [hr, hr2, awake_true]
  simp
end Go.Proofs.Ytbgnmiicbaecfaa.Pure
