/- For every two texts (together of at most 1048576 values): the sum of both is what More and Join tell. Condition: the bound. -/
import Derived.Test.YtcfjojgpfpgfdaaPSpinPartsx1
import Derived.Test.YtcfjojgpfpgfdaaSpinLaw
namespace Go.Proofs.Ytcfjojgpfpgfdaa.Pure
open Go.RowKit Go.Proofs.Ytcfjojgpfpgfdaa.PSpinParts Go.Proofs.YtcfjojgpfpgfdaaW.PrintWords Go.Proofs.YtcfjojgpfpgfdaaW.PrintLast Go.Proofs.Ytcfjojgpfpgfdaa.Spin
set_option linter.unusedVariables false

theorem awake_true : drydocklaw03_awake.f = some true := by
  unfold drydocklaw03_awake.f spin_Sum.f
  rw [sum_nil]
  simp only [Option.bind_some]
  rw [if_pos trivial, sum_five]
  rfl

theorem SpinParts (l0 l1 : List Int) (h1 : l0.length ≤ maxLen) (h2 : l0.length * 1 ≤ 140737488351232) (h3 : ∀ x ∈ l0, (Lit.int .u8 x).wf = true) (g1 : l1.length ≤ maxLen) (g2 : l1.length * 1 ≤ 140737488351232) (g3 : ∀ x ∈ l1, (Lit.int .u8 x).wf = true)
    (hu : l0.length + l1.length ≤ 1048576) : drydocklaw03_SpinParts.f l0 l1 = some true := by
  have ha := bytes_wf h3
  have hb := bytes_wf g3
  have hab : Bytes (l0 ++ l1) := by
    intro x hx
    rcases List.mem_append.1 hx with h | h
    · exact ha x h
    · exact hb x h
  have oa := Ok_run Ok_one l0
  have ob := Ok_run Ok_one l1
  have ta := tell_range oa
  have tb := tell_range ob
  unfold drydocklaw03_SpinParts.f spin_Sum.f spin_More.f spin_Join.f
  simp only [Option.bind_some, List.nil_append, List.length_nil]
  rw [if_pos (by omega), if_pos (by omega), sum_eq hab (by rw [List.length_append]; omega), awake_true, sum_eq ha (by omega), sum_eq hb (by omega), run_append]
  simp only [Option.bind_some]
  rw [if_pos trivial, more_eq ta.1 ta.2 hb (by omega), start_tell oa]
  simp only [Option.bind_some]
  rw [if_pos trivial, join_eq ta.1 ta.2 tb.1 tb.2 (by omega), start_tell oa, start_tell ob, Int.toNat_natCast, ← run_join _ _ oa]
  simp

end Go.Proofs.Ytcfjojgpfpgfdaa.Pure
