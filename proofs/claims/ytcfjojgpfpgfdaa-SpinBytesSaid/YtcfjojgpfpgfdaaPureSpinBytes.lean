/- For every bytes: their sum is what comes of taking them one by one. Conditions: none beyond the form's own. -/
import Derived.Test.YtcfjojgpfpgfdaaPSpinBytesx1
import Derived.Test.YtcfjojgpfpgfdaaSpinLaw
namespace Go.Proofs.Ytcfjojgpfpgfdaa.Pure
open Go.RowKit Go.Proofs.Ytcfjojgpfpgfdaa.PSpinBytes Go.Proofs.YtcfjojgpfpgfdaaW.PrintWords Go.Proofs.YtcfjojgpfpgfdaaW.PrintLast Go.Proofs.Ytcfjojgpfpgfdaa.Spin

theorem awake_true : drydocklaw03_awake.f = some true := by
  unfold drydocklaw03_awake.f spin_Sum.f
  rw [sum_nil]
  simp only [Option.bind_some]
  rw [if_pos trivial, sum_five]
  rfl

theorem bytes_loop (l : List Int) (hl : Bytes l) (hn : l.length ≤ 140737488351232) (d : Nat) : ∀ (k i : Nat), i + d = l.length → d < k →
    drydocklaw03_SpinBytes.l0 k l (tellI (runI (1, 0) (l.take i))) i = some true := by
  induction d with
  | zero =>
    intro k i hi hk
    obtain ⟨k, rfl⟩ : ∃ m, k = m + 1 := ⟨k - 1, by omega⟩
    have ho := Ok_run Ok_one l
    simp only [drydocklaw03_SpinBytes.l0]
    rw [if_neg (by omega), awake_true]
    simp only [Option.bind_some]
    rw [if_pos trivial]
    unfold spin_Sum.f spin_More.f
    rw [sum_eq hl (by omega), List.take_of_length_le (by omega)]
    simp only [Option.bind_some]
    have ht := tell_range ho
    rw [if_pos trivial, more_eq ht.1 ht.2 (by intro x hx; cases hx) (by simp), start_tell ho]
    simp [runI]
  | succ d ih =>
    intro k i hi hk
    obtain ⟨k, rfl⟩ : ∃ m, k = m + 1 := ⟨k - 1, by omega⟩
    have hlt : i < l.length := by omega
    have ho := Ok_run Ok_one (l.take i)
    have ht := tell_range ho
    have hrest := ih k (i + 1) (by omega) (by omega)
    have e1 : wrap64 ((i : Int) + 1) = ((i + 1 : Nat) : Int) := by unfold wrap64; omega
    simp only [drydocklaw03_SpinBytes.l0]
    rw [if_pos (by omega), if_pos (by omega), e1, if_pos (by omega), if_pos (by omega), Int.toNat_natCast, Int.toNat_natCast]
    have e2 : (l.take (i + 1)).drop i = [rd l i] := by
      rw [take_rd l i hlt, List.drop_append_of_le_length (by rw [List.length_take]; omega)]
      rw [List.drop_eq_nil_of_le (by rw [List.length_take]; omega)]
      rfl
    unfold spin_More.f
    rw [e2, more_eq ht.1 ht.2 (by intro x hx; rw [List.mem_singleton.1 hx]; exact hl _ (rd_mem hlt)) (by simp), start_tell ho]
    simp only [Option.bind_some]
    rw [show runI (runI (1, 0) (l.take i)) [rd l i] = runI (1, 0) (l.take (i + 1)) from by rw [take_rd l i hlt, run_append]]
    exact hrest

theorem SpinBytes : drydocklaw03_SpinBytes.Pure := by
  intro l h1 h2 h3
  refine ⟨l.length + 1, ?_⟩
  unfold drydocklaw03_SpinBytes.f spin_Sum.f
  rw [sum_nil]
  simp only [Option.bind_some]
  exact bytes_loop l (bytes_wf h3) (by omega) l.length (l.length + 1) 0 (by omega) (by omega)

end Go.Proofs.Ytcfjojgpfpgfdaa.Pure
