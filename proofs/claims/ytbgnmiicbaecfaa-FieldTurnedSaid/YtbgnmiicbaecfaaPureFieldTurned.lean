/- For every block, every place below 60 and every turn that is not 0: a sealed block with that byte turned is not sealed. Conditions: none beyond the form's own. -/
import Derived.Test.YtbgnmiicbaecfaaPAllx6
import Derived.Test.YtbgnmiicbaecfaaFieldPure
namespace Go.Proofs.Ytbgnmiicbaecfaa.Pure
open Go.RowKit Go.Proofs.Ytbgnmiicbaecfaa.PAll Go.Proofs.YtbgnmiicbaecfaaW.PrintWords Go.Proofs.YtbgnmiicbaecfaaW.PrintLast Go.Proofs.Ytbgnmiicbaecfaa.Spin Go.Proofs.Ytbgnmiicbaecfaa.Field
set_option linter.unusedVariables false

theorem FieldTurned : drydocklaw04_FieldTurned.Pure := by
  intro l at_ x h1 h2 h3 w1 w2
  have hl := bytes_wf h3
  obtain ⟨ha0, ha1⟩ := wf_u8 w1
  obtain ⟨hx0, hx1⟩ := wf_u8 w2
  refine ⟨1, ?_⟩
  unfold drydocklaw04_FieldTurned.f field_Seal.f
  rw [awake_true]
  by_cases h : l.length = 64
  · rw [seal_eq hl h]
    simp only [Option.bind_some]
    rw [if_pos trivial, if_pos trivial]
    simp only [drydocklaw04_FieldTurned.j0]
    by_cases hx : x = 0
    · rw [hx, awake_true]
      rfl
    · rw [beq_eq_false_iff_ne.2 hx, if_neg (by decide), Int.tmod_eq_emod_of_nonneg ha0]
      obtain ⟨k, hk⟩ : ∃ k : Nat, at_ % 60 = k := ⟨(at_ % 60).toNat, by omega⟩
      have hk60 : k < 60 := by omega
      have hlen := sealI_length l h
      rw [hk, if_pos (by omega), if_pos (by omega), Int.toNat_natCast]
      have hc := sealI_bytes hl _ (rd_mem (show k < (sealI l).length from by omega))
      obtain ⟨b1, b2, b3⟩ := xor_facts _ x hc.1 hc.2 hx0 hx1
      unfold field_Sealed.f
      rw [sealed_eq (bytes_set (sealI_bytes hl) k b1 b2) (by rw [List.length_set]; exact hlen)]
      have key := sealI_turned hl h k hk60 _ b1 b2 (fun e => hx (b3.1 e))
      rw [decide_eq_false key]
      rfl
  · rw [seal_short h]
    simp only [Option.bind_some]
    rw [if_pos trivial, if_neg (by decide)]
    simp only [drydocklaw04_FieldTurned.j0]
    rw [if_pos trivial, awake_true]
    rfl

end Go.Proofs.Ytbgnmiicbaecfaa.Pure
