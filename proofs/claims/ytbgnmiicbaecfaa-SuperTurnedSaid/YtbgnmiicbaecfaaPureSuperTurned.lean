/- For every Super and every Head: a block of which one byte of the first 60 is another one is none. Conditions: none beyond the form's own. -/
import Derived.Test.YtbgnmiicbaecfaaPAllx2
import Derived.Test.YtbgnmiicbaecfaaSuperPure
namespace Go.Proofs.Ytbgnmiicbaecfaa.Pure
open Go Go.RowKit Go.Proofs.Ytbgnmiicbaecfaa.PAll Go.Proofs.YtbgnmiicbaecfaaW.PrintWords Go.Proofs.YtbgnmiicbaecfaaW.PrintLast Go.Proofs.Ytbgnmiicbaecfaa.Spin Go.Proofs.Ytbgnmiicbaecfaa.Field Go.Proofs.Ytbgnmiicbaecfaa.Super
set_option linter.unusedVariables false

theorem enc_he (a0 a1 a2 a3 a4 : Int) : super_Encode.f a0 a1 a2 a3 a4 = some (if superB a0 a1 a2 a3 a4 = true then (sealI (encodeP a0 a1 a2 a3 a4), 0) else ([], 2)) := encodeF_eq a0 a1 a2 a3 a4
theorem enc_hh (a0 a1 : Int) : super_PutHead.f a0 a1 = some (if headB a0 a1 = true then (sealI (headP a0 a1), 0) else ([], 2)) := headF_eq a0 a1
theorem decI_no {l : List Int} (h : ¬ okS l) : decI l = (0, 0, 0, 0, 0, 2) := by unfold decI; rw [if_neg h]
theorem headI_no {l : List Int} (h : ¬ okH l) : headI l = (0, 0, 2) := by unfold headI; rw [if_neg h]

theorem turned_S (a0 a1 a2 a3 a4 x : Int) (k : Nat) (hk : k < 60) (hx0 : 0 ≤ x) (hx1 : x < 256) (hx : x ≠ 0) :
    super_Decode.f ((sealI (encodeP a0 a1 a2 a3 a4)).set k (Go.bits .xor .u8 (rd (sealI (encodeP a0 a1 a2 a3 a4)) (k : Int)) x)) = some (0, 0, 0, 0, 0, 2) := by
  have hL := sealI_length _ (encodeP_length a0 a1 a2 a3 a4)
  have hB := sealI_bytes (encodeP_bytes a0 a1 a2 a3 a4)
  have hc := hB _ (rd_mem (show k < (sealI (encodeP a0 a1 a2 a3 a4)).length from by omega))
  obtain ⟨b1, b2, b3⟩ := xor_facts _ x hc.1 hc.2 hx0 hx1
  rw [Decode_eq (bytes_set hB k b1 b2), decI_no]
  intro h
  exact sealI_turned (encodeP_bytes a0 a1 a2 a3 a4) (encodeP_length a0 a1 a2 a3 a4) k hk _ b1 b2 (fun e => hx (b3.1 e)) (okS_sealed h)
theorem turned_H (a0 a1 x : Int) (k : Nat) (hk : k < 60) (hx0 : 0 ≤ x) (hx1 : x < 256) (hx : x ≠ 0) :
    super_GetHead.f ((sealI (headP a0 a1)).set k (Go.bits .xor .u8 (rd (sealI (headP a0 a1)) (k : Int)) x)) = some (0, 0, 2) := by
  have hL := sealI_length _ (headP_length a0 a1)
  have hB := sealI_bytes (headP_bytes a0 a1)
  have hc := hB _ (rd_mem (show k < (sealI (headP a0 a1)).length from by omega))
  obtain ⟨b1, b2, b3⟩ := xor_facts _ x hc.1 hc.2 hx0 hx1
  rw [GetHead_eq (bytes_set hB k b1 b2), headI_no]
  intro h
  exact sealI_turned (headP_bytes a0 a1) (headP_length a0 a1) k hk _ b1 b2 (fun e => hx (b3.1 e)) (okH_sealed h)
theorem SuperTurned (a0 a1 a2 a3 a4 b0 b1 at_ x : Int) (w1 : (Lit.int .u8 at_).wf = true) (w2 : (Lit.int .u8 x).wf = true) : ∃ k, drydocklaw08_SuperTurned.f k a0 a1 a2 a3 a4 b0 b1 at_ x = some true := by
  obtain ⟨ha0, ha1⟩ := wf_u8 w1
  obtain ⟨hx0, hx1⟩ := wf_u8 w2
  refine ⟨0 + 1, ?_⟩
  unfold drydocklaw08_SuperTurned.f
  rw [enc_he, Option.bind_some, enc_hh, Option.bind_some, awake8_true, Option.bind_some, if_pos rfl, drydocklaw08_SuperTurned.j0]
  by_cases hx : x = 0
  · rw [hx, if_pos (by decide), awake8_true]
    rfl
  rw [if_neg (by rw [beq_eq_false_iff_ne.2 hx]; decide), Int.tmod_eq_emod_of_nonneg ha0]
  obtain ⟨k, hk⟩ : ∃ k : Nat, at_ % 60 = k := ⟨(at_ % 60).toNat, by omega⟩
  have hk60 : k < 60 := by omega
  rw [hk, Int.toNat_natCast]
  have hLS := sealI_length _ (encodeP_length a0 a1 a2 a3 a4)
  have hLH := sealI_length _ (headP_length b0 b1)
  have tS := turned_S a0 a1 a2 a3 a4 x k hk60 hx0 hx1 hx
  have tH := turned_H b0 b1 x k hk60 hx0 hx1 hx
  by_cases h : superB a0 a1 a2 a3 a4 = true <;> by_cases g : headB b0 b1 = true
  · rw [if_pos h, if_pos g]
    simp only []
    rw [if_pos trivial, if_pos (by omega), if_pos (by omega), tS, Option.bind_some, if_pos rfl, if_pos trivial, if_pos (by omega), tH]
    rfl
  · rw [if_pos h, if_neg g]
    simp only []
    rw [if_pos trivial, if_pos (by omega), if_pos (by omega), tS, Option.bind_some, if_pos rfl, if_neg (by decide)]
  · rw [if_neg h, if_pos g]
    simp only []
    rw [if_neg (by decide), if_pos trivial, if_pos (by omega), if_pos (by omega), tH]
    rfl
  · rw [if_neg h, if_neg g]
    simp only []
    rw [if_neg (by decide), if_neg (by decide)]
end Go.Proofs.Ytbgnmiicbaecfaa.Pure
