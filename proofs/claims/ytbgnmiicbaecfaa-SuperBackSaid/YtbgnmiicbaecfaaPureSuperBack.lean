/- For every Super and every Head: what was written is read as it was; what is read is written as it was. Conditions: none beyond the form's own. -/
import Derived.Test.YtbgnmiicbaecfaaPAllx4
import Derived.Test.YtbgnmiicbaecfaaSuperPure
namespace Go.Proofs.Ytbgnmiicbaecfaa.Pure
open Go Go.RowKit Go.Proofs.Ytbgnmiicbaecfaa.PAll Go.Proofs.YtbgnmiicbaecfaaW.PrintWords Go.Proofs.YtbgnmiicbaecfaaW.PrintLast Go.Proofs.Ytbgnmiicbaecfaa.Spin Go.Proofs.Ytbgnmiicbaecfaa.Field Go.Proofs.Ytbgnmiicbaecfaa.Super
set_option linter.unusedVariables false

theorem enc_he (a0 a1 a2 a3 a4 : Int) : super_Encode.f a0 a1 a2 a3 a4 = some (if superB a0 a1 a2 a3 a4 = true then (sealI (encodeP a0 a1 a2 a3 a4), 0) else ([], 2)) := encodeF_eq a0 a1 a2 a3 a4
theorem enc_hh (a0 a1 : Int) : super_PutHead.f a0 a1 = some (if headB a0 a1 = true then (sealI (headP a0 a1), 0) else ([], 2)) := headF_eq a0 a1
theorem first_S (a0 a1 a2 a3 a4 : Int) : (sealI (encodeP a0 a1 a2 a3 a4)).take 1 = [68] := by
  have h := congrArg (List.take 1) (sealI_take _ (encodeP_length a0 a1 a2 a3 a4))
  rw [List.take_take, List.take_take] at h
  exact h.trans rfl
theorem first_H (a0 a1 : Int) : (sealI (headP a0 a1)).take 1 = [72] := by
  have h := congrArg (List.take 1) (sealI_take _ (headP_length a0 a1))
  rw [List.take_take, List.take_take] at h
  exact h.trans rfl
theorem notS (a0 a1 : Int) : ¬ okS (sealI (headP a0 a1)) := by
  intro h
  have e := congrArg (List.take 1) h.2.2
  rw [first_S, first_H] at e
  exact absurd e (by decide)
theorem notH (a0 a1 a2 a3 a4 : Int) : ¬ okH (sealI (encodeP a0 a1 a2 a3 a4)) := by
  intro h
  have e := congrArg (List.take 1) h.2.2
  rw [first_S, first_H] at e
  exact absurd e (by decide)
theorem decI_no {l : List Int} (h : ¬ okS l) : decI l = (0, 0, 0, 0, 0, 2) := by unfold decI; rw [if_neg h]
theorem decI_yes {l : List Int} (h : okS l) : decI l = (numI l 4 2, numI l 6 1, numI l 7 1, numI l 8 1, numI l 10 2, 0) := by unfold decI; rw [if_pos h]
theorem headI_no {l : List Int} (h : ¬ okH l) : headI l = (0, 0, 2) := by unfold headI; rw [if_neg h]

theorem back_j1 (k : Nat) {l : List Int} (hl : Bytes l) : drydocklaw08_SuperBack.j1 (k + 1) l = some true := by
  rw [drydocklaw08_SuperBack.j1, Decode_eq hl, Option.bind_some]
  by_cases h : okS l
  · rw [decI_yes h, if_pos rfl]
    show (super_Encode.f (numI l 4 2) (numI l 6 1) (numI l 7 1) (numI l 8 1) (numI l 10 2)).bind _ = _
    rw [enc_he, if_pos h.2.1, Option.bind_some, awake8_true, Option.bind_some, if_pos rfl, if_pos rfl]
    show some ((strOfNums (sealI (encodeP (numI l 4 2) (numI l 6 1) (numI l 7 1) (numI l 8 1) (numI l 10 2)))).toList == (strOfNums l).toList) = _
    rw [h.2.2, beq_self_eq_true]
  · rw [decI_no h, if_neg (by decide), awake8_true]
    rfl
theorem back_j0 (k : Nat) {l : List Int} (hl : Bytes l) (b0 b1 : Int) : drydocklaw08_SuperBack.j0 (k + 2) l (if headB b0 b1 = true then (sealI (headP b0 b1), (0 : Int)) else ([], 2)).1 (if headB b0 b1 = true then (sealI (headP b0 b1), (0 : Int)) else ([], 2)).2 b0 b1 = some true := by
  rw [show k + 2 = (k + 1) + 1 from rfl, drydocklaw08_SuperBack.j0]
  by_cases h : headB b0 b1 = true
  · rw [if_pos h, if_pos rfl]
    show (super_GetHead.f (sealI (headP b0 b1))).bind _ = _
    have hB := sealI_bytes (headP_bytes b0 b1)
    rw [GetHead_eq hB, Option.bind_some, head_headI _ _ h]
    show (super_Decode.f (sealI (headP b0 b1))).bind _ = _
    rw [Decode_eq hB, Option.bind_some, decI_no (notS b0 b1), if_pos rfl, if_neg (by simp), if_pos rfl, back_j1 k hl]
  · rw [if_neg h, if_neg (by decide), back_j1 k hl]
theorem SuperBack (a0 a1 a2 a3 a4 b0 b1 : Int) (l : List Int) (h3 : ∀ x ∈ l, (Lit.int .u8 x).wf = true) : ∃ k, drydocklaw08_SuperBack.f k a0 a1 a2 a3 a4 b0 b1 l = some true := by
  have hl : Bytes l := bytes_wf h3
  refine ⟨0 + 2, ?_⟩
  unfold drydocklaw08_SuperBack.f
  rw [enc_he, Option.bind_some, enc_hh, Option.bind_some]
  by_cases h : superB a0 a1 a2 a3 a4 = true
  · rw [if_pos h, if_pos rfl]
    have hB := sealI_bytes (encodeP_bytes a0 a1 a2 a3 a4)
    show (super_Decode.f (sealI (encodeP a0 a1 a2 a3 a4))).bind _ = _
    rw [Decode_eq hB, Option.bind_some, encode_decI _ _ _ _ _ h]
    show (super_GetHead.f (sealI (encodeP a0 a1 a2 a3 a4))).bind _ = _
    rw [GetHead_eq hB, Option.bind_some, headI_no (notH a0 a1 a2 a3 a4), if_pos rfl, if_neg (by simp), if_pos rfl, back_j0 0 hl]
  · rw [if_neg h, if_neg (by decide), back_j0 0 hl]

end Go.Proofs.Ytbgnmiicbaecfaa.Pure
