/- What layer 4's printed functions come to. -/
import Derived.Test.YtbgnmiicbaecfaaPAllx1
import Derived.Test.YtbgnmiicbaecfaaPAllx1
import Derived.Test.YtbgnmiicbaecfaaFieldLaw
namespace Go.Proofs.Ytbgnmiicbaecfaa.Pure
open Go Go.RowKit Go.Proofs.Ytbgnmiicbaecfaa.PAll Go.Proofs.YtbgnmiicbaecfaaW.PrintWords Go.Proofs.Ytbgnmiicbaecfaa.Spin Go.Proofs.Ytbgnmiicbaecfaa.Field Go.Proofs.Ytbgnmiicbaecfaa.Ref
set_option linter.unusedVariables false

theorem check_eq (l : List Int) (a1 a2 : Int) : field_check.f l a1 a2 4 = some (checkI l.length a1 a2 4) := by
  unfold field_check.f checkI
  by_cases h : l.length = 64
  · rw [if_pos (by omega), if_pos h]
    by_cases h1 : a2 < 1
    · rw [if_pos h1, if_pos h1]
    · rw [if_neg h1, if_neg h1]
      by_cases h2 : 4 < a2
      · rw [if_pos h2, if_pos h2]
      · rw [if_neg h2, if_neg h2]
        by_cases h3 : a1 < 0
        · rw [if_pos h3, if_pos h3]
        · have e : wrap64 (60 - a2) = 60 - a2 := by unfold wrap64; omega
          rw [if_neg h3, if_neg h3, e]
          by_cases h4 : 60 - a2 < a1
          · rw [if_pos h4, if_pos h4]
          · rw [if_neg h4, if_neg h4]
  · rw [if_neg (by omega), if_neg h]

/-- Get. -/
theorem Get_eq {l : List Int} {a1 a2 : Int} (hl : Bytes l) (h : checkI l.length a1 a2 4 = 0) : field_Get.f l a1 a2 = some (getI ((l.take (a1.toNat + a2.toNat)).drop a1.toNat), 0) := by
  obtain ⟨h64, h1, h2, h3, h4⟩ := checkI_zero h
  unfold field_Get.f
  rw [check_eq, h]
  simp only [Option.bind_some]
  have e : wrap64 (a1 + a2) = a1 + a2 := by unfold wrap64; omega
  rw [if_pos trivial, e, if_pos h3, if_pos (by omega), if_pos (by omega), show (a1 + a2).toNat = a1.toNat + a2.toNat from by omega]
  unfold field_get.f
  rw [get_eq (bytes_drop (bytes_take hl _) _) (by rw [List.length_drop, List.length_take]; omega)]
  rfl
theorem Get_no {l : List Int} {a1 a2 : Int} (h : checkI l.length a1 a2 4 ≠ 0) : field_Get.f l a1 a2 = some (0, checkI l.length a1 a2 4) := by
  unfold field_Get.f
  rw [check_eq]
  simp only [Option.bind_some]
  rw [if_neg h]

theorem awake_true : drydocklaw04_awake.f = some true := by
  have hb := bytes_replicate 64
  have hlen : (List.replicate 64 (0 : Int)).length = 64 := List.length_replicate
  have hc : checkI (List.replicate 64 (0 : Int)).length 3 2 4 = 0 := by rw [hlen]; decide
  unfold drydocklaw04_awake.f field_Set.f field_Seal.f field_Sealed.f
  rw [if_pos (by decide), set_eq hc (by omega) (by decide)]
  simp only [Option.bind_some]
  have hp : Bytes (putL (List.replicate 64 0) (3 : Int).toNat 258 (2 : Int).toNat) := putL_bytes hb _ _ _
  have hpl : (putL (List.replicate 64 (0 : Int)) (3 : Int).toNat 258 (2 : Int).toNat).length = 64 := by rw [putL_length, hlen]
  rw [Get_eq hp (by rw [hpl]; decide)]
  simp only [Option.bind_some]
  rw [show (3 : Int).toNat + (2 : Int).toNat = 5 from rfl, show ((putL (List.replicate 64 (0 : Int)) (3 : Int).toNat 258 (2 : Int).toNat).take 5).drop (3 : Int).toNat = leB 258 2 from putL_at _ 3 258 2 (by rw [hlen]; omega), getI_le 258 (by omega) 2 (by omega), seal_eq hp hpl]
  simp only [Option.bind_some]
  rw [sealed_eq (sealI_bytes hp) (sealI_length _ hpl), decide_eq_true (sealI_sealed hpl)]
  rfl
end Go.Proofs.Ytbgnmiicbaecfaa.Pure
