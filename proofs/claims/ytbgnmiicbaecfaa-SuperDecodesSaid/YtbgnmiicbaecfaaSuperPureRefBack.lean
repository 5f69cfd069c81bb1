/- The reference's Decode and GetHead. -/
import Derived.Test.YtbgnmiicbaecfaaPAllx7
import Derived.Test.YtbgnmiicbaecfaaPAllx9
import Derived.Test.YtbgnmiicbaecfaaSuperPureRef
namespace Go.Proofs.Ytbgnmiicbaecfaa.Pure
open Go Go.RowKit Go.Proofs.Ytbgnmiicbaecfaa.PAll Go.Proofs.YtbgnmiicbaecfaaW.PrintWords Go.Proofs.Ytbgnmiicbaecfaa.Spin Go.Proofs.Ytbgnmiicbaecfaa.Field Go.Proofs.Ytbgnmiicbaecfaa.Ref Go.Proofs.Ytbgnmiicbaecfaa.Super
set_option linter.unusedVariables false
set_option linter.unusedSimpArgs false

theorem refnum_step {l : List Int} (hl : Bytes l) (k o j : Nat) (x : Int) (h : o + j < l.length) (hn : l.length ≤ 64) (hx0 : 0 ≤ x) (hx1 : x < 4294967296) :
    drydockref04_Num.l0 (k + 1) l o x j = drydockref04_Num.l0 k l o (x * 256 + rd l ((o + j : Nat) : Int)) ((j : Int) - 1) := by
  have hb := rd_byte hl (o + j) h
  have e1 : wrap64 ((o : Int) + (j : Int)) = ((o + j : Nat) : Int) := Go.Proofs.Ytbgnmiicbaecfaa.Page.wsmall (by omega) (by omega)
  rw [drydockref04_Num.l0, if_pos (by omega), e1, if_pos (by omega), if_pos (by omega)]
  generalize rd l ((o + j : Nat) : Int) = y at hb ⊢
  have e2 : wrap64 y = y := Go.Proofs.Ytbgnmiicbaecfaa.Page.wsmall hb.1 (by omega)
  have e3 : wrap64 (x * 256) = x * 256 := Go.Proofs.Ytbgnmiicbaecfaa.Page.wsmall (by omega) (by omega)
  rw [e2, e3, Go.Proofs.Ytbgnmiicbaecfaa.Page.wsmall (n := x * 256 + y) (by omega) (by omega)]
  have e4 : wrap64 ((j : Int) - 1) = (j : Int) - 1 := by clear e1 e2 e3; unfold wrap64; omega
  rw [e4]
theorem refnum_end (k : Nat) (l : List Int) (o : Nat) (x : Int) : drydockref04_Num.l0 (k + 1) l o x (-1) = some x := by
  rw [drydockref04_Num.l0, if_neg (by omega)]
theorem refNum2 {l : List Int} (hl : Bytes l) (k o : Nat) (h : o + 2 ≤ l.length) (hn : l.length ≤ 64) : drydockref04_Num.f (k + 3) l o 2 = some (numI l o 2) := by
  have b1 := rd_byte hl (o + 1) (by omega)
  have b0 := rd_byte hl (o + 0) (by omega)
  have s1 := refnum_step hl (k + 2) o 1 0 (by omega) hn (by omega) (by omega)
  have s0 := refnum_step hl (k + 1) o 0 (0 * 256 + rd l ((o + 1 : Nat) : Int)) (by omega) hn (by omega) (by omega)
  unfold drydockref04_Num.f
  rw [show wrap64 ((2 : Int) - 1) = ((1 : Nat) : Int) from by unfold wrap64; omega]
  rw [s1, show (((1 : Nat) : Int) - 1) = ((0 : Nat) : Int) from rfl, s0, show (((0 : Nat) : Int) - 1) = -1 from rfl, refnum_end, num2 l o h]
  have z : rd l ((o + 0 : Nat) : Int) = rd l (o : Int) := rfl
  rw [z]
  congr 1
  omega
theorem refNum4 {l : List Int} (hl : Bytes l) (k o : Nat) (h : o + 4 ≤ l.length) (hn : l.length ≤ 64) : drydockref04_Num.f (k + 5) l o 4 = some (numI l o 4) := by
  have b3 := rd_byte hl (o + 3) (by omega)
  have b2 := rd_byte hl (o + 2) (by omega)
  have b1 := rd_byte hl (o + 1) (by omega)
  have b0 := rd_byte hl (o + 0) (by omega)
  have s3 := refnum_step hl (k + 4) o 3 0 (by omega) hn (by omega) (by omega)
  have s2 := refnum_step hl (k + 3) o 2 (0 * 256 + rd l ((o + 3 : Nat) : Int)) (by omega) hn (by omega) (by omega)
  have s1 := refnum_step hl (k + 2) o 1 ((0 * 256 + rd l ((o + 3 : Nat) : Int)) * 256 + rd l ((o + 2 : Nat) : Int)) (by omega) hn (by omega) (by omega)
  have s0 := refnum_step hl (k + 1) o 0 (((0 * 256 + rd l ((o + 3 : Nat) : Int)) * 256 + rd l ((o + 2 : Nat) : Int)) * 256 + rd l ((o + 1 : Nat) : Int)) (by omega) hn (by omega) (by omega)
  unfold drydockref04_Num.f
  rw [show wrap64 ((4 : Int) - 1) = ((3 : Nat) : Int) from by unfold wrap64; omega]
  rw [s3, show (((3 : Nat) : Int) - 1) = ((2 : Nat) : Int) from rfl, s2, show (((2 : Nat) : Int) - 1) = ((1 : Nat) : Int) from rfl, s1, show (((1 : Nat) : Int) - 1) = ((0 : Nat) : Int) from rfl, s0, show (((0 : Nat) : Int) - 1) = -1 from rfl, refnum_end, num4 l o h]
  have z : rd l ((o + 0 : Nat) : Int) = rd l (o : Int) := rfl
  rw [z]
  congr 1
  omega

theorem refDecode_eq {l : List Int} (hl : Bytes l) (k : Nat) : drydockref08_Decode.f (k + 6) l = some (decI l) := by
  unfold drydockref08_Decode.f
  by_cases h64 : l.length = 64
  · have n4 := refNum2 hl (k + 3) 4 (by omega) (by omega)
    have n10 := refNum2 hl (k + 3) 10 (by omega) (by omega)
    have m6 : numI l 6 1 = rd l 6 := num1 l 6 (by omega)
    have m7 : numI l 7 1 = rd l 7 := num1 l 7 (by omega)
    have m8 : numI l 8 1 = rd l 8 := num1 l 8 (by omega)
    have b6 : 0 ≤ rd l 6 ∧ rd l 6 < 256 := rd_byte hl 6 (by omega)
    have b7 : 0 ≤ rd l 7 ∧ rd l 7 < 256 := rd_byte hl 7 (by omega)
    have b8 : 0 ≤ rd l 8 ∧ rd l 8 < 256 := rd_byte hl 8 (by omega)
    rw [← m6] at b6; rw [← m7] at b7; rw [← m8] at b8
    have w6 : wrap64 (rd l 6) = numI l 6 1 := by rw [m6] at b6 ⊢; exact Go.Proofs.Ytbgnmiicbaecfaa.Page.wsmall b6.1 (Int.lt_trans b6.2 (by decide))
    have w7 : wrap64 (rd l 7) = numI l 7 1 := by rw [m7] at b7 ⊢; exact Go.Proofs.Ytbgnmiicbaecfaa.Page.wsmall b7.1 (Int.lt_trans b7.2 (by decide))
    have w8 : wrap64 (rd l 8) = numI l 8 1 := by rw [m8] at b8 ⊢; exact Go.Proofs.Ytbgnmiicbaecfaa.Page.wsmall b8.1 (Int.lt_trans b8.2 (by decide))
    rw [if_pos (by omega)]
    rw [show ((4 : Nat) : Int) = 4 from rfl] at n4
    rw [show ((10 : Nat) : Int) = 10 from rfl] at n10
    rw [n4, Option.bind_some, if_pos (by omega), if_pos (by omega), if_pos (by omega), n10, Option.bind_some, w6, w7, w8, refEncode_eq, encodeF_eq, Option.bind_some]
    unfold decI
    by_cases hB : superB (numI l 4 2) (numI l 6 1) (numI l 7 1) (numI l 8 1) (numI l 10 2) = true
    · rw [if_pos hB, if_pos rfl]
      by_cases e : sealI (encodeP (numI l 4 2) (numI l 6 1) (numI l 7 1) (numI l 8 1) (numI l 10 2)) = l
      · rw [if_pos ((strOf_inj (sealI_bytes (encodeP_bytes _ _ _ _ _)) hl).2 e), if_pos (show okS l from ⟨h64, hB, e⟩)]
      · rw [if_neg (fun g => e ((strOf_inj (sealI_bytes (encodeP_bytes _ _ _ _ _)) hl).1 g)), if_neg (fun g : okS l => e g.2.2)]
    · rw [if_neg hB, if_neg (by decide), if_neg (fun g : okS l => hB g.2.1)]
  · rw [if_neg (by omega)]
    unfold decI
    rw [if_neg (fun g : okS l => h64 g.1)]

theorem refGetHead_eq {l : List Int} (hl : Bytes l) (k : Nat) : drydockref08_GetHead.f (k + 6) l = some (headI l) := by
  unfold drydockref08_GetHead.f headI
  by_cases h64 : l.length = 64
  · have n8 : drydockref04_Num.f (k + 6) l 8 4 = some (numI l 8 4) := refNum4 hl (k + 1) 8 (by omega) (by omega)
    have m4 : numI l 4 1 = rd l 4 := num1 l 4 (by omega)
    have b4 : 0 ≤ rd l 4 ∧ rd l 4 < 256 := rd_byte hl 4 (by omega)
    have w4 : wrap64 (rd l 4) = numI l 4 1 := by rw [m4]; exact Go.Proofs.Ytbgnmiicbaecfaa.Page.wsmall b4.1 (Int.lt_trans b4.2 (by decide))
    rw [if_pos (by omega), if_pos (by omega), n8, Option.bind_some, w4, refHead_eq, headF_eq, Option.bind_some]
    by_cases hB : headB (numI l 4 1) (numI l 8 4) = true
    · rw [if_pos hB, if_pos rfl]
      by_cases e : sealI (headP (numI l 4 1) (numI l 8 4)) = l
      · rw [if_pos ((strOf_inj (sealI_bytes (headP_bytes _ _)) hl).2 e), if_pos (show okH l from ⟨h64, hB, e⟩)]
      · rw [if_neg (fun g => e ((strOf_inj (sealI_bytes (headP_bytes _ _)) hl).1 g)), if_neg (fun g : okH l => e g.2.2)]
    · rw [if_neg hB, if_neg (by decide), if_neg (fun g : okH l => hB g.2.1)]
  · rw [if_neg (by omega), if_neg (fun g : okH l => h64 g.1)]

end Go.Proofs.Ytbgnmiicbaecfaa.Pure
