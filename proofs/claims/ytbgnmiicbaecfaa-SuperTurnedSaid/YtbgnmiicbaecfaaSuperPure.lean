/- What layer 8's printed functions of the program come to. -/
import Derived.Test.YtbgnmiicbaecfaaPAllx1
import Derived.Test.YtbgnmiicbaecfaaSuperLaw
namespace Go.Proofs.Ytbgnmiicbaecfaa.Pure
open Go Go.RowKit Go.Proofs.Ytbgnmiicbaecfaa.PAll Go.Proofs.YtbgnmiicbaecfaaW.PrintWords Go.Proofs.Ytbgnmiicbaecfaa.Spin Go.Proofs.Ytbgnmiicbaecfaa.Field Go.Proofs.Ytbgnmiicbaecfaa.Ref Go.Proofs.Ytbgnmiicbaecfaa.Super
set_option linter.unusedVariables false
set_option linter.unusedSimpArgs false

theorem seg (l : List Int) (o : Nat) : ∀ m, o + m ≤ l.length → (l.take (o + m)).drop o = (List.range m).map (fun i => rd l ((o + i : Nat) : Int))
  | 0, _ => by simp
  | m + 1, h => by
    have hlt : o + m < l.length := by omega
    rw [show o + (m + 1) = o + m + 1 from rfl, List.take_succ_eq_append_getElem hlt, List.drop_append_of_le_length (by rw [List.length_take]; omega), seg l o m (by omega), List.range_succ, List.map_append]
    have e : rd l ((o + m : Nat) : Int) = l[o + m] := by
      show l.getD ((o + m : Nat) : Int).toNat 0 = _
      rw [Int.toNat_natCast, List.getD_eq_getElem?_getD, List.getElem?_eq_getElem hlt]
      rfl
    rw [List.map_cons, List.map_nil, e]
/-- The number of m bytes at place o. -/
def numI (l : List Int) (o m : Nat) : Int := getI ((l.take (o + m)).drop o)
theorem num1 (l : List Int) (o : Nat) (h : o + 1 ≤ l.length) : numI l o 1 = rd l (o : Int) := by
  unfold numI
  rw [seg l o 1 h]
  simp [getI, List.range_succ]
theorem num2 (l : List Int) (o : Nat) (h : o + 2 ≤ l.length) : numI l o 2 = rd l (o : Int) + 256 * rd l ((o + 1 : Nat) : Int) := by
  unfold numI
  rw [seg l o 2 h]
  simp [getI, List.range_succ]

theorem Num_eq {l : List Int} (hl : Bytes l) (o m : Nat) (hm : m ≤ 4) (h : o + m ≤ l.length) (hn : l.length ≤ 64) : field_Num.f l o m = some (numI l o m) := by
  have e : wrap64 ((o : Int) + (m : Int)) = ((o + m : Nat) : Int) := by unfold wrap64; omega
  unfold field_Num.f
  rw [e, if_pos (by omega), if_pos (by omega), if_pos (by omega), Int.toNat_natCast, Int.toNat_natCast]
  unfold field_get.f
  rw [get_eq (bytes_drop (bytes_take hl _) _) (by rw [List.length_drop, List.length_take]; omega)]
  rfl

theorem rd_byte {l : List Int} (hl : Bytes l) (i : Nat) (h : i < l.length) : 0 ≤ rd l (i : Int) ∧ rd l (i : Int) < 256 := by
  have e : rd l (i : Int) = l[i] := by
    show l.getD (i : Int).toNat 0 = _
    rw [Int.toNat_natCast, List.getD_eq_getElem?_getD, List.getElem?_eq_getElem h]
    rfl
  rw [e]
  exact hl _ (List.getElem_mem h)
theorem num4 (l : List Int) (o : Nat) (h : o + 4 ≤ l.length) : numI l o 4 = rd l (o : Int) + 256 * (rd l ((o + 1 : Nat) : Int) + 256 * (rd l ((o + 2 : Nat) : Int) + 256 * rd l ((o + 3 : Nat) : Int))) := by
  unfold numI
  rw [seg l o 4 h]
  simp [getI, List.range_succ]
/-- What a block is as a Super. -/
def okS (l : List Int) : Prop := l.length = 64 ∧ superB (numI l 4 2) (numI l 6 1) (numI l 7 1) (numI l 8 1) (numI l 10 2) = true ∧ sealI (encodeP (numI l 4 2) (numI l 6 1) (numI l 7 1) (numI l 8 1) (numI l 10 2)) = l
theorem okS_sealed {l : List Int} (h : okS l) : l = sealI l := by
  have h1 := h.2.2
  have h2 := sealI_sealed (encodeP_length (numI l 4 2) (numI l 6 1) (numI l 7 1) (numI l 8 1) (numI l 10 2))
  rw [h1] at h2
  exact h2
theorem Equal_eq {l m : List Int} (hl : Bytes l) (hm : Bytes m) : bytes_Equal.f l m = some (decide (l = m)) := by
  unfold bytes_Equal.f
  congr 1
  by_cases h : l = m
  · rw [decide_eq_true h, h]
    exact beq_self_eq_true _
  · rw [decide_eq_false h]
    exact beq_eq_false_iff_ne.2 (fun e => h ((strOf_inj hl hm).1 e))
theorem Decode_no {l : List Int} (hl : Bytes l) (h : ¬ okS l) : super_Decode.f l = some (0, 0, 0, 0, 0, 2) := by
  unfold super_Decode.f
  by_cases h64 : l.length = 64
  · have hs : field_Sealed.f l = some (decide (l = sealI l)) := sealed_eq hl h64
    rw [hs, Option.bind_some]
    by_cases hq : l = sealI l
    · rw [if_pos (decide_eq_true hq)]
      rw [show ((4 : Int)) = ((4 : Nat) : Int) from rfl, show ((2 : Int)) = ((2 : Nat) : Int) from rfl, show ((6 : Int)) = ((6 : Nat) : Int) from rfl, show ((1 : Int)) = ((1 : Nat) : Int) from rfl, show ((7 : Int)) = ((7 : Nat) : Int) from rfl, show ((8 : Int)) = ((8 : Nat) : Int) from rfl, show ((10 : Int)) = ((10 : Nat) : Int) from rfl]
      rw [Num_eq hl 4 2 (by omega) (by omega) (by omega), Option.bind_some, Num_eq hl 6 1 (by omega) (by omega) (by omega), Option.bind_some, Num_eq hl 7 1 (by omega) (by omega) (by omega), Option.bind_some, Num_eq hl 8 1 (by omega) (by omega) (by omega), Option.bind_some, Num_eq hl 10 2 (by omega) (by omega) (by omega), Option.bind_some]
      have he : ∀ a0 a1 a2 a3 a4, super_Encode.f a0 a1 a2 a3 a4 = some (if superB a0 a1 a2 a3 a4 = true then (sealI (encodeP a0 a1 a2 a3 a4), 0) else ([], 2)) := encodeF_eq
      rw [he, Option.bind_some]
      by_cases hB : superB (numI l 4 2) (numI l 6 1) (numI l 7 1) (numI l 8 1) (numI l 10 2) = true
      · rw [if_pos hB, if_pos rfl, Equal_eq (sealI_bytes (encodeP_bytes _ _ _ _ _)) hl, Option.bind_some, decide_eq_false (fun e => h ⟨h64, hB, e⟩), if_neg (by decide)]
      · rw [if_neg hB, if_neg (by decide)]
    · rw [if_neg (by rw [decide_eq_false hq]; decide)]
  · have hs : field_Sealed.f l = some false := sealed_short h64
    rw [hs, Option.bind_some, if_neg (by decide)]
theorem Decode_yes {l : List Int} (hl : Bytes l) (h : okS l) : super_Decode.f l = some (numI l 4 2, numI l 6 1, numI l 7 1, numI l 8 1, numI l 10 2, 0) := by
  have h64 := h.1
  have hs : field_Sealed.f l = some (decide (l = sealI l)) := sealed_eq hl h64
  unfold super_Decode.f
  rw [hs, Option.bind_some, if_pos (decide_eq_true (okS_sealed h))]
  rw [show ((4 : Int)) = ((4 : Nat) : Int) from rfl, show ((2 : Int)) = ((2 : Nat) : Int) from rfl, show ((6 : Int)) = ((6 : Nat) : Int) from rfl, show ((1 : Int)) = ((1 : Nat) : Int) from rfl, show ((7 : Int)) = ((7 : Nat) : Int) from rfl, show ((8 : Int)) = ((8 : Nat) : Int) from rfl, show ((10 : Int)) = ((10 : Nat) : Int) from rfl]
  rw [Num_eq hl 4 2 (by omega) (by omega) (by omega), Option.bind_some, Num_eq hl 6 1 (by omega) (by omega) (by omega), Option.bind_some, Num_eq hl 7 1 (by omega) (by omega) (by omega), Option.bind_some, Num_eq hl 8 1 (by omega) (by omega) (by omega), Option.bind_some, Num_eq hl 10 2 (by omega) (by omega) (by omega), Option.bind_some]
  have he : ∀ a0 a1 a2 a3 a4, super_Encode.f a0 a1 a2 a3 a4 = some (if superB a0 a1 a2 a3 a4 = true then (sealI (encodeP a0 a1 a2 a3 a4), 0) else ([], 2)) := encodeF_eq
  rw [he, Option.bind_some, if_pos h.2.1, if_pos rfl, Equal_eq (sealI_bytes (encodeP_bytes _ _ _ _ _)) hl, Option.bind_some, decide_eq_true h.2.2, if_pos rfl]

open Classical in
/-- What both Decodes give. -/
noncomputable def decI (l : List Int) : Int × Int × Int × Int × Int × Int := if okS l then (numI l 4 2, numI l 6 1, numI l 7 1, numI l 8 1, numI l 10 2, 0) else (0, 0, 0, 0, 0, 2)
theorem Decode_eq {l : List Int} (hl : Bytes l) : super_Decode.f l = some (decI l) := by
  unfold decI
  by_cases h : okS l
  · rw [if_pos h, Decode_yes hl h]
  · rw [if_neg h, Decode_no hl h]
/-- What a block is as a Head. -/
def okH (l : List Int) : Prop := l.length = 64 ∧ headB (numI l 4 1) (numI l 8 4) = true ∧ sealI (headP (numI l 4 1) (numI l 8 4)) = l
theorem okH_sealed {l : List Int} (h : okH l) : l = sealI l := by
  have h1 := h.2.2
  have h2 := sealI_sealed (headP_length (numI l 4 1) (numI l 8 4))
  rw [h1] at h2
  exact h2
open Classical in
noncomputable def headI (l : List Int) : Int × Int × Int := if okH l then (numI l 4 1, numI l 8 4, 0) else (0, 0, 2)
theorem GetHead_eq {l : List Int} (hl : Bytes l) : super_GetHead.f l = some (headI l) := by
  unfold super_GetHead.f headI
  by_cases h64 : l.length = 64
  · have hs : field_Sealed.f l = some (decide (l = sealI l)) := sealed_eq hl h64
    rw [hs, Option.bind_some]
    by_cases hq : l = sealI l
    · rw [if_pos (decide_eq_true hq)]
      have n4 : field_Num.f l 4 1 = some (numI l 4 1) := Num_eq hl 4 1 (by omega) (by omega) (by omega)
      have n8 : field_Num.f l 8 4 = some (numI l 8 4) := Num_eq hl 8 4 (by omega) (by omega) (by omega)
      rw [n4, Option.bind_some, n8, Option.bind_some]
      have he : ∀ a0 a1, super_PutHead.f a0 a1 = some (if headB a0 a1 = true then (sealI (headP a0 a1), 0) else ([], 2)) := headF_eq
      rw [he, Option.bind_some]
      by_cases hB : headB (numI l 4 1) (numI l 8 4) = true
      · rw [if_pos hB, if_pos rfl, Equal_eq (sealI_bytes (headP_bytes _ _)) hl, Option.bind_some]
        by_cases e : sealI (headP (numI l 4 1) (numI l 8 4)) = l
        · rw [decide_eq_true e, if_pos rfl, if_pos (show okH l from ⟨h64, hB, e⟩)]
        · rw [decide_eq_false e, if_neg (by decide), if_neg (fun g : okH l => e g.2.2)]
      · rw [if_neg hB, if_neg (by decide), if_neg (fun g : okH l => hB g.2.1)]
    · rw [if_neg (by rw [decide_eq_false hq]; decide), if_neg (fun g : okH l => hq (okH_sealed g))]
  · have hs : field_Sealed.f l = some false := sealed_short h64
    rw [hs, Option.bind_some, if_neg (by decide), if_neg (fun g : okH l => h64 g.1)]
theorem numI_seal (l : List Int) (h : l.length = 64) (o m : Nat) (ho : o + m ≤ 60) : numI (sealI l) o m = numI l o m := by
  unfold numI
  have e : (sealI l).take (o + m) = l.take (o + m) := by
    have := sealI_take l h
    rw [← Nat.min_eq_left ho, ← List.take_take, this, List.take_take]
  rw [e]
theorem le_back {n : Int} {m : Nat} (hm : m ≤ 4) (h0 : 0 ≤ n) (h1 : n < 256 ^ m) : getI (leB n m) = n := by
  rw [getI_le n h0 m hm, Int.emod_eq_of_lt h0 h1]
theorem encode_fields (a0 a1 a2 a3 a4 : Int) (h : superB a0 a1 a2 a3 a4 = true) :
    numI (sealI (encodeP a0 a1 a2 a3 a4)) 4 2 = a0 ∧ numI (sealI (encodeP a0 a1 a2 a3 a4)) 6 1 = a1 ∧ numI (sealI (encodeP a0 a1 a2 a3 a4)) 7 1 = a2 ∧ numI (sealI (encodeP a0 a1 a2 a3 a4)) 8 1 = a3 ∧ numI (sealI (encodeP a0 a1 a2 a3 a4)) 10 2 = a4 := by
  simp only [superB, inB, Bool.and_eq_true, decide_eq_true_eq] at h
  have hL := encodeP_length a0 a1 a2 a3 a4
  rw [numI_seal _ hL _ _ (by omega), numI_seal _ hL _ _ (by omega), numI_seal _ hL _ _ (by omega), numI_seal _ hL _ _ (by omega), numI_seal _ hL _ _ (by omega), encodeP_eq]
  refine ⟨?_, ?_, ?_, ?_, ?_⟩
  · show getI (leB a0 2) = a0
    exact le_back (by omega) (by omega) (by rw [show (256 : Int) ^ 2 = 65536 from by decide]; omega)
  · show getI (leB a1 1) = a1
    exact le_back (by omega) (by omega) (by rw [show (256 : Int) ^ 1 = 256 from by decide]; omega)
  · show getI (leB a2 1) = a2
    exact le_back (by omega) (by omega) (by rw [show (256 : Int) ^ 1 = 256 from by decide]; omega)
  · show getI (leB a3 1) = a3
    exact le_back (by omega) (by omega) (by rw [show (256 : Int) ^ 1 = 256 from by decide]; omega)
  · show getI (leB a4 2) = a4
    exact le_back (by omega) (by omega) (by rw [show (256 : Int) ^ 2 = 65536 from by decide]; omega)
theorem head_fields (a0 a1 : Int) (h : headB a0 a1 = true) : numI (sealI (headP a0 a1)) 4 1 = a0 ∧ numI (sealI (headP a0 a1)) 8 4 = a1 := by
  simp only [headB, inB, Bool.and_eq_true, decide_eq_true_eq] at h
  have hL := headP_length a0 a1
  rw [numI_seal _ hL _ _ (by omega), numI_seal _ hL _ _ (by omega), headP_eq]
  refine ⟨?_, ?_⟩
  · show getI (leB a0 1) = a0
    exact le_back (by omega) (by omega) (by rw [show (256 : Int) ^ 1 = 256 from by decide]; omega)
  · show getI (leB a1 4) = a1
    exact le_back (by omega) (by omega) (by rw [show (256 : Int) ^ 4 = 4294967296 from by decide]; omega)
theorem encode_decI (a0 a1 a2 a3 a4 : Int) (h : superB a0 a1 a2 a3 a4 = true) : decI (sealI (encodeP a0 a1 a2 a3 a4)) = (a0, a1, a2, a3, a4, 0) := by
  obtain ⟨f0, f1, f2, f3, f4⟩ := encode_fields a0 a1 a2 a3 a4 h
  unfold decI
  rw [if_pos ⟨sealI_length _ (encodeP_length _ _ _ _ _), by rw [f0, f1, f2, f3, f4]; exact h, by rw [f0, f1, f2, f3, f4]⟩, f0, f1, f2, f3, f4]
theorem head_headI (a0 a1 : Int) (h : headB a0 a1 = true) : headI (sealI (headP a0 a1)) = (a0, a1, 0) := by
  obtain ⟨f0, f1⟩ := head_fields a0 a1 h
  unfold headI
  rw [if_pos ⟨sealI_length _ (headP_length _ _), by rw [f0, f1]; exact h, by rw [f0, f1]⟩, f0, f1]
theorem awake8_true : drydocklaw08_awake.f = some true := by
  have he : ∀ a0 a1 a2 a3 a4, super_Encode.f a0 a1 a2 a3 a4 = some (if superB a0 a1 a2 a3 a4 = true then (sealI (encodeP a0 a1 a2 a3 a4), 0) else ([], 2)) := encodeF_eq
  have hh : ∀ a0 a1, super_PutHead.f a0 a1 = some (if headB a0 a1 = true then (sealI (headP a0 a1), 0) else ([], 2)) := headF_eq
  unfold drydocklaw08_awake.f
  rw [he, if_pos (by decide), Option.bind_some, Decode_eq (sealI_bytes (encodeP_bytes _ _ _ _ _)), encode_decI _ _ _ _ _ (by decide), Option.bind_some, hh, if_pos (by decide), Option.bind_some, GetHead_eq (sealI_bytes (headP_bytes _ _)), head_headI _ _ (by decide), Option.bind_some]
  rfl
end Go.Proofs.Ytbgnmiicbaecfaa.Pure
