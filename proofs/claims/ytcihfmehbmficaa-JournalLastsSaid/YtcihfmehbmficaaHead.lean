/- What PutHead and GetHead come to, the program's and the reference's. -/
import Derived.Test.YtcihfmehbmficaaPAllx1
import Derived.Test.YtcihfmehbmficaaPAllx6
import Derived.Test.YtcihfmehbmficaaPAllx8
import Derived.Test.YtcihfmehbmficaaBlockRef
import Derived.Test.YtcihfmehbmficaaSuperLaw
namespace Go.Proofs.Ytcihfmehbmficaa.Pure
open Go Go.RowKit Go.Proofs.Ytcihfmehbmficaa.PAll Go.Proofs.YtcihfmehbmficaaW.PrintWords Go.Proofs.Ytcihfmehbmficaa.Spin Go.Proofs.Ytcihfmehbmficaa.Field Go.Proofs.Ytcihfmehbmficaa.Ref Go.Proofs.Ytcihfmehbmficaa.Super
set_option linter.unusedVariables false
set_option linter.unusedSimpArgs false
/-- What a block is as a Head. -/
def okH (l : List Int) : Prop := l.length = 64 ∧ headB (numI l 4 1) (numI l 8 4) = true ∧ sealI (headP (numI l 4 1) (numI l 8 4)) = l
theorem okH_sealed {l : List Int} (h : okH l) : l = sealI l := by
  have h1 := h.2.2
  have h2 := sealI_sealed (headP_length (numI l 4 1) (numI l 8 4))
  rw [h1] at h2
  exact h2
open Classical in
noncomputable def headI (l : List Int) : Int × Int × Int := if okH l then (numI l 4 1, numI l 8 4, 0) else (0, 0, 2)
theorem GetHead_eq {l : List Int} (hl : Bytes l) : super_GetHead.f l = some (headI l) := by
  unfold super_GetHead.f headI
  by_cases h64 : l.length = 64
  · have hs : field_Sealed.f l = some (decide (l = sealI l)) := sealed_eq hl h64
    rw [hs, Option.bind_some]
    by_cases hq : l = sealI l
    · rw [if_pos (decide_eq_true hq)]
      have n4 : field_Num.f l 4 1 = some (numI l 4 1) := Num_eq hl 4 1 (by omega) (by omega) (by omega)
      have n8 : field_Num.f l 8 4 = some (numI l 8 4) := Num_eq hl 8 4 (by omega) (by omega) (by omega)
      rw [n4, Option.bind_some, n8, Option.bind_some]
      have he : ∀ a0 a1, super_PutHead.f a0 a1 = some (if headB a0 a1 = true then (sealI (headP a0 a1), 0) else ([], 2)) := headF_eq
      rw [he, Option.bind_some]
      by_cases hB : headB (numI l 4 1) (numI l 8 4) = true
      · rw [if_pos hB, if_pos rfl, Equal_eq (sealI_bytes (headP_bytes _ _)) hl, Option.bind_some]
        by_cases e : sealI (headP (numI l 4 1) (numI l 8 4)) = l
        · rw [decide_eq_true e, if_pos rfl, if_pos (show okH l from ⟨h64, hB, e⟩)]
        · rw [decide_eq_false e, if_neg (by decide), if_neg (fun g : okH l => e g.2.2)]
      · rw [if_neg hB, if_neg (by decide), if_neg (fun g : okH l => hB g.2.1)]
    · rw [if_neg (by rw [decide_eq_false hq]; decide), if_neg (fun g : okH l => hq (okH_sealed g))]
  · have hs : field_Sealed.f l = some false := sealed_short h64
    rw [hs, Option.bind_some, if_neg (by decide), if_neg (fun g : okH l => h64 g.1)]
theorem head_fields (a0 a1 : Int) (h : headB a0 a1 = true) : numI (sealI (headP a0 a1)) 4 1 = a0 ∧ numI (sealI (headP a0 a1)) 8 4 = a1 := by
  simp only [headB, inB, Bool.and_eq_true, decide_eq_true_eq] at h
  have hL := headP_length a0 a1
  rw [numI_seal _ hL _ _ (by omega), numI_seal _ hL _ _ (by omega), headP_eq]
  refine ⟨?_, ?_⟩
  · show getI (leB a0 1) = a0
    exact le_back (by omega) (by omega) (by rw [show (256 : Int) ^ 1 = 256 from by decide]; omega)
  · show getI (leB a1 4) = a1
    exact le_back (by omega) (by omega) (by rw [show (256 : Int) ^ 4 = 4294967296 from by decide]; omega)
theorem head_headI (a0 a1 : Int) (h : headB a0 a1 = true) : headI (sealI (headP a0 a1)) = (a0, a1, 0) := by
  obtain ⟨f0, f1⟩ := head_fields a0 a1 h
  unfold headI
  rw [if_pos ⟨sealI_length _ (headP_length _ _), by rw [f0, f1]; exact h, by rw [f0, f1]⟩, f0, f1]
theorem rin_eq (a lo hi : Int) : drydockref08_in.f a lo hi = some (inB a lo hi) := by
  unfold drydockref08_in.f inB
  by_cases h : a ≥ lo
  · rw [if_pos h, decide_eq_true (show lo ≤ a from h), Bool.true_and]
  · rw [if_neg h, decide_eq_false (show ¬ lo ≤ a from h), Bool.false_and]
def refH (a0 a1 : Int) : List Int := [72, 69, 65, 68] ++ leB a0 4 ++ leB a1 4
theorem refH_pad (a0 a1 : Int) (h0 : 0 ≤ a0) (h1 : a0 < 256) : pad60 (refH a0 a1) = (headP a0 a1).take 60 := by
  unfold refH
  rw [le_four h0 h1, headP_eq]
  rfl
theorem refH_bytes (a0 a1 : Int) : Bytes (refH a0 a1) := by
  refine bytes_append (bytes_append ?_ (leB_bytes _ _)) (leB_bytes _ _)
  intro x hx; simp only [List.mem_cons, List.not_mem_nil, or_false] at hx; omega
theorem refHSeal_eq (a0 a1 : Int) (h0 : 0 ≤ a0) (h1 : a0 < 256) : sealAF (refH a0 a1) = some (sealI (headP a0 a1)) := by
  rw [sealA_any (refH_bytes _ _) (by unfold refH; simp [leB_length]), refH_pad _ _ h0 h1]
  rfl
theorem refHJ_yes (k : Nat) (a0 a1 : Int) (h : headB a0 a1 = true) : drydockref08_PutHead.j0 (k + 6) false a0 a1 = some (sealI (headP a0 a1), 0) := by
  simp only [headB, inB, Bool.and_eq_true, decide_eq_true_eq] at h
  have hs := refHSeal_eq a0 a1 (by omega) (by omega)
  have hb : bytesOf (⟨#[72, 69, 65, 68]⟩ : ByteArray) = [72, 69, 65, 68] := rfl
  rw [show k + 6 = (k + 5) + 1 from rfl, drydockref08_PutHead.j0, if_neg (by decide)]
  simp only [Option.bind_some, List.length_nil, List.nil_append, hb]
  rw [if_pos (by decide)]
  have p0 := put_eq (k + 5) [72, 69, 65, 68] a0 4 (by omega) (by omega) (by omega) (by omega) (by simp)
  have p1 := put_eq (k + 5) ([72, 69, 65, 68] ++ leB a0 4) a1 4 (by omega) (by omega) (by omega) (by omega) (by simp [leB_length])
  rw [show ((4 : Nat) : Int) = 4 from rfl] at p0 p1
  rw [p0, Option.bind_some, p1, Option.bind_some]
  show (sealAF (refH a0 a1)).bind _ = _
  rw [hs]
  rfl
theorem refHJ_no (k : Nat) (a0 a1 : Int) : drydockref08_PutHead.j0 (k + 6) true a0 a1 = some ([], 2) := by
  rw [show k + 6 = (k + 5) + 1 from rfl, drydockref08_PutHead.j0, if_pos rfl]
theorem refHead_eq (k : Nat) (a0 a1 : Int) : drydockref08_PutHead.f (k + 6) a0 a1 = headF a0 a1 := by
  rw [headF_eq]
  unfold drydockref08_PutHead.f
  have hy := refHJ_yes k a0 a1
  have hn := refHJ_no k a0 a1
  simp only [rin_eq, Option.bind_some]
  unfold headB at hy ⊢
  cases b0 : inB a0 0 39 <;> cases b1 : inB a1 1 1073741824 <;> simp only [b0, b1, Bool.and_true, Bool.and_false, Bool.true_and, Bool.false_and, Bool.not_true, Bool.not_false, if_true, if_false, Bool.false_eq_true, hn, reduceIte] at hy ⊢
  exact hy trivial

theorem refGetHead_eq {l : List Int} (hl : Bytes l) (k : Nat) : drydockref08_GetHead.f (k + 6) l = some (headI l) := by
  unfold drydockref08_GetHead.f headI
  by_cases h64 : l.length = 64
  · have n8 : drydockref04_Num.f (k + 6) l 8 4 = some (numI l 8 4) := refNum4 hl (k + 1) 8 (by omega) (by omega)
    have m4 : numI l 4 1 = rd l 4 := num1 l 4 (by omega)
    have b4 : 0 ≤ rd l 4 ∧ rd l 4 < 256 := rd_byte hl 4 (by omega)
    have w4 : wrap64 (rd l 4) = numI l 4 1 := by rw [m4]; exact Go.Proofs.Ytcihfmehbmficaa.Page.wsmall b4.1 (Int.lt_trans b4.2 (by decide))
    rw [if_pos (by omega), if_pos (by omega), n8, Option.bind_some, w4, refHead_eq, headF_eq, Option.bind_some]
    by_cases hB : headB (numI l 4 1) (numI l 8 4) = true
    · rw [if_pos hB, if_pos rfl]
      by_cases e : sealI (headP (numI l 4 1) (numI l 8 4)) = l
      · rw [if_pos ((strOf_inj (sealI_bytes (headP_bytes _ _)) hl).2 e), if_pos (show okH l from ⟨h64, hB, e⟩)]
      · rw [if_neg (fun g => e ((strOf_inj (sealI_bytes (headP_bytes _ _)) hl).1 g)), if_neg (fun g : okH l => e g.2.2)]
    · rw [if_neg hB, if_neg (by decide), if_neg (fun g : okH l => hB g.2.1)]
  · rw [if_neg (by omega), if_neg (fun g : okH l => h64 g.1)]

end Go.Proofs.Ytcihfmehbmficaa.Pure
