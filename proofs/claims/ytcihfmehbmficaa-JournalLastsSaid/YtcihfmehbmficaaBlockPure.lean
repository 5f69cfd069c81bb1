/- What the printed functions of numbers in a block come to. -/
import Derived.Test.YtcihfmehbmficaaPAllx1
import Derived.Test.YtcihfmehbmficaaPAllx1
import Derived.Test.YtcihfmehbmficaaBase
namespace Go.Proofs.Ytcihfmehbmficaa.Pure
open Go Go.RowKit Go.Proofs.Ytcihfmehbmficaa.PAll Go.Proofs.YtcihfmehbmficaaW.PrintWords Go.Proofs.Ytcihfmehbmficaa.Spin Go.Proofs.Ytcihfmehbmficaa.Field Go.Proofs.Ytcihfmehbmficaa.Ref
set_option linter.unusedVariables false
set_option linter.unusedSimpArgs false

theorem seg (l : List Int) (o : Nat) : ∀ m, o + m ≤ l.length → (l.take (o + m)).drop o = (List.range m).map (fun i => rd l ((o + i : Nat) : Int))
  | 0, _ => by simp
  | m + 1, h => by
    have hlt : o + m < l.length := by omega
    rw [show o + (m + 1) = o + m + 1 from rfl, List.take_succ_eq_append_getElem hlt, List.drop_append_of_le_length (by rw [List.length_take]; omega), seg l o m (by omega), List.range_succ, List.map_append]
    have e : rd l ((o + m : Nat) : Int) = l[o + m] := by
      show l.getD ((o + m : Nat) : Int).toNat 0 = _
      rw [Int.toNat_natCast, List.getD_eq_getElem?_getD, List.getElem?_eq_getElem hlt]
      rfl
    rw [List.map_cons, List.map_nil, e]
/-- The number of m bytes at place o. -/
def numI (l : List Int) (o m : Nat) : Int := getI ((l.take (o + m)).drop o)
theorem num1 (l : List Int) (o : Nat) (h : o + 1 ≤ l.length) : numI l o 1 = rd l (o : Int) := by
  unfold numI
  rw [seg l o 1 h]
  simp [getI, List.range_succ]
theorem num2 (l : List Int) (o : Nat) (h : o + 2 ≤ l.length) : numI l o 2 = rd l (o : Int) + 256 * rd l ((o + 1 : Nat) : Int) := by
  unfold numI
  rw [seg l o 2 h]
  simp [getI, List.range_succ]
theorem num4 (l : List Int) (o : Nat) (h : o + 4 ≤ l.length) : numI l o 4 = rd l (o : Int) + 256 * (rd l ((o + 1 : Nat) : Int) + 256 * (rd l ((o + 2 : Nat) : Int) + 256 * rd l ((o + 3 : Nat) : Int))) := by
  unfold numI
  rw [seg l o 4 h]
  simp [getI, List.range_succ]
theorem Num_eq {l : List Int} (hl : Bytes l) (o m : Nat) (hm : m ≤ 4) (h : o + m ≤ l.length) (hn : l.length ≤ 64) : field_Num.f l o m = some (numI l o m) := by
  have e : wrap64 ((o : Int) + (m : Int)) = ((o + m : Nat) : Int) := by unfold wrap64; omega
  unfold field_Num.f
  rw [e, if_pos (by omega), if_pos (by omega), if_pos (by omega), Int.toNat_natCast, Int.toNat_natCast]
  unfold field_get.f
  rw [get_eq (bytes_drop (bytes_take hl _) _) (by rw [List.length_drop, List.length_take]; omega)]
  rfl
theorem rd_byte {l : List Int} (hl : Bytes l) (i : Nat) (h : i < l.length) : 0 ≤ rd l (i : Int) ∧ rd l (i : Int) < 256 := by
  have e : rd l (i : Int) = l[i] := by
    show l.getD (i : Int).toNat 0 = _
    rw [Int.toNat_natCast, List.getD_eq_getElem?_getD, List.getElem?_eq_getElem h]
    rfl
  rw [e]
  exact hl _ (List.getElem_mem h)
theorem Equal_eq {l m : List Int} (hl : Bytes l) (hm : Bytes m) : bytes_Equal.f l m = some (decide (l = m)) := by
  unfold bytes_Equal.f
  congr 1
  by_cases h : l = m
  · rw [decide_eq_true h, h]
    exact beq_self_eq_true _
  · rw [decide_eq_false h]
    exact beq_eq_false_iff_ne.2 (fun e => h ((strOf_inj hl hm).1 e))
theorem numI_seal (l : List Int) (h : l.length = 64) (o m : Nat) (ho : o + m ≤ 60) : numI (sealI l) o m = numI l o m := by
  unfold numI
  have e : (sealI l).take (o + m) = l.take (o + m) := by
    have := sealI_take l h
    rw [← Nat.min_eq_left ho, ← List.take_take, this, List.take_take]
  rw [e]
theorem le_back {n : Int} {m : Nat} (hm : m ≤ 4) (h0 : 0 ≤ n) (h1 : n < 256 ^ m) : getI (leB n m) = n := by
  rw [getI_le n h0 m hm, Int.emod_eq_of_lt h0 h1]
end Go.Proofs.Ytcihfmehbmficaa.Pure
