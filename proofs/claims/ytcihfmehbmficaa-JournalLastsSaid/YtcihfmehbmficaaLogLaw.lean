/- Plain laws of a log's blocks. -/
import Derived.Test.YtcihfmehbmficaaLog
import Derived.Test.YtcihfmehbmficaaBase
namespace Go.Proofs.Ytcihfmehbmficaa.Log
open Go Go.RowKit Go.Proofs.YtcihfmehbmficaaW.PrintWords Go.Proofs.Ytcihfmehbmficaa.Spin Go.Proofs.Ytcihfmehbmficaa.Ref Go.Proofs.Ytcihfmehbmficaa.Field Go.Proofs.Ytcihfmehbmficaa.Page Go.Proofs.Ytcihfmehbmficaa.Text
set_option linter.unusedVariables false

theorem endP_eq (a0 a1 : Int) : endP a0 a1 = [68, 79, 78, 69] ++ leB a0 4 ++ leB a1 1 ++ List.replicate 55 0 := by rfl
theorem endP_length (a0 a1 : Int) : (endP a0 a1).length = 64 := by rfl
theorem endP_bytes (a0 a1 : Int) : Bytes (endP a0 a1) := by
  rw [endP_eq]
  refine bytes_append (bytes_append (bytes_append ?_ (leB_bytes _ _)) (leB_bytes _ _)) (bytes_replicate _)
  intro x hx; simp only [List.mem_cons, List.not_mem_nil, or_false] at hx; omega
theorem endF_eq (a0 a1 : Int) : endF a0 a1 = some (if endB a0 a1 = true then (sealI (endP a0 a1), 0) else ([], 2)) := by
  unfold endF
  split
  · exact seal_eq (endP_bytes _ _) (endP_length _ _)
  · rfl
/-- Numbers, each of two bytes. -/
def flat (xs : List Int) : List Int := xs.flatMap (fun x => leB x 2)
theorem flat_length (xs : List Int) : (flat xs).length = 2 * xs.length := by
  induction xs with
  | nil => rfl
  | cons x xs ih =>
    show (leB x 2 ++ flat xs).length = _
    rw [List.length_append, leB_length, ih, List.length_cons]; omega
theorem flat_append (a b : List Int) : flat (a ++ b) = flat a ++ flat b := List.flatMap_append
theorem flat_bytes (xs : List Int) : Bytes (flat xs) := by
  induction xs with
  | nil => intro x hx; nomatch hx
  | cons x xs ih => exact bytes_append (leB_bytes x 2) ih
theorem setsK_two (l : List Int) (o : Nat) (xs : List Int) : ∀ k, k ≤ xs.length → o + 2 * k ≤ l.length → setsK l o 2 xs k = l.take o ++ flat (xs.take k) ++ l.drop (o + 2 * k)
  | 0, _, _ => by
    show l = l.take o ++ [] ++ l.drop (o + 0)
    rw [List.append_nil, Nat.add_zero, List.take_append_drop]
  | k + 1, hk, ho => by
    have hlen : (l.take o ++ flat (xs.take k)).length = o + 2 * k := by
      rw [List.length_append, flat_length, List.length_take, List.length_take]; omega
    rw [setsK, setsK_two l o xs k (by omega) (by omega), show o + k * 2 = o + 2 * k by omega, putL_eq _ _ _ _ (by rw [List.length_append, hlen, List.length_drop]; omega)]
    rw [List.take_left' hlen]
    have hd : (l.take o ++ flat (xs.take k) ++ l.drop (o + 2 * k)).drop (o + 2 * k + 2) = l.drop (o + 2 * (k + 1)) := by
      rw [← hlen, List.drop_append, List.drop_of_length_le (by omega), List.nil_append, List.drop_drop, hlen]
      congr 1
      omega
    rw [hd, List.take_succ_eq_append_getElem (show k < xs.length by omega), flat_append]
    have : xs.getD k 0 = xs[k] := by rw [List.getD_eq_getElem?_getD, List.getElem?_eq_getElem (show k < xs.length by omega)]; rfl
    rw [this]
    show l.take o ++ flat (xs.take k) ++ leB xs[k] 2 ++ _ = l.take o ++ (flat (xs.take k) ++ (leB xs[k] 2 ++ [])) ++ _
    rw [List.append_nil, List.append_assoc (l.take o)]
theorem beginP_eq (a0 : Int) (l : List Int) (h : l.length ≤ 20) : beginP a0 l = [66, 69, 71, 78] ++ leB a0 4 ++ leB (l.length : Int) 1 ++ [0] ++ flat l ++ List.replicate (54 - 2 * l.length) 0 := by
  have e : setsL (setsL (textL (List.replicate 64 0) 0 ⟨#[66, 69, 71, 78]⟩) 4 4 [a0]) 8 1 [(l.length : Int)] = [66, 69, 71, 78] ++ leB a0 4 ++ leB (l.length : Int) 1 ++ List.replicate 55 0 := by rfl
  unfold beginP
  rw [e]
  unfold setsL
  rw [setsK_two _ 10 l l.length (Nat.le_refl _) (by simp [leB_length]; omega), List.take_of_length_le (Nat.le_refl l.length)]
  have hh : ([66, 69, 71, 78] ++ leB a0 4 ++ leB (l.length : Int) 1).length = 9 := by simp [leB_length]
  have h1 : ([66, 69, 71, 78] ++ leB a0 4 ++ leB (l.length : Int) 1 ++ List.replicate 55 0).take 10 = [66, 69, 71, 78] ++ leB a0 4 ++ leB (l.length : Int) 1 ++ [0] := by
    rw [List.take_append, hh, List.take_of_length_le (by rw [hh]; omega)]; rfl
  have h2 : ([66, 69, 71, 78] ++ leB a0 4 ++ leB (l.length : Int) 1 ++ List.replicate 55 0).drop (10 + 2 * l.length) = List.replicate (54 - 2 * l.length) 0 := by
    rw [List.drop_append, hh, List.drop_of_length_le (by rw [hh]; omega), List.nil_append, List.drop_replicate]
    congr 1
    omega
  rw [h1, h2]
theorem beginP_length (a0 : Int) (l : List Int) : (beginP a0 l).length = 64 := by
  unfold beginP
  rw [setsL_length, setsL_length, setsL_length, setsL64 _ (by decide)]
theorem beginP_bytes (a0 : Int) (l : List Int) (h : l.length ≤ 20) : Bytes (beginP a0 l) := by
  rw [beginP_eq a0 l h]
  refine bytes_append (bytes_append (bytes_append (bytes_append (bytes_append ?_ (leB_bytes _ _)) (leB_bytes _ _)) ?_) (flat_bytes _)) (bytes_replicate _)
  · intro x hx; simp only [List.mem_cons, List.not_mem_nil, or_false] at hx; omega
  · intro x hx; simp only [List.mem_cons, List.not_mem_nil, or_false] at hx; omega
/-- May a block be written? -/
def homeB (n : Int) : Bool := decide (0 ≤ n) && decide (n < 480) && !decide (n = 1) && (decide (n < 19) || decide (59 ≤ n))
/-- Numbers of blocks that may be written, each once; those ahead are done. -/
def sndFrom : List Int → List Int → Bool
  | _, [] => true
  | pre, x :: r => homeB x && !pre.contains x && sndFrom (pre ++ [x]) r
def sndB (a0 : Int) (l : List Int) : Bool := sndFrom [] l && decide (1 ≤ a0) && decide (a0 ≤ 1073741824) && decide (1 ≤ l.length) && decide (l.length ≤ 20)
theorem sndFrom_home {l : List Int} : ∀ {pre : List Int}, sndFrom pre l = true → ∀ x ∈ l, 0 ≤ x ∧ x < 480 := by
  induction l with
  | nil => intro pre _ x h; nomatch h
  | cons y r ih =>
    intro pre h x hx
    simp only [sndFrom, Bool.and_eq_true] at h
    rcases List.mem_cons.1 hx with rfl | hx
    · have := h.1.1
      simp only [homeB, Bool.and_eq_true, decide_eq_true_eq] at this
      omega
    · exact ih h.2 x hx
theorem sndB_facts {a0 : Int} {l : List Int} (h : sndB a0 l = true) : sndFrom [] l = true ∧ 1 ≤ a0 ∧ a0 ≤ 1073741824 ∧ 1 ≤ l.length ∧ l.length ≤ 20 := by
  simp only [sndB, Bool.and_eq_true, decide_eq_true_eq] at h
  exact ⟨h.1.1.1.1, h.1.1.1.2, h.1.1.2, h.1.2, h.2⟩
/-- What Begin gives. -/
def beginI (a0 : Int) (l : List Int) : List Int × Int := if sndB a0 l = true then (sealI (beginP a0 l), 0) else ([], 2)
def endI (a0 a1 : Int) : List Int × Int := if endB a0 a1 = true then (sealI (endP a0 a1), 0) else ([], 2)
end Go.Proofs.Ytcihfmehbmficaa.Log
