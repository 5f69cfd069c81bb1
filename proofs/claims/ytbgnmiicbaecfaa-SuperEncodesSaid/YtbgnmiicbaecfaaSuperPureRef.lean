/- The reference's Encode and PutHead. -/
import Derived.Test.YtbgnmiicbaecfaaPAllx2
import Derived.Test.YtbgnmiicbaecfaaPAllx3
import Derived.Test.YtbgnmiicbaecfaaSuperPure
namespace Go.Proofs.Ytbgnmiicbaecfaa.Pure
open Go Go.RowKit Go.Proofs.Ytbgnmiicbaecfaa.PAll Go.Proofs.YtbgnmiicbaecfaaW.PrintWords Go.Proofs.Ytbgnmiicbaecfaa.Spin Go.Proofs.Ytbgnmiicbaecfaa.Field Go.Proofs.Ytbgnmiicbaecfaa.Ref Go.Proofs.Ytbgnmiicbaecfaa.Super
set_option linter.unusedVariables false
set_option linter.unusedSimpArgs false

theorem put_step (k : Nat) (x : List Int) (n : Int) (m j : Nat) (h : j < m) (hm : m ≤ 4) (h0 : 0 ≤ n) (h1 : n < 4294967296) (hx : x.length < 140737488355328) :
    drydockref04_Put.l0 (k + 1) x n m j = drydockref04_Put.l0 k (x ++ [n / 2 ^ (8 * j) % 256]) n m ((j + 1 : Nat) : Int) := by
  have e : IntKind.u64.wrap n = n := by simp [IntKind.wrap, IntKind.signed, IntKind.bits]; omega
  rw [drydockref04_Put.l0, if_pos (by omega), e]
  have hj : j = 0 ∨ j = 1 ∨ j = 2 ∨ j = 3 := by omega
  have key : wrap64 ((j : Int) + 1) = ((j + 1 : Nat) : Int) ∧ min (IntKind.u64.wrap (8 * IntKind.u64.wrap (j : Int))).toNat IntKind.u64.bits = 8 * j ∧ 0 ≤ IntKind.u64.wrap (8 * IntKind.u64.wrap (j : Int)) := by
    rcases hj with rfl | rfl | rfl | rfl <;> exact ⟨by unfold wrap64; omega, by first | decide | decide +kernel, by first | decide | decide +kernel⟩
  obtain ⟨k1, k2, k3⟩ := key
  rw [if_pos k3, if_pos hx, k1]
  unfold shr
  rw [k2]

theorem put_from (n : Int) (m : Nat) (hm : m ≤ 4) (h0 : 0 ≤ n) (h1 : n < 4294967296) (l : List Int) (hx : l.length < 140737488355000) :
    ∀ d j k : Nat, d + j = m → d < k → drydockref04_Put.l0 k (l ++ leB n j) n m j = some (l ++ leB n m)
  | 0, j, k + 1, hj, _ => by
    obtain rfl : j = m := by omega
    rw [drydockref04_Put.l0, if_neg (by omega)]
  | d + 1, j, k + 1, hj, hk => by
    rw [put_step k _ n m j (by omega) hm h0 h1 (by rw [List.length_append, leB_length]; omega), List.append_assoc]
    exact put_from n m hm h0 h1 l hx d (j + 1) k (by omega) (by omega)
theorem put_eq (k : Nat) (l : List Int) (n : Int) (m : Nat) (hm : m ≤ 4) (hk : m < k) (h0 : 0 ≤ n) (h1 : n < 4294967296) (hx : l.length < 140737488355000) : drydockref04_Put.f k l n m = some (l ++ leB n m) := by
  have h := put_from n m hm h0 h1 l hx m 0 k (by omega) hk
  rw [leB, List.append_nil] at h
  exact h

theorem pad60_bytes {l : List Int} (h : Bytes l) : Bytes (pad60 l) := bytes_take (bytes_append h (bytes_replicate _)) _
theorem sealA_any {l : List Int} (hb : Bytes l) (hl : l.length ≤ 60) : sealAF l = some (pad60 l ++ leB (sumI (pad60 l)) 4) := by
  unfold sealAF
  rw [if_pos (by omega), sum_I (pad60_bytes hb) (by rw [pad60_length]; omega)]
  rfl
theorem le_two {n : Int} (h0 : 0 ≤ n) (h1 : n < 256) : leB n 2 = leB n 1 ++ [0] := by
  have e : n / 2 ^ (8 * 1) % 256 = 0 := by
    rw [show (2 : Int) ^ (8 * 1) = 256 from by decide]; omega
  show leB n 1 ++ [n / 2 ^ (8 * 1) % 256] = _
  rw [e]
/-- The reference's list, ahead of its seal. -/
def refP (a0 a1 a2 a3 a4 : Int) : List Int := [68, 82, 89, 68] ++ leB a0 2 ++ leB a1 1 ++ leB a2 1 ++ leB a3 2 ++ leB a4 2
theorem refP_pad (a0 a1 a2 a3 a4 : Int) (h0 : 0 ≤ a3) (h1 : a3 < 256) : pad60 (refP a0 a1 a2 a3 a4) = (encodeP a0 a1 a2 a3 a4).take 60 := by
  unfold refP
  rw [le_two h0 h1, encodeP_eq]
  rfl

theorem rin_eq (a lo hi : Int) : drydockref08_in.f a lo hi = some (inB a lo hi) := by
  unfold drydockref08_in.f inB
  by_cases h : a ≥ lo
  · rw [if_pos h, decide_eq_true (show lo ≤ a from h), Bool.true_and]
  · rw [if_neg h, decide_eq_false (show ¬ lo ≤ a from h), Bool.false_and]
theorem refP_bytes (a0 a1 a2 a3 a4 : Int) : Bytes (refP a0 a1 a2 a3 a4) := by
  refine bytes_append (bytes_append (bytes_append (bytes_append (bytes_append ?_ (leB_bytes _ _)) (leB_bytes _ _)) (leB_bytes _ _)) (leB_bytes _ _)) (leB_bytes _ _)
  intro x hx; simp only [List.mem_cons, List.not_mem_nil, or_false] at hx; omega
theorem refSeal_eq (a0 a1 a2 a3 a4 : Int) (h0 : 0 ≤ a3) (h1 : a3 < 256) : sealAF (refP a0 a1 a2 a3 a4) = some (sealI (encodeP a0 a1 a2 a3 a4)) := by
  rw [sealA_any (refP_bytes _ _ _ _ _) (by unfold refP; simp [leB_length]), refP_pad _ _ _ _ _ h0 h1]
  rfl
theorem refJ_yes (k : Nat) (a0 a1 a2 a3 a4 : Int) (h : superB a0 a1 a2 a3 a4 = true) : drydockref08_Encode.j0 (k + 6) false a0 a1 a2 a3 a4 = some (sealI (encodeP a0 a1 a2 a3 a4), 0) := by
  simp only [superB, inB, Bool.and_eq_true, decide_eq_true_eq] at h
  have hs := refSeal_eq a0 a1 a2 a3 a4 (by omega) (by omega)
  have hb : bytesOf (⟨#[68, 82, 89, 68]⟩ : ByteArray) = [68, 82, 89, 68] := rfl
  rw [show k + 6 = (k + 5) + 1 from rfl, drydockref08_Encode.j0, if_neg (by decide)]
  simp only [Option.bind_some, List.length_nil, List.nil_append, hb]
  rw [if_pos (by decide)]
  have p0 := put_eq (k + 5) [68, 82, 89, 68] a0 2 (by omega) (by omega) (by omega) (by omega) (by simp)
  have p1 := put_eq (k + 5) ([68, 82, 89, 68] ++ leB a0 2) a1 1 (by omega) (by omega) (by omega) (by omega) (by simp [leB_length])
  have p2 := put_eq (k + 5) ([68, 82, 89, 68] ++ leB a0 2 ++ leB a1 1) a2 1 (by omega) (by omega) (by omega) (by omega) (by simp [leB_length])
  have p3 := put_eq (k + 5) ([68, 82, 89, 68] ++ leB a0 2 ++ leB a1 1 ++ leB a2 1) a3 2 (by omega) (by omega) (by omega) (by omega) (by simp [leB_length])
  have p4 := put_eq (k + 5) ([68, 82, 89, 68] ++ leB a0 2 ++ leB a1 1 ++ leB a2 1 ++ leB a3 2) a4 2 (by omega) (by omega) (by omega) (by omega) (by simp [leB_length])
  rw [show ((2 : Nat) : Int) = 2 from rfl] at p0 p3 p4
  rw [show ((1 : Nat) : Int) = 1 from rfl] at p1 p2
  rw [p0, Option.bind_some, p1, Option.bind_some, p2, Option.bind_some, p3, Option.bind_some, p4, Option.bind_some]
  show (sealAF (refP a0 a1 a2 a3 a4)).bind _ = _
  rw [hs]
  rfl

theorem refJ_no (k : Nat) (a0 a1 a2 a3 a4 : Int) : drydockref08_Encode.j0 (k + 6) true a0 a1 a2 a3 a4 = some ([], 2) := by
  rw [show k + 6 = (k + 5) + 1 from rfl, drydockref08_Encode.j0, if_pos rfl]
theorem refEncode_eq (k : Nat) (a0 a1 a2 a3 a4 : Int) : drydockref08_Encode.f (k + 6) a0 a1 a2 a3 a4 = encodeF a0 a1 a2 a3 a4 := by
  rw [encodeF_eq]
  unfold drydockref08_Encode.f
  have hy := refJ_yes k a0 a1 a2 a3 a4
  have hn := refJ_no k a0 a1 a2 a3 a4
  simp only [rin_eq, Option.bind_some]
  unfold superB at hy ⊢
  cases b0 : inB a0 64 480 <;> cases b1 : inB a1 1 3 <;> cases b2 : inB a2 0 3 <;> cases b3 : inB a3 0 32 <;> cases b4 : inB a4 0 480 <;> simp only [b0, b1, b2, b3, b4, Bool.and_true, Bool.and_false, Bool.true_and, Bool.false_and, Bool.not_true, Bool.not_false, if_true, if_false, Bool.false_eq_true, hn, reduceIte] at hy ⊢
  exact hy trivial

theorem le_four {n : Int} (h0 : 0 ≤ n) (h1 : n < 256) : leB n 4 = leB n 1 ++ List.replicate 3 0 := by
  have e1 : n / 2 ^ (8 * 1) % 256 = 0 := by rw [show (2 : Int) ^ (8 * 1) = 256 from by decide]; omega
  have e2 : n / 2 ^ (8 * 2) % 256 = 0 := by rw [show (2 : Int) ^ (8 * 2) = 65536 from by decide]; omega
  have e3 : n / 2 ^ (8 * 3) % 256 = 0 := by rw [show (2 : Int) ^ (8 * 3) = 16777216 from by decide]; omega
  show leB n 1 ++ [n / 2 ^ (8 * 1) % 256] ++ [n / 2 ^ (8 * 2) % 256] ++ [n / 2 ^ (8 * 3) % 256] = _
  rw [e1, e2, e3]
  rfl
def refH (a0 a1 : Int) : List Int := [72, 69, 65, 68] ++ leB a0 4 ++ leB a1 4
theorem refH_pad (a0 a1 : Int) (h0 : 0 ≤ a0) (h1 : a0 < 256) : pad60 (refH a0 a1) = (headP a0 a1).take 60 := by
  unfold refH
  rw [le_four h0 h1, headP_eq]
  rfl
theorem refH_bytes (a0 a1 : Int) : Bytes (refH a0 a1) := by
  refine bytes_append (bytes_append ?_ (leB_bytes _ _)) (leB_bytes _ _)
  intro x hx; simp only [List.mem_cons, List.not_mem_nil, or_false] at hx; omega
theorem refHSeal_eq (a0 a1 : Int) (h0 : 0 ≤ a0) (h1 : a0 < 256) : sealAF (refH a0 a1) = some (sealI (headP a0 a1)) := by
  rw [sealA_any (refH_bytes _ _) (by unfold refH; simp [leB_length]), refH_pad _ _ h0 h1]
  rfl
theorem refHJ_yes (k : Nat) (a0 a1 : Int) (h : headB a0 a1 = true) : drydockref08_PutHead.j0 (k + 6) false a0 a1 = some (sealI (headP a0 a1), 0) := by
  simp only [headB, inB, Bool.and_eq_true, decide_eq_true_eq] at h
  have hs := refHSeal_eq a0 a1 (by omega) (by omega)
  have hb : bytesOf (⟨#[72, 69, 65, 68]⟩ : ByteArray) = [72, 69, 65, 68] := rfl
  rw [show k + 6 = (k + 5) + 1 from rfl, drydockref08_PutHead.j0, if_neg (by decide)]
  simp only [Option.bind_some, List.length_nil, List.nil_append, hb]
  rw [if_pos (by decide)]
  have p0 := put_eq (k + 5) [72, 69, 65, 68] a0 4 (by omega) (by omega) (by omega) (by omega) (by simp)
  have p1 := put_eq (k + 5) ([72, 69, 65, 68] ++ leB a0 4) a1 4 (by omega) (by omega) (by omega) (by omega) (by simp [leB_length])
  rw [show ((4 : Nat) : Int) = 4 from rfl] at p0 p1
  rw [p0, Option.bind_some, p1, Option.bind_some]
  show (sealAF (refH a0 a1)).bind _ = _
  rw [hs]
  rfl
theorem refHJ_no (k : Nat) (a0 a1 : Int) : drydockref08_PutHead.j0 (k + 6) true a0 a1 = some ([], 2) := by
  rw [show k + 6 = (k + 5) + 1 from rfl, drydockref08_PutHead.j0, if_pos rfl]
theorem refHead_eq (k : Nat) (a0 a1 : Int) : drydockref08_PutHead.f (k + 6) a0 a1 = headF a0 a1 := by
  rw [headF_eq]
  unfold drydockref08_PutHead.f
  have hy := refHJ_yes k a0 a1
  have hn := refHJ_no k a0 a1
  simp only [rin_eq, Option.bind_some]
  unfold headB at hy ⊢
  cases b0 : inB a0 0 39 <;> cases b1 : inB a1 1 1073741824 <;> simp only [b0, b1, Bool.and_true, Bool.and_false, Bool.true_and, Bool.false_and, Bool.not_true, Bool.not_false, if_true, if_false, Bool.false_eq_true, hn, reduceIte] at hy ⊢
  exact hy trivial

end Go.Proofs.Ytbgnmiicbaecfaa.Pure
