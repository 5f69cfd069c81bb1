/- What the reference's printed functions of numbers in a block come to. -/
import Derived.Test.YtcihfmehbmficaaPAllx6
import Derived.Test.YtcihfmehbmficaaPAllx7
import Derived.Test.YtcihfmehbmficaaBlockPure
namespace Go.Proofs.Ytcihfmehbmficaa.Pure
open Go Go.RowKit Go.Proofs.Ytcihfmehbmficaa.PAll Go.Proofs.YtcihfmehbmficaaW.PrintWords Go.Proofs.Ytcihfmehbmficaa.Spin Go.Proofs.Ytcihfmehbmficaa.Field Go.Proofs.Ytcihfmehbmficaa.Ref
set_option linter.unusedVariables false
set_option linter.unusedSimpArgs false

theorem put_step (k : Nat) (x : List Int) (n : Int) (m j : Nat) (h : j < m) (hm : m ≤ 4) (h0 : 0 ≤ n) (h1 : n < 4294967296) (hx : x.length < 140737488355328) :
    drydockref04_Put.l0 (k + 1) x n m j = drydockref04_Put.l0 k (x ++ [n / 2 ^ (8 * j) % 256]) n m ((j + 1 : Nat) : Int) := by
  have e : IntKind.u64.wrap n = n := by simp [IntKind.wrap, IntKind.signed, IntKind.bits]; omega
  rw [drydockref04_Put.l0, if_pos (by omega), e]
  have hj : j = 0 ∨ j = 1 ∨ j = 2 ∨ j = 3 := by omega
  have key : wrap64 ((j : Int) + 1) = ((j + 1 : Nat) : Int) ∧ min (IntKind.u64.wrap (8 * IntKind.u64.wrap (j : Int))).toNat IntKind.u64.bits = 8 * j ∧ 0 ≤ IntKind.u64.wrap (8 * IntKind.u64.wrap (j : Int)) := by
    rcases hj with rfl | rfl | rfl | rfl <;> exact ⟨by unfold wrap64; omega, by first | decide | decide +kernel, by first | decide | decide +kernel⟩
  obtain ⟨k1, k2, k3⟩ := key
  rw [if_pos k3, if_pos hx, k1]
  unfold shr
  rw [k2]
theorem put_from (n : Int) (m : Nat) (hm : m ≤ 4) (h0 : 0 ≤ n) (h1 : n < 4294967296) (l : List Int) (hx : l.length < 140737488355000) :
    ∀ d j k : Nat, d + j = m → d < k → drydockref04_Put.l0 k (l ++ leB n j) n m j = some (l ++ leB n m)
  | 0, j, k + 1, hj, _ => by
    obtain rfl : j = m := by omega
    rw [drydockref04_Put.l0, if_neg (by omega)]
  | d + 1, j, k + 1, hj, hk => by
    rw [put_step k _ n m j (by omega) hm h0 h1 (by rw [List.length_append, leB_length]; omega), List.append_assoc]
    exact put_from n m hm h0 h1 l hx d (j + 1) k (by omega) (by omega)
theorem put_eq (k : Nat) (l : List Int) (n : Int) (m : Nat) (hm : m ≤ 4) (hk : m < k) (h0 : 0 ≤ n) (h1 : n < 4294967296) (hx : l.length < 140737488355000) : drydockref04_Put.f k l n m = some (l ++ leB n m) := by
  have h := put_from n m hm h0 h1 l hx m 0 k (by omega) hk
  rw [leB, List.append_nil] at h
  exact h
theorem pad60_bytes {l : List Int} (h : Bytes l) : Bytes (pad60 l) := bytes_take (bytes_append h (bytes_replicate _)) _
theorem sealA_any {l : List Int} (hb : Bytes l) (hl : l.length ≤ 60) : sealAF l = some (pad60 l ++ leB (sumI (pad60 l)) 4) := by
  unfold sealAF
  rw [if_pos (by omega), sum_I (pad60_bytes hb) (by rw [pad60_length]; omega)]
  rfl
theorem le_two {n : Int} (h0 : 0 ≤ n) (h1 : n < 256) : leB n 2 = leB n 1 ++ [0] := by
  have e : n / 2 ^ (8 * 1) % 256 = 0 := by
    rw [show (2 : Int) ^ (8 * 1) = 256 from by decide]; omega
  show leB n 1 ++ [n / 2 ^ (8 * 1) % 256] = _
  rw [e]
theorem le_four {n : Int} (h0 : 0 ≤ n) (h1 : n < 256) : leB n 4 = leB n 1 ++ List.replicate 3 0 := by
  have e1 : n / 2 ^ (8 * 1) % 256 = 0 := by rw [show (2 : Int) ^ (8 * 1) = 256 from by decide]; omega
  have e2 : n / 2 ^ (8 * 2) % 256 = 0 := by rw [show (2 : Int) ^ (8 * 2) = 65536 from by decide]; omega
  have e3 : n / 2 ^ (8 * 3) % 256 = 0 := by rw [show (2 : Int) ^ (8 * 3) = 16777216 from by decide]; omega
  show leB n 1 ++ [n / 2 ^ (8 * 1) % 256] ++ [n / 2 ^ (8 * 2) % 256] ++ [n / 2 ^ (8 * 3) % 256] = _
  rw [e1, e2, e3]
  rfl
theorem refnum_step {l : List Int} (hl : Bytes l) (k o j : Nat) (x : Int) (h : o + j < l.length) (hn : l.length ≤ 64) (hx0 : 0 ≤ x) (hx1 : x < 4294967296) :
    drydockref04_Num.l0 (k + 1) l o x j = drydockref04_Num.l0 k l o (x * 256 + rd l ((o + j : Nat) : Int)) ((j : Int) - 1) := by
  have hb := rd_byte hl (o + j) h
  have e1 : wrap64 ((o : Int) + (j : Int)) = ((o + j : Nat) : Int) := Go.Proofs.Ytcihfmehbmficaa.Page.wsmall (by omega) (by omega)
  rw [drydockref04_Num.l0, if_pos (by omega), e1, if_pos (by omega), if_pos (by omega)]
  generalize rd l ((o + j : Nat) : Int) = y at hb ⊢
  have e2 : wrap64 y = y := Go.Proofs.Ytcihfmehbmficaa.Page.wsmall hb.1 (by omega)
  have e3 : wrap64 (x * 256) = x * 256 := Go.Proofs.Ytcihfmehbmficaa.Page.wsmall (by omega) (by omega)
  rw [e2, e3, Go.Proofs.Ytcihfmehbmficaa.Page.wsmall (n := x * 256 + y) (by omega) (by omega)]
  have e4 : wrap64 ((j : Int) - 1) = (j : Int) - 1 := by clear e1 e2 e3; unfold wrap64; omega
  rw [e4]
theorem refnum_end (k : Nat) (l : List Int) (o : Nat) (x : Int) : drydockref04_Num.l0 (k + 1) l o x (-1) = some x := by
  rw [drydockref04_Num.l0, if_neg (by omega)]
theorem refNum2 {l : List Int} (hl : Bytes l) (k o : Nat) (h : o + 2 ≤ l.length) (hn : l.length ≤ 64) : drydockref04_Num.f (k + 3) l o 2 = some (numI l o 2) := by
  have b1 := rd_byte hl (o + 1) (by omega)
  have b0 := rd_byte hl (o + 0) (by omega)
  have s1 := refnum_step hl (k + 2) o 1 0 (by omega) hn (by omega) (by omega)
  have s0 := refnum_step hl (k + 1) o 0 (0 * 256 + rd l ((o + 1 : Nat) : Int)) (by omega) hn (by omega) (by omega)
  unfold drydockref04_Num.f
  rw [show wrap64 ((2 : Int) - 1) = ((1 : Nat) : Int) from by unfold wrap64; omega]
  rw [s1, show (((1 : Nat) : Int) - 1) = ((0 : Nat) : Int) from rfl, s0, show (((0 : Nat) : Int) - 1) = -1 from rfl, refnum_end, num2 l o h]
  have z : rd l ((o + 0 : Nat) : Int) = rd l (o : Int) := rfl
  rw [z]
  congr 1
  omega
theorem refNum4 {l : List Int} (hl : Bytes l) (k o : Nat) (h : o + 4 ≤ l.length) (hn : l.length ≤ 64) : drydockref04_Num.f (k + 5) l o 4 = some (numI l o 4) := by
  have b3 := rd_byte hl (o + 3) (by omega)
  have b2 := rd_byte hl (o + 2) (by omega)
  have b1 := rd_byte hl (o + 1) (by omega)
  have b0 := rd_byte hl (o + 0) (by omega)
  have s3 := refnum_step hl (k + 4) o 3 0 (by omega) hn (by omega) (by omega)
  have s2 := refnum_step hl (k + 3) o 2 (0 * 256 + rd l ((o + 3 : Nat) : Int)) (by omega) hn (by omega) (by omega)
  have s1 := refnum_step hl (k + 2) o 1 ((0 * 256 + rd l ((o + 3 : Nat) : Int)) * 256 + rd l ((o + 2 : Nat) : Int)) (by omega) hn (by omega) (by omega)
  have s0 := refnum_step hl (k + 1) o 0 (((0 * 256 + rd l ((o + 3 : Nat) : Int)) * 256 + rd l ((o + 2 : Nat) : Int)) * 256 + rd l ((o + 1 : Nat) : Int)) (by omega) hn (by omega) (by omega)
  unfold drydockref04_Num.f
  rw [show wrap64 ((4 : Int) - 1) = ((3 : Nat) : Int) from by unfold wrap64; omega]
  rw [s3, show (((3 : Nat) : Int) - 1) = ((2 : Nat) : Int) from rfl, s2, show (((2 : Nat) : Int) - 1) = ((1 : Nat) : Int) from rfl, s1, show (((1 : Nat) : Int) - 1) = ((0 : Nat) : Int) from rfl, s0, show (((0 : Nat) : Int) - 1) = -1 from rfl, refnum_end, num4 l o h]
  have z : rd l ((o + 0 : Nat) : Int) = rd l (o : Int) := rfl
  rw [z]
  congr 1
  omega
end Go.Proofs.Ytcihfmehbmficaa.Pure
