/- Plain laws of blocks: numbers at places, check sums. -/
import Derived.Test.YtnccbebjligpdaaField
import Derived.Test.YtnccbebjligpdaaRef
import Derived.Test.YtnccbebjligpdaaSpinLaw
namespace Go.Proofs.Ytnccbebjligpdaa.Field
open Go Go.Proofs.YtnccbebjligpdaaW.PrintWords Go.Proofs.Ytnccbebjligpdaa.Spin Go.Proofs.Ytnccbebjligpdaa.Ref
set_option linter.unusedVariables false

theorem byte_range (n : Int) (k : Nat) : 0 ≤ n / 2 ^ (8 * k) % 256 ∧ n / 2 ^ (8 * k) % 256 < 256 := by
  generalize n / 2 ^ (8 * k) = q
  omega
theorem leB_bytes (n : Int) : ∀ k, Bytes (leB n k)
  | 0 => by intro x hx; cases hx
  | k + 1 => by
    intro x hx
    rw [leB] at hx
    rcases List.mem_append.1 hx with h | h
    · exact leB_bytes n k x h
    · rw [List.mem_singleton.1 h]
      exact byte_range n k
theorem bytes_append {l m : List Int} (hl : Bytes l) (hm : Bytes m) : Bytes (l ++ m) := by
  intro x hx
  rcases List.mem_append.1 hx with h | h
  · exact hl x h
  · exact hm x h
theorem bytes_take {l : List Int} (h : Bytes l) (k : Nat) : Bytes (l.take k) := fun x hx => h x (List.mem_of_mem_take hx)
theorem bytes_drop {l : List Int} (h : Bytes l) (k : Nat) : Bytes (l.drop k) := fun x hx => h x (List.mem_of_mem_drop hx)
theorem bytes_set {l : List Int} (h : Bytes l) (k : Nat) {v : Int} (h0 : 0 ≤ v) (h1 : v < 256) : Bytes (l.set k v) := by
  intro x hx
  rcases List.mem_or_eq_of_mem_set hx with g | g
  · exact h x g
  · rw [g]
    exact ⟨h0, h1⟩
theorem bytes_replicate (n : Nat) : Bytes (List.replicate n 0) := by
  intro x hx
  rw [(List.mem_replicate.1 hx).2]
  omega

/-- put's list, in three pieces. -/
theorem putL_eq (l : List Int) (o : Nat) (n : Int) : ∀ m, o + m ≤ l.length → putL l o n m = l.take o ++ leB n m ++ l.drop (o + m)
  | 0, _ => by rw [putL, leB, List.append_nil, Nat.add_zero, List.take_append_drop]
  | m + 1, h => by
    have hp : (l.take o ++ leB n m).length = o + m := by rw [List.length_append, List.length_take, leB_length]; omega
    rw [putL, putL_eq l o n m (by omega), List.set_append_right _ _ (by omega), hp, Nat.sub_self, List.drop_eq_getElem_cons (show o + m < l.length from by omega), List.set_cons_zero, leB]
    simp only [List.append_assoc, List.singleton_append]
    rfl
theorem putL_bytes {l : List Int} (h : Bytes l) (o : Nat) (n : Int) : ∀ m, Bytes (putL l o n m)
  | 0 => h
  | m + 1 => by
    have := byte_range n m
    exact bytes_set (putL_bytes h o n m) _ this.1 this.2
theorem putL_get (l : List Int) (o : Nat) (n : Int) (m i : Nat) (h : i < o ∨ o + m ≤ i) : (putL l o n m)[i]? = l[i]? := by
  induction m with
  | zero => rfl
  | succ m ih => rw [putL, List.getElem?_set_ne (by omega), ih (by omega)]
theorem putL_at (l : List Int) (o : Nat) (n : Int) (m : Nat) (h : o + m ≤ l.length) : ((putL l o n m).take (o + m)).drop o = leB n m := by
  have hp : (l.take o ++ leB n m).length = o + m := by rw [List.length_append, List.length_take, leB_length]; omega
  rw [putL_eq l o n m h, List.take_append_of_le_length (by omega), List.take_of_length_le (by omega), List.drop_append_of_le_length (by rw [List.length_take]; omega), List.drop_eq_nil_of_le (by rw [List.length_take]; omega), List.nil_append]
/-- Two puts at places that do not meet. -/
theorem putL_comm (l : List Int) (o p : Nat) (n k : Int) (m q : Nat) (h : o + m ≤ p ∨ p + q ≤ o) : putL (putL l o n m) p k q = putL (putL l p k q) o n m := by
  have one : ∀ (q : Nat) (l : List Int) (i : Nat) (v : Int), (i < p ∨ p + q ≤ i) → putL (l.set i v) p k q = (putL l p k q).set i v := by
    intro q
    induction q with
    | zero => exact fun l i v h => rfl
    | succ q ih =>
      intro l i v hi
      rw [putL, putL, ih l i v (by omega), List.set_comm _ _ (by omega)]
  induction m with
  | zero => rfl
  | succ m ih =>
    rw [putL, one q _ _ _ (by omega), ih (by omega)]
    rfl

/-- A number's bytes tell the number. -/
theorem getI_le (n : Int) (h0 : 0 ≤ n) : ∀ m, m ≤ 4 → getI (leB n m) = n % 256 ^ m := by
  intro m hm
  have h : m = 0 ∨ m = 1 ∨ m = 2 ∨ m = 3 ∨ m = 4 := by omega
  rcases h with rfl | rfl | rfl | rfl | rfl
  · simp [leB, getI]
  · simp [leB, getI]
  · simp [leB, getI]
    omega
  · simp [leB, getI]
    omega
  · simp [leB, getI]
    omega
theorem getI_inj : ∀ (l m : List Int), Bytes l → Bytes m → l.length = m.length → getI l = getI m → l = m := by
  intro l
  induction l with
  | nil =>
    intro m _ _ h _
    cases m with
    | nil => rfl
    | cons y r => cases h
  | cons x l ih =>
    intro m hl hm h hg
    cases m with
    | nil => cases h
    | cons y r =>
      have hx := hl x (by simp)
      have hy := hm y (by simp)
      simp only [getI] at hg
      have e1 : x = y := by omega
      have e2 : getI l = getI r := by omega
      rw [e1, ih r (fun z hz => hl z (by simp [hz])) (fun z hz => hm z (by simp [hz])) (by simpa using h) e2]
theorem get_eq {l : List Int} (hl : Bytes l) (h7 : l.length ≤ 7) : getF l = some (getI l) := by
  unfold getF
  rw [if_pos ⟨hl, h7⟩]
theorem get_le_eq {n : Int} {m : Nat} (h0 : 0 ≤ n) (hm : m ≤ 4) (h1 : n < 256 ^ m) : getF (leB n m) = some n := by
  rw [get_eq (leB_bytes n m) (by rw [leB_length]; omega), getI_le n h0 m hm, Int.emod_eq_of_lt h0 h1]

/-- The sum of a block's first 60 bytes. -/
def sumI (l : List Int) : Int := tellI (runI (1, 0) l)
theorem sumI_range (l : List Int) : 0 ≤ sumI l ∧ sumI l < 4294967296 := tell_range (Ok_run Ok_one l)
theorem sum_I {l : List Int} (hl : Bytes l) (hn : l.length ≤ 4611686018427387904) : sumF l = some (sumI l) := sum_eq hl hn
/-- A block with its check sum. -/
def sealI (l : List Int) : List Int := l.take 60 ++ leB (sumI (l.take 60)) 4
theorem sealI_length (l : List Int) (h : l.length = 64) : (sealI l).length = 64 := by
  unfold sealI
  rw [List.length_append, List.length_take, leB_length]
  omega
theorem sealI_bytes {l : List Int} (h : Bytes l) : Bytes (sealI l) := bytes_append (bytes_take h _) (leB_bytes _ _)
theorem sealI_take (l : List Int) (h : l.length = 64) : (sealI l).take 60 = l.take 60 := by
  unfold sealI
  rw [List.take_append_of_le_length (by rw [List.length_take]; omega), List.take_of_length_le (by rw [List.length_take]; omega)]
theorem sealI_drop (l : List Int) (h : l.length = 64) : (sealI l).drop 60 = leB (sumI (l.take 60)) 4 := by
  unfold sealI
  rw [List.drop_append_of_le_length (by rw [List.length_take]; omega), List.drop_eq_nil_of_le (by rw [List.length_take]; omega), List.nil_append]
theorem seal_eq {l : List Int} (hl : Bytes l) (h : l.length = 64) : sealF l = some (sealI l, 0) := by
  unfold sealF
  rw [if_pos h, sum_I (bytes_take hl _) (by rw [List.length_take]; omega)]
  simp only [Option.bind_some]
  rw [putL_eq _ _ _ _ (by omega), List.drop_eq_nil_of_le (by omega), List.append_nil]
  rfl
theorem seal_short {l : List Int} (h : l.length ≠ 64) : sealF l = some ([], 2) := by
  unfold sealF
  rw [if_neg h]
theorem sealA_eq {l : List Int} (hl : Bytes l) (h : l.length = 64) : sealAF l = some (sealI l) := by
  have e : pad60 l = l.take 60 := by
    unfold pad60
    rw [show 60 - l.length = 0 from by omega, List.replicate_zero, List.append_nil]
  unfold sealAF
  rw [if_pos (by omega), e, sum_I (bytes_take hl _) (by rw [List.length_take]; omega)]
  rfl
/-- Has a block its check sum? -/
theorem sealed_eq {l : List Int} (hl : Bytes l) (h : l.length = 64) : sealedF l = some (decide (l = sealI l)) := by
  unfold sealedF
  rw [if_pos h, get_eq (bytes_drop hl _) (by rw [List.length_drop]; omega), sum_I (bytes_take hl _) (by rw [List.length_take]; omega)]
  simp only [Option.bind_some]
  congr 1
  have hr := sumI_range (l.take 60)
  have key : (getI (l.drop 60) = sumI (l.take 60)) ↔ l = sealI l := by
    constructor
    · intro e
      have e2 : l.drop 60 = leB (sumI (l.take 60)) 4 := by
        refine getI_inj _ _ (bytes_drop hl _) (leB_bytes _ _) (by rw [List.length_drop, leB_length]; omega) ?_
        rw [getI_le _ hr.1 4 (by omega), e]
        omega
      have := List.take_append_drop 60 l
      rw [e2] at this
      exact this.symm
    · intro e
      have e2 : l.drop 60 = leB (sumI (l.take 60)) 4 := by
        have := congrArg (List.drop 60) e
        rwa [sealI_drop l h] at this
      rw [e2, getI_le _ hr.1 4 (by omega)]
      omega
  by_cases hk : l = sealI l
  · rw [decide_eq_true hk, beq_iff_eq.2 (key.2 hk)]
  · rw [decide_eq_false hk, beq_eq_false_iff_ne.2 (fun e => hk (key.1 e))]
theorem sealed_short {l : List Int} (h : l.length ≠ 64) : sealedF l = some false := by
  unfold sealedF
  rw [if_neg h]
theorem strOf_inj {l m : List Int} (hl : Bytes l) (hm : Bytes m) : ((strOfNums l).toList = (strOfNums m).toList) ↔ l = m := by
  constructor
  · intro h
    rw [ByteArray.toList_eq, ByteArray.toList_eq, strOfNums_data, strOfNums_data] at h
    induction l generalizing m with
    | nil =>
      cases m with
      | nil => rfl
      | cons y r => simp at h
    | cons x l ih =>
      cases m with
      | nil => simp at h
      | cons y r =>
        simp only [List.map_cons, List.cons.injEq] at h
        have hx := hl x (by simp)
        have hy := hm y (by simp)
        have e1 : x = y := by
          have h1 := congrArg UInt8.toNat h.1
          rw [UInt8.toNat_ofNat', UInt8.toNat_ofNat'] at h1
          omega
        rw [e1, ih (fun z hz => hl z (by simp [hz])) (fun z hz => hm z (by simp [hz])) h.2]
  · intro h
    rw [h]
theorem sealedA_eq {l : List Int} (hl : Bytes l) (h : l.length = 64) : sealedAF l = some (decide (l = sealI l)) := by
  unfold sealedAF
  rw [if_pos h, sealA_eq hl h]
  simp only [Option.bind_some]
  congr 1
  by_cases hk : l = sealI l
  · rw [decide_eq_true hk, beq_iff_eq.2 ((strOf_inj (sealI_bytes hl) hl).2 hk.symm)]
  · rw [decide_eq_false hk, beq_eq_false_iff_ne.2 (fun e => hk ((strOf_inj (sealI_bytes hl) hl).1 e).symm)]
theorem sealI_sealed {l : List Int} (h : l.length = 64) : sealI l = sealI (sealI l) := by
  have : sealI (sealI l) = (sealI l).take 60 ++ leB (sumI ((sealI l).take 60)) 4 := rfl
  rw [this, sealI_take l h]
  rfl
/-- A sealed block of which one of the first 60 bytes is another one is not sealed. -/
theorem sealI_turned {l : List Int} (hl : Bytes l) (h : l.length = 64) (k : Nat) (hk : k < 60) (v : Int) (hv0 : 0 ≤ v) (hv1 : v < 256) (hne : v ≠ rd (sealI l) k) : (sealI l).set k v ≠ sealI ((sealI l).set k v) := by
  intro e
  have hlen := sealI_length l h
  have hb := sealI_bytes hl
  have e1 : ((sealI l).set k v).drop 60 = (sealI l).drop 60 := by rw [List.drop_set_of_lt (by omega)]
  have e2 := congrArg (List.drop 60) e
  rw [e1, sealI_drop l h, sealI_drop _ (by rw [List.length_set]; exact hlen)] at e2
  have hr1 := sumI_range (l.take 60)
  have hr2 := sumI_range (((sealI l).set k v).take 60)
  have e3 := congrArg getI e2
  rw [getI_le _ hr1.1 4 (by omega), getI_le _ hr2.1 4 (by omega)] at e3
  have e4 : sumI (l.take 60) = sumI (((sealI l).set k v).take 60) := by omega
  have e5 : ((sealI l).set k v).take 60 = (l.take 60).set k v := by
    rw [List.take_set, sealI_take l h]
  rw [e5] at e4
  have hk2 : k < (l.take 60).length := by rw [List.length_take]; omega
  have e6 : rd (sealI l) k = rd (l.take 60) k := by
    rw [← sealI_take l h]
    simp only [rd, Int.toNat_natCast, List.getD_eq_getElem?_getD, List.getElem?_take, if_pos hk]
  have p1 : (l.take 60).set k v = (l.take 60).take k ++ v :: (l.take 60).drop (k + 1) := by
    rw [List.set_eq_take_append_cons_drop, if_pos hk2]
  have p2 : l.take 60 = (l.take 60).take k ++ rd (l.take 60) k :: (l.take 60).drop (k + 1) := by
    have e : rd (l.take 60) k = (l.take 60)[k] := by simp only [rd, Int.toNat_natCast, List.getD_eq_getElem?_getD, List.getElem?_eq_getElem hk2, Option.getD_some]
    rw [e, ← List.drop_eq_getElem_cons hk2, List.take_append_drop]
  have hc := bytes_take hl 60 _ (rd_mem hk2)
  have key := run_turned (1, 0) ((l.take 60).take k) ((l.take 60).drop (k + 1)) (rd (l.take 60) k) v Ok_one hc.1 hc.2 hv0 hv1
  rw [← p1, ← p2] at key
  exact hne (by rw [e6]; exact (key.1 e4).symm)
theorem set_eq {l : List Int} {a1 a2 a3 : Int} (h : checkI l.length a1 a2 4 = 0) (h0 : 0 ≤ a3) (h1 : a3 / 2 ^ (8 * a2).toNat = 0) : setF l a1 a2 a3 = some (putL l a1.toNat a3 a2.toNat, 0) := by
  unfold setF
  rw [if_pos h, if_pos ⟨h0, h1⟩]
theorem checkI_cases (n : Nat) (a1 a2 a3 : Int) : checkI n a1 a2 a3 = 0 ∨ checkI n a1 a2 a3 = 1 ∨ checkI n a1 a2 a3 = 2 := by
  unfold checkI
  repeat' split
  all_goals simp
theorem xor_facts (c x : Int) (hc0 : 0 ≤ c) (hc1 : c < 256) (hx0 : 0 ≤ x) (hx1 : x < 256) : 0 ≤ Go.bits .xor .u8 c x ∧ Go.bits .xor .u8 c x < 256 ∧ (Go.bits .xor .u8 c x = c ↔ x = 0) := by
  obtain ⟨a, rfl⟩ := Int.eq_ofNat_of_zero_le hc0
  obtain ⟨b, rfl⟩ := Int.eq_ofNat_of_zero_le hx0
  have e : Go.bits .xor .u8 (a : Int) (b : Int) = ((a ^^^ b : Nat) : Int) := by
    have ha : a % 256 = a := by omega
    have hb : b % 256 = b := by omega
    have hlt : a ^^^ b < 2 ^ 8 := Nat.xor_lt_two_pow (by omega) (by omega)
    have e1 : Go.bits .xor .u8 (a : Int) (b : Int) = IntKind.u8.wrap (((BitVec.ofInt 8 (a : Int)) ^^^ (BitVec.ofInt 8 (b : Int))).toNat : Nat) := rfl
    rw [e1, BitVec.toNat_xor, BitVec.ofInt_natCast, BitVec.ofInt_natCast, BitVec.toNat_ofNat, BitVec.toNat_ofNat, show 2 ^ 8 = 256 from rfl, ha, hb, IntKind.wrap_u8]
    omega
  rw [e]
  have hlt : a ^^^ b < 2 ^ 8 := Nat.xor_lt_two_pow (by omega) (by omega)
  refine ⟨by omega, by omega, ?_⟩
  constructor
  · intro h
    have h' : a ^^^ b = a := by omega
    have h2 : a ^^^ (a ^^^ b) = a ^^^ a := by rw [h']
    rw [← Nat.xor_assoc, Nat.xor_self, Nat.zero_xor] at h2
    omega
  · intro h
    have h' : b = 0 := by omega
    subst h'
    rw [Nat.xor_zero]

end Go.Proofs.Ytnccbebjligpdaa.Field
