/- Floats that are whole numbers: what '+', '-', '*', the conversions give, exactly. Plain Lean: no program. -/
import Derived.Laws.ComplexArith
import Derived.Laws.Cover2
namespace Go.Proofs.Ytnccbebjligpdaa.Fl
open Go

/-- The word b stands for the whole number n. -/
def Fl (b : Nat) (n : Int) : Prop :=
  ∃ (s : Bool) (k : Nat), Ieee.double.read b = .number s (n.natAbs * 2 ^ k) (-(k : Int)) ∧ (n ≠ 0 → s = decide (n < 0))

theorem log2_mul_pow (n k : Nat) (h : n ≠ 0) : (n * 2 ^ k).log2 = n.log2 + k := by
  have hp : 0 < 2 ^ k := Nat.two_pow_pos _
  have hne : n * 2 ^ k ≠ 0 := Nat.mul_ne_zero h (by omega)
  have h1 := (Nat.log2_eq_iff hne (k := n.log2 + k)).2
  apply h1
  have h2 := Nat.log2_self_le h
  have h3 := @Nat.lt_log2_self n
  rw [Nat.pow_add, Nat.pow_add_one, Nat.pow_add]
  refine ⟨Nat.mul_le_mul_right _ h2, ?_⟩
  rw [Nat.pow_add_one] at h3
  rw [Nat.mul_right_comm]
  exact Nat.mul_lt_mul_of_pos_right h3 hp

theorem cut_exact (way : Ieee.Toward) (neg : Bool) (q d : Nat) (h : d ≤ (q * 2 ^ d).log2 + 2) : way.cut neg (q * 2 ^ d) d = q := by
  unfold Ieee.Toward.cut
  have hm : min d ((q * 2 ^ d).log2 + 2) = d := Nat.min_eq_left h
  rw [hm, Nat.one_shiftLeft]
  have hp : 0 < 2 ^ d := Nat.two_pow_pos _
  have e1 : q * 2 ^ d / 2 ^ d = q := Nat.mul_div_cancel _ hp
  have e2 : q * 2 ^ d % 2 ^ d = 0 := Nat.mul_mod_left _ _
  have e3 : (2 ^ d == 2 * 0) = false := by
    rw [beq_eq_false_iff_ne]; omega
  have e4 : decide (2 ^ d < 2 * 0) = false := by simp
  simp only [e1, e2]
  cases way <;> simp [e3]

theorem cut_zero (way : Ieee.Toward) (neg : Bool) (q d : Nat) : way.cut neg (q * 2 ^ d) d = q := by
  by_cases h : q = 0
  · subst h
    unfold Ieee.Toward.cut
    rw [Nat.one_shiftLeft]
    have hp : 0 < 2 ^ (min d ((0 * 2 ^ d).log2 + 2)) := Nat.two_pow_pos _
    simp only [Nat.zero_mul, Nat.zero_div, Nat.zero_mod] at hp ⊢
    cases way <;> simp
  · exact cut_exact way neg q d (by rw [log2_mul_pow q d h]; omega)

theorem nearest_exact (neg : Bool) (n M : Nat) (h0 : n ≠ 0) (h1 : n < 2 ^ 53) :
    Ieee.double.nearest neg (n * 2 ^ M) (-(M : Int)) = Ieee.double.word neg ((n.log2 + 1022) * 2 ^ 52 + n * 2 ^ (52 - n.log2)) := by
  have hl : n.log2 ≤ 52 := by
    have := (Nat.log2_lt h0 (k := 53)).2 h1
    omega
  have hne : n * 2 ^ M ≠ 0 := Nat.mul_ne_zero h0 (by have := Nat.two_pow_pos M; omega)
  unfold Ieee.Format.nearest
  rw [if_neg hne]
  have hlast : max ((-(M : Int)) + ((n * 2 ^ M).log2 : Int) - (Ieee.double.fractionBits : Int)) Ieee.double.leastPlace = (n.log2 : Int) - 52 := by
    rw [log2_mul_pow n M h0]
    have hf : (Ieee.double.fractionBits : Int) = 52 := rfl
    have hp : Ieee.double.leastPlace = -1074 := by decide
    rw [hf, hp]
    omega
  simp only [hlast]
  have hkept : Ieee.Toward.even.cut neg ((n * 2 ^ M) <<< ((-(M : Int)) - ((n.log2 : Int) - 52)).toNat) ((n.log2 : Int) - 52 - -(M : Int)).toNat = n * 2 ^ (52 - n.log2) := by
    by_cases hc : M ≤ 52 - n.log2
    · have e1 : ((-(M : Int)) - ((n.log2 : Int) - 52)).toNat = 52 - n.log2 - M := by omega
      have e2 : ((n.log2 : Int) - 52 - -(M : Int)).toNat = 0 := by omega
      rw [e1, e2, Nat.shiftLeft_eq, Nat.mul_assoc, ← Nat.pow_add]
      have e3 : M + (52 - n.log2 - M) = 52 - n.log2 := by omega
      rw [e3]
      have := cut_zero Ieee.Toward.even neg (n * 2 ^ (52 - n.log2)) 0
      simpa using this
    · have e1 : ((-(M : Int)) - ((n.log2 : Int) - 52)).toNat = 0 := by omega
      have e2 : ((n.log2 : Int) - 52 - -(M : Int)).toNat = M - (52 - n.log2) := by omega
      rw [e1, e2, Nat.shiftLeft_zero]
      have e3 : n * 2 ^ M = n * 2 ^ (52 - n.log2) * 2 ^ (M - (52 - n.log2)) := by
        rw [Nat.mul_assoc, ← Nat.pow_add]
        congr 2
        omega
      rw [e3]
      exact cut_zero _ _ _ _
  rw [hkept]
  congr 1
  have e4 : ((n.log2 : Int) - 52 - Ieee.double.leastPlace).toNat = n.log2 + 1022 := by
    have hp : Ieee.double.leastPlace = -1074 := by decide
    rw [hp]; omega
  have e5 : Ieee.double.binade = 2 ^ 52 := rfl
  rw [e4, e5]
  apply Nat.min_eq_left
  have e6 : Ieee.double.infRung = 2047 * 2 ^ 52 := by decide
  rw [e6]
  have hb : n * 2 ^ (52 - n.log2) < 2 ^ 53 := by
    have h3 := @Nat.lt_log2_self n
    have hp : 0 < 2 ^ (52 - n.log2) := Nat.two_pow_pos _
    have h4 : n * 2 ^ (52 - n.log2) < 2 ^ (n.log2 + 1) * 2 ^ (52 - n.log2) := Nat.mul_lt_mul_of_pos_right h3 hp
    rw [← Nat.pow_add] at h4
    have e7 : n.log2 + 1 + (52 - n.log2) = 53 := by omega
    rw [e7] at h4
    exact h4
  generalize n * 2 ^ (52 - n.log2) = Q at hb ⊢
  clear e6 hkept hlast e4
  generalize n.log2 = L at *
  show (L + 1022) * 4503599627370496 + Q ≤ 2047 * 4503599627370496
  have hb' : Q < 9007199254740992 := hb
  omega

theorem read_word_small (neg : Bool) (R : Nat) (h : R < 2047 * 2 ^ 52) (h1 : 2 ^ 52 ≤ R) :
    Ieee.double.read (Ieee.double.word neg R) = .number neg (2 ^ 52 + R % 2 ^ 52) (-1074 + (R / 2 ^ 52 - 1 : Nat)) := by
  have e1 : Ieee.double.signWeight = 2 ^ 63 := rfl
  have e2 : Ieee.double.binade = 2 ^ 52 := rfl
  have e3 : Ieee.double.infRung = 2047 * 2 ^ 52 := by decide
  have e4 : Ieee.double.leastPlace = -1074 := by decide
  unfold Ieee.Format.read
  simp only [e1, e2, e3, e4]
  have e5 : Ieee.double.word neg R % 2 ^ 63 = R := by
    unfold Ieee.Format.word
    rw [e1]
    cases neg <;> simp <;> omega
  have e6 : (Ieee.double.word neg R / 2 ^ 63 % 2 == 1) = neg := by
    unfold Ieee.Format.word
    rw [e1]
    cases neg
    · have : R / 2 ^ 63 = 0 := by omega
      simp [this]
    · have : (2 ^ 63 + R) / 2 ^ 63 = 1 := by omega
      simp only [if_true, this]
      rfl
  rw [e5, e6, if_neg (by omega), if_pos h]

theorem read_zero (neg : Bool) : Ieee.double.read (Ieee.double.word neg 0) = .number neg 0 (-1074) := by
  cases neg <;> decide

theorem zero_num (s : Bool) (k : Nat) : Ieee.Datum.number s ((0 : Int).natAbs * 2 ^ k) (-(k : Int)) = .number s 0 (-(k : Int)) := by
  rw [show (0 : Int).natAbs = 0 from rfl, Nat.zero_mul]

theorem fl_word0 (s : Bool) : Fl (Ieee.double.word s 0) 0 := ⟨s, 1074, (read_zero s).trans (zero_num s 1074).symm, fun h => absurd rfl h⟩

/-- What is written of a whole number is read as that number. -/
theorem fl_write (s : Bool) (n : Int) (M : Nat) (hs : n ≠ 0 → s = decide (n < 0)) (h : n.natAbs < 2 ^ 53) :
    Fl (Ieee.double.write (.number s (n.natAbs * 2 ^ M) (-(M : Int)))) n := by
  unfold Ieee.Format.write
  by_cases h0 : n = 0
  · subst h0
    have : Ieee.double.nearest s ((0 : Int).natAbs * 2 ^ M) (-(M : Int)) = Ieee.double.word s 0 := by
      unfold Ieee.Format.nearest
      simp
    simp only [this]
    exact fl_word0 s
  · have h0' : n.natAbs ≠ 0 := by omega
    simp only [nearest_exact s n.natAbs M h0' h]
    have hl : n.natAbs.log2 ≤ 52 := by
      have := (Nat.log2_lt h0' (k := 53)).2 h
      omega
    have hlo : 2 ^ 52 ≤ n.natAbs * 2 ^ (52 - n.natAbs.log2) := by
      have h2 := Nat.log2_self_le h0'
      have h4 := Nat.mul_le_mul_right (2 ^ (52 - n.natAbs.log2)) h2
      rw [← Nat.pow_add] at h4
      have e7 : n.natAbs.log2 + (52 - n.natAbs.log2) = 52 := by omega
      rw [e7] at h4
      exact h4
    have hhi : n.natAbs * 2 ^ (52 - n.natAbs.log2) < 2 ^ 53 := by
      have h3 := @Nat.lt_log2_self n.natAbs
      have h4 := Nat.mul_lt_mul_of_pos_right h3 (Nat.two_pow_pos (52 - n.natAbs.log2))
      rw [← Nat.pow_add] at h4
      have e7 : n.natAbs.log2 + 1 + (52 - n.natAbs.log2) = 53 := by omega
      rw [e7] at h4
      exact h4
    refine ⟨s, 52 - n.natAbs.log2, ?_, hs⟩
    generalize hL : n.natAbs.log2 = L at *
    generalize hQ : n.natAbs * 2 ^ (52 - L) = Q at *
    rw [read_word_small s _ (by omega) (by omega)]
    have e1 : ((L + 1022) * 2 ^ 52 + Q) % 2 ^ 52 = Q - 2 ^ 52 := by omega
    have e2 : ((L + 1022) * 2 ^ 52 + Q) / 2 ^ 52 = L + 1023 := by omega
    have e3 : 2 ^ 52 + (Q - 2 ^ 52) = Q := by omega
    have e4 : (-1074 : Int) + ((L + 1023 - 1 : Nat) : Int) = -((52 - L : Nat) : Int) := by omega
    rw [e1, e2, e3, e4]

theorem signed_eq (s : Bool) (a : Int) (k u : Nat) (hs : a ≠ 0 → s = decide (a < 0)) : Ieee.signed s (a.natAbs * 2 ^ k) u = a * (2 ^ (k + u) : Nat) := by
  unfold Ieee.signed
  rw [Nat.shiftLeft_eq, Nat.mul_assoc, ← Nat.pow_add]
  generalize (2 ^ (k + u) : Nat) = p
  rw [Int.natCast_mul]
  by_cases h0 : a = 0
  · subst h0; simp
  · rw [hs h0]
    by_cases hn : a < 0
    · have : (a.natAbs : Int) = -a := by omega
      simp only [hn, decide_true, if_true, this, Int.neg_mul, Int.neg_neg]
    · have : (a.natAbs : Int) = a := by omega
      simp only [hn, decide_false, this]
      simp

theorem sum_exact (s t : Bool) (a b : Int) (k l : Nat) (hs : a ≠ 0 → s = decide (a < 0)) (ht : b ≠ 0 → t = decide (b < 0)) :
    ∃ (u : Bool) (M : Nat), (Ieee.Datum.number s (a.natAbs * 2 ^ k) (-(k : Int))).sum (.number t (b.natAbs * 2 ^ l) (-(l : Int))) = some (.number u ((a + b).natAbs * 2 ^ M) (-(M : Int))) ∧ (a + b ≠ 0 → u = decide (a + b < 0)) := by
  refine ⟨if a + b = 0 then s && t else decide (a + b < 0), max k l, ?_, fun h => by rw [if_neg h]⟩
  unfold Ieee.Datum.sum
  have hb : min (-(k : Int)) (-(l : Int)) = -((max k l : Nat) : Int) := by omega
  simp only [hb]
  have e1 : (-(k : Int) - -((max k l : Nat) : Int)).toNat = max k l - k := by omega
  have e2 : (-(l : Int) - -((max k l : Nat) : Int)).toNat = max k l - l := by omega
  rw [e1, e2, signed_eq s a k _ hs, signed_eq t b l _ ht]
  have e3 : k + (max k l - k) = max k l := by omega
  have e4 : l + (max k l - l) = max k l := by omega
  rw [e3, e4, ← Int.add_mul]
  have hp : 0 < 2 ^ (max k l) := Nat.two_pow_pos _
  generalize (2 ^ (max k l) : Nat) = p at *
  have hp' : (0 : Int) < (p : Int) := by omega
  congr 2
  · by_cases h0 : a + b = 0
    · rw [h0]; simp
    · have h1 : (a + b) * (p : Int) ≠ 0 := Int.mul_ne_zero h0 (by omega)
      rw [if_neg h1, if_neg h0]
      by_cases hn : a + b < 0
      · have : (a + b) * (p : Int) < 0 := Int.mul_neg_of_neg_of_pos hn hp'
        simp [hn, this]
      · have : ¬ (a + b) * (p : Int) < 0 := by
          have := Int.mul_nonneg (show 0 ≤ a + b by omega) (show 0 ≤ (p : Int) by omega)
          omega
        simp [hn, this]
  · rw [Int.natAbs_mul]; simp

theorem fl_add {x y : Nat} {a b : Int} (hx : Fl x a) (hy : Fl y b) (h : (a + b).natAbs < 2 ^ 53) : ∃ r, floatBits .add .f64 x y = some r ∧ Fl r (a + b) := by
  obtain ⟨s, k, h1, h2⟩ := hx
  obtain ⟨t, l, h3, h4⟩ := hy
  obtain ⟨u, M, h5, h6⟩ := sum_exact s t a b k l h2 h4
  refine ⟨_, ?_, fl_write u (a + b) M h6 h⟩
  unfold floatBits
  show Ieee.Format.add Ieee.double x y = _
  unfold Ieee.Format.add
  rw [h1, h3, h5]
  rfl

theorem fl_sub {x y : Nat} {a b : Int} (hx : Fl x a) (hy : Fl y b) (h : (a - b).natAbs < 2 ^ 53) : ∃ r, floatBits .sub .f64 x y = some r ∧ Fl r (a - b) := by
  obtain ⟨s, k, h1, h2⟩ := hx
  obtain ⟨t, l, h3, h4⟩ := hy
  have h4' : -b ≠ 0 → (!t) = decide (-b < 0) := by
    intro hb
    have hb' : b ≠ 0 := by omega
    rw [h4 hb']
    by_cases hn : b < 0
    · have : ¬ -b < 0 := by omega
      simp only [hn, this, decide_true, decide_false, Bool.not_true]
    · have : -b < 0 := by omega
      simp only [hn, this, decide_true, decide_false, Bool.not_false]
  obtain ⟨u, M, h5, h6⟩ := sum_exact s (!t) a (-b) k l h2 h4'
  rw [Int.natAbs_neg] at h5
  refine ⟨_, ?_, fl_write u (a - b) M h6 h⟩
  unfold floatBits
  show Ieee.Format.sub Ieee.double x y = _
  unfold Ieee.Format.sub
  rw [h1, h3]
  show ((Ieee.Datum.number s (a.natAbs * 2 ^ k) (-(k : Int))).sum (.number (!t) (b.natAbs * 2 ^ l) (-(l : Int)))).map _ = _
  rw [h5]
  rfl

theorem fl_mul {x y : Nat} {a b : Int} (hx : Fl x a) (hy : Fl y b) (h : (a * b).natAbs < 2 ^ 53) : ∃ r, floatBits .mul .f64 x y = some r ∧ Fl r (a * b) := by
  obtain ⟨s, k, h1, h2⟩ := hx
  obtain ⟨t, l, h3, h4⟩ := hy
  have h6 : a * b ≠ 0 → (s ^^ t) = decide (a * b < 0) := by
    intro hab
    have ha : a ≠ 0 := fun h => hab (by rw [h, Int.zero_mul])
    have hb : b ≠ 0 := fun h => hab (by rw [h, Int.mul_zero])
    rw [h2 ha, h4 hb]
    by_cases ha' : a < 0 <;> by_cases hb' : b < 0
    · have := Int.mul_pos_of_neg_of_neg ha' hb'
      have : ¬ a * b < 0 := by omega
      simp [ha', hb', this]
    · have := Int.mul_neg_of_neg_of_pos ha' (show 0 < b by omega)
      simp [ha', hb', this]
    · have := Int.mul_neg_of_pos_of_neg (show 0 < a by omega) hb'
      simp [ha', hb', this]
    · have := Int.mul_pos (show 0 < a by omega) (show 0 < b by omega)
      have : ¬ a * b < 0 := by omega
      simp [ha', hb', this]
  refine ⟨_, ?_, fl_write (s ^^ t) (a * b) (k + l) h6 h⟩
  unfold floatBits
  show Ieee.Format.mul Ieee.double x y = _
  unfold Ieee.Format.mul
  rw [h1, h3]
  unfold Ieee.Datum.product
  have e1 : a.natAbs * 2 ^ k * (b.natAbs * 2 ^ l) = (a * b).natAbs * 2 ^ (k + l) := by
    rw [Int.natAbs_mul, Nat.pow_add]
    ac_rfl
  have e2 : -(k : Int) + -(l : Int) = -((k + l : Nat) : Int) := by omega
  simp only [e1, e2, Option.map_some]

theorem fl_E (n : Int) (h : n.natAbs < 2 ^ 53) : Fl (floatOfInt .f64 n) n := by
  have := fl_write (decide (n < 0)) n 0 (fun _ => rfl) h
  unfold floatOfInt FloatKind.nearest FloatKind.encode
  show Fl (Ieee.double.write (Ieee.Datum.number (decide (n < 0)) n.natAbs 0)) n
  simpa using this

theorem fl_toInt {x : Nat} {n : Int} (hx : Fl x n) (k : IntKind) (h1 : k.min ≤ n) (h2 : n ≤ k.max) : floatToIntVal .f64 x k = some n := by
  obtain ⟨s, j, h3, h4⟩ := hx
  unfold floatToIntVal FloatKind.decode
  have e : (FloatKind.f64.format.read x).toInt .zero = some n := by
    show (Ieee.double.read x).toInt .zero = some n
    rw [h3]
    unfold Ieee.Datum.toInt Ieee.Datum.integral
    have e1 : (-(j : Int)).toNat = 0 := by omega
    have e2 : (- -(j : Int)).toNat = j := by omega
    simp only [e1, e2, Nat.shiftLeft_zero, cut_zero]
    have := signed_eq s n 0 0 h4
    simp at this
    rw [this]
  rw [e]
  simp [h1, h2]

theorem fl_two : Fl 4611686018427387904 2 := ⟨false, 51, by decide, by decide⟩
theorem fl_one : Fl 4607182418800017408 1 := ⟨false, 52, by decide, by decide⟩
theorem fl_zero : Fl 0 0 := fl_word0 false

theorem cmul {a b c d : Nat} {x y u v : Int} (ha : Fl a x) (hb : Fl b y) (hc : Fl c u) (hd : Fl d v)
    (h1 : (x * u).natAbs < 2 ^ 53) (h2 : (y * v).natAbs < 2 ^ 53) (h3 : (x * u - y * v).natAbs < 2 ^ 53)
    (h4 : (x * v).natAbs < 2 ^ 53) (h5 : (y * u).natAbs < 2 ^ 53) (h6 : (x * v + y * u).natAbs < 2 ^ 53) :
    ∃ re im, cMulBits a b c d = some (re, im) ∧ Fl re (x * u - y * v) ∧ Fl im (x * v + y * u) := by
  obtain ⟨ac, e1, f1⟩ := fl_mul ha hc h1
  obtain ⟨bd, e2, f2⟩ := fl_mul hb hd h2
  obtain ⟨re, e3, f3⟩ := fl_sub f1 f2 h3
  obtain ⟨ad, e4, f4⟩ := fl_mul ha hd h4
  obtain ⟨bc, e5, f5⟩ := fl_mul hb hc h5
  obtain ⟨im, e6, f6⟩ := fl_add f4 f5 h6
  refine ⟨re, im, ?_, f3, f6⟩
  unfold cMulBits
  rw [e1]; simp only [Option.bind_some]
  rw [e2]; simp only [Option.bind_some]
  rw [e3]; simp only [Option.bind_some]
  rw [e4]; simp only [Option.bind_some]
  rw [e5]; simp only [Option.bind_some]
  rw [e6]; simp only [Option.bind_some]

theorem cadd {a b c d : Nat} {x y u v : Int} (ha : Fl a x) (hb : Fl b y) (hc : Fl c u) (hd : Fl d v)
    (h1 : (x + u).natAbs < 2 ^ 53) (h2 : (y + v).natAbs < 2 ^ 53) :
    ∃ re im, cSumBits .add .f64 a b c d = some (re, im) ∧ Fl re (x + u) ∧ Fl im (y + v) := by
  obtain ⟨r, e1, f1⟩ := fl_add ha hc h1
  obtain ⟨i, e2, f2⟩ := fl_add hb hd h2
  refine ⟨r, i, ?_, f1, f2⟩
  unfold cSumBits
  rw [e1, e2]
  rfl

theorem csub {a b c d : Nat} {x y u v : Int} (ha : Fl a x) (hb : Fl b y) (hc : Fl c u) (hd : Fl d v)
    (h1 : (x - u).natAbs < 2 ^ 53) (h2 : (y - v).natAbs < 2 ^ 53) :
    ∃ re im, cSumBits .sub .f64 a b c d = some (re, im) ∧ Fl re (x - u) ∧ Fl im (y - v) := by
  obtain ⟨r, e1, f1⟩ := fl_sub ha hc h1
  obtain ⟨i, e2, f2⟩ := fl_sub hb hd h2
  refine ⟨r, i, ?_, f1, f2⟩
  unfold cSumBits
  rw [e1, e2]
  rfl
end Go.Proofs.Ytnccbebjligpdaa.Fl
