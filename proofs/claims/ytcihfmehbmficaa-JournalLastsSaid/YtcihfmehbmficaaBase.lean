/- Texts beneath the printed ones, as one: floats that are whole numbers, the register, numbers and texts in blocks, pages, names of paths. -/
import Derived.Laws.ComplexArith
import Derived.Laws.Cover2
import Derived.Test.YtcihfmehbmficaaProg
import Derived.Test.YtcihfmehbmficaaWWords
import Derived.WalkKit
import Derived.KernelRfl
import Derived.Laws.Cover3
import Derived.Deep.QuietTactic
import Derived.BigQuiet
import Derived.Deep.LoopGhost
import Derived.Outline
import Derived.Lib.Hide
import Derived.Test.YtcihfmehbmficaaWMore
import Derived.Laws.BitsLemmas
import Derived.WalkSpells
import Derived.StillTailTactics
import Derived.Test.YtcihfmehbmficaaWKept
import Derived.Test.YtcihfmehbmficaaWLast
import Derived.Laws.CopyRow
import Derived.Lib.AppendStr
import Derived.IntWalk
import Derived.Lib.Walk
import Derived.Lib.Strings
import Derived.Lib.Slices
import Derived.Lib.Bytealg
import Derived.Lib.IndexEntry
import Derived.Lib.IndexLaws
import Derived.Lib.IndexBytes
import Derived.BigCall
import Derived.BigGuard
import Derived.Deep.Draws
import Derived.Laws.Strings3
import Derived.Maps.OwnSet
import Derived.Maps.Own
import Derived.Lib.Join
import Derived.Lib.SmallJoins
/- Floats that are whole numbers: what '+', '-', '*', the conversions give, exactly. Plain Lean: no program. -/
namespace Go.Proofs.Ytcihfmehbmficaa.Fl
open Go

/-- The word b stands for the whole number n. -/
def Fl (b : Nat) (n : Int) : Prop :=
  ∃ (s : Bool) (k : Nat), Ieee.double.read b = .number s (n.natAbs * 2 ^ k) (-(k : Int)) ∧ (n ≠ 0 → s = decide (n < 0))

theorem log2_mul_pow (n k : Nat) (h : n ≠ 0) : (n * 2 ^ k).log2 = n.log2 + k := by
  have hp : 0 < 2 ^ k := Nat.two_pow_pos _
  have hne : n * 2 ^ k ≠ 0 := Nat.mul_ne_zero h (by omega)
  have h1 := (Nat.log2_eq_iff hne (k := n.log2 + k)).2
  apply h1
  have h2 := Nat.log2_self_le h
  have h3 := @Nat.lt_log2_self n
  rw [Nat.pow_add, Nat.pow_add_one, Nat.pow_add]
  refine ⟨Nat.mul_le_mul_right _ h2, ?_⟩
  rw [Nat.pow_add_one] at h3
  rw [Nat.mul_right_comm]
  exact Nat.mul_lt_mul_of_pos_right h3 hp

theorem cut_exact (way : Ieee.Toward) (neg : Bool) (q d : Nat) (h : d ≤ (q * 2 ^ d).log2 + 2) : way.cut neg (q * 2 ^ d) d = q := by
  unfold Ieee.Toward.cut
  have hm : min d ((q * 2 ^ d).log2 + 2) = d := Nat.min_eq_left h
  rw [hm, Nat.one_shiftLeft]
  have hp : 0 < 2 ^ d := Nat.two_pow_pos _
  have e1 : q * 2 ^ d / 2 ^ d = q := Nat.mul_div_cancel _ hp
  have e2 : q * 2 ^ d % 2 ^ d = 0 := Nat.mul_mod_left _ _
  have e3 : (2 ^ d == 2 * 0) = false := by
    rw [beq_eq_false_iff_ne]; omega
  have e4 : decide (2 ^ d < 2 * 0) = false := by simp
  simp only [e1, e2]
  cases way <;> simp [e3]

theorem cut_zero (way : Ieee.Toward) (neg : Bool) (q d : Nat) : way.cut neg (q * 2 ^ d) d = q := by
  by_cases h : q = 0
  · subst h
    unfold Ieee.Toward.cut
    rw [Nat.one_shiftLeft]
    have hp : 0 < 2 ^ (min d ((0 * 2 ^ d).log2 + 2)) := Nat.two_pow_pos _
    simp only [Nat.zero_mul, Nat.zero_div, Nat.zero_mod] at hp ⊢
    cases way <;> simp
  · exact cut_exact way neg q d (by rw [log2_mul_pow q d h]; omega)

theorem nearest_exact (neg : Bool) (n M : Nat) (h0 : n ≠ 0) (h1 : n < 2 ^ 53) :
    Ieee.double.nearest neg (n * 2 ^ M) (-(M : Int)) = Ieee.double.word neg ((n.log2 + 1022) * 2 ^ 52 + n * 2 ^ (52 - n.log2)) := by
  have hl : n.log2 ≤ 52 := by
    have := (Nat.log2_lt h0 (k := 53)).2 h1
    omega
  have hne : n * 2 ^ M ≠ 0 := Nat.mul_ne_zero h0 (by have := Nat.two_pow_pos M; omega)
  unfold Ieee.Format.nearest
  rw [if_neg hne]
  have hlast : max ((-(M : Int)) + ((n * 2 ^ M).log2 : Int) - (Ieee.double.fractionBits : Int)) Ieee.double.leastPlace = (n.log2 : Int) - 52 := by
    rw [log2_mul_pow n M h0]
    have hf : (Ieee.double.fractionBits : Int) = 52 := rfl
    have hp : Ieee.double.leastPlace = -1074 := by decide
    rw [hf, hp]
    omega
  simp only [hlast]
  have hkept : Ieee.Toward.even.cut neg ((n * 2 ^ M) <<< ((-(M : Int)) - ((n.log2 : Int) - 52)).toNat) ((n.log2 : Int) - 52 - -(M : Int)).toNat = n * 2 ^ (52 - n.log2) := by
    by_cases hc : M ≤ 52 - n.log2
    · have e1 : ((-(M : Int)) - ((n.log2 : Int) - 52)).toNat = 52 - n.log2 - M := by omega
      have e2 : ((n.log2 : Int) - 52 - -(M : Int)).toNat = 0 := by omega
      rw [e1, e2, Nat.shiftLeft_eq, Nat.mul_assoc, ← Nat.pow_add]
      have e3 : M + (52 - n.log2 - M) = 52 - n.log2 := by omega
      rw [e3]
      have := cut_zero Ieee.Toward.even neg (n * 2 ^ (52 - n.log2)) 0
      simpa using this
    · have e1 : ((-(M : Int)) - ((n.log2 : Int) - 52)).toNat = 0 := by omega
      have e2 : ((n.log2 : Int) - 52 - -(M : Int)).toNat = M - (52 - n.log2) := by omega
      rw [e1, e2, Nat.shiftLeft_zero]
      have e3 : n * 2 ^ M = n * 2 ^ (52 - n.log2) * 2 ^ (M - (52 - n.log2)) := by
        rw [Nat.mul_assoc, ← Nat.pow_add]
        congr 2
        omega
      rw [e3]
      exact cut_zero _ _ _ _
  rw [hkept]
  congr 1
  have e4 : ((n.log2 : Int) - 52 - Ieee.double.leastPlace).toNat = n.log2 + 1022 := by
    have hp : Ieee.double.leastPlace = -1074 := by decide
    rw [hp]; omega
  have e5 : Ieee.double.binade = 2 ^ 52 := rfl
  rw [e4, e5]
  apply Nat.min_eq_left
  have e6 : Ieee.double.infRung = 2047 * 2 ^ 52 := by decide
  rw [e6]
  have hb : n * 2 ^ (52 - n.log2) < 2 ^ 53 := by
    have h3 := @Nat.lt_log2_self n
    have hp : 0 < 2 ^ (52 - n.log2) := Nat.two_pow_pos _
    have h4 : n * 2 ^ (52 - n.log2) < 2 ^ (n.log2 + 1) * 2 ^ (52 - n.log2) := Nat.mul_lt_mul_of_pos_right h3 hp
    rw [← Nat.pow_add] at h4
    have e7 : n.log2 + 1 + (52 - n.log2) = 53 := by omega
    rw [e7] at h4
    exact h4
  generalize n * 2 ^ (52 - n.log2) = Q at hb ⊢
  clear e6 hkept hlast e4
  generalize n.log2 = L at *
  show (L + 1022) * 4503599627370496 + Q ≤ 2047 * 4503599627370496
  have hb' : Q < 9007199254740992 := hb
  omega

theorem read_word_small (neg : Bool) (R : Nat) (h : R < 2047 * 2 ^ 52) (h1 : 2 ^ 52 ≤ R) :
    Ieee.double.read (Ieee.double.word neg R) = .number neg (2 ^ 52 + R % 2 ^ 52) (-1074 + (R / 2 ^ 52 - 1 : Nat)) := by
  have e1 : Ieee.double.signWeight = 2 ^ 63 := rfl
  have e2 : Ieee.double.binade = 2 ^ 52 := rfl
  have e3 : Ieee.double.infRung = 2047 * 2 ^ 52 := by decide
  have e4 : Ieee.double.leastPlace = -1074 := by decide
  unfold Ieee.Format.read
  simp only [e1, e2, e3, e4]
  have e5 : Ieee.double.word neg R % 2 ^ 63 = R := by
    unfold Ieee.Format.word
    rw [e1]
    cases neg <;> simp <;> omega
  have e6 : (Ieee.double.word neg R / 2 ^ 63 % 2 == 1) = neg := by
    unfold Ieee.Format.word
    rw [e1]
    cases neg
    · have : R / 2 ^ 63 = 0 := by omega
      simp [this]
    · have : (2 ^ 63 + R) / 2 ^ 63 = 1 := by omega
      simp only [if_true, this]
      rfl
  rw [e5, e6, if_neg (by omega), if_pos h]

theorem read_zero (neg : Bool) : Ieee.double.read (Ieee.double.word neg 0) = .number neg 0 (-1074) := by
  cases neg <;> decide

theorem zero_num (s : Bool) (k : Nat) : Ieee.Datum.number s ((0 : Int).natAbs * 2 ^ k) (-(k : Int)) = .number s 0 (-(k : Int)) := by
  rw [show (0 : Int).natAbs = 0 from rfl, Nat.zero_mul]

theorem fl_word0 (s : Bool) : Fl (Ieee.double.word s 0) 0 := ⟨s, 1074, (read_zero s).trans (zero_num s 1074).symm, fun h => absurd rfl h⟩

/-- What is written of a whole number is read as that number. -/
theorem fl_write (s : Bool) (n : Int) (M : Nat) (hs : n ≠ 0 → s = decide (n < 0)) (h : n.natAbs < 2 ^ 53) :
    Fl (Ieee.double.write (.number s (n.natAbs * 2 ^ M) (-(M : Int)))) n := by
  unfold Ieee.Format.write
  by_cases h0 : n = 0
  · subst h0
    have : Ieee.double.nearest s ((0 : Int).natAbs * 2 ^ M) (-(M : Int)) = Ieee.double.word s 0 := by
      unfold Ieee.Format.nearest
      simp
    simp only [this]
    exact fl_word0 s
  · have h0' : n.natAbs ≠ 0 := by omega
    simp only [nearest_exact s n.natAbs M h0' h]
    have hl : n.natAbs.log2 ≤ 52 := by
      have := (Nat.log2_lt h0' (k := 53)).2 h
      omega
    have hlo : 2 ^ 52 ≤ n.natAbs * 2 ^ (52 - n.natAbs.log2) := by
      have h2 := Nat.log2_self_le h0'
      have h4 := Nat.mul_le_mul_right (2 ^ (52 - n.natAbs.log2)) h2
      rw [← Nat.pow_add] at h4
      have e7 : n.natAbs.log2 + (52 - n.natAbs.log2) = 52 := by omega
      rw [e7] at h4
      exact h4
    have hhi : n.natAbs * 2 ^ (52 - n.natAbs.log2) < 2 ^ 53 := by
      have h3 := @Nat.lt_log2_self n.natAbs
      have h4 := Nat.mul_lt_mul_of_pos_right h3 (Nat.two_pow_pos (52 - n.natAbs.log2))
      rw [← Nat.pow_add] at h4
      have e7 : n.natAbs.log2 + 1 + (52 - n.natAbs.log2) = 53 := by omega
      rw [e7] at h4
      exact h4
    refine ⟨s, 52 - n.natAbs.log2, ?_, hs⟩
    generalize hL : n.natAbs.log2 = L at *
    generalize hQ : n.natAbs * 2 ^ (52 - L) = Q at *
    rw [read_word_small s _ (by omega) (by omega)]
    have e1 : ((L + 1022) * 2 ^ 52 + Q) % 2 ^ 52 = Q - 2 ^ 52 := by omega
    have e2 : ((L + 1022) * 2 ^ 52 + Q) / 2 ^ 52 = L + 1023 := by omega
    have e3 : 2 ^ 52 + (Q - 2 ^ 52) = Q := by omega
    have e4 : (-1074 : Int) + ((L + 1023 - 1 : Nat) : Int) = -((52 - L : Nat) : Int) := by omega
    rw [e1, e2, e3, e4]

theorem signed_eq (s : Bool) (a : Int) (k u : Nat) (hs : a ≠ 0 → s = decide (a < 0)) : Ieee.signed s (a.natAbs * 2 ^ k) u = a * (2 ^ (k + u) : Nat) := by
  unfold Ieee.signed
  rw [Nat.shiftLeft_eq, Nat.mul_assoc, ← Nat.pow_add]
  generalize (2 ^ (k + u) : Nat) = p
  rw [Int.natCast_mul]
  by_cases h0 : a = 0
  · subst h0; simp
  · rw [hs h0]
    by_cases hn : a < 0
    · have : (a.natAbs : Int) = -a := by omega
      simp only [hn, decide_true, if_true, this, Int.neg_mul, Int.neg_neg]
    · have : (a.natAbs : Int) = a := by omega
      simp only [hn, decide_false, this]
      simp

theorem sum_exact (s t : Bool) (a b : Int) (k l : Nat) (hs : a ≠ 0 → s = decide (a < 0)) (ht : b ≠ 0 → t = decide (b < 0)) :
    ∃ (u : Bool) (M : Nat), (Ieee.Datum.number s (a.natAbs * 2 ^ k) (-(k : Int))).sum (.number t (b.natAbs * 2 ^ l) (-(l : Int))) = some (.number u ((a + b).natAbs * 2 ^ M) (-(M : Int))) ∧ (a + b ≠ 0 → u = decide (a + b < 0)) := by
  refine ⟨if a + b = 0 then s && t else decide (a + b < 0), max k l, ?_, fun h => by rw [if_neg h]⟩
  unfold Ieee.Datum.sum
  have hb : min (-(k : Int)) (-(l : Int)) = -((max k l : Nat) : Int) := by omega
  simp only [hb]
  have e1 : (-(k : Int) - -((max k l : Nat) : Int)).toNat = max k l - k := by omega
  have e2 : (-(l : Int) - -((max k l : Nat) : Int)).toNat = max k l - l := by omega
  rw [e1, e2, signed_eq s a k _ hs, signed_eq t b l _ ht]
  have e3 : k + (max k l - k) = max k l := by omega
  have e4 : l + (max k l - l) = max k l := by omega
  rw [e3, e4, ← Int.add_mul]
  have hp : 0 < 2 ^ (max k l) := Nat.two_pow_pos _
  generalize (2 ^ (max k l) : Nat) = p at *
  have hp' : (0 : Int) < (p : Int) := by omega
  congr 2
  · by_cases h0 : a + b = 0
    · rw [h0]; simp
    · have h1 : (a + b) * (p : Int) ≠ 0 := Int.mul_ne_zero h0 (by omega)
      rw [if_neg h1, if_neg h0]
      by_cases hn : a + b < 0
      · have : (a + b) * (p : Int) < 0 := Int.mul_neg_of_neg_of_pos hn hp'
        simp [hn, this]
      · have : ¬ (a + b) * (p : Int) < 0 := by
          have := Int.mul_nonneg (show 0 ≤ a + b by omega) (show 0 ≤ (p : Int) by omega)
          omega
        simp [hn, this]
  · rw [Int.natAbs_mul]; simp

theorem fl_add {x y : Nat} {a b : Int} (hx : Fl x a) (hy : Fl y b) (h : (a + b).natAbs < 2 ^ 53) : ∃ r, floatBits .add .f64 x y = some r ∧ Fl r (a + b) := by
  obtain ⟨s, k, h1, h2⟩ := hx
  obtain ⟨t, l, h3, h4⟩ := hy
  obtain ⟨u, M, h5, h6⟩ := sum_exact s t a b k l h2 h4
  refine ⟨_, ?_, fl_write u (a + b) M h6 h⟩
  unfold floatBits
  show Ieee.Format.add Ieee.double x y = _
  unfold Ieee.Format.add
  rw [h1, h3, h5]
  rfl

theorem fl_sub {x y : Nat} {a b : Int} (hx : Fl x a) (hy : Fl y b) (h : (a - b).natAbs < 2 ^ 53) : ∃ r, floatBits .sub .f64 x y = some r ∧ Fl r (a - b) := by
  obtain ⟨s, k, h1, h2⟩ := hx
  obtain ⟨t, l, h3, h4⟩ := hy
  have h4' : -b ≠ 0 → (!t) = decide (-b < 0) := by
    intro hb
    have hb' : b ≠ 0 := by omega
    rw [h4 hb']
    by_cases hn : b < 0
    · have : ¬ -b < 0 := by omega
      simp only [hn, this, decide_true, decide_false, Bool.not_true]
    · have : -b < 0 := by omega
      simp only [hn, this, decide_true, decide_false, Bool.not_false]
  obtain ⟨u, M, h5, h6⟩ := sum_exact s (!t) a (-b) k l h2 h4'
  rw [Int.natAbs_neg] at h5
  refine ⟨_, ?_, fl_write u (a - b) M h6 h⟩
  unfold floatBits
  show Ieee.Format.sub Ieee.double x y = _
  unfold Ieee.Format.sub
  rw [h1, h3]
  show ((Ieee.Datum.number s (a.natAbs * 2 ^ k) (-(k : Int))).sum (.number (!t) (b.natAbs * 2 ^ l) (-(l : Int)))).map _ = _
  rw [h5]
  rfl

theorem fl_mul {x y : Nat} {a b : Int} (hx : Fl x a) (hy : Fl y b) (h : (a * b).natAbs < 2 ^ 53) : ∃ r, floatBits .mul .f64 x y = some r ∧ Fl r (a * b) := by
  obtain ⟨s, k, h1, h2⟩ := hx
  obtain ⟨t, l, h3, h4⟩ := hy
  have h6 : a * b ≠ 0 → (s ^^ t) = decide (a * b < 0) := by
    intro hab
    have ha : a ≠ 0 := fun h => hab (by rw [h, Int.zero_mul])
    have hb : b ≠ 0 := fun h => hab (by rw [h, Int.mul_zero])
    rw [h2 ha, h4 hb]
    by_cases ha' : a < 0 <;> by_cases hb' : b < 0
    · have := Int.mul_pos_of_neg_of_neg ha' hb'
      have : ¬ a * b < 0 := by omega
      simp [ha', hb', this]
    · have := Int.mul_neg_of_neg_of_pos ha' (show 0 < b by omega)
      simp [ha', hb', this]
    · have := Int.mul_neg_of_pos_of_neg (show 0 < a by omega) hb'
      simp [ha', hb', this]
    · have := Int.mul_pos (show 0 < a by omega) (show 0 < b by omega)
      have : ¬ a * b < 0 := by omega
      simp [ha', hb', this]
  refine ⟨_, ?_, fl_write (s ^^ t) (a * b) (k + l) h6 h⟩
  unfold floatBits
  show Ieee.Format.mul Ieee.double x y = _
  unfold Ieee.Format.mul
  rw [h1, h3]
  unfold Ieee.Datum.product
  have e1 : a.natAbs * 2 ^ k * (b.natAbs * 2 ^ l) = (a * b).natAbs * 2 ^ (k + l) := by
    rw [Int.natAbs_mul, Nat.pow_add]
    ac_rfl
  have e2 : -(k : Int) + -(l : Int) = -((k + l : Nat) : Int) := by omega
  simp only [e1, e2, Option.map_some]

theorem fl_E (n : Int) (h : n.natAbs < 2 ^ 53) : Fl (floatOfInt .f64 n) n := by
  have := fl_write (decide (n < 0)) n 0 (fun _ => rfl) h
  unfold floatOfInt FloatKind.nearest FloatKind.encode
  show Fl (Ieee.double.write (Ieee.Datum.number (decide (n < 0)) n.natAbs 0)) n
  simpa using this

theorem fl_toInt {x : Nat} {n : Int} (hx : Fl x n) (k : IntKind) (h1 : k.min ≤ n) (h2 : n ≤ k.max) : floatToIntVal .f64 x k = some n := by
  obtain ⟨s, j, h3, h4⟩ := hx
  unfold floatToIntVal FloatKind.decode
  have e : (FloatKind.f64.format.read x).toInt .zero = some n := by
    show (Ieee.double.read x).toInt .zero = some n
    rw [h3]
    unfold Ieee.Datum.toInt Ieee.Datum.integral
    have e1 : (-(j : Int)).toNat = 0 := by omega
    have e2 : (- -(j : Int)).toNat = j := by omega
    simp only [e1, e2, Nat.shiftLeft_zero, cut_zero]
    have := signed_eq s n 0 0 h4
    simp at this
    rw [this]
  rw [e]
  simp [h1, h2]

theorem fl_two : Fl 4611686018427387904 2 := ⟨false, 51, by decide, by decide⟩
theorem fl_one : Fl 4607182418800017408 1 := ⟨false, 52, by decide, by decide⟩
theorem fl_zero : Fl 0 0 := fl_word0 false

theorem cmul {a b c d : Nat} {x y u v : Int} (ha : Fl a x) (hb : Fl b y) (hc : Fl c u) (hd : Fl d v)
    (h1 : (x * u).natAbs < 2 ^ 53) (h2 : (y * v).natAbs < 2 ^ 53) (h3 : (x * u - y * v).natAbs < 2 ^ 53)
    (h4 : (x * v).natAbs < 2 ^ 53) (h5 : (y * u).natAbs < 2 ^ 53) (h6 : (x * v + y * u).natAbs < 2 ^ 53) :
    ∃ re im, cMulBits a b c d = some (re, im) ∧ Fl re (x * u - y * v) ∧ Fl im (x * v + y * u) := by
  obtain ⟨ac, e1, f1⟩ := fl_mul ha hc h1
  obtain ⟨bd, e2, f2⟩ := fl_mul hb hd h2
  obtain ⟨re, e3, f3⟩ := fl_sub f1 f2 h3
  obtain ⟨ad, e4, f4⟩ := fl_mul ha hd h4
  obtain ⟨bc, e5, f5⟩ := fl_mul hb hc h5
  obtain ⟨im, e6, f6⟩ := fl_add f4 f5 h6
  refine ⟨re, im, ?_, f3, f6⟩
  unfold cMulBits
  rw [e1]; simp only [Option.bind_some]
  rw [e2]; simp only [Option.bind_some]
  rw [e3]; simp only [Option.bind_some]
  rw [e4]; simp only [Option.bind_some]
  rw [e5]; simp only [Option.bind_some]
  rw [e6]; simp only [Option.bind_some]

theorem cadd {a b c d : Nat} {x y u v : Int} (ha : Fl a x) (hb : Fl b y) (hc : Fl c u) (hd : Fl d v)
    (h1 : (x + u).natAbs < 2 ^ 53) (h2 : (y + v).natAbs < 2 ^ 53) :
    ∃ re im, cSumBits .add .f64 a b c d = some (re, im) ∧ Fl re (x + u) ∧ Fl im (y + v) := by
  obtain ⟨r, e1, f1⟩ := fl_add ha hc h1
  obtain ⟨i, e2, f2⟩ := fl_add hb hd h2
  refine ⟨r, i, ?_, f1, f2⟩
  unfold cSumBits
  rw [e1, e2]
  rfl

end Go.Proofs.Ytcihfmehbmficaa.Fl

/- The walks of package spin: each function once. -/
namespace Go.Proofs.Ytcihfmehbmficaa.Spin
open Go Go.RowKit Go.Proofs.Ytcihfmehbmficaa.Fl Go.Proofs.YtcihfmehbmficaaW.PrintWords
set_option linter.unusedVariables false

theorem tmod_facts (n : Int) : (n.tmod 65521 < 0 → n % 65521 = n.tmod 65521 + 65521) ∧ (0 ≤ n.tmod 65521 → n % 65521 = n.tmod 65521) ∧ -65521 < n.tmod 65521 ∧ n.tmod 65521 < 65521 := by
  have h1 := Int.tmod_add_mul_tdiv n 65521
  have h2 : n.tmod 65521 < 65521 := Int.tmod_lt_of_pos n (by decide)
  have h3 : -65521 < n.tmod 65521 := by
    rcases Int.le_total 0 n with h | h
    · have := Int.tmod_nonneg 65521 h
      omega
    · have := Int.tmod_lt_of_pos (-n) (show (0 : Int) < 65521 by decide)
      rw [Int.neg_tmod] at this
      omega
  generalize n.tmod 65521 = r at *
  generalize n.tdiv 65521 = q at *
  subst h1
  refine ⟨fun h => ?_, fun h => ?_, h3, h2⟩ <;> omega

theorem mod_calls (b : Nat) (n : Int) (hb : Fl b n) (hn : n.natAbs < 2 ^ 53) (w : World) :
    Calls Try.prog 71 #[.float .f64 b] w fun e w' => e = .returned (.float .f64 (floatOfInt .f64 (n % 65521))) ∧ w = w' := by
  have hn' : -9007199254740992 < n ∧ n < 9007199254740992 := by
    have : (2 : Nat) ^ 53 = 9007199254740992 := by decide
    omega
  obtain ⟨hn1, hn2⟩ := hn'
  have hc : ∀ W : World, (convert 121 3 (.float .f64 b)).run Try.prog W = .ok (.int .i64 n) W := fun W =>
    run_convert_float_int W 121 3 .f64 .i64 b n (by kernel_rfl) (by kernel_rfl) (fl_toInt hb .i64 (by show (-9223372036854775808 : Int) ≤ n; omega) (by show n ≤ 9223372036854775807; omega))
  clear hb hn
  obtain ⟨hm1, hm2, hm3, hm4⟩ := tmod_facts n
  have hM1 := Lib.hid hm1
  have hM2 := Lib.hid hm2
  clear hm1 hm2
  by_cases h : n.tmod 65521 < 0
  · have hd : decide (n.tmod 65521 < 0) = true := by simpa using h
    go_enter Try.func71, Try.ntmps71
    go_wp2
    go_ret
    exact ⟨by rw [hM1.out h]; rfl, rfl⟩
  · have hd : decide (n.tmod 65521 < 0) = false := by simpa using h
    go_enter Try.func71, Try.ntmps71
    go_wp2
    go_ret
    exact ⟨by rw [hM2.out (by omega)]; rfl, rfl⟩

/-- The word of a whole number. -/
abbrev R (n : Int) : Nat := floatOfInt .f64 n

theorem reduce_calls (a b : Nat) (x y : Int) (ha : Fl a x) (hx : x.natAbs < 2 ^ 53) (hb : Fl b y) (hy : y.natAbs < 2 ^ 53) (w : World) :
    Calls Try.prog 70 #[.complex .f64 a b] w fun e w' => e = .returned (.complex .f64 (R (x % 65521)) (R (y % 65521))) ∧ w = w' := by
  go_enter Try.func70, Try.ntmps70
  go_wp2_with fail
  ((with_reducible refine (mod_calls a x ha hx _).mono ?_); rintro e w' ⟨rfl, rfl⟩)
  go_wp2_with fail
  ((with_reducible refine (mod_calls b y hb hy _).mono ?_); rintro e w' ⟨rfl, rfl⟩)
  go_wp2
  go_ret
  exact ⟨rfl, rfl⟩

theorem small (n : Int) (h0 : -1099511627776 < n) (h : n < 1099511627776) : n.natAbs < 2 ^ 53 := by
  have : (2 : Nat) ^ 53 = 9007199254740992 := by decide
  omega

theorem from_calls (s : Int) (h0 : 0 ≤ s) (h1 : s < 4294967296) (w : World) :
    Calls Try.prog 67 #[.int .u32 s] w fun e w' => e = .returned (.complex .f64 (R (s / 65536 % 65521)) (R (s % 65536 % 65521))) ∧ w = w' := by
  go_enter Try.func67, Try.ntmps67
  go_wp2_with fail
  ((with_reducible refine (reduce_calls _ _ (s / 65536) (s % 65536) (fl_E _ (small _ (by omega) (by omega))) (small _ (by omega) (by omega)) (fl_E _ (small _ (by omega) (by omega))) (small _ (by omega) (by omega)) _).mono ?_); rintro e w' ⟨rfl, rfl⟩)
  go_wp2
  go_ret
  exact ⟨rfl, rfl⟩

theorem sum_calls (x y : Int) (hx0 : 0 ≤ x) (hx1 : x < 65521) (hy0 : 0 ≤ y) (hy1 : y < 65521) (w : World) :
    Calls Try.prog 69 #[.complex .f64 (R x) (R y)] w fun e w' => e = .returned (.int .u32 (x * 65536 + y)) ∧ w = w' := by
  have hc : ∀ W : World, (convert 121 95 (.float .f64 (R x))).run Try.prog W = .ok (.int .u32 x) W := fun W =>
    run_convert_float_int W 121 95 .f64 .u32 _ x (by kernel_rfl) (by kernel_rfl) (fl_toInt (fl_E x (small x (by omega) (by omega))) .u32 (by show (0 : Int) ≤ x; omega) (by show x ≤ 4294967295; omega))
  have hd : ∀ W : World, (convert 121 95 (.float .f64 (R y))).run Try.prog W = .ok (.int .u32 y) W := fun W =>
    run_convert_float_int W 121 95 .f64 .u32 _ y (by kernel_rfl) (by kernel_rfl) (fl_toInt (fl_E y (small y (by omega) (by omega))) .u32 (by show (0 : Int) ≤ y; omega) (by show y ≤ 4294967295; omega))
  go_enter Try.func69, Try.ntmps69
  go_wp2
  go_ret
  exact ⟨rfl, rfl⟩

/-- Behind a byte. -/
def stepI (z : Int × Int) (c : Int) : Int × Int := ((z.1 * 2 - z.2 + c) % 65521, (z.1 + z.2 * 2) % 65521)

/-- The word of a register. -/
abbrev C (z : Int × Int) : Value := .complex .f64 (R z.1) (R z.2)

/-- Is it a register? -/
def Ok (z : Int × Int) : Prop := 0 ≤ z.1 ∧ z.1 < 65521 ∧ 0 ≤ z.2 ∧ z.2 < 65521

theorem Ok_mod (x y : Int) : Ok (x % 65521, y % 65521) := by
  unfold Ok
  simp only
  omega

theorem step_calls (z : Int × Int) (c : Int) (hz : Ok z) (hc0 : 0 ≤ c) (hc1 : c < 256) (w : World) :
    Calls Try.prog 68 #[C z, .int .u8 c] w fun e w' => e = .returned (C (stepI z c)) ∧ w = w' := by
  obtain ⟨x, y⟩ := z
  obtain ⟨hx0, hx1, hy0, hy1⟩ := hz
  simp only at hx0 hx1 hy0 hy1
  obtain ⟨re, im, hm, fr, fi⟩ := cmul (fl_E x (small x (by omega) (by omega))) (fl_E y (small y (by omega) (by omega))) fl_two fl_one
    (small _ (by omega) (by omega)) (small _ (by omega) (by omega)) (small _ (by omega) (by omega)) (small _ (by omega) (by omega)) (small _ (by omega) (by omega)) (small _ (by omega) (by omega))
  obtain ⟨re2, im2, ha, fr2, fi2⟩ := cadd fr fi (fl_E c (small c (by omega) (by omega))) fl_zero (small _ (by omega) (by omega)) (small _ (by omega) (by omega))
  rw [Int.mul_one] at fr2
  rw [Int.mul_one, Int.add_zero] at fi2
  have hm' : ∀ W : World, (binOp .mul 117 (.complex .f64 (R x) (R y)) (.complex .f64 4611686018427387904 4607182418800017408)).run Try.prog W = .ok (.complex .f64 re im) W := fun W => run_complex_mul W _ _ _ _ _ _ _ hm
  have ha' : ∀ W : World, (binOp .add 117 (.complex .f64 re im) (.complex .f64 (R c) 0)).run Try.prog W = .ok (.complex .f64 re2 im2) W := fun W => run_complex_sum W .add (.inl rfl) _ _ _ _ _ _ _ _ ha
  clear hm ha
  show Calls Try.prog 68 #[.complex .f64 (R x) (R y), .int .u8 c] w fun e w' => e = .returned (.complex .f64 (R ((x * 2 - y + c) % 65521)) (R ((x + y * 2) % 65521))) ∧ w = w'
  go_enter Try.func68, Try.ntmps68
  go_wp2_with fail
  ((with_reducible refine (reduce_calls _ _ _ _ fr2 (small _ (by omega) (by omega)) fi2 (small _ (by omega) (by omega)) _).mono ?_); rintro e w' ⟨rfl, rfl⟩)
  go_wp2
  go_ret
  exact ⟨rfl, rfl⟩

/-- What More begins with. -/
def startI (s : Int) : Int × Int := (s / 65536 % 65521, s % 65536 % 65521)
def tellI (z : Int × Int) : Int := z.1 * 65536 + z.2
def runI (z : Int × Int) (l : List Int) : Int × Int := l.foldl stepI z
def Bytes (l : List Int) : Prop := ∀ x ∈ l, 0 ≤ x ∧ x < 256
instance (l : List Int) : Decidable (Bytes l) := by unfold Bytes; infer_instance

theorem Ok_start (s : Int) : Ok (startI s) := Ok_mod _ _
theorem Ok_step (z : Int × Int) (c : Int) : Ok (stepI z c) := Ok_mod _ _
theorem Ok_run {z : Int × Int} (h : Ok z) : ∀ l : List Int, Ok (runI z l) := by
  intro l
  induction l generalizing z with
  | nil => exact h
  | cons c l ih => exact ih (Ok_step z c)
theorem run_snoc (z : Int × Int) (l : List Int) (c : Int) : runI z (l ++ [c]) = stepI (runI z l) c := by simp [runI]
theorem take_rd (l : List Int) (k : Nat) (h : k < l.length) : l.take (k + 1) = l.take k ++ [rd l k] := by
  rw [List.take_succ_eq_append_getElem h]
  simp [rd, List.getD, h]
theorem rd_mem {l : List Int} {k : Nat} (h : k < l.length) : rd l k ∈ l := by
  simp [rd, List.getD, h]

def moreF (s : Int) (l : List Int) : Option Int := if 0 ≤ s ∧ s < 4294967296 ∧ Bytes l ∧ l.length ≤ 4611686018427387904 then some (tellI (runI (startI s) l)) else none
theorem moreF_some {s : Int} {l : List Int} {r : Int} (h : moreF s l = some r) : 0 ≤ s ∧ s < 4294967296 ∧ Bytes l ∧ l.length ≤ 4611686018427387904 ∧ r = tellI (runI (startI s) l) := by
  unfold moreF at h
  split at h
  · rename_i g
    cases h
    exact ⟨g.1, g.2.1, g.2.2.1, g.2.2.2, rfl⟩
  · cases h

theorem more_still (s : Int) (A1 : Option Addr) (c1 : Nat) (l : List Int) (r : Int) (w : World) (hr : Kd.C (Kd.int .u8) w A1 l.length l) (hc : l.length ≤ c1) (h : moreF s l = some r) :
    Calls Try.prog 66 #[.int .u32 s, .slice A1 l.length c1] w fun e w' => e = .returned (.int .u32 r) ∧ w' = w := by
  obtain ⟨hs0, hs1, hb, hlen, hr'⟩ := moreF_some h
  subst hr'
  have HR := Aside0.mk hr
  have HC := Aside0.mk hc
  have HB := Aside0.mk hb
  clear h hr hc hb
  go_enter Try.func66, Try.ntmps66
  go_wp2_with fail
  ((with_reducible refine (from_calls s hs0 hs1 _).mono ?_); rintro e w' ⟨rfl, rfl⟩)
  go_wp2
  go_loop [5, 12] (fun z i => ∃ k : Nat, k ≤ l.length ∧ i = .int .i64 k ∧ z = C (runI (startI s) (l.take k))) (fun _ i => l.length - (intOf i).toNat)
  case atStart => exact ⟨0, Nat.zero_le _, rfl, rfl⟩
  case round =>
    obtain ⟨k, hk, rfl, rfl⟩ := hrel
    by_cases hlt : k < l.length
    · have hrun := run_snoc (startI s) (l.take k) (rd l k)
      rw [← take_rd l k hlt] at hrun
      have HRUN := Aside0.mk hrun
      clear hrun
      obtain ⟨ad, e, hx⟩ := Kd.at_int HR.out (k : Int) (by omega) (by omega)
      cases e
      rw [Int.toNat_natCast] at hx
      have hcb := HB.out _ (rd_mem hlt)
      obtain ⟨hc0, hc1⟩ := hcb
      have hok := Aside0.mk (Ok_run (Ok_start s) (l.take k))
      go_wp2_with fail
      ((with_reducible refine (step_calls _ _ hok.out hc0 hc1 _).mono ?_); rintro e w' ⟨rfl, rfl⟩)
      go_wp2
      go_round
      case rel => exact ⟨k + 1, by omega, by go_num, by rw [HRUN.out]⟩
      case measure => simp [intOf]; omega
    · go_wp2_with fail
      have hk' : k = l.length := by omega
      subst hk'
      obtain ⟨ho1, ho2, ho3, ho4⟩ := Ok_run (Ok_start s) (l.take l.length)
      rw [List.take_length] at ho1 ho2 ho3 ho4
      rw [List.take_length]
      ((with_reducible refine (sum_calls _ _ ho1 ho2 ho3 ho4 _).mono ?_); rintro e w' ⟨rfl, rfl⟩)
      go_wp2
      go_ret
      exact ⟨rfl, rfl⟩

def sumF (l : List Int) : Option Int := moreF 65536 l

theorem sum_still (A1 : Option Addr) (c1 : Nat) (l : List Int) (r : Int) (w : World) (hr : Kd.C (Kd.int .u8) w A1 l.length l) (hc : l.length ≤ c1) (h : sumF l = some r) :
    Calls Try.prog 62 #[.slice A1 l.length c1] w fun e w' => e = .returned (.int .u32 r) ∧ w' = w := by
  have HR := Aside0.mk hr
  have HC := Aside0.mk hc
  have H := Aside0.mk (show moreF 65536 l = some r from h)
  clear h hr hc
  go_enter Try.func62, Try.ntmps62
  go_wp2_with fail
  ((with_reducible refine (more_still _ _ _ _ r _ HR.out HC.out H.out).mono ?_); rintro e w' ⟨rfl, rfl⟩)
  go_wp2
  go_ret
  exact ⟨rfl, rfl⟩

end Go.Proofs.Ytcihfmehbmficaa.Spin

/- Plain laws of the register: whole numbers and lists alone. -/
namespace Go.Proofs.Ytcihfmehbmficaa.Spin
open Go Go.Proofs.YtcihfmehbmficaaW.PrintWords
set_option linter.unusedVariables false

theorem tell_range {z : Int × Int} (h : Ok z) : 0 ≤ tellI z ∧ tellI z < 4294967296 := by
  obtain ⟨h1, h2, h3, h4⟩ := h
  unfold tellI
  omega
theorem start_one : startI 65536 = (1, 0) := by decide
theorem more_eq {s : Int} {l : List Int} (h0 : 0 ≤ s) (h1 : s < 4294967296) (hl : Bytes l) (hn : l.length ≤ 4611686018427387904) : moreF s l = some (tellI (runI (startI s) l)) := by
  unfold moreF
  rw [if_pos ⟨h0, h1, hl, hn⟩]
theorem sum_eq {l : List Int} (hl : Bytes l) (hn : l.length ≤ 4611686018427387904) : sumF l = some (tellI (runI (1, 0) l)) := by
  unfold sumF
  rw [more_eq (by omega) (by omega) hl hn, start_one]
theorem bytes_wf {l : List Int} (h : ∀ x ∈ l, (Lit.int .u8 x).wf = true) : Bytes l := by
  intro x hx
  have h1 := h x hx
  simp only [Lit.wf, Bool.and_eq_true, decide_eq_true_eq] at h1
  have h2 : IntKind.u8.min = 0 := by decide
  have h3 : IntKind.u8.max = 255 := by decide
  rw [h2, h3] at h1
  omega
theorem Ok_one : Ok (1, 0) := by unfold Ok; decide

end Go.Proofs.Ytcihfmehbmficaa.Spin

/- Walks of package field that the print does not take, and of bytes.Clone. -/
namespace Go.Proofs.Ytcihfmehbmficaa.Field
open Go Go.RowKit Go.Proofs.YtcihfmehbmficaaW.PrintWords Go.Proofs.YtcihfmehbmficaaW.PrintMore
set_option linter.unusedVariables false
set_option linter.unusedSimpArgs false

abbrev B : Kd Int := Kd.int .u8
abbrev tb : Nat := 5

/-- One block has turned, nothing else. -/
structure Wrote (g : Nat) (cs : Array Value) (w w' : World) : Prop where
  blk : w'.heap[g]? = some (.cells cs 5 (0, 0))
  size : w'.heap.size = w.heap.size
  far : ∀ j, j ≠ g → w'.heap[j]? = w.heap[j]?
  os : w'.os = w.os
  tape : w'.tape = w.tape
  output : w'.output = w.output

theorem Wrote.refl {g : Nat} {cs : Array Value} {w : World} (h : w.heap[g]? = some (.cells cs 5 (0, 0))) : Wrote g cs w w := ⟨h, rfl, fun _ _ => rfl, rfl, rfl, rfl⟩
theorem Wrote.set {g : Nat} {cs : Array Value} {w w' : World} (h : Wrote g cs w w') (i : Nat) (v : Value) : Wrote g (cs.setIfInBounds i v) w (w'.setCell ⟨g, i, none⟩ v) :=
  ⟨blk_set h.blk i v, by rw [World.size_setCell]; exact h.size, fun j hj => (Below.heap_setCell w' ⟨g, i, none⟩ v j hj).trans (h.far j hj), h.os, h.tape, h.output⟩
theorem Wrote.drewN {g : Nat} {cs : Array Value} {w w' : World} (h : Wrote g cs w w') (n : Nat) : Wrote g cs w (w'.drewN n) := ⟨h.blk, h.size, h.far, h.os, h.tape, h.output⟩
theorem Wrote.trans {g : Nat} {cs cs' : Array Value} {w w1 w2 : World} (h : Wrote g cs w w1) (k : Wrote g cs' w1 w2) : Wrote g cs' w w2 :=
  ⟨k.blk, k.size.trans h.size, fun j hj => (k.far j hj).trans (h.far j hj), k.os.trans h.os, k.tape.trans h.tape, k.output.trans h.output⟩
theorem Wrote.below {g B : Nat} {cs : Array Value} {w w' : World} (h : Wrote g cs w w') (hg : B ≤ g) : Below B w w' :=
  ⟨h.os, h.tape, h.output, Nat.le_of_eq h.size.symm, fun k hk => h.far k (by omega)⟩

/-- What put leaves in a block: m bytes of n from place o on. -/
def putC (cs : Array Value) (o : Nat) (n : Int) : Nat → Array Value
  | 0 => cs
  | k + 1 => (putC cs o n k).setIfInBounds (o + k) (.int .u8 (n / 2 ^ (8 * k) % 256))
theorem putC_size (cs : Array Value) (o : Nat) (n : Int) : ∀ k, (putC cs o n k).size = cs.size
  | 0 => rfl
  | k + 1 => by rw [putC, Array.size_setIfInBounds, putC_size cs o n k]

theorem put_calls (g o m c : Nat) (n : Int) (cs : Array Value) (hn0 : 0 ≤ n) (hn1 : n < 4294967296) (hm : m ≤ 4) (ho : o + m ≤ cs.size) (hc : cs.size ≤ 9223372036854775807) (w : World) (hw : w.heap[g]? = some (.cells cs 5 (0, 0))) :
    Calls Try.prog 48 #[.slice (some ⟨g, o, none⟩) m c, .int .u32 n] w fun e w' => e = .returned (.tuple #[]) ∧ Wrote g (putC cs o n m) w w' := by
  have HW := Aside0.mk hw
  clear hw
  go_enter Try.func48, Try.ntmps48
  go_wp2
  go_loopw [7] (fun i wr => ∃ k : Nat, k ≤ m ∧ i = .int .i64 k ∧ Aside0 (Wrote g (putC cs o n k) w wr)) (fun i _ => m - (intOf i).toNat)
  case atStart => exact ⟨0, Nat.zero_le _, rfl, ⟨Wrote.refl HW.out⟩⟩
  case round =>
    obtain ⟨k, hk, rfl, HR⟩ := hrel
    by_cases hlt : k < m
    · obtain ⟨u, hu⟩ : ∃ u, (putC cs o n k)[o + k]? = some u := ⟨_, Array.getElem?_eq_getElem (by rw [putC_size]; omega)⟩
      have hc1 : wr.cell? ⟨g, o + k, none⟩ = some u := (blk_cell HR.out.blk (o + k)).trans hu
      have hf1 := blk_frozen HR.out.blk (o + k)
      clear hu
      go_wp2
      go_roundw
      case rel => exact ⟨k + 1, by omega, by go_num, ⟨HR.out.set _ _⟩⟩
      case measure => simp [intOf]; omega
    · go_wp2
      first | go_end0 | ((try simp only [Exit.inBlock, Exit.then]); refine bodyPost_ret (results_none rfl _ _ _) rfl ?_)
      obtain rfl : k = m := by omega
      exact ⟨rfl, HR.out⟩

theorem infob : (Try.prog.info? 5).map (fun i => (i.zero, i.size, i.bytes)) = some (some (.int .u8 0), 1, 1) := by kernel_rfl

/-- What bytes.Clone gives. -/
def cloneF (l : List Int) : Option (List Int) := if l.length < 140737488355328 then some l else none

theorem clone_calls (A0 : Option Addr) (c0 : Nat) (l0 : List Int) (r : List Int) (w : World) (hr0 : Kd.C B w A0 l0.length l0) (hc0 : l0.length ≤ c0) (h : cloneF l0 = some r) :
    Calls Try.prog 59 #[.slice A0 l0.length c0] w fun e w' => ∃ v0_ : Value, e = .returned (v0_) ∧ Kd.R B 5 w' w.heap.size (fun _ => True) v0_ r ∧ Below w.heap.size w w' := by
  unfold cloneF at h
  split at h
  · rename_i hlen
    obtain rfl := Option.some.inj h
    clear h
    cases A0 with
    | none =>
      have hl0 : l0 = [] := by
        rcases l0 with _ | ⟨x, xs⟩
        · rfl
        · obtain ⟨ad, h, _⟩ := hr0.2.2 (by simp)
          cases h
      subst hl0
      clear hr0 hlen
      have he : ∀ W : World, (binOp .eql 23 (.slice none 0 c0) (.slice none 0 0)).run Try.prog W = .ok (.bool true) W := fun W => Lib.run_eql_slice_nil W _ _ _ _ _ _ _ Try.underlying23
      go_enter Try.func59, Try.ntmps59
      go_wp2
      go_ret
      exact ⟨_, rfl, Kd.R_nil _ _ _ _ _, Below.refl _ _⟩
    | some ad =>
      have he : ∀ W : World, (binOp .eql 23 (.slice (some ad) l0.length c0) (.slice none 0 0)).run Try.prog W = .ok (.bool false) W := fun W => Lib.run_eql_slice_nil W _ _ _ _ _ _ _ Try.underlying23
      have HR0 := Aside0.mk hr0
      have HC0 := Aside0.mk hc0
      have HL := Aside0.mk hlen
      clear hr0 hc0 hlen
      go_enter Try.func59, Try.ntmps59
      go_wp2_with (first | ((with_reducible refine gate_dst (N := 5) rfl ?_); (try (refine gate_guard (by rfl) ?_; dsimp only)); refine Kd.R_lit B _ 5 ?hg (N := 5) ?hd (xs := ([] : List Int)) (inner := []) (ok := fun _ => True) (okp := fun _ => True) ?hr ?hp (fun _ hk => hk) trivial (Below.refl _ _) (Nat.le_refl _) (by simp) ?_; (case hd => rfl); (case hg => rfl); (case hr => first | (go_simp; done) | (go_simp; rfl)); (case hp => exact (Reps.none _ _)); intro v1 w1 ho1 hb1 hg1 hn1; clear hg1 hn1; have HO := Aside0.mk ho1; have HB := Aside0.mk hb1; clear ho1 hb1) | ((with_reducible refine gate_builtin (b := .append) (xs := #[.tmp 5, .tmp 6]) rfl ?_); (try (refine gate_guard (by rfl) ?_; dsimp only)); at_builtin; refine Kd.R_append_rows B (w0 := w) w.heap.size rfl (.tmp 5) (.tmp 6) 23 5 (.int .u8 0) 1 rfl Try.underlying23 infob rfl (by decide) (by omega) v1 [] l0 _ _ _ (fun _ => True) (fun _ => False) rfl rfl HO.out (Kd.C_below HR0.out HB.out) (fun _ _ h => h) (fun _ h => h.elim) (fun _ _ => trivial) HB.out (below_size HB.out) ?aL ?_; (case aL => have := HL.out; simp only [List.length_nil]; omega); intro v2 w2 ho hb hg hat; have HO2 := Aside0.mk ho; have HB2 := Aside0.mk hb; clear ho hb hg hat))
      go_ret
      exact ⟨_, rfl, HO2.out, HB2.out⟩
  · cases h

/-- What put leaves, as a list. -/
def putL (l : List Int) (o : Nat) (n : Int) : Nat → List Int
  | 0 => l
  | k + 1 => (putL l o n k).set (o + k) (n / 2 ^ (8 * k) % 256)
theorem putL_length (l : List Int) (o : Nat) (n : Int) : ∀ k, (putL l o n k).length = l.length
  | 0 => rfl
  | k + 1 => by rw [putL, List.length_set, putL_length l o n k]
theorem putC_take (cs : Array Value) (l : List Int) (o m : Nat) (n : Int) (h : cs.toList.take m = nums .u8 l) : ∀ k, (putC cs o n k).toList.take m = nums .u8 (putL l o n k)
  | 0 => h
  | k + 1 => by
    rw [putC, putL, Array.toList_setIfInBounds, List.take_set, putC_take cs l o m n h k]
    simp [nums, List.map_set]

/-- A row of the call's own, laid open: its block. -/
theorem R_open {w : World} {base : Nat} {ok : Nat → Prop} {v : Value} {l : List Int} (h : Kd.R B 5 w base ok v l) (hp : 0 < l.length) :
    ∃ g cap cs, v = .slice (some ⟨g, 0, none⟩) l.length cap ∧ base ≤ g ∧ w.heap[g]? = some (.cells cs 5 (0, 0)) ∧ l.length ≤ cap ∧ cap ≤ maxLen ∧ cs.size = cap ∧ cs.toList.take l.length = nums .u8 l ∧ ok g := by
  have ho := Kd.own_of_R h
  rcases ho.2 with ⟨_, h0⟩ | ⟨g, cap, cs, hv, hg, hh, hn, hc, hs, ht⟩
  · omega
  · refine ⟨g, cap, cs, hv, hg, hh, hn, hc, by rw [hs, Nat.mul_one], by rw [Nat.mul_one] at ht; exact ht, h.1 g (by rw [hv]; rfl)⟩

/-- .. and put together again. -/
theorem R_shut {w : World} {base g cap : Nat} {ok : Nat → Prop} {cs : Array Value} {l : List Int} (hg : base ≤ g) (hh : w.heap[g]? = some (.cells cs 5 (0, 0))) (hn : l.length ≤ cap) (hc : cap ≤ maxLen) (hs : cs.size = cap) (ht : cs.toList.take l.length = nums .u8 l) (hok : ok g) :
    Kd.R B 5 w base ok (.slice (some ⟨g, 0, none⟩) l.length cap) l := by
  refine Kd.R_of_own ⟨by rw [encs_length, Nat.mul_one], .inr ⟨g, cap, cs, rfl, hg, hh, hn, hc, by rw [hs, Nat.mul_one], by rw [Nat.mul_one, ht]; rfl⟩⟩ (fun k hk => ?_)
  have : g = k := by simpa [Value.ownBlock] using hk
  subst this
  exact hok

theorem R_wrote {w w' : World} {base g cap : Nat} {ok : Nat → Prop} {cs : Array Value} {l : List Int} (hg : base ≤ g) (hn : l.length ≤ cap) (hc : cap ≤ maxLen) (hs : cs.size = cap) (ht : cs.toList.take l.length = nums .u8 l) (hok : ok g) (o m : Nat) (n : Int)
    (hw : Wrote g (putC cs o n m) w w') : Kd.R B 5 w' base ok (.slice (some ⟨g, 0, none⟩) l.length cap) (putL l o n m) := by
  have h := R_shut (ok := ok) (l := putL l o n m) hg hw.blk (by rw [putL_length]; exact hn) hc (by rw [putC_size]; exact hs) (by rw [putL_length]; exact putC_take cs l o _ n ht m) hok
  rw [putL_length] at h
  exact h

/-- What Seal gives. -/
def sealF (l : List Int) : Option (List Int × Int) :=
  if l.length = 64 then (Spin.sumF (l.take 60)).bind fun s => some (putL l 60 s 4, 0) else some ([], 2)

theorem seal_no (A0 : Option Addr) (c0 n : Nat) (hn : n ≠ 64) (w : World) :
    Calls Try.prog 49 #[.slice A0 n c0] w fun e w' => e = .returned (.tuple #[.slice none 0 0, .int .i64 2]) ∧ w = w' := by
  have d5 : ((n : Int) != 64) = true := by simp; omega
  go_enter Try.func49, Try.ntmps49
  go_wp2
  go_ret2
  exact ⟨rfl, rfl⟩

theorem sum_range {l : List Int} {s : Int} (h : Spin.sumF l = some s) : 0 ≤ s ∧ s < 4294967296 := by
  obtain ⟨_, _, _, _, rfl⟩ := Spin.moreF_some h
  obtain ⟨h1, h2, h3, h4⟩ := Spin.Ok_run (Spin.Ok_start 65536) l
  unfold Spin.tellI
  omega

set_option maxRecDepth 100000 in
theorem seal_yes (A0 : Option Addr) (c0 : Nat) (l0 : List Int) (s : Int) (h64 : l0.length = 64) (hs : Spin.sumF (l0.take 60) = some s) (w : World) (hr0 : Kd.C B w A0 l0.length l0) (hc0 : l0.length ≤ c0) :
    Calls Try.prog 49 #[.slice A0 l0.length c0] w fun e w' => ∃ v0_ : Value, e = .returned (.tuple #[v0_, .int .i64 0]) ∧ Kd.R B 5 w' w.heap.size (fun _ => True) v0_ (putL l0 60 s 4) ∧ Below w.heap.size w w' := by
  obtain ⟨hs0, hs1⟩ := sum_range hs
  have HS0 := Aside0.mk hs
  have HR0 := Aside0.mk hr0
  have HC0 := Aside0.mk hc0
  have HL := Aside0.mk h64
  have hcc : 64 ≤ c0 := by omega
  have d5 : ((l0.length : Int) != 64) = false := by rw [h64]; rfl
  clear hr0 hc0 h64 hs
  go_enter Try.func49, Try.ntmps49
  go_wp2_with fail
  ((with_reducible refine (clone_calls _ _ _ l0 _ HR0.out HC0.out (by unfold cloneF; rw [if_pos (by have := HL.out; omega)])).mono ?_); rintro e w1 ⟨v1, rfl, hR, hB⟩)
  obtain ⟨g, cap, cs, rfl, hg, hh, hn, hcap, hsz, ht, _⟩ := R_open hR (by have := HL.out; omega)
  have HT := Aside0.mk ht
  have HH := Aside0.mk hh
  have HS := Aside0.mk hsz
  have HB1 := Aside0.mk hB
  clear ht hh hR hsz hB
  have h64c : 64 ≤ cap := by have := HL.out; omega
  have h64l : 64 ≤ l0.length := by have := HL.out; omega
  have hmax : cap ≤ 9223372036854775807 := hcap
  go_wp2_with fail
  refine wp_region_still_tail 5 (by kernel_rfl) (by kernel_rfl) ?_
  simp only [List.take_succ_cons, List.take_zero, List.drop_succ_cons, List.drop_zero]
  have k1 : ((60 : Int) ≤ (l0.length : Int)) = True := eq_true (by omega)
  have k2 : (cap = 60) = False := eq_false (by omega)
  have k3 : ((60 : Int) ≤ (c0 : Int)) = True := eq_true (by omega)
  have hsum : ∀ W : World, Kd.C B W A0 l0.length l0 → Calls Try.prog 62 #[.slice A0 60 c0] W fun e w' => e = .returned (.int .u32 s) ∧ w' = W := fun W hC => by
    have e60 : (l0.take 60).length = 60 := by rw [List.length_take]; have := HL.out; omega
    have h := Spin.sum_still A0 c0 (l0.take 60) s W (Kd.C_take hC (by omega)) (by omega) HS0.out
    rw [e60] at h
    exact h
  have HSUM := Aside0.mk hsum
  clear hsum
  still_step
  still_step
  still_step
  still_step
  still_call (HSUM.out _ (Kd.C_drew (Kd.C_below HR0.out HB1.out)))
  refine wpStill_nil ?_
  change wpList _ _ _ _ _ w1.drew
  have HH2 : Aside0 (w1.drew.heap[g]? = some (.cells cs 5 (0, 0))) := ⟨HH.out⟩
  go_wp2_with fail
  ((with_reducible refine (put_calls g 60 (l0.length - 60) (cap - 60) s cs hs0 hs1 (by have := HL.out; omega) (by have := HS.out; have := HL.out; omega) (by have := HS.out; omega) w1.drew HH2.out).mono ?_); rintro e w2 ⟨rfl, hwr⟩)
  have HWR := Aside0.mk hwr
  clear hwr
  go_wp2
  go_ret2
  have e1 : l0.length - 60 = 4 := by have := HL.out; omega
  have hw := HWR.out
  rw [e1] at hw
  exact ⟨_, rfl, R_wrote hg hn hcap HS.out HT.out trivial _ _ _ hw, (below_drew HB1.out).trans (hw.below hg)⟩

theorem seal_of_calls (A0 : Option Addr) (c0 : Nat) (l0 : List Int) (r1 : List Int) (r2 : Int) (w : World) (hr0 : Kd.C B w A0 l0.length l0) (hc0 : l0.length ≤ c0) (h : sealF l0 = some (r1, r2)) :
    Calls Try.prog 49 #[.slice A0 l0.length c0] w fun e w' => ∃ v0_ : Value, e = .returned (.tuple #[v0_, .int .i64 r2]) ∧ Kd.R B 5 w' w.heap.size (fun _ => True) v0_ r1 ∧ Below w.heap.size w w' := by
  unfold sealF at h
  split at h
  · rename_i h64
    obtain ⟨s, hs, h2⟩ := Option.bind_eq_some_iff.1 h
    obtain ⟨rfl, rfl⟩ := Prod.mk.inj (Option.some.inj h2)
    exact seal_yes A0 c0 l0 s h64 hs w hr0 hc0
  · rename_i hz
    obtain ⟨rfl, rfl⟩ := Prod.mk.inj (Option.some.inj h)
    exact (seal_no A0 c0 _ hz w).mono fun e w' ⟨he, hw⟩ => ⟨_, he, hw ▸ Kd.R_nil _ _ _ _ _, hw ▸ Below.refl _ _⟩

/-- The number that bytes are, the least one first. -/
def getI : List Int → Int
  | [] => 0
  | x :: r => x + 256 * getI r
theorem getI_snoc (l : List Int) (x : Int) : getI (l ++ [x]) = getI l + 256 ^ l.length * x := by
  induction l with
  | nil => simp [getI]
  | cons y r ih =>
    simp only [List.cons_append, getI, ih, List.length_cons, Int.pow_succ]
    rw [Int.mul_add, Int.mul_comm (256 ^ r.length) 256, Int.mul_assoc, Int.add_assoc]
theorem getI_range (l : List Int) (h : Spin.Bytes l) : 0 ≤ getI l ∧ getI l < 256 ^ l.length := by
  induction l with
  | nil => simp [getI]
  | cons y r ih =>
    have hy := h y (by simp)
    have hr := ih (fun x hx => h x (by simp [hx]))
    simp only [getI, List.length_cons, Int.pow_succ]
    omega
def getF (l : List Int) : Option Int := if Spin.Bytes l ∧ l.length ≤ 7 then some (getI l) else none

theorem wraps_i64 (n : Int) (h₀ : 0 ≤ n) (h₁ : n < 2 ^ 62) : IntKind.i64.wrap n = n := by
  rw [IntKind.wrap_i64]
  have : (2 : Int) ^ 62 = 4611686018427387904 := by decide
  omega

theorem or_step (n x : Int) (k : Nat) (hk : k ≤ 6) (hn0 : 0 ≤ n) (hn1 : n < 256 ^ k) (hx0 : 0 ≤ x) (hx1 : x < 256) : bits .or .i64 n (wrap64 (x * 2 ^ (8 * k))) = n + 256 ^ k * x := by
  obtain ⟨a, rfl⟩ := Int.eq_ofNat_of_zero_le hn0
  obtain ⟨b, rfl⟩ := Int.eq_ofNat_of_zero_le hx0
  have e256 : (256 : Nat) ^ k = 2 ^ (8 * k) := by rw [Nat.pow_mul]
  have ha : a < 2 ^ (8 * k) := by
    have h : ((a : Nat) : Int) < ((256 ^ k : Nat) : Int) := by simpa using hn1
    rw [e256] at h
    exact Int.ofNat_lt.1 h
  have hb : b < 2 ^ 8 := by omega
  have hp : 2 ^ (8 * k) ≤ 2 ^ 48 := Nat.pow_le_pow_right (by decide) (by omega)
  have hprod : b * 2 ^ (8 * k) < 2 ^ 56 := by
    have h1 : b * 2 ^ (8 * k) ≤ 255 * 2 ^ (8 * k) := Nat.mul_le_mul_right _ (by omega)
    have h2 : (2 : Nat) ^ 56 = 256 * 2 ^ 48 := by decide
    omega
  have ecast : ((b : Int) * 2 ^ (8 * k)) = ((b * 2 ^ (8 * k) : Nat) : Int) := by simp
  have ew : wrap64 (((b * 2 ^ (8 * k) : Nat) : Int)) = ((b * 2 ^ (8 * k) : Nat) : Int) := by
    have : (2 : Nat) ^ 56 = 72057594037927936 := by decide
    unfold wrap64
    omega
  have h62 : (2 : Nat) ^ 56 ≤ 2 ^ 62 := Nat.pow_le_pow_right (by decide) (by decide)
  have h48 : (2 : Nat) ^ 48 ≤ 2 ^ 62 := Nat.pow_le_pow_right (by decide) (by decide)
  rw [ecast, ew, (bits_nat .i64 62 (by decide) wraps_i64 a (b * 2 ^ (8 * k)) (by omega) (by omega)).2, Nat.or_comm, Nat.mul_comm b, ← Nat.two_pow_add_eq_or_of_lt ha b]
  have e2 : ((256 : Int) ^ k) = ((2 ^ (8 * k) : Nat) : Int) := by rw [← e256]; simp
  rw [e2]
  simp only [Int.natCast_add, Int.natCast_mul]
  omega

theorem get_still (A0 : Option Addr) (c0 : Nat) (l0 : List Int) (r : Int) (w : World) (hr0 : Kd.C B w A0 l0.length l0) (hc0 : l0.length ≤ c0) (h : getF l0 = some r) :
    Calls Try.prog 63 #[.slice A0 l0.length c0] w fun e w' => e = .returned (.int .i64 r) ∧ w' = w := by
  unfold getF at h
  split at h
  · rename_i g
    obtain ⟨hb, h7⟩ := g
    obtain rfl := Option.some.inj h
    clear h
    have HR0 := Aside0.mk hr0
    have HC0 := Aside0.mk hc0
    have HB := Aside0.mk hb
    clear hr0 hc0 hb
    go_enter Try.func63, Try.ntmps63
    go_wp2
    go_loop [3, 8] (fun n i => ∃ k : Nat, k ≤ l0.length ∧ i = .int .i64 k ∧ n = .int .i64 (getI (l0.take k))) (fun _ i => l0.length - (intOf i).toNat)
    case atStart => exact ⟨0, Nat.zero_le _, rfl, rfl⟩
    case round =>
      obtain ⟨k, hk, rfl, rfl⟩ := hrel
      by_cases hlt : k < l0.length
      · obtain ⟨ad, e, hx⟩ := Kd.at_int HR0.out (k : Int) (by omega) (by omega)
        cases e
        rw [Int.toNat_natCast] at hx
        obtain ⟨hc1, hc2⟩ := HB.out _ (Spin.rd_mem hlt)
        have hrng := getI_range (l0.take k) (fun x hx => HB.out x (List.mem_of_mem_take hx))
        rw [List.length_take, Nat.min_eq_left (by omega)] at hrng
        have hstep := or_step (getI (l0.take k)) (rd l0 k) k (by omega) hrng.1 hrng.2 hc1 hc2
        have hsn := getI_snoc (l0.take k) (rd l0 k)
        rw [← Spin.take_rd l0 k hlt, List.length_take, Nat.min_eq_left (by omega)] at hsn
        rw [← hsn] at hstep
        have HST := Aside0.mk hstep
        clear hstep hsn hrng
        go_wp2
        go_round
        case rel => exact ⟨k + 1, by omega, by go_num, by rw [HST.out]⟩
        case measure => simp [intOf]; omega
      · go_wp2
        go_ret
        exact ⟨by rw [List.take_of_length_le (by omega)]; rfl, rfl⟩
  · cases h

theorem get_of_calls (A0 : Option Addr) (c0 : Nat) (l0 : List Int) (r : Int) (w : World) (hr0 : Kd.C B w A0 l0.length l0) (hc0 : l0.length ≤ c0) (h : getF l0 = some r) :
    Calls Try.prog 63 #[.slice A0 l0.length c0] w fun e w' => e = .returned (.int .i64 r) ∧ Drawn0 w w' :=
  (get_still A0 c0 l0 r w hr0 hc0 h).mono fun _ _ ⟨he, hw⟩ => ⟨he, hw ▸ Drawn0.refl _⟩

/-- What Sealed tells. -/
def sealedF (l : List Int) : Option Bool :=
  if l.length = 64 then (getF (l.drop 60)).bind fun a => (Spin.sumF (l.take 60)).bind fun b => some (a == b) else some false

set_option maxHeartbeats 1000000 in
set_option maxRecDepth 100000 in
theorem sealed_calls (A0 : Option Addr) (c0 : Nat) (l0 : List Int) (r : Bool) (w : World) (hr0 : Kd.C B w A0 l0.length l0) (hc0 : l0.length ≤ c0) (h : sealedF l0 = some r) :
    Calls Try.prog 51 #[.slice A0 l0.length c0] w fun e w' => e = .returned (.bool r) ∧ Drawn0 w w' := by
  unfold sealedF at h
  split at h
  · rename_i h64
    obtain ⟨x, hx, h2⟩ := Option.bind_eq_some_iff.1 h
    obtain ⟨y, hy, h3⟩ := Option.bind_eq_some_iff.1 h2
    obtain rfl := Option.some.inj h3
    clear h h2 h3
    obtain ⟨hy0, hy1⟩ := sum_range hy
    obtain ⟨ad, rfl⟩ : ∃ ad, A0 = some ad := by
      obtain ⟨ad, h, _⟩ := hr0.2.2 (by omega)
      exact ⟨ad, h⟩
    have EW := Aside0.mk (show IntKind.i64.wrap y = y by rw [IntKind.wrap_i64]; omega)
    have HX := Aside0.mk hx
    have HY := Aside0.mk hy
    have HR0 := Aside0.mk hr0
    have HC0 := Aside0.mk hc0
    have HL := Aside0.mk h64
    have hcc : 64 ≤ c0 := by omega
    have hll : 60 ≤ l0.length := by omega
    have d5 : ((l0.length : Int) == 64) = true := by rw [h64]; rfl
    have k2 : (c0 = 60) = False := eq_false (by omega)
    have k3 : ((60 : Int) ≤ (c0 : Int)) = True := eq_true (by omega)
    have k4 : ((60 : Int) ≤ (l0.length : Int)) = True := eq_true (by omega)
    have hsum : ∀ W : World, Kd.C B W (some ad) l0.length l0 → Calls Try.prog 62 #[.slice (some ad) 60 c0] W fun e w' => e = .returned (.int .u32 y) ∧ w' = W := fun W hC => by
      have e60 : (l0.take 60).length = 60 := by rw [List.length_take]; omega
      have h := Spin.sum_still (some ad) c0 (l0.take 60) y W (Kd.C_take hC (by omega)) (by omega) hy
      rw [e60] at h
      exact h
    have hget : ∀ W : World, Kd.C B W (some ad) l0.length l0 → Calls Try.prog 63 #[.slice (some (ad.add 60)) (l0.length - 60) (c0 - 60)] W fun e w' => e = .returned (.int .i64 x) ∧ w' = W := fun W hC => by
      have hd := Kd.C_drop (c := c0) (m := 60) hC (by omega) (by omega)
      rw [if_neg (by omega)] at hd
      have hd2 : Kd.C B W (some (ad.add 60)) (l0.drop 60).length (l0.drop 60) := hd
      have h := get_still (some (ad.add 60)) (c0 - 60) (l0.drop 60) x W hd2 (by rw [List.length_drop]; omega) hx
      rw [List.length_drop] at h
      exact h
    have HSUM := Aside0.mk hsum
    have HGET := Aside0.mk hget
    clear hr0 hc0 h64 hx hy hsum hget
    go_enter Try.func51, Try.ntmps51
    go_wp2_with fail
    refine wp_region_still_lit (by kernel_rfl) (by kernel_rfl) ?_
    still_step
    still_step
    still_step
    still_step
    still_step
    still_step
    still_call (HGET.out _ (Kd.C_drew HR0.out))
    still_step
    still_step
    still_call (HSUM.out _ (Kd.C_drew HR0.out))
    iterate 4 still_step
    refine wpStill_nil ?_
    go_wp2
    go_ret
    exact ⟨by show Ending.returned (.bool (x == IntKind.i64.wrap y)) = _; rw [EW.out], ⟨1, rfl⟩⟩
  · rename_i h64
    obtain rfl := Option.some.inj h
    have d5 : ((l0.length : Int) == 64) = false := by simp; omega
    clear hr0 h h64
    go_enter Try.func51, Try.ntmps51
    go_wp2
    go_quiet (fail)
    go_wp2
    go_ret
    exact ⟨rfl, ⟨_, rfl⟩⟩
end Go.Proofs.Ytcihfmehbmficaa.Field

/- Walks of the references' layers 3 and 4. -/
namespace Go.Proofs.Ytcihfmehbmficaa.Ref
open Go Go.RowKit Go.Proofs.YtcihfmehbmficaaW.PrintWords Go.Proofs.YtcihfmehbmficaaW.PrintLast Go.Proofs.YtcihfmehbmficaaW.PrintMore Go.Proofs.Ytcihfmehbmficaa.Field Go.Proofs.Ytcihfmehbmficaa.Spin
set_option linter.unusedVariables false
set_option linter.unusedSimpArgs false

theorem round_a (x y c : Int) (hx0 : 0 ≤ x) (hx1 : x < 65521) (hy0 : 0 ≤ y) (hy1 : y < 65521) (hc0 : 0 ≤ c) (hc1 : c < 256) :
    ((2 * x - y + c).tmod 65521 + 65521) % 65521 = (x * 2 - y + c) % 65521 := by
  obtain ⟨h1, h2, h3, h4⟩ := tmod_facts (2 * x - y + c)
  generalize (2 * x - y + c).tmod 65521 = r at *
  by_cases h : r < 0
  · have := h1 h
    omega
  · have := h2 (by omega)
    omega

theorem more_still (s : Int) (A1 : Option Addr) (c1 : Nat) (l : List Int) (r : Int) (w : World) (hr : Kd.C (Kd.int .u8) w A1 l.length l) (hc : l.length ≤ c1) (h : moreF s l = some r) :
    Calls Try.prog 60 #[.int .u32 s, .slice A1 l.length c1] w fun e w' => e = .returned (.int .u32 r) ∧ w' = w := by
  obtain ⟨hs0, hs1, hb, hlen, hr'⟩ := moreF_some h
  subst hr'
  have HR := Aside0.mk hr
  have HC := Aside0.mk hc
  have HB := Aside0.mk hb
  clear h hr hc hb
  go_enter Try.func60, Try.ntmps60
  go_wp2
  go_loop [5, 6, 7] (fun a b i => ∃ k : Nat, k ≤ l.length ∧ i = .int .i64 k ∧ a = .int .i64 (runI (startI s) (l.take k)).1 ∧ b = .int .i64 (runI (startI s) (l.take k)).2) (fun _ _ i => l.length - (intOf i).toNat)
  case atStart => exact ⟨0, Nat.zero_le _, rfl, rfl, rfl⟩
  case round =>
    obtain ⟨k, hk, rfl, rfl, rfl⟩ := hrel
    have hok := Ok_run (Ok_start s) (l.take k)
    by_cases hlt : k < l.length
    · have hrun := run_snoc (startI s) (l.take k) (rd l k)
      rw [← take_rd l k hlt] at hrun
      have HRUN := Aside0.mk hrun
      clear hrun
      obtain ⟨ad, e, hx⟩ := Kd.at_int HR.out (k : Int) (by omega) (by omega)
      cases e
      rw [Int.toNat_natCast] at hx
      obtain ⟨hc0, hc1⟩ := HB.out _ (rd_mem hlt)
      generalize runI (startI s) (l.take k) = z at *
      obtain ⟨x, y⟩ := z
      obtain ⟨h1, h2, h3, h4⟩ := hok
      simp only at h1 h2 h3 h4 ⊢
      go_wp2
      go_round
      case rel =>
        have e1 : ((wrap64 ((2 * x - y + rd l k).tmod 65521 + 65521)).tmod 65521) = (x * 2 - y + rd l k) % 65521 := by
          rw [← round_a x y _ h1 h2 h3 h4 hc0 hc1]
          obtain ⟨_, _, g3, g4⟩ := tmod_facts (2 * x - y + rd l k)
          generalize (2 * x - y + rd l k).tmod 65521 = r at *
          have e7 : wrap64 (r + 65521) = r + 65521 := by unfold wrap64; omega
          rw [e7, Int.tmod_eq_emod_of_nonneg (by omega)]
        have e2 : (x + 2 * y) % 65521 = (x + y * 2) % 65521 := by rw [Int.mul_comm]
        exact ⟨k + 1, by omega, by go_num, by rw [HRUN.out, e1]; rfl, by rw [HRUN.out, e2]; rfl⟩
      case measure => simp [intOf]; omega
    · obtain ⟨h1, h2, h3, h4⟩ := hok
      go_wp2
      go_ret
      rw [List.take_of_length_le (by omega)] at h1 h2 h3 h4 ⊢
      exact ⟨rfl, rfl⟩

theorem sum_still (A1 : Option Addr) (c1 : Nat) (l : List Int) (r : Int) (w : World) (hr : Kd.C (Kd.int .u8) w A1 l.length l) (hc : l.length ≤ c1) (h : sumF l = some r) :
    Calls Try.prog 45 #[.slice A1 l.length c1] w fun e w' => e = .returned (.int .u32 r) ∧ w' = w := by
  have HR := Aside0.mk hr
  have HC := Aside0.mk hc
  have H := Aside0.mk (show moreF 65536 l = some r from h)
  clear h hr hc
  go_enter Try.func45, Try.ntmps45
  go_wp2_with fail
  ((with_reducible refine (more_still _ _ _ _ r _ HR.out HC.out H.out).mono ?_); rintro e w' ⟨rfl, rfl⟩)
  go_wp2
  go_ret
  exact ⟨rfl, rfl⟩

/-- A number's bytes, the least one first. -/
def leB (n : Int) : Nat → List Int
  | 0 => []
  | k + 1 => leB n k ++ [n / 2 ^ (8 * k) % 256]
theorem leB_length (n : Int) : ∀ k, (leB n k).length = k
  | 0 => rfl
  | k + 1 => by rw [leB, List.length_append, leB_length n k]; rfl

/-- What the reference's Put gives. -/
def putAF (l : List Int) (n size : Int) : Option (List Int) := if 0 ≤ n ∧ n < 9223372036854775808 ∧ size ≤ 8 ∧ l.length ≤ 140737488351232 then some (l ++ leB n size.toNat) else none

theorem put_calls (P0_ : Nat → Prop) (u9000_ : Value) (l0 : List Int) (a1 : Int) (a2 : Int) (r : List Int) (w0 w : World) (hB : Below w0.heap.size w0 w) (ho0 : Kd.R (Kd.int .u8) 5 w w0.heap.size P0_ u9000_ l0) (h : putAF l0 a1 a2 = some r) :
    Calls Try.prog 33 #[u9000_, .int .i64 a1, .int .i64 a2] w fun e w' => ∃ v0_ : Value, e = .returned (v0_) ∧ Kd.R (Kd.int .u8) 5 w' w0.heap.size (fun k_ => (P0_ k_ ∨ w.heap.size ≤ k_)) v0_ r ∧ Below w0.heap.size w0 w' ∧ Kept w w' (fun k_ => P0_ k_) := by
  unfold putAF at h
  split at h
  · rename_i g
    obtain ⟨hn0, hn1, hs8, hlen⟩ := g
    obtain rfl := Option.some.inj h
    clear h
    have HO := Aside0.mk (show Kd.R (Kd.int .u8) 5 w w0.heap.size (fun k_ => (P0_ k_ ∨ w.heap.size ≤ k_)) u9000_ l0 from Kd.R_mono ho0 (fun k_ hk => (.inl hk)))
    have HK := Aside0.mk (Kept.refl w (fun k_ => P0_ k_))
    have HB := Aside0.mk hB
    clear hB ho0
    go_enter Try.func33, Try.ntmps33
    go_wp2
    go_loopw [0, 7] (fun v i wr => ∃ k : Nat, k ≤ a2.toNat ∧ i = .int .i64 k ∧ Aside0 (Kd.R (Kd.int .u8) 5 wr w0.heap.size (fun k_ => (P0_ k_ ∨ w.heap.size ≤ k_)) v (l0 ++ leB a1 k)) ∧ Aside0 (Kept w wr (fun k_ => P0_ k_)) ∧ Aside0 (Below w0.heap.size w0 wr)) (fun _ i _ => a2.toNat - (intOf i).toNat)
    case atStart => exact ⟨0, Nat.zero_le _, rfl, ⟨by rw [leB, List.append_nil]; exact HO.out⟩, HK, HB⟩
    case round =>
      clear HO HK HB
      obtain ⟨k, hk, rfl, HO, HK, HB⟩ := hrel
      by_cases hlt : (k : Int) < a2
      · have hk8 : k ≤ 7 := by omega
        have HL := Aside0.mk (show (l0 ++ leB a1 k).length ≤ 140737488351240 by rw [List.length_append, leB_length]; omega)
        go_wp2_with (first | ((with_reducible refine gate_builtin (b := .append) (xs := #[.tmp 13, .tmp 21]) rfl ?_); at_builtin; refine Kd.R_append (Kd.int .u8) (w0 := w0) w0.heap.size rfl (.tmp 13) (.tmp 21) 23 5 (.int .u8 0) 1 rfl Try.underlying23 infob rfl (by decide) (by omega) u0 (l0 ++ leB a1 k) (a1 / 2 ^ (8 * k) % 256) [.int .u8 (a1 / 2 ^ (8 * k) % 256)] (fun k_ => (P0_ k_ ∨ w.heap.size ≤ k_)) (fun _ => False) rfl rfl ?aP (fun _ hk => hk.elim) ?aF ?aO ?aB ?aS ?aL ?_; (case aP => exact rfl); (case aB => exact HB.out); (case aF => exact (fun k_ hk => (.inr (Nat.le_trans HK.out.1 hk)))); (case aO => exact HO.out); (case aS => exact HB.out.size); (case aL => have := HL.out; omega); intro v1 w1 ho hb hg hat; have HO1 := Aside0.mk ho; have HB1 := Aside0.mk hb; have HK1 := Aside0.mk (Kept.of_grown (S := (fun k_ => P0_ k_)) hg HK.out (fun k_ e_ => (HO.out.1 k_ e_))); clear ho hb hg hat))
        go_roundw
        case rel => exact ⟨k + 1, by omega, by go_num, ⟨by rw [leB, ← List.append_assoc]; exact HO1.out⟩, HK1, HB1⟩
        case measure => simp [intOf]; omega
      · go_wp2
        go_ret
        have e : k = a2.toNat := by omega
        subst e
        exact ⟨_, rfl, HO.out, HB.out, HK.out⟩
  · cases h

/-- Up to 60 bytes. -/
def pad60 (l : List Int) : List Int := (l ++ List.replicate (60 - l.length) 0).take 60
theorem pad60_length (l : List Int) : (pad60 l).length = 60 := by
  unfold pad60
  rw [List.length_take, List.length_append, List.length_replicate]
  omega

/-- What the reference's Seal gives. -/
def sealAF (l : List Int) : Option (List Int) := if l.length ≤ 140737488351232 then (sumF (pad60 l)).bind fun s => some (pad60 l ++ leB s 4) else none

set_option maxRecDepth 100000 in
theorem seal_calls (A0 : Option Addr) (c0 : Nat) (l0 : List Int) (r : List Int) (w : World) (hr0 : Kd.C B w A0 l0.length l0) (hc0 : l0.length ≤ c0) (h : sealAF l0 = some r) :
    Calls Try.prog 34 #[.slice A0 l0.length c0] w fun e w' => ∃ v0_ : Value, e = .returned (v0_) ∧ Kd.R B 5 w' w.heap.size (fun _ => True) v0_ r ∧ Below w.heap.size w w' := by
  unfold sealAF at h
  split at h
  · rename_i hlen
    obtain ⟨s, hs, h2⟩ := Option.bind_eq_some_iff.1 h
    obtain rfl := Option.some.inj h2
    clear h h2
    obtain ⟨hs0, hs1⟩ := sum_range hs
    have HS0 := Aside0.mk hs
    have HR0 := Aside0.mk hr0
    have HC0 := Aside0.mk hc0
    have HL := Aside0.mk hlen
    clear hs hr0 hc0 hlen
    go_enter Try.func34, Try.ntmps34
    go_wp2_with (first | ((with_reducible refine gate_dst (N := 4) rfl ?_); (try (refine gate_guard (by rfl) ?_; dsimp only)); refine Kd.R_lit B _ 5 ?hg (N := 4) ?hd (xs := ([] : List Int)) (inner := []) (ok := fun _ => True) (okp := fun _ => True) ?hr ?hp (fun _ hk => hk) trivial (Below.refl _ _) (Nat.le_refl _) (by simp) ?_; (case hd => rfl); (case hg => rfl); (case hr => first | (go_simp; done) | (go_simp; rfl)); (case hp => exact (Reps.none _ _)); intro v1 w1 ho1 hb1 hg1 hn1; clear hg1 hn1; have HO := Aside0.mk ho1; have HB := Aside0.mk hb1; clear ho1 hb1) | ((with_reducible refine gate_builtin (b := .append) (xs := #[.tmp 4, .tmp 5]) rfl ?_); (try (refine gate_guard (by rfl) ?_; dsimp only)); at_builtin; refine Kd.R_append_rows B (w0 := w) w.heap.size rfl (.tmp 4) (.tmp 5) 23 5 (.int .u8 0) 1 rfl Try.underlying23 infob rfl (by decide) (by omega) v1 [] l0 _ _ _ (fun _ => True) (fun _ => False) rfl rfl HO.out (Kd.C_below HR0.out HB.out) (fun _ _ h => h) (fun _ h => h.elim) (fun _ _ => trivial) HB.out (below_size HB.out) ?aL ?_; (case aL => have := HL.out; simp only [List.length_nil]; omega); intro v2 w2 ho hb hg hat; rw [List.nil_append] at ho; have HO2 := Aside0.mk ho; have HB2 := Aside0.mk hb; clear HO HB; clear ho hb hg hat))
    go_loopg [3] (60 - l0.length) (fun kq v w' => ∃ j : Nat, Aside0 (kq + j = 60 - l0.length) ∧ Aside0 (Kd.R B 5 w' w.heap.size (fun _ => True) v (l0 ++ List.replicate j 0)) ∧ Aside0 (Below w.heap.size w w'))
    case atStart => exact ⟨0, ⟨by omega⟩, ⟨by rw [List.replicate_zero, List.append_nil]; exact HO2.out⟩, HB2⟩
    case round =>
      clear HO2 HB2
      obtain ⟨j, HJ, HO, HB⟩ := hrel
      obtain ⟨q, hq⟩ : ∃ q : List Int, q = l0 ++ List.replicate j 0 := ⟨_, rfl⟩
      rw [← hq] at HO
      have hlen : q.length = l0.length + j := by rw [hq, List.length_append, List.length_replicate]
      have HQ := Aside0.mk hq
      have HLEN := Aside0.mk hlen
      obtain ⟨A3, c3, e3⟩ := Kd.R_slice HO.out
      subst e3
      clear hq
      by_cases hlt : q.length < 60
      · have hd : decide ((q.length : Int) < 60) = true := by simp; omega
        have hd2 : decide (q.length < 60) = true := by simp; omega
        clear hlen
        go_wp2_with (first | ((with_reducible refine gate_builtin (b := .append) (xs := #[.tmp 10, .tmp 11]) rfl ?_); at_builtin; go_must (refine Kd.R_append B (w0 := w) w.heap.size rfl (.tmp 10) (.tmp 11) 23 5 (.int .u8 0) 1 rfl Try.underlying23 infob rfl (by decide) (by omega) (.slice A3 q.length c3) q 0 [.int .u8 0] (fun _ => True) (fun _ => False) rfl rfl ?aP (fun _ hk => hk.elim) (fun _ _ => trivial) HO.out HB.out (below_size HB.out) ?aL ?_); (case aP => exact rfl); (case aL => omega); intro v1 w1 ho hb hg hat; have HO1 := Aside0.mk ho; have HB1 := Aside0.mk hb; clear ho hb hg hat))
        go_roundg (gk - 1)
        case measure => have := HJ.out; have := HLEN.out; omega
        case rel => exact ⟨j + 1, ⟨by have := HJ.out; have := HLEN.out; omega⟩, ⟨by rw [List.replicate_succ', ← List.append_assoc, ← HQ.out]; exact HO1.out⟩, HB1⟩
      · have hd2 : decide (q.length < 60) = false := by simp; omega
        have hd : decide ((q.length : Int) < 60) = false := by simp; omega
        obtain ⟨g, cap, ev, gb, gl, cl, HG⟩ := Kd.R_form HO.out (by omega)
        injection ev with e1 e2 e3
        subst e1 e3
        clear e2 HG
        have hcap : q.length ≤ c3 := (Kd.R_reads' HO.out).2.1
        have k1 : ((60 : Int) ≤ (c3 : Int)) = True := eq_true (by omega)
        have HT := Kd.R_take (m := 60) HO.out (by omega)
        have e60 : q.take 60 = pad60 l0 := by
          have h1 := HJ.out
          have h2 := HQ.out
          rw [h2]
          unfold pad60
          by_cases hj : j = 60 - l0.length
          · rw [hj]
          · rw [List.take_append_of_le_length (by omega), List.take_append_of_le_length (by omega)]
        rw [e60] at HT
        have HT2 := Aside0.mk HT
        have HTC : Aside0 (Kd.C B wr (some ⟨g, 0, none⟩) 60 (pad60 l0)) := ⟨by have := (Kd.R_reads' HT).2.2; rwa [pad60_length] at this⟩
        have hsum : ∀ W : World, Kd.C B W (some ⟨g, 0, none⟩) 60 (pad60 l0) → Calls Try.prog 45 #[.slice (some ⟨g, 0, none⟩) 60 c3] W fun e w' => e = .returned (.int .u32 s) ∧ w' = W := fun W hC => by
          have h := sum_still (some ⟨g, 0, none⟩) c3 (pad60 l0) s W (by rw [pad60_length]; exact hC) (by rw [pad60_length]; omega) HS0.out
          rw [pad60_length] at h
          exact h
        have HSUM := Aside0.mk hsum
        clear HT e60 hsum HLEN HJ hlen
        go_wp2_with fail
        refine wp_region_still_tail 6 (by kernel_rfl) (by kernel_rfl) ?_
        simp only [List.take_succ_cons, List.take_zero, List.drop_succ_cons, List.drop_zero]
        still_step
        still_step
        still_step
        still_step
        still_call (HSUM.out _ (Kd.C_drew HTC.out))
        still_step
        refine wpStill_nil ?_
        change wpList _ _ _ _ _ wr.drew
        have HBd : Aside0 (Below w.heap.size w wr.drew) := ⟨below_drew HB.out⟩
        have HTd : Aside0 (Kd.R B 5 wr.drew w.heap.size (fun _ => True) (.slice (some ⟨g, 0, none⟩) 60 c3) (pad60 l0)) := ⟨Kd.R_drew HT2.out⟩
        go_wp2_with fail
        ((with_reducible refine (put_calls (fun _ => True) _ (pad60 l0) s 4 _ w _ HBd.out HTd.out (by unfold putAF; rw [if_pos ⟨hs0, by omega, by omega, by rw [pad60_length]; omega⟩])).mono ?_); rintro e w3 ⟨v3, rfl, hr3, hb3, hk3⟩)
        have HR3 := Aside0.mk hr3
        have HB3 := Aside0.mk hb3
        clear hr3 hb3 hk3
        go_wp2
        go_ret
        exact ⟨_, rfl, Kd.R_mono HR3.out (fun _ _ => trivial), HB3.out⟩
  · cases h

end Go.Proofs.Ytcihfmehbmficaa.Ref

/- Walks of field.Text and of the reference's Text. -/
namespace Go.Proofs.Ytcihfmehbmficaa.Text
open Go Go.RowKit Go.Proofs.YtcihfmehbmficaaW.PrintWords Go.Proofs.YtcihfmehbmficaaW.PrintLast Go.Proofs.YtcihfmehbmficaaW.PrintMore Go.Proofs.Ytcihfmehbmficaa.Field Go.Proofs.Ytcihfmehbmficaa.Spin
set_option linter.unusedVariables false
set_option linter.unusedSimpArgs false

/-- copy of a text into a row. -/
theorem run_copy_str {P : Program} (w : World) (dT sT ty elem : TypeId) (g o dLen dCap : Nat) (s : ByteArray) (cur : Array Value) (t : TypeId)
    (hu : P.underlying dT = some (.slice elem)) (hs : (P.info? elem).map (·.size) = some 1)
    (hg : w.heap[g]? = some (.cells cur t (0, 0))) (hn : s.size ≤ dLen) (hfit : o + s.size ≤ cur.size) :
    (Builtin.copy_ #[dT, sT] ty #[.slice (some ⟨g, o, none⟩) dLen dCap, .string s]).run P w =
      .ok (goInt s.size) (w.setRow g (cur.toList.take o ++ Lib.strCells s ++ cur.toList.drop (o + s.size)).toArray) := by
  have hst := run_storeCells_at P g o t (Lib.strCells s) 0 cur w hg (by simpa [Lib.strCells_length] using hfit) (Lib.strCells_oneCell s)
  simp only [Nat.add_zero, Lib.strCells_length] at hst
  have hf := Lib.run_firstCells_string (P := P) w 1 s
  have hmin : Nat.min s.size dLen = s.size := Nat.min_eq_left hn
  cases hq : P.info? elem with
  | none => simp [hq] at hs
  | some i =>
    have hi : i.size = 1 := by simpa [hq] using hs
    simp [Builtin.copy_, run_underlying hu, Builtin.lenOf, sizeOf, typeInfo, hq, hi, hmin, hf, hst]

theorem Wrote.setRow {g : Nat} {cs : Array Value} {w w' : World} (h : Wrote g cs w w') (cs' : Array Value) : Wrote g cs' w (w'.setRow g cs') :=
  ⟨setRow_heap w' g cs cs' _ _ h.blk, by simp only [World.setRow, Array.size_modify]; exact h.size, fun j hj => (by rw [← h.far j hj]; exact setRow_other w' g j cs' hj), h.os, h.tape, h.output⟩

/-- A block with a text at a place. -/
def textL (l : List Int) (o : Nat) (s : ByteArray) : List Int := l.take o ++ bytesOf s ++ l.drop (o + s.size)
theorem textL_length (l : List Int) (o : Nat) (s : ByteArray) (h : o + s.size ≤ l.length) : (textL l o s).length = l.length := by
  unfold textL
  rw [List.length_append, List.length_append, List.length_take, List.length_drop, bytesOf_length]
  omega

theorem str_nums (s : ByteArray) : nums .u8 (bytesOf s) = Lib.strCells s := by simp [nums, bytesOf, Lib.strCells]

end Go.Proofs.Ytcihfmehbmficaa.Text

/- The library's search for one byte in a string, and what stands on it. -/
namespace Go.Proofs.Ytcihfmehbmficaa.Index
open Go Go.RowKit Go.Lib Go.Proofs.YtcihfmehbmficaaW.PrintWords
set_option linter.unusedVariables false

end Go.Proofs.Ytcihfmehbmficaa.Index

/- Walks of field.NewPage, (*field.Page).Set, .Seal. -/
namespace Go.Proofs.Ytcihfmehbmficaa.Page
open Go Go.RowKit Go.Proofs.YtcihfmehbmficaaW.PrintWords Go.Proofs.YtcihfmehbmficaaW.PrintLast Go.Proofs.YtcihfmehbmficaaW.PrintMore Go.Proofs.Ytcihfmehbmficaa.Field Go.Proofs.Ytcihfmehbmficaa.Text Go.Proofs.Ytcihfmehbmficaa.Spin
set_option linter.unusedVariables false
set_option linter.unusedSimpArgs false

/-- A page: its struct at block p, its bytes at block g. -/
structure Pg (w : World) (p g : Nat) (l : List Int) : Prop where
  at_p : w.heap[p]? = some (.cells #[.slice (some ⟨g, 0, none⟩) 64 64] 100 (0, 0))
  at_g : w.heap[g]? = some (.cells (nums .u8 l).toArray 5 (0, 0))
  len : l.length = 64
theorem Pg.ne {w : World} {p g : Nat} {l : List Int} (h : Pg w p g l) : p ≠ g := by
  intro e
  have h1 := h.at_p
  rw [e, h.at_g] at h1
  simp only [Option.some.injEq, Obj.cells.injEq] at h1
  exact absurd h1.2.1 (by decide)
theorem Pg.lt {w : World} {p g : Nat} {l : List Int} (h : Pg w p g l) : p < w.heap.size ∧ g < w.heap.size :=
  ⟨(Array.getElem?_eq_some_iff.1 h.at_p).1, (Array.getElem?_eq_some_iff.1 h.at_g).1⟩
theorem Pg.wrote {w w' : World} {p g : Nat} {l l' : List Int} (h : Pg w p g l) (hl : l'.length = l.length) (hw : Wrote g (nums .u8 l').toArray w w') : Pg w' p g l' :=
  ⟨(hw.far p h.ne).trans h.at_p, hw.blk, hl.trans h.len⟩
theorem Pg.below {w w' : World} {p g B : Nat} {l : List Int} (h : Pg w p g l) (hb : Below B w w') (hp : p < B) (hg : g < B) : Pg w' p g l :=
  ⟨(hb.block p hp).trans h.at_p, (hb.block g hg).trans h.at_g, h.len⟩
/-- A row of numbers at a block. -/
def Ns (w : World) (s : Nat) (xs : List Int) : Prop := w.heap[s]? = some (.cells (nums .i64 xs).toArray 3 (0, 0))
theorem Ns.lt {w : World} {s : Nat} {xs : List Int} (h : Ns w s xs) : s < w.heap.size := (Array.getElem?_eq_some_iff.1 h).1
theorem Ns.ne {w : World} {s p g : Nat} {xs l : List Int} (h : Ns w s xs) (hp : Pg w p g l) : s ≠ g := by
  intro e
  have h1 : w.heap[s]? = _ := h
  rw [e, hp.at_g] at h1
  simp only [Option.some.injEq, Obj.cells.injEq] at h1
  exact absurd h1.2.1 (by decide)
theorem Ns.wrote {w w' : World} {s g : Nat} {xs : List Int} {cs : Array Value} (h : Ns w s xs) (hn : s ≠ g) (hw : Wrote g cs w w') : Ns w' s xs := (hw.far s hn).trans h
theorem Ns.below {w w' : World} {s B : Nat} {xs : List Int} (h : Ns w s xs) (hb : Below B w w') (hs : s < B) : Ns w' s xs := (hb.block s hs).trans h

theorem wsmall {n : Int} (h0 : 0 ≤ n) (h1 : n < 9223372036854775808) : wrap64 n = n := by unfold wrap64; omega
theorem set_facts (o q m : Nat) (h : o + q + m ≤ 64) : wrap64 (q : Int) = (q : Int) ∧ wrap64 ((o : Int) + (q : Int)) = (o : Int) + (q : Int) ∧ wrap64 ((o : Int) + (q : Int) + (m : Int)) = (o : Int) + (q : Int) + (m : Int)
    ∧ (0 ≤ (o : Int) + (q : Int) + (m : Int)) = True ∧ ((o : Int) + (q : Int) + (m : Int) ≤ 64) = True ∧ (0 ≤ (o : Int) + (q : Int)) = True ∧ (((o : Int) + (q : Int)) ≤ (o : Int) + (q : Int) + (m : Int)) = True
    ∧ ((o : Int) + (q : Int)).toNat = o + q ∧ ((o : Int) + (q : Int) + (m : Int)).toNat = o + q + m :=
  ⟨wsmall (by omega) (by omega), wsmall (by omega) (by omega), wsmall (by omega) (by omega), eq_true (by omega), eq_true (by omega), eq_true (by omega), eq_true (by omega), by omega, by omega⟩
theorem nums_length (k : IntKind) (l : List Int) : (nums k l).length = l.length := by simp [nums]
theorem putC_nums (l : List Int) (o : Nat) (n : Int) (m : Nat) : putC (nums .u8 l).toArray o n m = (nums .u8 (putL l o n m)).toArray := by
  have h := putC_take (nums .u8 l).toArray l o l.length n (by rw [← nums_length .u8 l]; exact List.take_length) m
  have hs : (putC (nums .u8 l).toArray o n m).toList.length = l.length := by
    rw [Array.length_toList, putC_size, List.size_toArray, nums_length]
  rw [← hs, List.take_length] at h
  rw [← h, Array.toArray_toList]

/-- k numbers, one behind the other, each of m bytes. -/
def setsK (l : List Int) (o m : Nat) (xs : List Int) : Nat → List Int
  | 0 => l
  | k + 1 => putL (setsK l o m xs k) (o + k * m) (xs.getD k 0) m
def setsL (l : List Int) (o m : Nat) (xs : List Int) : List Int := setsK l o m xs xs.length
theorem setsK_length (l : List Int) (o m : Nat) (xs : List Int) : ∀ k, (setsK l o m xs k).length = l.length
  | 0 => rfl
  | k + 1 => by rw [setsK, putL_length, setsK_length l o m xs k]
theorem setsL_length (l : List Int) (o m : Nat) (xs : List Int) : (setsL l o m xs).length = l.length := setsK_length _ _ _ _ _

theorem mk64 (w : World) : (Instr.makeSlice 23 (.int .i64 64) (.int .i64 64)).run Try.prog w = .ok (.slice (some ⟨w.heap.size, 0, none⟩) 64 64) (w.alloc (.cells (Array.replicate 64 (.int .u8 0)) 5)) := by kernel_rfl

theorem newPage_calls (s : ByteArray) (hs : s.size ≤ 64) (w : World) :
    Calls Try.prog 36 #[.string s] w fun e w' => ∃ p g, e = .returned (.pointer (some ⟨p, 0, none⟩)) ∧ w.heap.size ≤ p ∧ w.heap.size ≤ g ∧ Pg w' p g (textL (List.replicate 64 0) 0 s) ∧ Below w.heap.size w w' := by
  have hmk := mk64 w
  generalize hZ : Array.replicate 64 (Value.int .u8 0) = Z at hmk
  have hr : Z.toList = nums .u8 (List.replicate 64 0) := by subst hZ; rw [Array.toList_replicate]; rfl
  have hzs : Z.size = 64 := by subst hZ; rfl
  clear hZ
  have h1 : ((w.alloc (.cells Z 5)).alloc (.cells #[.slice (some ⟨w.heap.size, 0, none⟩) 64 64] 100)).heap[w.heap.size]? = some (.cells Z 5 (0, 0)) := by
    rw [Below.heap_alloc _ _ _ (by simp [-World.alloc_eq, World.alloc])]
    simp [-World.alloc_eq, World.alloc]
  have h2 : ((w.alloc (.cells Z 5)).alloc (.cells #[.slice (some ⟨w.heap.size, 0, none⟩) 64 64] 100)).heap[w.heap.size + 1]? = some (.cells #[.slice (some ⟨w.heap.size, 0, none⟩) 64 64] 100 (0, 0)) := by
    have e : (w.alloc (.cells Z 5)).heap.size = w.heap.size + 1 := Array.size_push _
    rw [← e]
    exact Array.getElem?_push_size
  have hcopy : (Builtin.copy_ #[23, 9] 3 #[.slice (some ⟨w.heap.size, 0, none⟩) 64 64, .string s]).run Try.prog _ = .ok (.int .i64 s.size) _ :=
    run_copy_str ((w.alloc (.cells Z 5)).alloc (.cells #[.slice (some ⟨w.heap.size, 0, none⟩) 64 64] 100)) _ _ _ 5 w.heap.size 0 64 64 s _ 5 Try.underlying23 (by kernel_rfl) h1 hs (by omega)
  have HW := Aside0.mk (Wrote.setRow (Wrote.refl h1) (Z.toList.take 0 ++ Lib.strCells s ++ Z.toList.drop (0 + s.size)).toArray)
  have hcs : Z.toList.take 0 ++ Lib.strCells s ++ Z.toList.drop (0 + s.size) = nums .u8 (textL (List.replicate 64 0) 0 s) := by
    rw [hr, ← str_nums, textL]
    simp only [nums, List.map_append, List.map_take, List.map_drop]
  rw [hcs] at hcopy HW
  clear hcs
  generalize hW2 : ((w.alloc (.cells Z 5)).alloc (.cells #[.slice (some ⟨w.heap.size, 0, none⟩) 64 64] 100)).setRow w.heap.size (nums .u8 (textL (List.replicate 64 0) 0 s)).toArray = w2 at hcopy HW
  have HP := Aside0.mk h2
  have hB0 : Below w.heap.size w ((w.alloc (.cells Z 5)).alloc (.cells #[.slice (some ⟨w.heap.size, 0, none⟩) 64 64] 100)) := ((Below.refl _ _).alloc (Nat.le_refl _) _).alloc (by simp [-World.alloc_eq, World.alloc]) _
  have HB := Aside0.mk hB0
  clear h1 h2 hr hB0 hW2
  go_enter Try.func36, Try.ntmps36
  go_wp2_with fail
  go_ret
  exact ⟨_, _, rfl, Nat.le_succ _, Nat.le_refl _, ⟨(HW.out.far _ (by omega)).trans HP.out, HW.out.blk, textL_length _ _ _ (by simp; omega)⟩, HB.out.trans (HW.out.below (Nat.le_refl _))⟩

theorem set_calls (p g s o m c : Nat) (l xs : List Int) (w : World) (hp : Pg w p g l) (hs : Ns w s xs) (hx : ∀ x ∈ xs, 0 ≤ x ∧ x < 4294967296) (hm0 : 1 ≤ m) (hm : m ≤ 4) (ho : o + xs.length * m ≤ 64) (hc : xs.length ≤ c) (hl : xs.length ≤ 64) :
    Calls Try.prog 37 #[.pointer (some ⟨p, 0, none⟩), .int .i64 o, .int .i64 m, .slice (some ⟨s, 0, none⟩) xs.length c] w fun e w' => e = .returned (.pointer (some ⟨p, 0, none⟩)) ∧ Wrote g (nums .u8 (setsL l o m xs)).toArray w w' := by
  have HP := Aside0.mk hp
  have HS := Aside0.mk hs
  have HX := Aside0.mk hx
  have HM0 := Aside0.mk hm0
  clear hp hs hx hm0
  go_enter Try.func37, Try.ntmps37
  go_wp2_with fail
  go_loopw [13] (fun i wr => ∃ k : Nat, k ≤ xs.length ∧ i = .int .i64 k ∧ Aside0 (Wrote g (nums .u8 (setsK l o m xs k)).toArray w wr)) (fun i _ => xs.length - (intOf i).toNat)
  case atStart => exact ⟨0, Nat.zero_le _, rfl, ⟨Wrote.refl HP.out.at_g⟩⟩
  case round =>
    obtain ⟨k, hk, rfl, HR⟩ := hrel
    by_cases hlt : k < xs.length
    · obtain ⟨x, hxk⟩ : ∃ x, xs[k]? = some x := ⟨_, List.getElem?_eq_getElem hlt⟩
      obtain ⟨hx0, hx1⟩ := HX.out x (List.mem_of_getElem? hxk)
      have hgd : xs.getD k 0 = x := by simp [hxk]
      have hsb : wr.heap[s]? = some (.cells (nums .i64 xs).toArray 3 (0, 0)) := (HR.out.far s (HS.out.ne HP.out)).trans HS.out
      have hc1 : wr.cell? ⟨s, k, none⟩ = some (.int .i64 x) := (blk_cell hsb k).trans (by simp [nums, hxk])
      have hpb : wr.heap[p]? = some (.cells #[.slice (some ⟨g, 0, none⟩) 64 64] 100 (0, 0)) := (HR.out.far p HP.out.ne).trans HP.out.at_p
      have hc2 : wr.cell? ⟨p, 0, none⟩ = some (.slice (some ⟨g, 0, none⟩) 64 64) := blk_cell hpb 0
      have hkm : k * m + m ≤ xs.length * m := by
        rw [← Nat.succ_mul]; exact Nat.mul_le_mul_right m hlt
      obtain ⟨q, hq⟩ : ∃ q : Nat, q = k * m := ⟨_, rfl⟩
      rw [← hq] at hkm
      have e0 : (k : Int) * (m : Int) = (q : Int) := by rw [← Int.natCast_mul, hq]
      have hq64 : o + q + m ≤ 64 := by omega
      obtain ⟨e1, e2, e3, k1, k2, k3, k4, t1, t2⟩ := set_facts o q m hq64
      have e4 : IntKind.u32.wrap x = x := by simp [IntKind.wrap, IntKind.signed, IntKind.bits]; omega
      have HSB := Aside0.mk hsb
      have HPB := Aside0.mk hpb
      have HKM := Aside0.mk hkm
      have HXK := Aside0.mk hgd
      have HQ := Aside0.mk hq
      have HQ64 := Aside0.mk hq64
      clear hsb hpb hxk hkm hgd hq hq64
      go_wp2_with fail
      · have := HM0.out; have := HQ64.out; clear e1 e2 e3 e4; omega
      clear e1 e2 e3 e4
      ((with_reducible refine (put_calls g (o + q) m _ x (nums .u8 (setsK l o m xs k)).toArray hx0 hx1 hm (by have h0 := HQ64.out; clear t1 t2; have h1 := HP.out.len; have h2 := setsK_length l o m xs k; rw [List.size_toArray, nums_length]; omega) (by clear t1 t2; have h1 := HP.out.len; have h2 := setsK_length l o m xs k; rw [List.size_toArray, nums_length]; omega) _ HR.out.blk).mono ?_); rintro e w2 ⟨rfl, hwr⟩)
      rw [putC_nums] at hwr
      have HWR := Aside0.mk hwr
      clear hwr
      go_wp2_with fail
      go_roundw
      case rel =>
        refine ⟨k + 1, by omega, by go_num, ⟨?_⟩⟩
        show Wrote g (nums .u8 (putL (setsK l o m xs k) (o + k * m) (xs.getD k 0) m)).toArray w _
        rw [HXK.out, ← HQ.out]
        exact HR.out.trans HWR.out
      case measure => simp [intOf]; omega
    · go_wp2_with fail
      go_ret
      obtain rfl : k = xs.length := by omega
      exact ⟨rfl, HR.out⟩

theorem set_at (oI mI : Int) (n p g s o m c : Nat) (l xs : List Int) (w : World) (h1 : (o : Int) = oI) (h2 : (m : Int) = mI) (h3 : xs.length = n) (hp : Pg w p g l) (hs : Ns w s xs) (hx : ∀ x ∈ xs, 0 ≤ x ∧ x < 4294967296) (hm0 : 1 ≤ m) (hm : m ≤ 4) (ho : o + xs.length * m ≤ 64) (hc : xs.length ≤ c) (hl : xs.length ≤ 64) :
    Calls Try.prog 37 #[.pointer (some ⟨p, 0, none⟩), .int .i64 oI, .int .i64 mI, .slice (some ⟨s, 0, none⟩) n c] w fun e w' => e = .returned (.pointer (some ⟨p, 0, none⟩)) ∧ Wrote g (nums .u8 (setsL l o m xs)).toArray w w' := by
  subst h1 h2 h3
  exact set_calls p g s o m c l xs w hp hs hx hm0 hm ho hc hl

theorem Pg.C {w : World} {p g : Nat} {l : List Int} (h : Pg w p g l) : Kd.C B w (some ⟨g, 0, none⟩) l.length l := by
  refine Kd.C_of_reads (d := (0 : Int)) ⟨rfl, by have := h.len; omega, fun _ => ⟨_, rfl, fun j hj => ?_⟩⟩
  have h1 : w.cell? ⟨g, 0 + j, none⟩ = (nums .u8 l).toArray[0 + j]? := blk_cell h.at_g (0 + j)
  have h2 : (⟨g, 0, none⟩ : Addr).add j = ⟨g, 0 + j, none⟩ := by simp [Addr.add]; omega
  rw [h2, h1, Nat.zero_add]
  simp [nums, List.getElem?_eq_getElem hj]

theorem pageSeal_calls (p g : Nat) (l r1 : List Int) (r2 : Int) (w : World) (hp : Pg w p g l) (h : sealF l = some (r1, r2)) :
    Calls Try.prog 38 #[.pointer (some ⟨p, 0, none⟩)] w fun e w' => ∃ v0_ : Value, e = .returned v0_ ∧ Kd.R B 5 w' w.heap.size (fun _ => True) v0_ r1 ∧ Below w.heap.size w w' := by
  have hc2 : w.cell? ⟨p, 0, none⟩ = some (.slice (some ⟨g, 0, none⟩) 64 64) := blk_cell hp.at_p 0
  have HP := Aside0.mk hp
  have HS := Aside0.mk h
  have hs := seal_of_calls (some ⟨g, 0, none⟩) 64 l r1 r2 w hp.C (by have := hp.len; omega) h
  rw [hp.len] at hs
  have HC := Aside0.mk hs
  clear hp h hs
  go_enter Try.func38, Try.ntmps38
  go_wp2_with fail
  (with_reducible refine HC.out.mono ?_); rintro e w1 ⟨v1, rfl, hR, hB⟩
  have HR := Aside0.mk hR
  have HB := Aside0.mk hB
  clear hR hB
  go_wp2_with fail
  go_ret
  exact ⟨_, rfl, HR.out, HB.out⟩

theorem grown_below (w : World) (o : Obj) : Below w.heap.size w (w.alloc o) := (Below.refl _ _).alloc (Nat.le_refl _) o
theorem grown_ns (w : World) (xs : List Int) : Ns (w.alloc (.cells (nums .i64 xs).toArray 3)) w.heap.size xs := by
  show (w.heap.push (.cells (nums .i64 xs).toArray 3 (0, 0)))[w.heap.size]? = _
  exact Array.getElem?_push_size
end Go.Proofs.Ytcihfmehbmficaa.Page

/- (*field.Page).Text: a text's bytes at a place of a page. -/
namespace Go.Proofs.Ytcihfmehbmficaa.Page
open Go Go.RowKit Go.Proofs.YtcihfmehbmficaaW.PrintWords Go.Proofs.YtcihfmehbmficaaW.PrintLast Go.Proofs.YtcihfmehbmficaaW.PrintMore Go.Proofs.Ytcihfmehbmficaa.Field Go.Proofs.Ytcihfmehbmficaa.Text Go.Proofs.Ytcihfmehbmficaa.Spin
set_option linter.unusedVariables false
set_option linter.unusedSimpArgs false

theorem _root_.Go.Proofs.Ytcihfmehbmficaa.Field.Wrote.cell_far {g : Nat} {cs : Array Value} {w w' : World} {a : Addr} (h : Wrote g cs w w') (hne : a.block ≠ g) : w'.cell? a = w.cell? a := by
  unfold World.cell?
  rw [h.far _ hne]
end Go.Proofs.Ytcihfmehbmficaa.Page

/- Plain laws of blocks: numbers at places, check sums. -/
namespace Go.Proofs.Ytcihfmehbmficaa.Field
open Go Go.Proofs.YtcihfmehbmficaaW.PrintWords Go.Proofs.Ytcihfmehbmficaa.Spin Go.Proofs.Ytcihfmehbmficaa.Ref
set_option linter.unusedVariables false

theorem byte_range (n : Int) (k : Nat) : 0 ≤ n / 2 ^ (8 * k) % 256 ∧ n / 2 ^ (8 * k) % 256 < 256 := by
  generalize n / 2 ^ (8 * k) = q
  omega
theorem leB_bytes (n : Int) : ∀ k, Bytes (leB n k)
  | 0 => by intro x hx; cases hx
  | k + 1 => by
    intro x hx
    rw [leB] at hx
    rcases List.mem_append.1 hx with h | h
    · exact leB_bytes n k x h
    · rw [List.mem_singleton.1 h]
      exact byte_range n k
theorem bytes_append {l m : List Int} (hl : Bytes l) (hm : Bytes m) : Bytes (l ++ m) := by
  intro x hx
  rcases List.mem_append.1 hx with h | h
  · exact hl x h
  · exact hm x h
theorem bytes_take {l : List Int} (h : Bytes l) (k : Nat) : Bytes (l.take k) := fun x hx => h x (List.mem_of_mem_take hx)
theorem bytes_drop {l : List Int} (h : Bytes l) (k : Nat) : Bytes (l.drop k) := fun x hx => h x (List.mem_of_mem_drop hx)
theorem bytes_replicate (n : Nat) : Bytes (List.replicate n 0) := by
  intro x hx
  rw [(List.mem_replicate.1 hx).2]
  omega

/-- put's list, in three pieces. -/
theorem putL_eq (l : List Int) (o : Nat) (n : Int) : ∀ m, o + m ≤ l.length → putL l o n m = l.take o ++ leB n m ++ l.drop (o + m)
  | 0, _ => by rw [putL, leB, List.append_nil, Nat.add_zero, List.take_append_drop]
  | m + 1, h => by
    have hp : (l.take o ++ leB n m).length = o + m := by rw [List.length_append, List.length_take, leB_length]; omega
    rw [putL, putL_eq l o n m (by omega), List.set_append_right _ _ (by omega), hp, Nat.sub_self, List.drop_eq_getElem_cons (show o + m < l.length from by omega), List.set_cons_zero, leB]
    simp only [List.append_assoc, List.singleton_append]
    rfl
/-- A number's bytes tell the number. -/
theorem getI_le (n : Int) (h0 : 0 ≤ n) : ∀ m, m ≤ 4 → getI (leB n m) = n % 256 ^ m := by
  intro m hm
  have h : m = 0 ∨ m = 1 ∨ m = 2 ∨ m = 3 ∨ m = 4 := by omega
  rcases h with rfl | rfl | rfl | rfl | rfl
  · simp [leB, getI]
  · simp [leB, getI]
  · simp [leB, getI]
    omega
  · simp [leB, getI]
    omega
  · simp [leB, getI]
    omega
theorem getI_inj : ∀ (l m : List Int), Bytes l → Bytes m → l.length = m.length → getI l = getI m → l = m := by
  intro l
  induction l with
  | nil =>
    intro m _ _ h _
    cases m with
    | nil => rfl
    | cons y r => cases h
  | cons x l ih =>
    intro m hl hm h hg
    cases m with
    | nil => cases h
    | cons y r =>
      have hx := hl x (by simp)
      have hy := hm y (by simp)
      simp only [getI] at hg
      have e1 : x = y := by omega
      have e2 : getI l = getI r := by omega
      rw [e1, ih r (fun z hz => hl z (by simp [hz])) (fun z hz => hm z (by simp [hz])) (by simpa using h) e2]
theorem get_eq {l : List Int} (hl : Bytes l) (h7 : l.length ≤ 7) : getF l = some (getI l) := by
  unfold getF
  rw [if_pos ⟨hl, h7⟩]
/-- The sum of a block's first 60 bytes. -/
def sumI (l : List Int) : Int := tellI (runI (1, 0) l)
theorem sumI_range (l : List Int) : 0 ≤ sumI l ∧ sumI l < 4294967296 := tell_range (Ok_run Ok_one l)
theorem sum_I {l : List Int} (hl : Bytes l) (hn : l.length ≤ 4611686018427387904) : sumF l = some (sumI l) := sum_eq hl hn
/-- A block with its check sum. -/
def sealI (l : List Int) : List Int := l.take 60 ++ leB (sumI (l.take 60)) 4
theorem sealI_length (l : List Int) (h : l.length = 64) : (sealI l).length = 64 := by
  unfold sealI
  rw [List.length_append, List.length_take, leB_length]
  omega
theorem sealI_bytes {l : List Int} (h : Bytes l) : Bytes (sealI l) := bytes_append (bytes_take h _) (leB_bytes _ _)
theorem sealI_take (l : List Int) (h : l.length = 64) : (sealI l).take 60 = l.take 60 := by
  unfold sealI
  rw [List.take_append_of_le_length (by rw [List.length_take]; omega), List.take_of_length_le (by rw [List.length_take]; omega)]
theorem sealI_drop (l : List Int) (h : l.length = 64) : (sealI l).drop 60 = leB (sumI (l.take 60)) 4 := by
  unfold sealI
  rw [List.drop_append_of_le_length (by rw [List.length_take]; omega), List.drop_eq_nil_of_le (by rw [List.length_take]; omega), List.nil_append]
theorem seal_eq {l : List Int} (hl : Bytes l) (h : l.length = 64) : sealF l = some (sealI l, 0) := by
  unfold sealF
  rw [if_pos h, sum_I (bytes_take hl _) (by rw [List.length_take]; omega)]
  simp only [Option.bind_some]
  rw [putL_eq _ _ _ _ (by omega), List.drop_eq_nil_of_le (by omega), List.append_nil]
  rfl
/-- Has a block its check sum? -/
theorem sealed_eq {l : List Int} (hl : Bytes l) (h : l.length = 64) : sealedF l = some (decide (l = sealI l)) := by
  unfold sealedF
  rw [if_pos h, get_eq (bytes_drop hl _) (by rw [List.length_drop]; omega), sum_I (bytes_take hl _) (by rw [List.length_take]; omega)]
  simp only [Option.bind_some]
  congr 1
  have hr := sumI_range (l.take 60)
  have key : (getI (l.drop 60) = sumI (l.take 60)) ↔ l = sealI l := by
    constructor
    · intro e
      have e2 : l.drop 60 = leB (sumI (l.take 60)) 4 := by
        refine getI_inj _ _ (bytes_drop hl _) (leB_bytes _ _) (by rw [List.length_drop, leB_length]; omega) ?_
        rw [getI_le _ hr.1 4 (by omega), e]
        omega
      have := List.take_append_drop 60 l
      rw [e2] at this
      exact this.symm
    · intro e
      have e2 : l.drop 60 = leB (sumI (l.take 60)) 4 := by
        have := congrArg (List.drop 60) e
        rwa [sealI_drop l h] at this
      rw [e2, getI_le _ hr.1 4 (by omega)]
      omega
  by_cases hk : l = sealI l
  · rw [decide_eq_true hk, beq_iff_eq.2 (key.2 hk)]
  · rw [decide_eq_false hk, beq_eq_false_iff_ne.2 (fun e => hk (key.1 e))]
theorem sealed_short {l : List Int} (h : l.length ≠ 64) : sealedF l = some false := by
  unfold sealedF
  rw [if_neg h]
theorem strOf_inj {l m : List Int} (hl : Bytes l) (hm : Bytes m) : ((strOfNums l).toList = (strOfNums m).toList) ↔ l = m := by
  constructor
  · intro h
    rw [ByteArray.toList_eq, ByteArray.toList_eq, strOfNums_data, strOfNums_data] at h
    induction l generalizing m with
    | nil =>
      cases m with
      | nil => rfl
      | cons y r => simp at h
    | cons x l ih =>
      cases m with
      | nil => simp at h
      | cons y r =>
        simp only [List.map_cons, List.cons.injEq] at h
        have hx := hl x (by simp)
        have hy := hm y (by simp)
        have e1 : x = y := by
          have h1 := congrArg UInt8.toNat h.1
          rw [UInt8.toNat_ofNat', UInt8.toNat_ofNat'] at h1
          omega
        rw [e1, ih (fun z hz => hl z (by simp [hz])) (fun z hz => hm z (by simp [hz])) h.2]
  · intro h
    rw [h]
theorem sealI_sealed {l : List Int} (h : l.length = 64) : sealI l = sealI (sealI l) := by
  have : sealI (sealI l) = (sealI l).take 60 ++ leB (sumI ((sealI l).take 60)) 4 := rfl
  rw [this, sealI_take l h]
  rfl
end Go.Proofs.Ytcihfmehbmficaa.Field

/- Plain laws of paths: pieces between strokes, the names that they come to. No program in sight. -/
namespace Go.Proofs.Ytcihfmehbmficaa.PathLaw
set_option linter.unusedVariables false
abbrev Bs := List UInt8
def B (l : Bs) : ByteArray := ⟨l.toArray⟩
/-- May it be a name? -/
def nm (l : Bs) : Bool := decide (1 ≤ l.length) && decide (l.length ≤ 17) && !(l == [46]) && !(l == [46, 46]) && !(l.contains 47) && !(l.contains 0)
def pieces : Bs → List Bs
  | [] => [[]]
  | c :: r => if c = 47 then [] :: pieces r else (match pieces r with | p :: ps => (c :: p) :: ps | [] => [[c]])
/-- The names that pieces come to. -/
def run : List ByteArray → List Bs → List ByteArray × Int
  | out, [] => (out, 0)
  | out, p :: ps => if p = [] then run out ps else if p = [46] then run out ps else if p = [46, 46] then run (out.take (out.length - 1)) ps else if nm p = true then (if out.length = 16 then ([], 11) else run (out ++ [B p]) ps) else ([], 9)
def split (s : ByteArray) : List ByteArray × Int := if s.size > 1024 then ([], 11) else match s.toList with | 47 :: r => run [] (pieces r) | _ => ([], 2)
def good (out : List ByteArray) : Prop := out.length ≤ 16 ∧ ∀ x ∈ out, nm x.toList = true
end Go.Proofs.Ytcihfmehbmficaa.PathLaw
