/- The walks of package spin: each function once. -/
import Derived.Test.YtcfjojgpfpgfdaaProg
import Derived.Test.YtcfjojgpfpgfdaaWWords
import Derived.Test.YtcfjojgpfpgfdaaFloat
import Derived.WalkKit
import Derived.KernelRfl
import Derived.Laws.Cover3
import Derived.Deep.QuietTactic
import Derived.BigQuiet
import Derived.Deep.LoopGhost
import Derived.Outline
import Derived.Lib.Hide
namespace Go.Proofs.Ytcfjojgpfpgfdaa.Spin
open Go Go.RowKit Go.Proofs.Ytcfjojgpfpgfdaa.Fl Go.Proofs.YtcfjojgpfpgfdaaW.PrintWords
set_option linter.unusedVariables false

theorem tmod_facts (n : Int) : (n.tmod 65521 < 0 → n % 65521 = n.tmod 65521 + 65521) ∧ (0 ≤ n.tmod 65521 → n % 65521 = n.tmod 65521) ∧ -65521 < n.tmod 65521 ∧ n.tmod 65521 < 65521 := by
  have h1 := Int.tmod_add_mul_tdiv n 65521
  have h2 : n.tmod 65521 < 65521 := Int.tmod_lt_of_pos n (by decide)
  have h3 : -65521 < n.tmod 65521 := by
    rcases Int.le_total 0 n with h | h
    · have := Int.tmod_nonneg 65521 h
      omega
    · have := Int.tmod_lt_of_pos (-n) (show (0 : Int) < 65521 by decide)
      rw [Int.neg_tmod] at this
      omega
  generalize n.tmod 65521 = r at *
  generalize n.tdiv 65521 = q at *
  subst h1
  refine ⟨fun h => ?_, fun h => ?_, h3, h2⟩ <;> omega

theorem mod_calls (b : Nat) (n : Int) (hb : Fl b n) (hn : n.natAbs < 2 ^ 53) (w : World) :
    Calls Try.prog 21 #[.float .f64 b] w fun e w' => e = .returned (.float .f64 (floatOfInt .f64 (n % 65521))) ∧ w = w' := by
  have hn' : -9007199254740992 < n ∧ n < 9007199254740992 := by
    have : (2 : Nat) ^ 53 = 9007199254740992 := by decide
    omega
  obtain ⟨hn1, hn2⟩ := hn'
  have hc : ∀ W : World, (convert 43 3 (.float .f64 b)).run Try.prog W = .ok (.int .i64 n) W := fun W =>
    run_convert_float_int W 43 3 .f64 .i64 b n (by kernel_rfl) (by kernel_rfl) (fl_toInt hb .i64 (by show (-9223372036854775808 : Int) ≤ n; omega) (by show n ≤ 9223372036854775807; omega))
  clear hb hn
  obtain ⟨hm1, hm2, hm3, hm4⟩ := tmod_facts n
  have hM1 := Lib.hid hm1
  have hM2 := Lib.hid hm2
  clear hm1 hm2
  by_cases h : n.tmod 65521 < 0
  · have hd : decide (n.tmod 65521 < 0) = true := by simpa using h
    go_enter Try.func21, Try.ntmps21
    go_wp2
    go_ret
    exact ⟨by rw [hM1.out h]; rfl, rfl⟩
  · have hd : decide (n.tmod 65521 < 0) = false := by simpa using h
    go_enter Try.func21, Try.ntmps21
    go_wp2
    go_ret
    exact ⟨by rw [hM2.out (by omega)]; rfl, rfl⟩

/-- The word of a whole number. -/
abbrev R (n : Int) : Nat := floatOfInt .f64 n

theorem reduce_calls (a b : Nat) (x y : Int) (ha : Fl a x) (hx : x.natAbs < 2 ^ 53) (hb : Fl b y) (hy : y.natAbs < 2 ^ 53) (w : World) :
    Calls Try.prog 20 #[.complex .f64 a b] w fun e w' => e = .returned (.complex .f64 (R (x % 65521)) (R (y % 65521))) ∧ w = w' := by
  go_enter Try.func20, Try.ntmps20
  go_wp2_with fail
  ((with_reducible refine (mod_calls a x ha hx _).mono ?_); rintro e w' ⟨rfl, rfl⟩)
  go_wp2_with fail
  ((with_reducible refine (mod_calls b y hb hy _).mono ?_); rintro e w' ⟨rfl, rfl⟩)
  go_wp2
  go_ret
  exact ⟨rfl, rfl⟩

theorem small (n : Int) (h0 : -1099511627776 < n) (h : n < 1099511627776) : n.natAbs < 2 ^ 53 := by
  have : (2 : Nat) ^ 53 = 9007199254740992 := by decide
  omega

theorem from_calls (s : Int) (h0 : 0 ≤ s) (h1 : s < 4294967296) (w : World) :
    Calls Try.prog 17 #[.int .u32 s] w fun e w' => e = .returned (.complex .f64 (R (s / 65536 % 65521)) (R (s % 65536 % 65521))) ∧ w = w' := by
  go_enter Try.func17, Try.ntmps17
  go_wp2_with fail
  ((with_reducible refine (reduce_calls _ _ (s / 65536) (s % 65536) (fl_E _ (small _ (by omega) (by omega))) (small _ (by omega) (by omega)) (fl_E _ (small _ (by omega) (by omega))) (small _ (by omega) (by omega)) _).mono ?_); rintro e w' ⟨rfl, rfl⟩)
  go_wp2
  go_ret
  exact ⟨rfl, rfl⟩

theorem sum_calls (x y : Int) (hx0 : 0 ≤ x) (hx1 : x < 65521) (hy0 : 0 ≤ y) (hy1 : y < 65521) (w : World) :
    Calls Try.prog 19 #[.complex .f64 (R x) (R y)] w fun e w' => e = .returned (.int .u32 (x * 65536 + y)) ∧ w = w' := by
  have hc : ∀ W : World, (convert 43 22 (.float .f64 (R x))).run Try.prog W = .ok (.int .u32 x) W := fun W =>
    run_convert_float_int W 43 22 .f64 .u32 _ x (by kernel_rfl) (by kernel_rfl) (fl_toInt (fl_E x (small x (by omega) (by omega))) .u32 (by show (0 : Int) ≤ x; omega) (by show x ≤ 4294967295; omega))
  have hd : ∀ W : World, (convert 43 22 (.float .f64 (R y))).run Try.prog W = .ok (.int .u32 y) W := fun W =>
    run_convert_float_int W 43 22 .f64 .u32 _ y (by kernel_rfl) (by kernel_rfl) (fl_toInt (fl_E y (small y (by omega) (by omega))) .u32 (by show (0 : Int) ≤ y; omega) (by show y ≤ 4294967295; omega))
  go_enter Try.func19, Try.ntmps19
  go_wp2
  go_ret
  exact ⟨rfl, rfl⟩

/-- Behind a byte. -/
def stepI (z : Int × Int) (c : Int) : Int × Int := ((z.1 * 2 - z.2 + c) % 65521, (z.1 + z.2 * 2) % 65521)

/-- The word of a register. -/
abbrev C (z : Int × Int) : Value := .complex .f64 (R z.1) (R z.2)

/-- Is it a register? -/
def Ok (z : Int × Int) : Prop := 0 ≤ z.1 ∧ z.1 < 65521 ∧ 0 ≤ z.2 ∧ z.2 < 65521

theorem Ok_mod (x y : Int) : Ok (x % 65521, y % 65521) := by
  unfold Ok
  simp only
  omega

theorem step_calls (z : Int × Int) (c : Int) (hz : Ok z) (hc0 : 0 ≤ c) (hc1 : c < 256) (w : World) :
    Calls Try.prog 18 #[C z, .int .u8 c] w fun e w' => e = .returned (C (stepI z c)) ∧ w = w' := by
  obtain ⟨x, y⟩ := z
  obtain ⟨hx0, hx1, hy0, hy1⟩ := hz
  simp only at hx0 hx1 hy0 hy1
  obtain ⟨re, im, hm, fr, fi⟩ := cmul (fl_E x (small x (by omega) (by omega))) (fl_E y (small y (by omega) (by omega))) fl_two fl_one
    (small _ (by omega) (by omega)) (small _ (by omega) (by omega)) (small _ (by omega) (by omega)) (small _ (by omega) (by omega)) (small _ (by omega) (by omega)) (small _ (by omega) (by omega))
  obtain ⟨re2, im2, ha, fr2, fi2⟩ := cadd fr fi (fl_E c (small c (by omega) (by omega))) fl_zero (small _ (by omega) (by omega)) (small _ (by omega) (by omega))
  rw [Int.mul_one] at fr2
  rw [Int.mul_one, Int.add_zero] at fi2
  have hm' : ∀ W : World, (binOp .mul 37 (.complex .f64 (R x) (R y)) (.complex .f64 4611686018427387904 4607182418800017408)).run Try.prog W = .ok (.complex .f64 re im) W := fun W => run_complex_mul W _ _ _ _ _ _ _ hm
  have ha' : ∀ W : World, (binOp .add 37 (.complex .f64 re im) (.complex .f64 (R c) 0)).run Try.prog W = .ok (.complex .f64 re2 im2) W := fun W => run_complex_sum W .add (.inl rfl) _ _ _ _ _ _ _ _ ha
  clear hm ha
  show Calls Try.prog 18 #[.complex .f64 (R x) (R y), .int .u8 c] w fun e w' => e = .returned (.complex .f64 (R ((x * 2 - y + c) % 65521)) (R ((x + y * 2) % 65521))) ∧ w = w'
  go_enter Try.func18, Try.ntmps18
  go_wp2_with fail
  ((with_reducible refine (reduce_calls _ _ _ _ fr2 (small _ (by omega) (by omega)) fi2 (small _ (by omega) (by omega)) _).mono ?_); rintro e w' ⟨rfl, rfl⟩)
  go_wp2
  go_ret
  exact ⟨rfl, rfl⟩

/-- What More begins with. -/
def startI (s : Int) : Int × Int := (s / 65536 % 65521, s % 65536 % 65521)
def tellI (z : Int × Int) : Int := z.1 * 65536 + z.2
def runI (z : Int × Int) (l : List Int) : Int × Int := l.foldl stepI z
def Bytes (l : List Int) : Prop := ∀ x ∈ l, 0 ≤ x ∧ x < 256
instance (l : List Int) : Decidable (Bytes l) := by unfold Bytes; infer_instance

theorem from_start (s : Int) (h0 : 0 ≤ s) (h1 : s < 4294967296) (w : World) :
    Calls Try.prog 17 #[.int .u32 s] w fun e w' => e = .returned (C (startI s)) ∧ w = w' := from_calls s h0 h1 w

theorem Ok_start (s : Int) : Ok (startI s) := Ok_mod _ _
theorem Ok_step (z : Int × Int) (c : Int) : Ok (stepI z c) := Ok_mod _ _
theorem Ok_run {z : Int × Int} (h : Ok z) : ∀ l : List Int, Ok (runI z l) := by
  intro l
  induction l generalizing z with
  | nil => exact h
  | cons c l ih => exact ih (Ok_step z c)
theorem run_snoc (z : Int × Int) (l : List Int) (c : Int) : runI z (l ++ [c]) = stepI (runI z l) c := by simp [runI]
theorem take_rd (l : List Int) (k : Nat) (h : k < l.length) : l.take (k + 1) = l.take k ++ [rd l k] := by
  rw [List.take_succ_eq_append_getElem h]
  simp [rd, List.getD, h]
theorem rd_mem {l : List Int} {k : Nat} (h : k < l.length) : rd l k ∈ l := by
  simp [rd, List.getD, h]

def moreF (s : Int) (l : List Int) : Option Int := if 0 ≤ s ∧ s < 4294967296 ∧ Bytes l ∧ l.length ≤ 4611686018427387904 then some (tellI (runI (startI s) l)) else none
theorem moreF_some {s : Int} {l : List Int} {r : Int} (h : moreF s l = some r) : 0 ≤ s ∧ s < 4294967296 ∧ Bytes l ∧ l.length ≤ 4611686018427387904 ∧ r = tellI (runI (startI s) l) := by
  unfold moreF at h
  split at h
  · rename_i g
    cases h
    exact ⟨g.1, g.2.1, g.2.2.1, g.2.2.2, rfl⟩
  · cases h

theorem more_calls (s : Int) (A1 : Option Addr) (c1 : Nat) (l : List Int) (r : Int) (w : World) (hr : Kd.C (Kd.int .u8) w A1 l.length l) (hc : l.length ≤ c1) (h : moreF s l = some r) :
    Calls Try.prog 13 #[.int .u32 s, .slice A1 l.length c1] w fun e w' => e = .returned (.int .u32 r) ∧ Drawn0 w w' := by
  obtain ⟨hs0, hs1, hb, hlen, hr'⟩ := moreF_some h
  subst hr'
  have HR := Aside0.mk hr
  have HC := Aside0.mk hc
  have HB := Aside0.mk hb
  clear h hr hc hb
  go_enter Try.func13, Try.ntmps13
  go_wp2_with fail
  ((with_reducible refine (from_calls s hs0 hs1 _).mono ?_); rintro e w' ⟨rfl, rfl⟩)
  go_wp2
  go_loop [5, 12] (fun z i => ∃ k : Nat, k ≤ l.length ∧ i = .int .i64 k ∧ z = C (runI (startI s) (l.take k))) (fun _ i => l.length - (intOf i).toNat)
  case atStart => exact ⟨0, Nat.zero_le _, rfl, rfl⟩
  case round =>
    obtain ⟨k, hk, rfl, rfl⟩ := hrel
    by_cases hlt : k < l.length
    · have hrun := run_snoc (startI s) (l.take k) (rd l k)
      rw [← take_rd l k hlt] at hrun
      have HRUN := Aside0.mk hrun
      clear hrun
      obtain ⟨ad, e, hx⟩ := Kd.at_int HR.out (k : Int) (by omega) (by omega)
      cases e
      rw [Int.toNat_natCast] at hx
      have hcb := HB.out _ (rd_mem hlt)
      obtain ⟨hc0, hc1⟩ := hcb
      have hok := Aside0.mk (Ok_run (Ok_start s) (l.take k))
      go_wp2_with fail
      ((with_reducible refine (step_calls _ _ hok.out hc0 hc1 _).mono ?_); rintro e w' ⟨rfl, rfl⟩)
      go_wp2
      go_round
      case rel => exact ⟨k + 1, by omega, by go_num, by rw [HRUN.out]⟩
      case measure => simp [intOf]; omega
    · go_wp2_with fail
      have hk' : k = l.length := by omega
      subst hk'
      obtain ⟨ho1, ho2, ho3, ho4⟩ := Ok_run (Ok_start s) (l.take l.length)
      rw [List.take_length] at ho1 ho2 ho3 ho4
      rw [List.take_length]
      ((with_reducible refine (sum_calls _ _ ho1 ho2 ho3 ho4 _).mono ?_); rintro e w' ⟨rfl, rfl⟩)
      go_wp2
      go_ret
      exact ⟨rfl, Drawn0.refl _⟩

def sumF (l : List Int) : Option Int := moreF 65536 l

theorem sum_of_calls (A1 : Option Addr) (c1 : Nat) (l : List Int) (r : Int) (w : World) (hr : Kd.C (Kd.int .u8) w A1 l.length l) (hc : l.length ≤ c1) (h : sumF l = some r) :
    Calls Try.prog 11 #[.slice A1 l.length c1] w fun e w' => e = .returned (.int .u32 r) ∧ Drawn0 w w' := by
  have HR := Aside0.mk hr
  have HC := Aside0.mk hc
  have H := Aside0.mk (show moreF 65536 l = some r from h)
  clear h hr hc
  go_enter Try.func11, Try.ntmps11
  go_wp2_with fail
  ((with_reducible refine (more_calls _ _ _ _ r _ HR.out HC.out H.out).mono ?_); rintro e w' ⟨rfl, ⟨n, rfl⟩⟩)
  go_wp2
  go_ret
  exact ⟨rfl, ⟨n, rfl⟩⟩

/-- '*', each part modulo the prime. -/
def mulI (z u : Int × Int) : Int × Int := ((z.1 * u.1 - z.2 * u.2) % 65521, (z.1 * u.2 + z.2 * u.1) % 65521)
theorem Ok_mul (z u : Int × Int) : Ok (mulI z u) := Ok_mod _ _

theorem prod_bd (x u : Int) (hx0 : 0 ≤ x) (hx1 : x < 65521) (hu0 : 0 ≤ u) (hu1 : u < 65521) : 0 ≤ x * u ∧ x * u < 4293001441 := by
  refine ⟨Int.mul_nonneg hx0 hu0, ?_⟩
  have h1 : x * u ≤ 65520 * u := Int.mul_le_mul_of_nonneg_right (by omega) hu0
  omega

theorem mul_bits (z u : Int × Int) (hz : Ok z) (hu : Ok u) : ∃ re im, cMulBits (R z.1) (R z.2) (R u.1) (R u.2) = some (re, im) ∧ Fl re (z.1 * u.1 - z.2 * u.2) ∧ Fl im (z.1 * u.2 + z.2 * u.1) ∧ (z.1 * u.1 - z.2 * u.2).natAbs < 2 ^ 53 ∧ (z.1 * u.2 + z.2 * u.1).natAbs < 2 ^ 53 := by
  obtain ⟨x, y⟩ := z
  obtain ⟨p, q⟩ := u
  obtain ⟨hx0, hx1, hy0, hy1⟩ := hz
  obtain ⟨hp0, hp1, hq0, hq1⟩ := hu
  simp only at hx0 hx1 hy0 hy1 hp0 hp1 hq0 hq1 ⊢
  have b1 := prod_bd x p hx0 hx1 hp0 hp1
  have b2 := prod_bd y q hy0 hy1 hq0 hq1
  have b3 := prod_bd x q hx0 hx1 hq0 hq1
  have b4 := prod_bd y p hy0 hy1 hp0 hp1
  obtain ⟨re, im, h1, h2, h3⟩ := cmul (fl_E x (small x (by omega) (by omega))) (fl_E y (small y (by omega) (by omega))) (fl_E p (small p (by omega) (by omega))) (fl_E q (small q (by omega) (by omega)))
    (small _ (by omega) (by omega)) (small _ (by omega) (by omega)) (small _ (by omega) (by omega)) (small _ (by omega) (by omega)) (small _ (by omega) (by omega)) (small _ (by omega) (by omega))
  exact ⟨re, im, h1, h2, h3, small _ (by omega) (by omega), small _ (by omega) (by omega)⟩

/-- The power's loop. -/
def powF : Nat → Nat → Int × Int → Int × Int → Int × Int
  | 0, _, m, _ => m
  | f + 1, n, m, p => if n = 0 then m else powF f (n / 2) (if n % 2 = 1 then mulI m p else m) (mulI p p)

theorem powF_zero (f : Nat) (m p : Int × Int) : powF f 0 m p = m := by
  cases f <;> simp [powF]

theorem powF_more : ∀ (f g n : Nat) (m p : Int × Int), n ≤ f → n ≤ g → powF f n m p = powF g n m p := by
  intro f
  induction f with
  | zero =>
    intro g n m p hf _
    obtain rfl : n = 0 := by omega
    rw [powF_zero, powF_zero]
  | succ f ih =>
    intro g n m p hf hg
    cases g with
    | zero =>
      obtain rfl : n = 0 := by omega
      rw [powF_zero, powF_zero]
    | succ g =>
      simp only [powF]
      by_cases h : n = 0
      · rw [if_pos h, if_pos h]
      · rw [if_neg h, if_neg h]
        exact ih g (n / 2) _ _ (by omega) (by omega)

theorem powF_step (n : Nat) (m p : Int × Int) (h : n ≠ 0) : powF n n m p = powF (n / 2) (n / 2) (if n % 2 = 1 then mulI m p else m) (mulI p p) := by
  obtain ⟨k, rfl⟩ : ∃ k, n = k + 1 := ⟨n - 1, by omega⟩
  rw [show powF (k + 1) (k + 1) m p = powF k ((k + 1) / 2) (if (k + 1) % 2 = 1 then mulI m p else m) (mulI p p) from by simp [powF]]
  exact powF_more _ _ _ _ _ (by omega) (by omega)

theorem run_mulI (z u : Int × Int) (hz : Ok z) (hu : Ok u) : ∃ re im, (∀ W : World, (binOp .mul 37 (C z) (C u)).run Try.prog W = .ok (.complex .f64 re im) W) ∧
    ∀ W : World, Calls Try.prog 20 #[.complex .f64 re im] W fun e w' => e = .returned (C (mulI z u)) ∧ W = w' := by
  obtain ⟨re, im, h1, h2, h3, h4, h5⟩ := mul_bits z u hz hu
  exact ⟨re, im, fun W => run_complex_mul W _ _ _ _ _ _ _ h1, fun W => reduce_calls re im _ _ h2 h4 h3 h5 W⟩

theorem and1 (n : Int) : bits .and .i64 n 1 = n % 2 := by
  have h1 : (BitVec.ofInt 64 1).toNat = 2 ^ 1 - 1 := by decide
  have key : (BitVec.ofInt 64 n &&& BitVec.ofInt 64 1).toNat = (n % ((2 ^ 64 : Nat) : Int)).toNat % 2 ^ 1 := by
    rw [BitVec.toNat_and, BitVec.toNat_ofInt, h1, Nat.and_two_pow_sub_one_eq_mod]
  show IntKind.i64.wrap ((BitVec.ofInt 64 n &&& BitVec.ofInt 64 1).toNat : Nat) = n % 2
  rw [key, IntKind.wrap_i64]
  omega

/-- Join's register. -/
def joinI (z w m : Int × Int) : Int × Int := (((z.1 - 1) * m.1 - z.2 * m.2 + w.1) % 65521, ((z.1 - 1) * m.2 + z.2 * m.1 + w.2) % 65521)

def joinF (a b n : Int) : Option Int :=
  if 0 ≤ a ∧ a < 4294967296 ∧ 0 ≤ b ∧ b < 4294967296 ∧ n < 9223372036854775808 then some (tellI (joinI (startI a) (startI b) (powF n.toNat n.toNat (1, 0) (2, 1)))) else none
theorem joinF_some {a b n r : Int} (h : joinF a b n = some r) : 0 ≤ a ∧ a < 4294967296 ∧ 0 ≤ b ∧ b < 4294967296 ∧ n < 9223372036854775808 ∧ r = tellI (joinI (startI a) (startI b) (powF n.toNat n.toNat (1, 0) (2, 1))) := by
  unfold joinF at h
  split at h
  · rename_i g
    cases h
    exact ⟨g.1, g.2.1, g.2.2.1, g.2.2.2.1, g.2.2.2.2, rfl⟩
  · cases h

/-- '-1', '*', '+', reduced: Join's last line. -/
theorem run_joinI (z v m : Int × Int) (hz : Ok z) (hv : Ok v) (hm : Ok m) : ∃ r0 i0 r1 i1 r2 i2,
    (∀ W : World, (binOp .sub 37 (C z) (.complex .f64 4607182418800017408 0)).run Try.prog W = .ok (.complex .f64 r0 i0) W) ∧
    (∀ W : World, (binOp .mul 37 (.complex .f64 r0 i0) (C m)).run Try.prog W = .ok (.complex .f64 r1 i1) W) ∧
    (∀ W : World, (binOp .add 37 (.complex .f64 r1 i1) (C v)).run Try.prog W = .ok (.complex .f64 r2 i2) W) ∧
    ∀ W : World, Calls Try.prog 20 #[.complex .f64 r2 i2] W fun e w' => e = .returned (C (joinI z v m)) ∧ W = w' := by
  obtain ⟨x, y⟩ := z
  obtain ⟨p, q⟩ := m
  obtain ⟨c, d⟩ := v
  obtain ⟨hx0, hx1, hy0, hy1⟩ := hz
  obtain ⟨hp0, hp1, hq0, hq1⟩ := hm
  obtain ⟨hc0, hc1, hd0, hd1⟩ := hv
  simp only at hx0 hx1 hy0 hy1 hp0 hp1 hq0 hq1 hc0 hc1 hd0 hd1
  have b1 := prod_bd x p hx0 hx1 hp0 hp1
  have b2 := prod_bd y q hy0 hy1 hq0 hq1
  have b3 := prod_bd x q hx0 hx1 hq0 hq1
  have b4 := prod_bd y p hy0 hy1 hp0 hp1
  have e1 : (x - 1) * p = x * p - p := by rw [Int.sub_mul, Int.one_mul]
  have e2 : (x - 1) * q = x * q - q := by rw [Int.sub_mul, Int.one_mul]
  obtain ⟨r0, i0, h1, f1, f2⟩ := csub (fl_E x (small x (by omega) (by omega))) (fl_E y (small y (by omega) (by omega))) fl_one fl_zero (small _ (by omega) (by omega)) (small _ (by omega) (by omega))
  rw [Int.sub_zero] at f2
  obtain ⟨r1, i1, h2, f3, f4⟩ := cmul f1 f2 (fl_E p (small p (by omega) (by omega))) (fl_E q (small q (by omega) (by omega)))
    (small _ (by rw [e1]; omega) (by rw [e1]; omega)) (small _ (by omega) (by omega)) (small _ (by rw [e1]; omega) (by rw [e1]; omega)) (small _ (by rw [e2]; omega) (by rw [e2]; omega)) (small _ (by omega) (by omega)) (small _ (by rw [e2]; omega) (by rw [e2]; omega))
  have s1 := small ((x - 1) * p - y * q + c) (by rw [e1]; omega) (by rw [e1]; omega)
  have s2 := small ((x - 1) * q + y * p + d) (by rw [e2]; omega) (by rw [e2]; omega)
  obtain ⟨r2, i2, h3, f5, f6⟩ := cadd f3 f4 (fl_E c (small c (by omega) (by omega))) (fl_E d (small d (by omega) (by omega))) s1 s2
  exact ⟨r0, i0, r1, i1, r2, i2, fun W => run_complex_sum W .sub (.inr rfl) _ _ _ _ _ _ _ _ h1, fun W => run_complex_mul W _ _ _ _ _ _ _ h2, fun W => run_complex_sum W .add (.inl rfl) _ _ _ _ _ _ _ _ h3, fun W => reduce_calls _ _ _ _ f5 s1 f6 s2 W⟩

theorem Ok_pow : ∀ (f n : Nat) (m p : Int × Int), Ok m → Ok (powF f n m p) := by
  intro f
  induction f with
  | zero => exact fun n m p h => h
  | succ f ih =>
    intro n m p h
    simp only [powF]
    split
    · exact h
    · apply ih
      split
      · exact Ok_mul _ _
      · exact h

theorem join_of_calls (a b n r : Int) (w : World) (h : joinF a b n = some r) :
    Calls Try.prog 15 #[.int .u32 a, .int .u32 b, .int .i64 n] w fun e w' => e = .returned (.int .u32 r) ∧ Drawn0 w w' := by
  obtain ⟨ha0, ha1, hb0, hb1, hn1, hr'⟩ := joinF_some h
  subst hr'
  clear h
  have hM : Aside0 (Ok (powF n.toNat n.toNat (1, 0) (2, 1))) := ⟨Ok_pow _ _ _ _ (by unfold Ok; simp)⟩
  generalize hP : powF n.toNat n.toNat (1, 0) (2, 1) = P at hM
  have HP := Aside0.mk hP
  clear hP
  obtain ⟨r0, i0, r1, i1, r2, i2, g1, g2, g3, g4⟩ := run_joinI (startI a) (startI b) P (Ok_start a) (Ok_start b) hM.out
  have hj : Aside0 (Ok (joinI (startI a) (startI b) P)) := ⟨Ok_mod _ _⟩
  have G4 := Aside0.mk g4
  clear g4
  go_enter Try.func15, Try.ntmps15
  go_wp2
  go_loop [2, 7, 8] (fun n' m p => ∃ (k : Int) (z u : Int × Int), k < 9223372036854775808 ∧ Aside0 (Ok z) ∧ Aside0 (Ok u) ∧ Aside0 (powF k.toNat k.toNat z u = P) ∧ n' = .int .i64 k ∧ m = C z ∧ p = C u) (fun n' _ _ => (intOf n').toNat)
  case atStart => exact ⟨n, (1, 0), (2, 1), by omega, ⟨by unfold Ok; simp⟩, ⟨by unfold Ok; simp⟩, HP, rfl, rfl, rfl⟩
  case round =>
    obtain ⟨k, z, u, hk, hz, hu, hp, rfl, rfl, rfl⟩ := hrel
    by_cases hlt : 0 < k
    · obtain ⟨k, rfl⟩ : ∃ j : Nat, k = (j : Int) := ⟨k.toNat, by omega⟩
      obtain ⟨re, im, q1, q2⟩ := run_mulI u u hu.out hu.out
      have Q2 := Aside0.mk q2
      clear q2
      have hlt' : 0 < k := by omega
      have hp2 : Aside0 (powF (k / 2) (k / 2) (if k % 2 = 1 then mulI z u else z) (mulI u u) = P) := ⟨by rw [← powF_step k z u (by omega)]; have := hp.out; rwa [Int.toNat_natCast] at this⟩
      clear hp
      by_cases hodd : k % 2 = 1
      · obtain ⟨re', im', q3, q4⟩ := run_mulI z u hz.out hu.out
        have Q4 := Aside0.mk q4
        clear q4
        have ht : (bits .and .i64 (k : Int) 1 == 1) = true := by rw [and1]; simp; omega
        have hp3 := hp2.out
        rw [if_pos hodd] at hp3
        have HP3 := Aside0.mk hp3
        clear hp3 hp2 hodd
        go_wp2_with fail
        ((with_reducible refine (Q4.out _).mono ?_); rintro e w' ⟨rfl, rfl⟩)
        go_wp2_with fail
        ((with_reducible refine (Q2.out _).mono ?_); rintro e w' ⟨rfl, rfl⟩)
        go_wp2_with fail
        go_round
        case rel => exact ⟨(k : Int) / 2, mulI z u, mulI u u, by omega, ⟨Ok_mul _ _⟩, ⟨Ok_mul _ _⟩, ⟨by rw [show ((k : Int) / 2).toNat = k / 2 from by omega]; exact HP3.out⟩, rfl, rfl, rfl⟩
        case measure => simp [intOf]; omega
      · have ht : (bits .and .i64 (k : Int) 1 == 1) = false := by rw [and1]; simp; omega
        have hp3 := hp2.out
        rw [if_neg hodd] at hp3
        have HP3 := Aside0.mk hp3
        clear hp3 hp2 hodd
        go_wp2_with fail
        ((with_reducible refine (Q2.out _).mono ?_); rintro e w' ⟨rfl, rfl⟩)
        go_wp2_with fail
        go_round
        case rel => exact ⟨(k : Int) / 2, z, mulI u u, by omega, hz, ⟨Ok_mul _ _⟩, ⟨by rw [show ((k : Int) / 2).toNat = k / 2 from by omega]; exact HP3.out⟩, rfl, rfl, rfl⟩
        case measure => simp [intOf]; omega
    · have hz' : z = P := by have := hp.out; rwa [show k.toNat = 0 from by omega] at this
      subst hz'
      go_wp2_with fail
      ((with_reducible refine (from_start a ha0 ha1 _).mono ?_); rintro e w' ⟨rfl, rfl⟩)
      go_wp2_with fail
      ((with_reducible refine (from_start b hb0 hb1 _).mono ?_); rintro e w' ⟨rfl, rfl⟩)
      go_wp2_with fail
      ((with_reducible refine (G4.out _).mono ?_); rintro e w' ⟨rfl, rfl⟩)
      go_wp2_with fail
      obtain ⟨ho1, ho2, ho3, ho4⟩ := hj.out
      ((with_reducible refine (sum_calls _ _ ho1 ho2 ho3 ho4 _).mono ?_); rintro e w' ⟨rfl, rfl⟩)
      go_wp2
      go_ret
      exact ⟨rfl, Drawn0.refl _⟩
end Go.Proofs.Ytcfjojgpfpgfdaa.Spin
