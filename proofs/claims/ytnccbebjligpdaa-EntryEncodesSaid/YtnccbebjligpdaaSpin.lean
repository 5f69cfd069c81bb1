/- The walks of package spin: each function once. -/
import Derived.Test.YtnccbebjligpdaaProg
import Derived.Test.YtnccbebjligpdaaWWords
import Derived.Test.YtnccbebjligpdaaFloat
import Derived.WalkKit
import Derived.KernelRfl
import Derived.Laws.Cover3
import Derived.Deep.QuietTactic
import Derived.BigQuiet
import Derived.Deep.LoopGhost
import Derived.Outline
import Derived.Lib.Hide
namespace Go.Proofs.Ytnccbebjligpdaa.Spin
open Go Go.RowKit Go.Proofs.Ytnccbebjligpdaa.Fl Go.Proofs.YtnccbebjligpdaaW.PrintWords
set_option linter.unusedVariables false

theorem tmod_facts (n : Int) : (n.tmod 65521 < 0 → n % 65521 = n.tmod 65521 + 65521) ∧ (0 ≤ n.tmod 65521 → n % 65521 = n.tmod 65521) ∧ -65521 < n.tmod 65521 ∧ n.tmod 65521 < 65521 := by
  have h1 := Int.tmod_add_mul_tdiv n 65521
  have h2 : n.tmod 65521 < 65521 := Int.tmod_lt_of_pos n (by decide)
  have h3 : -65521 < n.tmod 65521 := by
    rcases Int.le_total 0 n with h | h
    · have := Int.tmod_nonneg 65521 h
      omega
    · have := Int.tmod_lt_of_pos (-n) (show (0 : Int) < 65521 by decide)
      rw [Int.neg_tmod] at this
      omega
  generalize n.tmod 65521 = r at *
  generalize n.tdiv 65521 = q at *
  subst h1
  refine ⟨fun h => ?_, fun h => ?_, h3, h2⟩ <;> omega

theorem mod_calls (b : Nat) (n : Int) (hb : Fl b n) (hn : n.natAbs < 2 ^ 53) (w : World) :
    Calls Try.prog 71 #[.float .f64 b] w fun e w' => e = .returned (.float .f64 (floatOfInt .f64 (n % 65521))) ∧ w = w' := by
  have hn' : -9007199254740992 < n ∧ n < 9007199254740992 := by
    have : (2 : Nat) ^ 53 = 9007199254740992 := by decide
    omega
  obtain ⟨hn1, hn2⟩ := hn'
  have hc : ∀ W : World, (convert 90 3 (.float .f64 b)).run Try.prog W = .ok (.int .i64 n) W := fun W =>
    run_convert_float_int W 90 3 .f64 .i64 b n (by kernel_rfl) (by kernel_rfl) (fl_toInt hb .i64 (by show (-9223372036854775808 : Int) ≤ n; omega) (by show n ≤ 9223372036854775807; omega))
  clear hb hn
  obtain ⟨hm1, hm2, hm3, hm4⟩ := tmod_facts n
  have hM1 := Lib.hid hm1
  have hM2 := Lib.hid hm2
  clear hm1 hm2
  by_cases h : n.tmod 65521 < 0
  · have hd : decide (n.tmod 65521 < 0) = true := by simpa using h
    go_enter Try.func71, Try.ntmps71
    go_wp2
    go_ret
    exact ⟨by rw [hM1.out h]; rfl, rfl⟩
  · have hd : decide (n.tmod 65521 < 0) = false := by simpa using h
    go_enter Try.func71, Try.ntmps71
    go_wp2
    go_ret
    exact ⟨by rw [hM2.out (by omega)]; rfl, rfl⟩

/-- The word of a whole number. -/
abbrev R (n : Int) : Nat := floatOfInt .f64 n

theorem reduce_calls (a b : Nat) (x y : Int) (ha : Fl a x) (hx : x.natAbs < 2 ^ 53) (hb : Fl b y) (hy : y.natAbs < 2 ^ 53) (w : World) :
    Calls Try.prog 68 #[.complex .f64 a b] w fun e w' => e = .returned (.complex .f64 (R (x % 65521)) (R (y % 65521))) ∧ w = w' := by
  go_enter Try.func68, Try.ntmps68
  go_wp2_with fail
  ((with_reducible refine (mod_calls a x ha hx _).mono ?_); rintro e w' ⟨rfl, rfl⟩)
  go_wp2_with fail
  ((with_reducible refine (mod_calls b y hb hy _).mono ?_); rintro e w' ⟨rfl, rfl⟩)
  go_wp2
  go_ret
  exact ⟨rfl, rfl⟩

theorem small (n : Int) (h0 : -1099511627776 < n) (h : n < 1099511627776) : n.natAbs < 2 ^ 53 := by
  have : (2 : Nat) ^ 53 = 9007199254740992 := by decide
  omega

theorem from_calls (s : Int) (h0 : 0 ≤ s) (h1 : s < 4294967296) (w : World) :
    Calls Try.prog 61 #[.int .u32 s] w fun e w' => e = .returned (.complex .f64 (R (s / 65536 % 65521)) (R (s % 65536 % 65521))) ∧ w = w' := by
  go_enter Try.func61, Try.ntmps61
  go_wp2_with fail
  ((with_reducible refine (reduce_calls _ _ (s / 65536) (s % 65536) (fl_E _ (small _ (by omega) (by omega))) (small _ (by omega) (by omega)) (fl_E _ (small _ (by omega) (by omega))) (small _ (by omega) (by omega)) _).mono ?_); rintro e w' ⟨rfl, rfl⟩)
  go_wp2
  go_ret
  exact ⟨rfl, rfl⟩

theorem sum_calls (x y : Int) (hx0 : 0 ≤ x) (hx1 : x < 65521) (hy0 : 0 ≤ y) (hy1 : y < 65521) (w : World) :
    Calls Try.prog 63 #[.complex .f64 (R x) (R y)] w fun e w' => e = .returned (.int .u32 (x * 65536 + y)) ∧ w = w' := by
  have hc : ∀ W : World, (convert 90 71 (.float .f64 (R x))).run Try.prog W = .ok (.int .u32 x) W := fun W =>
    run_convert_float_int W 90 71 .f64 .u32 _ x (by kernel_rfl) (by kernel_rfl) (fl_toInt (fl_E x (small x (by omega) (by omega))) .u32 (by show (0 : Int) ≤ x; omega) (by show x ≤ 4294967295; omega))
  have hd : ∀ W : World, (convert 90 71 (.float .f64 (R y))).run Try.prog W = .ok (.int .u32 y) W := fun W =>
    run_convert_float_int W 90 71 .f64 .u32 _ y (by kernel_rfl) (by kernel_rfl) (fl_toInt (fl_E y (small y (by omega) (by omega))) .u32 (by show (0 : Int) ≤ y; omega) (by show y ≤ 4294967295; omega))
  go_enter Try.func63, Try.ntmps63
  go_wp2
  go_ret
  exact ⟨rfl, rfl⟩

/-- Behind a byte. -/
def stepI (z : Int × Int) (c : Int) : Int × Int := ((z.1 * 2 - z.2 + c) % 65521, (z.1 + z.2 * 2) % 65521)

/-- The word of a register. -/
abbrev C (z : Int × Int) : Value := .complex .f64 (R z.1) (R z.2)

/-- Is it a register? -/
def Ok (z : Int × Int) : Prop := 0 ≤ z.1 ∧ z.1 < 65521 ∧ 0 ≤ z.2 ∧ z.2 < 65521

theorem Ok_mod (x y : Int) : Ok (x % 65521, y % 65521) := by
  unfold Ok
  simp only
  omega

theorem step_calls (z : Int × Int) (c : Int) (hz : Ok z) (hc0 : 0 ≤ c) (hc1 : c < 256) (w : World) :
    Calls Try.prog 62 #[C z, .int .u8 c] w fun e w' => e = .returned (C (stepI z c)) ∧ w = w' := by
  obtain ⟨x, y⟩ := z
  obtain ⟨hx0, hx1, hy0, hy1⟩ := hz
  simp only at hx0 hx1 hy0 hy1
  obtain ⟨re, im, hm, fr, fi⟩ := cmul (fl_E x (small x (by omega) (by omega))) (fl_E y (small y (by omega) (by omega))) fl_two fl_one
    (small _ (by omega) (by omega)) (small _ (by omega) (by omega)) (small _ (by omega) (by omega)) (small _ (by omega) (by omega)) (small _ (by omega) (by omega)) (small _ (by omega) (by omega))
  obtain ⟨re2, im2, ha, fr2, fi2⟩ := cadd fr fi (fl_E c (small c (by omega) (by omega))) fl_zero (small _ (by omega) (by omega)) (small _ (by omega) (by omega))
  rw [Int.mul_one] at fr2
  rw [Int.mul_one, Int.add_zero] at fi2
  have hm' : ∀ W : World, (binOp .mul 84 (.complex .f64 (R x) (R y)) (.complex .f64 4611686018427387904 4607182418800017408)).run Try.prog W = .ok (.complex .f64 re im) W := fun W => run_complex_mul W _ _ _ _ _ _ _ hm
  have ha' : ∀ W : World, (binOp .add 84 (.complex .f64 re im) (.complex .f64 (R c) 0)).run Try.prog W = .ok (.complex .f64 re2 im2) W := fun W => run_complex_sum W .add (.inl rfl) _ _ _ _ _ _ _ _ ha
  clear hm ha
  show Calls Try.prog 62 #[.complex .f64 (R x) (R y), .int .u8 c] w fun e w' => e = .returned (.complex .f64 (R ((x * 2 - y + c) % 65521)) (R ((x + y * 2) % 65521))) ∧ w = w'
  go_enter Try.func62, Try.ntmps62
  go_wp2_with fail
  ((with_reducible refine (reduce_calls _ _ _ _ fr2 (small _ (by omega) (by omega)) fi2 (small _ (by omega) (by omega)) _).mono ?_); rintro e w' ⟨rfl, rfl⟩)
  go_wp2
  go_ret
  exact ⟨rfl, rfl⟩

/-- What More begins with. -/
def startI (s : Int) : Int × Int := (s / 65536 % 65521, s % 65536 % 65521)
def tellI (z : Int × Int) : Int := z.1 * 65536 + z.2
def runI (z : Int × Int) (l : List Int) : Int × Int := l.foldl stepI z
def Bytes (l : List Int) : Prop := ∀ x ∈ l, 0 ≤ x ∧ x < 256
instance (l : List Int) : Decidable (Bytes l) := by unfold Bytes; infer_instance

theorem from_start (s : Int) (h0 : 0 ≤ s) (h1 : s < 4294967296) (w : World) :
    Calls Try.prog 61 #[.int .u32 s] w fun e w' => e = .returned (C (startI s)) ∧ w = w' := from_calls s h0 h1 w

theorem Ok_start (s : Int) : Ok (startI s) := Ok_mod _ _
theorem Ok_step (z : Int × Int) (c : Int) : Ok (stepI z c) := Ok_mod _ _
theorem Ok_run {z : Int × Int} (h : Ok z) : ∀ l : List Int, Ok (runI z l) := by
  intro l
  induction l generalizing z with
  | nil => exact h
  | cons c l ih => exact ih (Ok_step z c)
theorem run_snoc (z : Int × Int) (l : List Int) (c : Int) : runI z (l ++ [c]) = stepI (runI z l) c := by simp [runI]
theorem take_rd (l : List Int) (k : Nat) (h : k < l.length) : l.take (k + 1) = l.take k ++ [rd l k] := by
  rw [List.take_succ_eq_append_getElem h]
  simp [rd, List.getD, h]
theorem rd_mem {l : List Int} {k : Nat} (h : k < l.length) : rd l k ∈ l := by
  simp [rd, List.getD, h]

def moreF (s : Int) (l : List Int) : Option Int := if 0 ≤ s ∧ s < 4294967296 ∧ Bytes l ∧ l.length ≤ 4611686018427387904 then some (tellI (runI (startI s) l)) else none
theorem moreF_some {s : Int} {l : List Int} {r : Int} (h : moreF s l = some r) : 0 ≤ s ∧ s < 4294967296 ∧ Bytes l ∧ l.length ≤ 4611686018427387904 ∧ r = tellI (runI (startI s) l) := by
  unfold moreF at h
  split at h
  · rename_i g
    cases h
    exact ⟨g.1, g.2.1, g.2.2.1, g.2.2.2, rfl⟩
  · cases h

theorem more_still (s : Int) (A1 : Option Addr) (c1 : Nat) (l : List Int) (r : Int) (w : World) (hr : Kd.C (Kd.int .u8) w A1 l.length l) (hc : l.length ≤ c1) (h : moreF s l = some r) :
    Calls Try.prog 59 #[.int .u32 s, .slice A1 l.length c1] w fun e w' => e = .returned (.int .u32 r) ∧ w' = w := by
  obtain ⟨hs0, hs1, hb, hlen, hr'⟩ := moreF_some h
  subst hr'
  have HR := Aside0.mk hr
  have HC := Aside0.mk hc
  have HB := Aside0.mk hb
  clear h hr hc hb
  go_enter Try.func59, Try.ntmps59
  go_wp2_with fail
  ((with_reducible refine (from_calls s hs0 hs1 _).mono ?_); rintro e w' ⟨rfl, rfl⟩)
  go_wp2
  go_loop [5, 12] (fun z i => ∃ k : Nat, k ≤ l.length ∧ i = .int .i64 k ∧ z = C (runI (startI s) (l.take k))) (fun _ i => l.length - (intOf i).toNat)
  case atStart => exact ⟨0, Nat.zero_le _, rfl, rfl⟩
  case round =>
    obtain ⟨k, hk, rfl, rfl⟩ := hrel
    by_cases hlt : k < l.length
    · have hrun := run_snoc (startI s) (l.take k) (rd l k)
      rw [← take_rd l k hlt] at hrun
      have HRUN := Aside0.mk hrun
      clear hrun
      obtain ⟨ad, e, hx⟩ := Kd.at_int HR.out (k : Int) (by omega) (by omega)
      cases e
      rw [Int.toNat_natCast] at hx
      have hcb := HB.out _ (rd_mem hlt)
      obtain ⟨hc0, hc1⟩ := hcb
      have hok := Aside0.mk (Ok_run (Ok_start s) (l.take k))
      go_wp2_with fail
      ((with_reducible refine (step_calls _ _ hok.out hc0 hc1 _).mono ?_); rintro e w' ⟨rfl, rfl⟩)
      go_wp2
      go_round
      case rel => exact ⟨k + 1, by omega, by go_num, by rw [HRUN.out]⟩
      case measure => simp [intOf]; omega
    · go_wp2_with fail
      have hk' : k = l.length := by omega
      subst hk'
      obtain ⟨ho1, ho2, ho3, ho4⟩ := Ok_run (Ok_start s) (l.take l.length)
      rw [List.take_length] at ho1 ho2 ho3 ho4
      rw [List.take_length]
      ((with_reducible refine (sum_calls _ _ ho1 ho2 ho3 ho4 _).mono ?_); rintro e w' ⟨rfl, rfl⟩)
      go_wp2
      go_ret
      exact ⟨rfl, rfl⟩

theorem more_calls (s : Int) (A1 : Option Addr) (c1 : Nat) (l : List Int) (r : Int) (w : World) (hr : Kd.C (Kd.int .u8) w A1 l.length l) (hc : l.length ≤ c1) (h : moreF s l = some r) :
    Calls Try.prog 59 #[.int .u32 s, .slice A1 l.length c1] w fun e w' => e = .returned (.int .u32 r) ∧ Drawn0 w w' :=
  (more_still s A1 c1 l r w hr hc h).mono fun _ _ ⟨he, hw⟩ => ⟨he, hw ▸ Drawn0.refl _⟩

def sumF (l : List Int) : Option Int := moreF 65536 l

theorem sum_still (A1 : Option Addr) (c1 : Nat) (l : List Int) (r : Int) (w : World) (hr : Kd.C (Kd.int .u8) w A1 l.length l) (hc : l.length ≤ c1) (h : sumF l = some r) :
    Calls Try.prog 52 #[.slice A1 l.length c1] w fun e w' => e = .returned (.int .u32 r) ∧ w' = w := by
  have HR := Aside0.mk hr
  have HC := Aside0.mk hc
  have H := Aside0.mk (show moreF 65536 l = some r from h)
  clear h hr hc
  go_enter Try.func52, Try.ntmps52
  go_wp2_with fail
  ((with_reducible refine (more_still _ _ _ _ r _ HR.out HC.out H.out).mono ?_); rintro e w' ⟨rfl, rfl⟩)
  go_wp2
  go_ret
  exact ⟨rfl, rfl⟩

theorem sum_of_calls (A1 : Option Addr) (c1 : Nat) (l : List Int) (r : Int) (w : World) (hr : Kd.C (Kd.int .u8) w A1 l.length l) (hc : l.length ≤ c1) (h : sumF l = some r) :
    Calls Try.prog 52 #[.slice A1 l.length c1] w fun e w' => e = .returned (.int .u32 r) ∧ Drawn0 w w' :=
  (sum_still A1 c1 l r w hr hc h).mono fun _ _ ⟨he, hw⟩ => ⟨he, hw ▸ Drawn0.refl _⟩

end Go.Proofs.Ytnccbebjligpdaa.Spin
