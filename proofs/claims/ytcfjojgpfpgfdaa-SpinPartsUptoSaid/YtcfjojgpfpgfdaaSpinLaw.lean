/- Plain laws of the register: whole numbers and lists alone. -/
import Derived.Test.YtcfjojgpfpgfdaaSpin
namespace Go.Proofs.Ytcfjojgpfpgfdaa.Spin
open Go Go.Proofs.YtcfjojgpfpgfdaaW.PrintWords
set_option linter.unusedVariables false

theorem start_tell {z : Int × Int} (h : Ok z) : startI (tellI z) = z := by
  obtain ⟨x, y⟩ := z
  obtain ⟨h1, h2, h3, h4⟩ := h
  simp only at h1 h2 h3 h4
  unfold startI tellI
  simp only
  congr 1 <;> omega
theorem tell_range {z : Int × Int} (h : Ok z) : 0 ≤ tellI z ∧ tellI z < 4294967296 := by
  obtain ⟨h1, h2, h3, h4⟩ := h
  unfold tellI
  omega
theorem tell_inj {z w : Int × Int} (hz : Ok z) (hw : Ok w) (h : tellI z = tellI w) : z = w := by
  have h1 := start_tell hz
  have h2 := start_tell hw
  rw [← h1, ← h2, h]
theorem start_one : startI 65536 = (1, 0) := by decide
theorem more_eq {s : Int} {l : List Int} (h0 : 0 ≤ s) (h1 : s < 4294967296) (hl : Bytes l) (hn : l.length ≤ 4611686018427387904) : moreF s l = some (tellI (runI (startI s) l)) := by
  unfold moreF
  rw [if_pos ⟨h0, h1, hl, hn⟩]
theorem sum_eq {l : List Int} (hl : Bytes l) (hn : l.length ≤ 4611686018427387904) : sumF l = some (tellI (runI (1, 0) l)) := by
  unfold sumF
  rw [more_eq (by omega) (by omega) hl hn, start_one]
theorem sum_nil : sumF [] = some 65536 := by decide
theorem sum_five : sumF [5] = some 458753 := by decide
theorem bytes_wf {l : List Int} (h : ∀ x ∈ l, (Lit.int .u8 x).wf = true) : Bytes l := by
  intro x hx
  have h1 := h x hx
  simp only [Lit.wf, Bool.and_eq_true, decide_eq_true_eq] at h1
  have h2 : IntKind.u8.min = 0 := by decide
  have h3 : IntKind.u8.max = 255 := by decide
  rw [h2, h3] at h1
  omega
theorem wf_u32 {x : Int} (h : (Lit.int .u32 x).wf = true) : 0 ≤ x ∧ x < 4294967296 := by
  simp only [Lit.wf, Bool.and_eq_true, decide_eq_true_eq] at h
  have h2 : IntKind.u32.min = 0 := by decide
  have h3 : IntKind.u32.max = 4294967295 := by decide
  rw [h2, h3] at h
  omega
theorem wf_u16 {x : Int} (h : (Lit.int .u16 x).wf = true) : 0 ≤ x ∧ x < 65536 := by
  simp only [Lit.wf, Bool.and_eq_true, decide_eq_true_eq] at h
  have h2 : IntKind.u16.min = 0 := by decide
  have h3 : IntKind.u16.max = 65535 := by decide
  rw [h2, h3] at h
  omega
theorem wf_u8 {x : Int} (h : (Lit.int .u8 x).wf = true) : 0 ≤ x ∧ x < 256 := by
  simp only [Lit.wf, Bool.and_eq_true, decide_eq_true_eq] at h
  have h2 : IntKind.u8.min = 0 := by decide
  have h3 : IntKind.u8.max = 255 := by decide
  rw [h2, h3] at h
  omega
theorem wf_i64 {x : Int} (h : (Lit.int .i64 x).wf = true) : -9223372036854775808 ≤ x ∧ x < 9223372036854775808 := by
  simp only [Lit.wf, Bool.and_eq_true, decide_eq_true_eq] at h
  have h2 : IntKind.i64.min = -9223372036854775808 := by decide
  have h3 : IntKind.i64.max = 9223372036854775807 := by decide
  rw [h2, h3] at h
  omega

/-- A byte's step is one to one. -/
theorem step_inj {z w : Int × Int} {c : Int} (hz : Ok z) (hw : Ok w) (h : stepI z c = stepI w c) : z = w := by
  obtain ⟨x, y⟩ := z
  obtain ⟨u, v⟩ := w
  obtain ⟨h1, h2, h3, h4⟩ := hz
  obtain ⟨g1, g2, g3, g4⟩ := hw
  simp only at h1 h2 h3 h4 g1 g2 g3 g4
  unfold stepI at h
  simp only [Prod.mk.injEq] at h
  obtain ⟨e1, e2⟩ := h
  have hx : x = u := by omega
  subst hx
  have hy : y = v := by omega
  subst hy
  rfl
theorem run_inj : ∀ (l : List Int) {z w : Int × Int}, Ok z → Ok w → runI z l = runI w l → z = w := by
  intro l
  induction l with
  | nil => exact fun _ _ h => h
  | cons c l ih =>
    intro z w hz hw h
    exact step_inj hz hw (ih (Ok_step z c) (Ok_step w c) h)
theorem run_append (z : Int × Int) (l m : List Int) : runI z (l ++ m) = runI (runI z l) m := by simp [runI]
theorem run_cons (z : Int × Int) (c : Int) (l : List Int) : runI z (c :: l) = runI (stepI z c) l := rfl
theorem step_ne {z : Int × Int} {c d : Int} (hc0 : 0 ≤ c) (hc1 : c < 256) (hd0 : 0 ≤ d) (hd1 : d < 256) (h : stepI z c = stepI z d) : c = d := by
  unfold stepI at h
  simp only [Prod.mk.injEq] at h
  omega
theorem Ok_one : Ok (1, 0) := by unfold Ok; decide

/-- Texts that part in one byte part in their sums. -/
theorem run_turned (z : Int × Int) (l r : List Int) (c d : Int) (hz : Ok z) (hc0 : 0 ≤ c) (hc1 : c < 256) (hd0 : 0 ≤ d) (hd1 : d < 256) :
    tellI (runI z (l ++ c :: r)) = tellI (runI z (l ++ d :: r)) ↔ c = d := by
  constructor
  · intro h
    have h1 := tell_inj (Ok_run hz _) (Ok_run hz _) h
    rw [run_append, run_append, run_cons, run_cons] at h1
    exact step_ne hc0 hc1 hd0 hd1 (run_inj r (Ok_step _ _) (Ok_step _ _) h1)
  · intro h
    rw [h]

/-- Texts of which two neighbours are swapped. -/
theorem run_swapped (z : Int × Int) (l r : List Int) (c d : Int) (hz : Ok z) (hc0 : 0 ≤ c) (hc1 : c < 256) (hd0 : 0 ≤ d) (hd1 : d < 256) :
    tellI (runI z (l ++ c :: d :: r)) = tellI (runI z (l ++ d :: c :: r)) ↔ c = d := by
  constructor
  · intro h
    have h1 := tell_inj (Ok_run hz _) (Ok_run hz _) h
    simp only [run_append, run_cons] at h1
    have h2 := run_inj r (Ok_step _ _) (Ok_step _ _) h1
    unfold stepI at h2
    simp only [Prod.mk.injEq] at h2
    omega
  · intro h
    rw [h]

/- ### Whole complex numbers, modulo the prime -/
def red (z : Int × Int) : Int × Int := (z.1 % 65521, z.2 % 65521)
def gmul (z w : Int × Int) : Int × Int := (z.1 * w.1 - z.2 * w.2, z.1 * w.2 + z.2 * w.1)
def gadd (z w : Int × Int) : Int × Int := (z.1 + w.1, z.2 + w.2)
def gpow (z : Int × Int) : Nat → Int × Int
  | 0 => (1, 0)
  | n + 1 => gmul (gpow z n) z
theorem red_red (z : Int × Int) : red (red z) = red z := by
  unfold red
  simp only [Int.emod_emod]
theorem red_gmul (z w : Int × Int) : red (gmul (red z) (red w)) = red (gmul z w) := by
  unfold red gmul
  simp only
  rw [Int.sub_emod (z.1 * w.1), Int.mul_emod z.1 w.1, Int.mul_emod z.2 w.2, ← Int.sub_emod, Int.add_emod (z.1 * w.2), Int.mul_emod z.1 w.2, Int.mul_emod z.2 w.1, ← Int.add_emod]
theorem red_gmul_l (z w : Int × Int) : red (gmul (red z) w) = red (gmul z w) := by
  rw [← red_gmul, red_red, red_gmul]
theorem red_gmul_r (z w : Int × Int) : red (gmul z (red w)) = red (gmul z w) := by
  rw [← red_gmul, red_red, red_gmul]
theorem red_gadd (z w : Int × Int) : red (gadd (red z) (red w)) = red (gadd z w) := by
  unfold red gadd
  simp only
  congr 1 <;> omega
theorem red_gadd_l (z w : Int × Int) : red (gadd (red z) w) = red (gadd z w) := by
  rw [← red_gadd, red_red, red_gadd]
theorem red_gadd_r (z w : Int × Int) : red (gadd z (red w)) = red (gadd z w) := by
  rw [← red_gadd, red_red, red_gadd]
theorem gmul_assoc (a b c : Int × Int) : gmul (gmul a b) c = gmul a (gmul b c) := by
  unfold gmul
  simp only [Prod.mk.injEq]
  constructor <;> grind
theorem gmul_comm (a b : Int × Int) : gmul a b = gmul b a := by
  unfold gmul
  simp only [Prod.mk.injEq]
  constructor <;> grind
theorem gmul_add (a b c : Int × Int) : gmul (gadd a b) c = gadd (gmul a c) (gmul b c) := by
  unfold gmul gadd
  simp only [Prod.mk.injEq]
  constructor <;> grind
theorem gadd_assoc (a b c : Int × Int) : gadd (gadd a b) c = gadd a (gadd b c) := by
  unfold gadd
  simp only [Prod.mk.injEq]
  constructor <;> omega
theorem gmul_one (a : Int × Int) : gmul a (1, 0) = a := by
  unfold gmul
  simp
theorem one_gmul (a : Int × Int) : gmul (1, 0) a = a := by rw [gmul_comm, gmul_one]
theorem gpow_add (z : Int × Int) (n m : Nat) : gpow z (n + m) = gmul (gpow z n) (gpow z m) := by
  induction m with
  | zero => rw [Nat.add_zero, gpow, gmul_one]
  | succ m ih => rw [← Nat.add_assoc, gpow, gpow, ih, gmul_assoc]
theorem gpow_sq (z : Int × Int) (n : Nat) : gpow (gmul z z) n = gpow z (2 * n) := by
  induction n with
  | zero => rfl
  | succ n ih => rw [gpow, ih, show 2 * (n + 1) = 2 * n + 1 + 1 from by omega, gpow, gpow, gmul_assoc]
theorem red_gpow (z : Int × Int) (n : Nat) : red (gpow (red z) n) = red (gpow z n) := by
  induction n with
  | zero => rfl
  | succ n ih => rw [gpow, gpow, ← red_gmul, ih, red_red, red_gmul]
theorem mulI_red (z w : Int × Int) : mulI z w = red (gmul z w) := rfl
theorem powF_red : ∀ (f n : Nat) (m u : Int × Int), n ≤ f → red (powF f n m u) = red (gmul m (gpow u n)) := by
  intro f
  induction f with
  | zero =>
    intro n m u h
    obtain rfl : n = 0 := by omega
    rw [powF, gpow, gmul_one]
  | succ f ih =>
    intro n m u h
    rw [powF]
    by_cases h0 : n = 0
    · subst h0
      rw [if_pos rfl, gpow, gmul_one]
    · rw [if_neg h0, ih (n / 2) _ _ (by omega), mulI_red u u, ← red_gmul_r, red_gpow, red_gmul_r, gpow_sq]
      by_cases ho : n % 2 = 1
      · rw [if_pos ho, mulI_red, red_gmul_l, gmul_assoc, gmul_comm u, show gmul (gpow u (2 * (n / 2))) u = gpow u (2 * (n / 2) + 1) from rfl, show 2 * (n / 2) + 1 = n from by omega]
      · rw [if_neg ho, show 2 * (n / 2) = n from by omega]

/-- 2 + i to the n. -/
abbrev M (n : Nat) : Int × Int := gpow (2, 1) n
theorem joinI_red (z w m : Int × Int) : joinI z w m = red (gadd (gmul (gadd z (-1, 0)) m) w) := by
  unfold joinI red gadd gmul
  simp only [Prod.mk.injEq]
  constructor
  · rw [Int.add_zero]; rfl
  · rw [Int.add_zero]; rfl
theorem join_eq {a b n : Int} (ha0 : 0 ≤ a) (ha1 : a < 4294967296) (hb0 : 0 ≤ b) (hb1 : b < 4294967296) (hn : n < 9223372036854775808) :
    joinF a b n = some (tellI (red (gadd (gmul (gadd (startI a) (-1, 0)) (M n.toNat)) (startI b)))) := by
  unfold joinF
  rw [if_pos ⟨ha0, ha1, hb0, hb1, hn⟩, joinI_red, ← red_gadd_l, ← red_gmul_r, powF_red _ _ _ _ (Nat.le_refl _), one_gmul, red_gmul_r, red_gadd_l]
theorem stepI_red (z : Int × Int) (c : Int) : stepI z c = red (gadd (gmul z (2, 1)) (c, 0)) := by
  unfold stepI red gadd gmul
  simp only [Prod.mk.injEq]
  constructor
  · congr 1
    omega
  · congr 1
    omega
theorem Ok_red (z : Int × Int) : Ok (red z) := Ok_mod _ _
theorem red_Ok {z : Int × Int} (h : Ok z) : red z = z := by
  obtain ⟨x, y⟩ := z
  obtain ⟨h1, h2, h3, h4⟩ := h
  simp only at h1 h2 h3 h4
  unfold red
  simp only
  congr 1 <;> omega

/-- What a text does to a register. -/
theorem run_shift : ∀ (l : List Int) (z d : Int × Int), Ok z → runI (red (gadd d z)) l = red (gadd (gmul d (M l.length)) (runI z l)) := by
  intro l
  induction l with
  | nil =>
    intro z d hz
    show red (gadd d z) = red (gadd (gmul d (1, 0)) z)
    rw [gmul_one]
  | cons c l ih =>
    intro z d hz
    rw [run_cons, run_cons]
    have e : stepI (red (gadd d z)) c = red (gadd (gmul d (2, 1)) (stepI z c)) := by
      rw [stepI_red, stepI_red, ← red_gadd_l, red_gmul_l, red_gadd_l, gmul_add, gadd_assoc, ← red_gadd_r]
    rw [e, ih _ _ (Ok_step z c), List.length_cons, gmul_assoc, show gmul (2, 1) (M l.length) = M (l.length + 1) from by rw [gmul_comm]; rfl]

/-- The sum of two texts together. -/
theorem run_join (z : Int × Int) (l : List Int) (hz : Ok z) : runI z l = red (gadd (gmul (gadd z (-1, 0)) (M l.length)) (runI (1, 0) l)) := by
  have h := run_shift l (1, 0) (gadd z (-1, 0)) Ok_one
  have e : red (gadd (gadd z (-1, 0)) (1, 0)) = z := by
    rw [gadd_assoc, show gadd ((-1 : Int), (0 : Int)) (1, 0) = (0, 0) from rfl]
    have : gadd z (0, 0) = z := by unfold gadd; simp
    rw [this, red_Ok hz]
  rw [e] at h
  exact h
end Go.Proofs.Ytcfjojgpfpgfdaa.Spin
