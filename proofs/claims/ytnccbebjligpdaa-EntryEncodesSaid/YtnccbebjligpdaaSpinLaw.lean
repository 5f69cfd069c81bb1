/- Plain laws of the register: whole numbers and lists alone. -/
import Derived.Test.YtnccbebjligpdaaSpin
namespace Go.Proofs.Ytnccbebjligpdaa.Spin
open Go Go.Proofs.YtnccbebjligpdaaW.PrintWords
set_option linter.unusedVariables false

theorem start_tell {z : Int × Int} (h : Ok z) : startI (tellI z) = z := by
  obtain ⟨x, y⟩ := z
  obtain ⟨h1, h2, h3, h4⟩ := h
  simp only at h1 h2 h3 h4
  unfold startI tellI
  simp only
  congr 1 <;> omega
theorem tell_range {z : Int × Int} (h : Ok z) : 0 ≤ tellI z ∧ tellI z < 4294967296 := by
  obtain ⟨h1, h2, h3, h4⟩ := h
  unfold tellI
  omega
theorem tell_inj {z w : Int × Int} (hz : Ok z) (hw : Ok w) (h : tellI z = tellI w) : z = w := by
  have h1 := start_tell hz
  have h2 := start_tell hw
  rw [← h1, ← h2, h]
theorem start_one : startI 65536 = (1, 0) := by decide
theorem more_eq {s : Int} {l : List Int} (h0 : 0 ≤ s) (h1 : s < 4294967296) (hl : Bytes l) (hn : l.length ≤ 4611686018427387904) : moreF s l = some (tellI (runI (startI s) l)) := by
  unfold moreF
  rw [if_pos ⟨h0, h1, hl, hn⟩]
theorem sum_eq {l : List Int} (hl : Bytes l) (hn : l.length ≤ 4611686018427387904) : sumF l = some (tellI (runI (1, 0) l)) := by
  unfold sumF
  rw [more_eq (by omega) (by omega) hl hn, start_one]
theorem sum_nil : sumF [] = some 65536 := by decide
theorem sum_five : sumF [5] = some 458753 := by decide
theorem bytes_wf {l : List Int} (h : ∀ x ∈ l, (Lit.int .u8 x).wf = true) : Bytes l := by
  intro x hx
  have h1 := h x hx
  simp only [Lit.wf, Bool.and_eq_true, decide_eq_true_eq] at h1
  have h2 : IntKind.u8.min = 0 := by decide
  have h3 : IntKind.u8.max = 255 := by decide
  rw [h2, h3] at h1
  omega
theorem wf_u32 {x : Int} (h : (Lit.int .u32 x).wf = true) : 0 ≤ x ∧ x < 4294967296 := by
  simp only [Lit.wf, Bool.and_eq_true, decide_eq_true_eq] at h
  have h2 : IntKind.u32.min = 0 := by decide
  have h3 : IntKind.u32.max = 4294967295 := by decide
  rw [h2, h3] at h
  omega
theorem wf_u16 {x : Int} (h : (Lit.int .u16 x).wf = true) : 0 ≤ x ∧ x < 65536 := by
  simp only [Lit.wf, Bool.and_eq_true, decide_eq_true_eq] at h
  have h2 : IntKind.u16.min = 0 := by decide
  have h3 : IntKind.u16.max = 65535 := by decide
  rw [h2, h3] at h
  omega
theorem wf_u8 {x : Int} (h : (Lit.int .u8 x).wf = true) : 0 ≤ x ∧ x < 256 := by
  simp only [Lit.wf, Bool.and_eq_true, decide_eq_true_eq] at h
  have h2 : IntKind.u8.min = 0 := by decide
  have h3 : IntKind.u8.max = 255 := by decide
  rw [h2, h3] at h
  omega
theorem wf_i64 {x : Int} (h : (Lit.int .i64 x).wf = true) : -9223372036854775808 ≤ x ∧ x < 9223372036854775808 := by
  simp only [Lit.wf, Bool.and_eq_true, decide_eq_true_eq] at h
  have h2 : IntKind.i64.min = -9223372036854775808 := by decide
  have h3 : IntKind.i64.max = 9223372036854775807 := by decide
  rw [h2, h3] at h
  omega

/-- A byte's step is one to one. -/
theorem step_inj {z w : Int × Int} {c : Int} (hz : Ok z) (hw : Ok w) (h : stepI z c = stepI w c) : z = w := by
  obtain ⟨x, y⟩ := z
  obtain ⟨u, v⟩ := w
  obtain ⟨h1, h2, h3, h4⟩ := hz
  obtain ⟨g1, g2, g3, g4⟩ := hw
  simp only at h1 h2 h3 h4 g1 g2 g3 g4
  unfold stepI at h
  simp only [Prod.mk.injEq] at h
  obtain ⟨e1, e2⟩ := h
  have hx : x = u := by omega
  subst hx
  have hy : y = v := by omega
  subst hy
  rfl
theorem run_inj : ∀ (l : List Int) {z w : Int × Int}, Ok z → Ok w → runI z l = runI w l → z = w := by
  intro l
  induction l with
  | nil => exact fun _ _ h => h
  | cons c l ih =>
    intro z w hz hw h
    exact step_inj hz hw (ih (Ok_step z c) (Ok_step w c) h)
theorem run_append (z : Int × Int) (l m : List Int) : runI z (l ++ m) = runI (runI z l) m := by simp [runI]
theorem run_cons (z : Int × Int) (c : Int) (l : List Int) : runI z (c :: l) = runI (stepI z c) l := rfl
theorem step_ne {z : Int × Int} {c d : Int} (hc0 : 0 ≤ c) (hc1 : c < 256) (hd0 : 0 ≤ d) (hd1 : d < 256) (h : stepI z c = stepI z d) : c = d := by
  unfold stepI at h
  simp only [Prod.mk.injEq] at h
  omega
theorem Ok_one : Ok (1, 0) := by unfold Ok; decide

/-- Texts that part in one byte part in their sums. -/
theorem run_turned (z : Int × Int) (l r : List Int) (c d : Int) (hz : Ok z) (hc0 : 0 ≤ c) (hc1 : c < 256) (hd0 : 0 ≤ d) (hd1 : d < 256) :
    tellI (runI z (l ++ c :: r)) = tellI (runI z (l ++ d :: r)) ↔ c = d := by
  constructor
  · intro h
    have h1 := tell_inj (Ok_run hz _) (Ok_run hz _) h
    rw [run_append, run_append, run_cons, run_cons] at h1
    exact step_ne hc0 hc1 hd0 hd1 (run_inj r (Ok_step _ _) (Ok_step _ _) h1)
  · intro h
    rw [h]

/-- Texts of which two neighbours are swapped. -/
theorem run_swapped (z : Int × Int) (l r : List Int) (c d : Int) (hz : Ok z) (hc0 : 0 ≤ c) (hc1 : c < 256) (hd0 : 0 ≤ d) (hd1 : d < 256) :
    tellI (runI z (l ++ c :: d :: r)) = tellI (runI z (l ++ d :: c :: r)) ↔ c = d := by
  constructor
  · intro h
    have h1 := tell_inj (Ok_run hz _) (Ok_run hz _) h
    simp only [run_append, run_cons] at h1
    have h2 := run_inj r (Ok_step _ _) (Ok_step _ _) h1
    unfold stepI at h2
    simp only [Prod.mk.injEq] at h2
    omega
  · intro h
    rw [h]

end Go.Proofs.Ytnccbebjligpdaa.Spin
