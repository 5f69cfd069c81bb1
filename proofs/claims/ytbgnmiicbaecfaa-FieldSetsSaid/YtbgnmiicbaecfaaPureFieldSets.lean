/- For every block, place, size and number: Set of the program and of the reference answer alike. Conditions: none beyond the form's own. -/
import Derived.Test.YtbgnmiicbaecfaaPAllx2
import Derived.Test.YtbgnmiicbaecfaaPAllx1
import Derived.Test.YtbgnmiicbaecfaaFieldPure
namespace Go.Proofs.Ytbgnmiicbaecfaa.Pure
open Go.RowKit Go.Proofs.Ytbgnmiicbaecfaa.PAll Go.Proofs.YtbgnmiicbaecfaaW.PrintWords Go.Proofs.YtbgnmiicbaecfaaW.PrintLast Go.Proofs.Ytbgnmiicbaecfaa.Spin Go.Proofs.Ytbgnmiicbaecfaa.Field
set_option linter.unusedVariables false

theorem ref_check_eq (l : List Int) (a1 a2 : Int) : drydockref04_check.f l a1 a2 = some (checkI l.length a1 a2 4) := by
  unfold drydockref04_check.f checkI
  by_cases h : l.length = 64
  · rw [if_pos (by omega), if_pos h]
    by_cases h1 : a2 < 1
    · rw [if_pos h1, if_pos h1]
    · rw [if_neg h1, if_neg h1]
      by_cases h2 : 4 < a2
      · rw [if_pos h2, if_pos h2]
      · rw [if_neg h2, if_neg h2]
        by_cases h3 : a1 < 0
        · rw [if_pos h3, if_pos h3]
        · rw [if_neg h3, if_neg h3]
          by_cases h5 : a1 > 60
          · rw [if_pos h5, if_pos (by omega)]
          · have e : wrap64 (a1 + a2) = a1 + a2 := by unfold wrap64; omega
            rw [if_neg h5, e]
            by_cases h4 : 60 - a2 < a1
            · rw [if_pos (by omega), if_pos h4]
            · rw [if_neg (by omega), if_neg h4]
  · rw [if_neg (by omega), if_neg h]

theorem ref_set_loop (a1 : Nat) (a2 : Nat) (a3 : Int) (h : a1 + a2 ≤ 60) (h4 : a2 ≤ 4) (hr0 : 0 ≤ a3) (hr1 : a3 < 9223372036854775808) (l : List Int) (hl : l.length = 64) (d : Nat) : ∀ (k i : Nat), i + d = a2 → d < k →
    drydockref04_Set.l0 k a1 a2 a3 (putL l a1 a3 i) (a3 / 2 ^ (8 * i)) i = (if a3 / 2 ^ (8 * a2) = 0 then some (putL l a1 a3 a2, 0) else some ([], 7)) := by
  induction d with
  | zero =>
    intro k i hi hk
    obtain ⟨k, rfl⟩ : ∃ m, k = m + 1 := ⟨k - 1, by omega⟩
    obtain rfl : i = a2 := by omega
    simp only [drydockref04_Set.l0]
    have hq : 0 ≤ a3 / 2 ^ (8 * i) := Int.ediv_nonneg hr0 (Int.pow_nonneg (by decide))
    rw [if_neg (by omega), if_neg (by omega)]
    by_cases h0 : a3 / 2 ^ (8 * i) = 0
    · rw [if_neg (by omega), if_pos h0]
    · rw [if_pos (by omega), if_neg h0]
  | succ d ih =>
    intro k i hi hk
    obtain ⟨k, rfl⟩ : ∃ m, k = m + 1 := ⟨k - 1, by omega⟩
    have hrest := ih k (i + 1) (by omega) (by omega)
    have hq : 0 ≤ a3 / 2 ^ (8 * i) := Int.ediv_nonneg hr0 (Int.pow_nonneg (by decide))
    have hq2 : a3 / 2 ^ (8 * i) ≤ a3 := Int.ediv_le_self _ hr0
    have e3 : wrap64 ((i : Int) + 1) = ((i + 1 : Nat) : Int) := by unfold wrap64; omega
    have e4 : wrap64 ((a1 : Int) + (i : Int)) = ((a1 + i : Nat) : Int) := by unfold wrap64; omega
    have e5 : a3 / 2 ^ (8 * i) / 256 = a3 / 2 ^ (8 * (i + 1)) := by
      rw [Int.ediv_ediv_of_nonneg (Int.pow_nonneg (by decide)), show 8 * (i + 1) = 8 * i + 8 from by omega, Int.pow_add]
      rfl
    have g1 : (i : Int) < (a2 : Int) := by omega
    have g2 : (0 : Int) ≤ ((a1 + i : Nat) : Int) := by omega
    have g3 : ((a1 + i : Nat) : Int) < ((putL l a1 a3 i).length : Int) := by rw [putL_length]; omega
    rw [putL, ← e5] at hrest
    generalize a3 / 2 ^ (8 * i) = q at *
    have e6 : wrap64 (Int.tdiv q 256) = q / 256 := by
      rw [Int.tdiv_eq_ediv_of_nonneg hq]
      unfold wrap64
      omega
    have e7 : Int.tmod q 256 % 256 = q % 256 := by
      rw [Int.tmod_eq_emod_of_nonneg hq]
      omega
    simp only [drydockref04_Set.l0]
    rw [if_pos g1, e4, if_pos g2, if_pos g3, e6, e7, e3, Int.toNat_natCast]
    exact hrest

theorem ref_set_neg (a1 : Nat) (a2 : Nat) (a3 : Int) (h : a1 + a2 ≤ 60) (h4 : a2 ≤ 4) (hr0 : a3 < 0) (d : Nat) : ∀ (k i : Nat) (q : Int) (l : List Int), l.length = 64 → i + d = a2 → d < k →
    drydockref04_Set.l0 k a1 a2 a3 l q i = some ([], 7) := by
  induction d with
  | zero =>
    intro k i q l hl hi hk
    obtain ⟨k, rfl⟩ : ∃ m, k = m + 1 := ⟨k - 1, by omega⟩
    simp only [drydockref04_Set.l0]
    rw [if_neg (by omega), if_pos hr0]
  | succ d ih =>
    intro k i q l hl hi hk
    obtain ⟨k, rfl⟩ : ∃ m, k = m + 1 := ⟨k - 1, by omega⟩
    have e3 : wrap64 ((i : Int) + 1) = ((i + 1 : Nat) : Int) := by unfold wrap64; omega
    have e4 : wrap64 ((a1 : Int) + (i : Int)) = ((a1 + i : Nat) : Int) := by unfold wrap64; omega
    have g1 : (i : Int) < (a2 : Int) := by omega
    have g2 : (0 : Int) ≤ ((a1 + i : Nat) : Int) := by omega
    have g3 : ((a1 + i : Nat) : Int) < (l.length : Int) := by omega
    simp only [drydockref04_Set.l0]
    rw [if_pos g1, e4, if_pos g2, if_pos g3, e3]
    exact ih k (i + 1) _ _ (by rw [List.length_set]; exact hl) (by omega) (by omega)

theorem ref_set_eq (l : List Int) (a1 a2 a3 : Int) (hr1 : a3 < 9223372036854775808) : drydockref04_Set.f 5 l a1 a2 a3 = setF l a1 a2 a3 := by
  unfold drydockref04_Set.f setF
  rw [ref_check_eq]
  simp only [Option.bind_some, List.nil_append, List.length_nil]
  by_cases hz : checkI l.length a1 a2 4 = 0
  · obtain ⟨h64, h1, h2, h3, h4⟩ := checkI_zero hz
    rw [if_pos hz, if_pos (by omega), if_pos hz]
    obtain ⟨m, rfl⟩ := Int.eq_ofNat_of_zero_le h3
    obtain ⟨s, rfl⟩ := Int.eq_ofNat_of_zero_le (show 0 ≤ a2 by omega)
    rw [Int.toNat_natCast, Int.toNat_natCast, show (8 * (s : Int)).toNat = 8 * s from by omega]
    by_cases h0 : 0 ≤ a3
    · have := ref_set_loop m s a3 (by omega) (by omega) h0 hr1 l h64 s 5 0 (by omega) (by omega)
      rw [show a3 / 2 ^ (8 * 0) = a3 from by simp] at this
      have e : putL l m a3 0 = l := rfl
      rw [e, Int.ofNat_zero] at this
      rw [this]
      by_cases hq : a3 / 2 ^ (8 * s) = 0
      · rw [if_pos hq, if_pos ⟨h0, hq⟩]
      · rw [if_neg hq, if_neg (fun h => hq h.2)]
    · have := ref_set_neg m s a3 (by omega) (by omega) (by omega) s 5 0 a3 l h64 (by omega) (by omega)
      rw [Int.ofNat_zero] at this
      rw [this, if_neg (fun h => h0 h.1)]
  · rw [if_neg hz, if_neg hz]

theorem set_some (l : List Int) (a1 a2 a3 : Int) : ∃ r, setF l a1 a2 a3 = some r := by
  unfold setF
  repeat' split
  all_goals exact ⟨_, rfl⟩

theorem FieldSets : drydocklaw04_FieldSets.Pure := by
  intro l a1 a2 a3 h1 h2 h3 w1 w2 w3
  obtain ⟨r30, r31⟩ := wf_i64 w3
  refine ⟨5, ?_⟩
  obtain ⟨r, hr⟩ := set_some l a1 a2 a3
  unfold drydocklaw04_FieldSets.f field_Set.f
  rw [ref_set_eq l a1 a2 a3 r31, hr, awake_true]
  simp

end Go.Proofs.Ytbgnmiicbaecfaa.Pure
