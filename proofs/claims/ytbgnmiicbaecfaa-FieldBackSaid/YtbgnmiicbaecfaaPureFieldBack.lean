/- For every block, place, size, number and other place: what was set is got, and nothing else is changed. Conditions: none beyond the form's own. -/
import Derived.Test.YtbgnmiicbaecfaaPAllx5
import Derived.Test.YtbgnmiicbaecfaaFieldPure
namespace Go.Proofs.Ytbgnmiicbaecfaa.Pure
open Go.RowKit Go.Proofs.Ytbgnmiicbaecfaa.PAll Go.Proofs.YtbgnmiicbaecfaaW.PrintWords Go.Proofs.YtbgnmiicbaecfaaW.PrintLast Go.Proofs.Ytbgnmiicbaecfaa.Spin Go.Proofs.Ytbgnmiicbaecfaa.Field
set_option linter.unusedVariables false

theorem rd_same {l m : List Int} {i : Nat} (h : l[i]? = m[i]?) : rd l i = rd m i := by
  simp only [rd, Int.toNat_natCast, List.getD_eq_getElem?_getD, h]

/-- The number of one byte. -/
theorem get_one (l : List Int) (o : Nat) (h : o < l.length) : getI ((l.take (o + 1)).drop o) = rd l o := by
  rw [List.drop_eq_getElem_cons (by rw [List.length_take]; omega), List.getElem_take, List.drop_eq_nil_of_le (by rw [List.length_take]; omega)]
  have e : rd l o = l[o] := by simp only [rd, Int.toNat_natCast, List.getD_eq_getElem?_getD, List.getElem?_eq_getElem h, Option.getD_some]
  rw [e]
  simp [getI]

theorem Get_any {l : List Int} (hl : Bytes l) (h64 : l.length = 64) (a4 : Int) : field_Get.f l a4 1 = some (if checkI 64 a4 1 4 = 0 then rd l a4 else 0, checkI 64 a4 1 4) := by
  by_cases hz : checkI 64 a4 1 4 = 0
  · obtain ⟨_, h1, h2, h3, h4⟩ := checkI_zero hz
    rw [if_pos hz, Get_eq hl (by rw [h64]; exact hz), hz]
    obtain ⟨m, rfl⟩ := Int.eq_ofNat_of_zero_le h3
    rw [Int.toNat_natCast, show (1 : Int).toNat = 1 from rfl, get_one l m (by omega)]
  · rw [if_neg hz, Get_no (by rw [h64]; exact hz), h64]

theorem back_loop (l : List Int) (hl : Bytes l) (h64 : l.length = 64) (a1 a2 : Nat) (n a4 : Int) (hlo : -9223372036854775808 ≤ a4) (h : a1 + a2 ≤ 60) (h4 : a2 ≤ 4) (d : Nat) : ∀ (k i : Nat), i + d = 64 → d < k →
    drydocklaw04_FieldBack.l0 k l a1 a2 a4 (putL l a1 n a2) i = some true := by
  have hpl := putL_bytes hl a1 n a2
  have hp64 : (putL l a1 n a2).length = 64 := by rw [putL_length]; exact h64
  have hw : wrap64 ((a1 : Int) + (a2 : Int)) = ((a1 + a2 : Nat) : Int) := by unfold wrap64; omega
  induction d with
  | zero =>
    intro k i hi hk
    obtain ⟨k, rfl⟩ : ∃ m, k = m + 1 := ⟨k - 1, by omega⟩
    simp only [drydocklaw04_FieldBack.l0]
    rw [if_neg (by omega), Get_any hl h64, Get_any hpl hp64, hw]
    simp only [Option.bind_some]
    rw [if_pos trivial]
    by_cases hz : checkI 64 a4 1 4 = 0
    · obtain ⟨_, g1, g2, g3, g4⟩ := checkI_zero hz
      rw [if_pos hz, if_pos hz]
      obtain ⟨m, rfl⟩ := Int.eq_ofNat_of_zero_le g3
      by_cases hin : a1 ≤ m ∧ m < a1 + a2
      · by_cases e : rd l m = rd (putL l a1 n a2) m
        · rw [if_pos e]
        · rw [if_neg e, if_pos (by omega), decide_eq_true (by omega)]
      · rw [if_pos (rd_same (putL_get l a1 n a2 m (by omega)).symm)]
    · rw [if_neg hz, if_neg hz, if_pos rfl]
  | succ d ih =>
    intro k i hi hk
    obtain ⟨k, rfl⟩ : ∃ m, k = m + 1 := ⟨k - 1, by omega⟩
    have hrest := ih k (i + 1) (by omega) (by omega)
    have e3 : wrap64 ((i : Int) + 1) = ((i + 1 : Nat) : Int) := by unfold wrap64; omega
    have g1 : (i : Int) < ((putL l a1 n a2).length : Int) := by omega
    have g2 : (i : Int) < (l.length : Int) := by omega
    have g3 : (0 : Int) ≤ (i : Int) := by omega
    have g4 : (i : Int) < 64 := by omega
    simp only [drydocklaw04_FieldBack.l0]
    rw [if_pos g4, hw, e3]
    by_cases c1 : (i : Int) < (a1 : Int)
    · rw [if_pos c1, if_pos g3, if_pos g1, if_pos g2, if_pos (rd_same (putL_get l a1 n a2 i (by omega)))]
      exact hrest
    · rw [if_neg c1]
      by_cases c2 : (i : Int) ≥ ((a1 + a2 : Nat) : Int)
      · rw [if_pos c2, if_pos g3, if_pos g1, if_pos g2, if_pos (rd_same (putL_get l a1 n a2 i (by omega)))]
        exact hrest
      · rw [if_neg c2]
        exact hrest

theorem FieldBack : drydocklaw04_FieldBack.Pure := by
  intro l a1 a2 a3 a4 h1 h2 h3 w1 w2 w3 w4
  have hl := bytes_wf h3
  obtain ⟨r40, r41⟩ := wf_i64 w4
  refine ⟨67, ?_⟩
  unfold drydocklaw04_FieldBack.f field_Set.f setF
  rw [awake_true]
  by_cases h : checkI l.length a1 a2 4 = 0
  · rw [if_pos h]
    by_cases g : 0 ≤ a3 ∧ a3 / 2 ^ (8 * a2).toNat = 0
    · rw [if_pos g]
      simp only [Option.bind_some]
      rw [if_pos trivial]
      obtain ⟨h64, b1, b2, b3, b4⟩ := checkI_zero h
      obtain ⟨m, rfl⟩ := Int.eq_ofNat_of_zero_le b3
      obtain ⟨s, rfl⟩ := Int.eq_ofNat_of_zero_le (show 0 ≤ a2 by omega)
      rw [Int.toNat_natCast, Int.toNat_natCast]
      obtain ⟨g0, gq⟩ := g
      rw [show (8 * (s : Int)).toNat = 8 * s from by omega] at gq
      have hlt : a3 < 256 ^ s := by
        have hp0 : (0 : Int) < 2 ^ (8 * s) := Int.pow_pos (by decide)
        have h5 := Int.lt_ediv_add_one_mul_self a3 hp0
        rw [gq, Int.zero_add, Int.one_mul] at h5
        have e : (256 : Int) ^ s = 2 ^ (8 * s) := by rw [Int.pow_mul]; rfl
        rw [e]
        exact h5
      have hpl : (putL l m a3 s).length = 64 := by rw [putL_length]; exact h64
      show drydocklaw04_FieldBack.j0 (66 + 1) l m s a3 a4 (putL l m a3 s) false = some true
      simp only [drydocklaw04_FieldBack.j0]
      rw [if_neg (by decide), Get_eq (putL_bytes hl m a3 s) (by rw [hpl, ← h64]; exact h), Int.toNat_natCast, Int.toNat_natCast, putL_at l m a3 s (by omega), getI_le a3 g0 s (by omega), Int.emod_eq_of_lt g0 hlt]
      simp only [Option.bind_some]
      rw [if_pos trivial, if_pos trivial, hpl]
      show drydocklaw04_FieldBack.j1 (65 + 1) l m s a4 (putL l m a3 s) false = some true
      simp only [drydocklaw04_FieldBack.j1]
      rw [if_neg (by decide)]
      exact back_loop l hl h64 m s a3 a4 r40 (by omega) (by omega) 64 65 0 (by omega) (by omega)
    · rw [if_neg g]
      simp only [Option.bind_some]
      rw [if_pos trivial]
      show drydocklaw04_FieldBack.j0 (66 + 1) l a1 a2 a3 a4 [] true = some true
      simp only [drydocklaw04_FieldBack.j0]
      rw [if_pos trivial, awake_true]
      rfl
  · rw [if_neg h]
    simp only [Option.bind_some]
    rw [if_pos trivial]
    have e : (checkI l.length a1 a2 4 != 0) = true := by simpa using h
    rw [e]
    show drydocklaw04_FieldBack.j0 (66 + 1) l a1 a2 a3 a4 [] true = some true
    simp only [drydocklaw04_FieldBack.j0]
    rw [if_pos trivial, awake_true]
    rfl

end Go.Proofs.Ytbgnmiicbaecfaa.Pure
