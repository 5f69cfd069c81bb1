/- For every block, place and size: Get of the program and of the reference answer alike. Conditions: none beyond the form's own. -/
import Derived.Test.YtbgnmiicbaecfaaPAllx3
import Derived.Test.YtbgnmiicbaecfaaPAllx2
import Derived.Test.YtbgnmiicbaecfaaFieldPure
namespace Go.Proofs.Ytbgnmiicbaecfaa.Pure
open Go.RowKit Go.Proofs.Ytbgnmiicbaecfaa.PAll Go.Proofs.YtbgnmiicbaecfaaW.PrintWords Go.Proofs.YtbgnmiicbaecfaaW.PrintLast Go.Proofs.Ytbgnmiicbaecfaa.Spin Go.Proofs.Ytbgnmiicbaecfaa.Field
set_option linter.unusedVariables false

theorem ref_check_eq (l : List Int) (a1 a2 : Int) : drydockref04_check.f l a1 a2 = some (checkI l.length a1 a2 4) := by
  unfold drydockref04_check.f checkI
  by_cases h : l.length = 64
  · rw [if_pos (by omega), if_pos h]
    by_cases h1 : a2 < 1
    · rw [if_pos h1, if_pos h1]
    · rw [if_neg h1, if_neg h1]
      by_cases h2 : 4 < a2
      · rw [if_pos h2, if_pos h2]
      · rw [if_neg h2, if_neg h2]
        by_cases h3 : a1 < 0
        · rw [if_pos h3, if_pos h3]
        · rw [if_neg h3, if_neg h3]
          by_cases h5 : a1 > 60
          · rw [if_pos h5, if_pos (by omega)]
          · have e : wrap64 (a1 + a2) = a1 + a2 := by unfold wrap64; omega
            rw [if_neg h5, e]
            by_cases h4 : 60 - a2 < a1
            · rw [if_pos (by omega), if_pos h4]
            · rw [if_neg (by omega), if_neg h4]
  · rw [if_neg (by omega), if_neg h]

/-- Bytes from a place on, as many as there are. -/
def cut (l : List Int) (o n : Nat) : List Int := (l.take (o + n)).drop o
theorem cut_cons (l : List Int) (o n : Nat) (h : o + (n + 1) ≤ l.length) : cut l o (n + 1) = rd l o :: cut l (o + 1) n := by
  unfold cut
  rw [List.drop_eq_getElem_cons (by rw [List.length_take]; omega), List.getElem_take]
  have e : rd l o = l[o] := by simp only [rd, Int.toNat_natCast, List.getD_eq_getElem?_getD, List.getElem?_eq_getElem (show o < l.length from by omega), Option.getD_some]
  have e2 : o + (n + 1) = o + 1 + n := by omega
  rw [e]
  simp only [e2]

theorem num_loop (l : List Int) (hl : Bytes l) (a1 a2 : Nat) (h : a1 + a2 ≤ l.length) (hn : l.length = 64) (h4 : a2 ≤ 4) (d : Nat) : ∀ k : Nat, d ≤ a2 → d < k →
    drydockref04_Num.l0 k l a1 (getI (cut l (a1 + d) (a2 - d))) ((d : Int) - 1) = some (getI (cut l a1 a2)) := by
  induction d with
  | zero =>
    intro k hd hk
    obtain ⟨k, rfl⟩ : ∃ m, k = m + 1 := ⟨k - 1, by omega⟩
    simp only [drydockref04_Num.l0]
    rw [if_neg (by omega)]
    rfl
  | succ d ih =>
    intro k hd hk
    obtain ⟨k, rfl⟩ : ∃ m, k = m + 1 := ⟨k - 1, by omega⟩
    have hrest := ih k (by omega) (by omega)
    rw [show a2 - d = a2 - (d + 1) + 1 from by omega, cut_cons _ _ _ (by omega), show a1 + d + 1 = a1 + (d + 1) from by omega] at hrest
    simp only [getI] at hrest
    have hb : Bytes (cut l (a1 + (d + 1)) (a2 - (d + 1))) := bytes_drop (bytes_take hl _) _
    have hr := getI_range _ hb
    have hlen : (cut l (a1 + (d + 1)) (a2 - (d + 1))).length ≤ 3 := by unfold cut; rw [List.length_drop, List.length_take]; omega
    have hp : (256 : Int) ^ (cut l (a1 + (d + 1)) (a2 - (d + 1))).length ≤ 16777216 := by
      have h3 : (cut l (a1 + (d + 1)) (a2 - (d + 1))).length = 0 ∨ (cut l (a1 + (d + 1)) (a2 - (d + 1))).length = 1 ∨ (cut l (a1 + (d + 1)) (a2 - (d + 1))).length = 2 ∨ (cut l (a1 + (d + 1)) (a2 - (d + 1))).length = 3 := by omega
      rcases h3 with h | h | h | h <;> rw [h] <;> decide
    have hc := hl _ (rd_mem (show a1 + d < l.length from by omega))
    generalize getI (cut l (a1 + (d + 1)) (a2 - (d + 1))) = q at *
    have e1 : ((d + 1 : Nat) : Int) - 1 = (d : Int) := by omega
    have e4 : wrap64 ((a1 : Int) + (d : Int)) = ((a1 + d : Nat) : Int) := by unfold wrap64; omega
    have e5 : wrap64 (rd l ((a1 + d : Nat) : Int)) = rd l ((a1 + d : Nat) : Int) := by unfold wrap64; omega
    have e6 : wrap64 (q * 256) = q * 256 := by unfold wrap64; omega
    have e7 : wrap64 (q * 256 + rd l ((a1 + d : Nat) : Int)) = rd l ((a1 + d : Nat) : Int) + 256 * q := by unfold wrap64; omega
    have e8 : wrap64 ((d : Int) - 1) = (d : Int) - 1 := by unfold wrap64; omega
    have g1 : (d : Int) ≥ 0 := by omega
    have g2 : (0 : Int) ≤ ((a1 + d : Nat) : Int) := by omega
    have g3 : ((a1 + d : Nat) : Int) < (l.length : Int) := by omega
    simp only [drydockref04_Num.l0]
    rw [e1, if_pos g1, e4, if_pos g2, if_pos g3, e5, e6, e7, e8]
    exact hrest

theorem FieldGets : drydocklaw04_FieldGets.Pure := by
  intro l a1 a2 h1 h2 h3 w1 w2
  have hl := bytes_wf h3
  refine ⟨5, ?_⟩
  unfold drydocklaw04_FieldGets.f drydockref04_Get.f
  rw [ref_check_eq, awake_true]
  simp only [Option.bind_some]
  by_cases hz : checkI l.length a1 a2 4 = 0
  · obtain ⟨h64, g1, g2, g3, g4⟩ := checkI_zero hz
    rw [Get_eq hl hz, if_pos hz]
    obtain ⟨m, rfl⟩ := Int.eq_ofNat_of_zero_le g3
    obtain ⟨s, rfl⟩ := Int.eq_ofNat_of_zero_le (show 0 ≤ a2 by omega)
    unfold drydockref04_Num.f
    have e : wrap64 ((s : Int) - 1) = (s : Int) - 1 := by unfold wrap64; omega
    have := num_loop l hl m s (by omega) h64 (by omega) s 5 (by omega) (by omega)
    have e0 : getI (cut l (m + s) (s - s)) = 0 := by
      unfold cut
      rw [Nat.sub_self, Nat.add_zero, List.drop_eq_nil_of_le (by rw [List.length_take]; omega)]
      rfl
    rw [e0] at this
    rw [e, this, Int.toNat_natCast, Int.toNat_natCast]
    simp only [Option.bind_some]
    rw [if_pos trivial]
    show (if getI (cut l m s) = getI (cut l m s) then _ else _) = _
    rw [if_pos rfl]
    rfl
  · rw [Get_no hz, if_neg hz]
    simp

end Go.Proofs.Ytbgnmiicbaecfaa.Pure
