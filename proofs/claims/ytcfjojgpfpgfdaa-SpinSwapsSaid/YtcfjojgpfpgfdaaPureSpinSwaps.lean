/- For every bytes and every place: the sum of the text with two neighbours swapped is the same just if they are alike. Conditions: none beyond the form's own. -/
import Derived.Test.YtcfjojgpfpgfdaaPSpinSwapsx2
import Derived.Test.YtcfjojgpfpgfdaaSpinLaw
namespace Go.Proofs.Ytcfjojgpfpgfdaa.Pure
open Go.RowKit Go.Proofs.Ytcfjojgpfpgfdaa.PSpinSwaps Go.Proofs.YtcfjojgpfpgfdaaW.PrintWords Go.Proofs.YtcfjojgpfpgfdaaW.PrintLast Go.Proofs.Ytcfjojgpfpgfdaa.Spin
set_option linter.unusedVariables false

theorem awake_true : drydocklaw03_awake.f = some true := by
  unfold drydocklaw03_awake.f spin_Sum.f
  rw [sum_nil]
  simp only [Option.bind_some]
  rw [if_pos trivial, sum_five]
  rfl

theorem two_parts (l : List Int) (k : Nat) (h : k + 1 < l.length) : l = l.take k ++ rd l k :: rd l (k + 1 : Nat) :: l.drop (k + 2) := by
  have e1 : rd l k = l[k] := by simp [rd, List.getD, show k < l.length from by omega]
  have e2 : rd l (k + 1 : Nat) = l[k + 1] := by simp only [rd, Int.toNat_natCast]; simp [List.getD, h]
  rw [e1, e2, ← List.drop_eq_getElem_cons h, ← List.drop_eq_getElem_cons (show k < l.length from by omega), List.take_append_drop]

theorem swap_parts (p r : List Int) (c d x y : Int) (k : Nat) (hk : k = p.length) : ((p ++ c :: d :: r).set k x).set (k + 1) y = p ++ x :: y :: r := by
  subst hk
  rw [List.set_append_right _ _ (by omega), Nat.sub_self, List.set_cons_zero, List.set_append_right _ _ (by omega), show p.length + 1 - p.length = 1 from by omega, List.set_cons_succ, List.set_cons_zero]

theorem SpinSwaps : drydocklaw03_SpinSwaps.Pure := by
  intro l at_ h1 h2 h3 hat
  have hl := bytes_wf h3
  obtain ⟨ha0, ha1⟩ := wf_u16 hat
  unfold drydocklaw03_SpinSwaps.f
  by_cases h0 : (l.length : Int) < 2
  · rw [if_pos h0, awake_true]
    rfl
  · rw [if_neg h0]
    simp only [Option.bind_some, List.nil_append, List.length_nil]
    have e1 : wrap64 at_ = at_ := by unfold wrap64; omega
    have e2 : wrap64 ((l.length : Int) - 1) = (l.length : Int) - 1 := by unfold wrap64; omega
    rw [if_pos (by omega), e1, e2, if_neg (by omega), Int.tmod_eq_emod_of_nonneg ha0]
    have hk0 : 0 ≤ at_ % ((l.length : Int) - 1) := Int.emod_nonneg _ (by omega)
    have hk1 : at_ % ((l.length : Int) - 1) < (l.length : Int) - 1 := Int.emod_lt_of_pos _ (by omega)
    obtain ⟨k, hk⟩ : ∃ k : Nat, at_ % ((l.length : Int) - 1) = k := ⟨(at_ % ((l.length : Int) - 1)).toNat, by omega⟩
    rw [hk] at hk0 hk1 ⊢
    have e3 : wrap64 ((k : Int) + 1) = ((k + 1 : Nat) : Int) := by unfold wrap64; omega
    have g1 : (0 : Int) ≤ ((k + 1 : Nat) : Int) := by omega
    have g2 : ((k + 1 : Nat) : Int) < (l.length : Int) := by omega
    have g3 : (0 : Int) ≤ (k : Int) := by omega
    have g4 : (k : Int) < (l.length : Int) := by omega
    rw [e3, if_pos g1, if_pos g2, if_pos g3, if_pos g4, awake_true, Int.toNat_natCast, Int.toNat_natCast]
    simp only [Option.bind_some]
    rw [if_pos trivial]
    have hkl : k + 1 < l.length := by omega
    have hc := hl _ (rd_mem (show k < l.length from by omega))
    have hd := hl _ (rd_mem hkl)
    have s1 := two_parts l k hkl
    have s2 : (l.set k (rd l (k + 1 : Nat))).set (k + 1) (rd l k) = l.take k ++ rd l (k + 1 : Nat) :: rd l k :: l.drop (k + 2) := by
      have hp : k = (l.take k).length := by rw [List.length_take]; omega
      have := swap_parts (l.take k) (l.drop (k + 2)) (rd l k) (rd l (k + 1 : Nat)) (rd l (k + 1 : Nat)) (rd l k) k hp
      rw [← s1] at this
      exact this
    have hset : Bytes ((l.set k (rd l (k + 1 : Nat))).set (k + 1) (rd l k)) := by
      intro y hy
      rcases List.mem_or_eq_of_mem_set hy with h | h
      · rcases List.mem_or_eq_of_mem_set h with h | h
        · exact hl y h
        · rw [h]
          exact hd
      · rw [h]
        exact hc
    unfold spin_Sum.f
    rw [sum_eq hset (by rw [List.length_set, List.length_set]; omega), sum_eq hl (by omega)]
    simp only [Option.bind_some]
    have key := run_swapped (1, 0) (l.take k) (l.drop (k + 2)) (rd l (k + 1 : Nat)) (rd l k) Ok_one hd.1 hd.2 hc.1 hc.2
    rw [← s2, ← s1] at key
    have fin : ∀ x y u v : Int, (x = y ↔ u = v) → (if (k : Int) < (l.length : Int) then (if ((k + 1 : Nat) : Int) < (l.length : Int) then some ((x == y) == (v == u)) else none) else none) = some true := by
      intro x y u v h
      rw [if_pos g4, if_pos g2]
      by_cases hu : u = v
      · rw [beq_iff_eq.2 (h.2 hu), beq_iff_eq.2 hu.symm]
        rfl
      · rw [beq_eq_false_iff_ne.2 (fun q => hu (h.1 q)), beq_eq_false_iff_ne.2 (fun q => hu q.symm)]
        rfl
    exact fin _ _ _ _ key

end Go.Proofs.Ytcfjojgpfpgfdaa.Pure
