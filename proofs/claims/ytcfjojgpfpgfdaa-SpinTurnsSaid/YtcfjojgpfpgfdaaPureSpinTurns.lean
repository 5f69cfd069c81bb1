/- For every bytes, and every byte's place and turn: the sum of the text with that byte turned is the same just if the turn is 0. Conditions: none beyond the form's own. -/
import Derived.Test.YtcfjojgpfpgfdaaPSpinTurnsx1
import Derived.Test.YtcfjojgpfpgfdaaSpinLaw
namespace Go.Proofs.Ytcfjojgpfpgfdaa.Pure
open Go.RowKit Go.Proofs.Ytcfjojgpfpgfdaa.PSpinTurns Go.Proofs.YtcfjojgpfpgfdaaW.PrintWords Go.Proofs.YtcfjojgpfpgfdaaW.PrintLast Go.Proofs.Ytcfjojgpfpgfdaa.Spin

theorem awake_true : drydocklaw03_awake.f = some true := by
  unfold drydocklaw03_awake.f spin_Sum.f
  rw [sum_nil]
  simp only [Option.bind_some]
  rw [if_pos trivial, sum_five]
  rfl

theorem xor_facts (c x : Int) (hc0 : 0 ≤ c) (hc1 : c < 256) (hx0 : 0 ≤ x) (hx1 : x < 256) : 0 ≤ Go.bits .xor .u8 c x ∧ Go.bits .xor .u8 c x < 256 ∧ (Go.bits .xor .u8 c x = c ↔ x = 0) := by
  obtain ⟨a, rfl⟩ := Int.eq_ofNat_of_zero_le hc0
  obtain ⟨b, rfl⟩ := Int.eq_ofNat_of_zero_le hx0
  have e : Go.bits .xor .u8 (a : Int) (b : Int) = ((a ^^^ b : Nat) : Int) := by
    have ha : a % 256 = a := by omega
    have hb : b % 256 = b := by omega
    have hlt : a ^^^ b < 2 ^ 8 := Nat.xor_lt_two_pow (by omega) (by omega)
    have e1 : Go.bits .xor .u8 (a : Int) (b : Int) = IntKind.u8.wrap (((BitVec.ofInt 8 (a : Int)) ^^^ (BitVec.ofInt 8 (b : Int))).toNat : Nat) := rfl
    rw [e1, BitVec.toNat_xor, BitVec.ofInt_natCast, BitVec.ofInt_natCast, BitVec.toNat_ofNat, BitVec.toNat_ofNat, show 2 ^ 8 = 256 from rfl, ha, hb, IntKind.wrap_u8]
    omega
  rw [e]
  have hlt : a ^^^ b < 2 ^ 8 := Nat.xor_lt_two_pow (by omega) (by omega)
  refine ⟨by omega, by omega, ?_⟩
  constructor
  · intro h
    have h' : a ^^^ b = a := by omega
    have h2 : a ^^^ (a ^^^ b) = a ^^^ a := by rw [h']
    rw [← Nat.xor_assoc, Nat.xor_self, Nat.zero_xor] at h2
    omega
  · intro h
    have h' : b = 0 := by omega
    subst h'
    rw [Nat.xor_zero]

theorem set_parts (l : List Int) (k : Nat) (x : Int) (h : k < l.length) : l.set k x = l.take k ++ x :: l.drop (k + 1) ∧ l = l.take k ++ rd l k :: l.drop (k + 1) := by
  constructor
  · rw [List.set_eq_take_append_cons_drop, if_pos h]
  · have e : rd l k = l[k] := by simp [rd, List.getD, h]
    rw [e, ← List.drop_eq_getElem_cons h, List.take_append_drop]

theorem SpinTurns : drydocklaw03_SpinTurns.Pure := by
  intro l at_ x h1 h2 h3 hat hx
  have hl := bytes_wf h3
  obtain ⟨ha0, ha1⟩ := wf_u16 hat
  obtain ⟨hx0, hx1⟩ := wf_u8 hx
  unfold drydocklaw03_SpinTurns.f
  by_cases h0 : (l.length : Int) = 0
  · rw [if_pos h0, awake_true]
    rfl
  · rw [if_neg h0]
    simp only [Option.bind_some, List.nil_append, List.length_nil]
    have e1 : wrap64 at_ = at_ := by unfold wrap64; omega
    rw [if_pos (by omega), if_neg h0, e1, Int.tmod_eq_emod_of_nonneg ha0]
    have hk0 : 0 ≤ at_ % (l.length : Int) := Int.emod_nonneg _ h0
    have hk1 : at_ % (l.length : Int) < (l.length : Int) := Int.emod_lt_of_pos _ (by omega)
    rw [if_pos hk0, if_pos hk1, awake_true]
    simp only [Option.bind_some]
    rw [if_pos trivial]
    obtain ⟨k, hk⟩ : ∃ k : Nat, at_ % (l.length : Int) = k := ⟨(at_ % (l.length : Int)).toNat, by omega⟩
    rw [hk, Int.toNat_natCast]
    have hkl : k < l.length := by omega
    have hc := hl _ (rd_mem hkl)
    obtain ⟨b1, b2, b3⟩ := xor_facts _ x hc.1 hc.2 hx0 hx1
    obtain ⟨s1, s2⟩ := set_parts l k (Go.bits .xor .u8 (rd l k) x) hkl
    have hset : Bytes (l.set k (Go.bits .xor .u8 (rd l k) x)) := by
      intro y hy
      rcases List.mem_or_eq_of_mem_set hy with h | h
      · exact hl y h
      · rw [h]
        exact ⟨b1, b2⟩
    unfold spin_Sum.f
    rw [sum_eq hset (by rw [List.length_set]; omega), sum_eq hl (by omega)]
    simp only [Option.bind_some]
    have key := run_turned (1, 0) (l.take k) (l.drop (k + 1)) (Go.bits .xor .u8 (rd l k) x) (rd l k) Ok_one b1 b2 hc.1 hc.2
    rw [← s1, ← s2, b3] at key
    by_cases hx' : x = 0
    · rw [beq_iff_eq.2 (key.2 hx'), beq_iff_eq.2 hx']
      rfl
    · rw [beq_eq_false_iff_ne.2 (fun h => hx' (key.1 h)), beq_eq_false_iff_ne.2 hx']
      rfl

end Go.Proofs.Ytcfjojgpfpgfdaa.Pure
