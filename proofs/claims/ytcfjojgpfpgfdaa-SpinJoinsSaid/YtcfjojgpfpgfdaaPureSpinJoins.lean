/- For every two sums and every length: Join of the program and of the reference tell one number. Conditions: none beyond the form's own. -/
import Derived.Test.YtcfjojgpfpgfdaaPSpinJoinsx1
import Derived.Test.YtcfjojgpfpgfdaaSpinLaw
namespace Go.Proofs.Ytcfjojgpfpgfdaa.Pure
open Go.RowKit Go.Proofs.Ytcfjojgpfpgfdaa.PSpinJoins Go.Proofs.YtcfjojgpfpgfdaaW.PrintWords Go.Proofs.YtcfjojgpfpgfdaaW.PrintLast Go.Proofs.Ytcfjojgpfpgfdaa.Spin
set_option linter.unusedVariables false

theorem awake_true : drydocklaw03_awake.f = some true := by
  unfold drydocklaw03_awake.f spin_Sum.f
  rw [sum_nil]
  simp only [Option.bind_some]
  rw [if_pos trivial, sum_five]
  rfl

theorem tmod_red (n : Int) : n.tmod 65521 % 65521 = n % 65521 ∧ -65521 < n.tmod 65521 ∧ n.tmod 65521 < 65521 := by
  obtain ⟨h1, h2, h3, h4⟩ := tmod_facts n
  refine ⟨?_, h3, h4⟩
  by_cases h : n.tmod 65521 < 0
  · have := h1 h
    omega
  · have := h2 (by omega)
    omega

theorem ref_round (x y : Int) (hx0 : -65521 < x) (hx1 : x < 65521) (hy0 : -65521 < y) (hy1 : y < 65521) :
    Int.tmod (wrap64 ((wrap64 (2 * x)) - y)) 65521 = (2 * x - y).tmod 65521 ∧ Int.tmod (wrap64 (x + (wrap64 (2 * y)))) 65521 = (x + 2 * y).tmod 65521 := by
  have e1 : wrap64 (2 * x) = 2 * x := by unfold wrap64; omega
  have e2 : wrap64 (2 * x - y) = 2 * x - y := by unfold wrap64; omega
  have e5 : wrap64 (2 * y) = 2 * y := by unfold wrap64; omega
  have e6 : wrap64 (x + 2 * y) = x + 2 * y := by unfold wrap64; omega
  rw [e1, e2, e5, e6]
  exact ⟨rfl, rfl⟩

theorem ref_end (x c : Int) (hx0 : -65521 < x) (hx1 : x < 65521) (hc0 : 0 ≤ c) (hc1 : c < 65521) : Int.tmod (wrap64 ((Int.tmod (wrap64 (x + c)) 65521) + 65521)) 65521 = (x + c) % 65521 := by
  have e1 : wrap64 (x + c) = x + c := by unfold wrap64; omega
  rw [e1]
  obtain ⟨h1, h2, h3⟩ := tmod_red (x + c)
  generalize (x + c).tmod 65521 = r at *
  have e7 : wrap64 (r + 65521) = r + 65521 := by unfold wrap64; omega
  rw [e7, Int.tmod_eq_emod_of_nonneg (by omega)]
  omega

theorem ref_tell (x y : Int) (hx0 : 0 ≤ x) (hx1 : x < 65521) (hy0 : 0 ≤ y) (hy1 : y < 65521) : (((((x) % 4294967296) * 65536) % 4294967296) + ((y) % 4294967296)) % 4294967296 = x * 65536 + y := by omega

theorem start_fst (s : Int) (h0 : 0 ≤ s) (h1 : s < 4294967296) : ((Int.tdiv s 65536) % 4294967296) % 65521 = (startI s).1 := by
  rw [Int.tdiv_eq_ediv_of_nonneg h0]
  unfold startI
  simp only
  omega
theorem start_snd (s : Int) (h0 : 0 ≤ s) (h1 : s < 4294967296) : Int.tmod (wrap64 (Int.tmod s 65536)) 65521 = (startI s).2 := by
  rw [Int.tmod_eq_emod_of_nonneg h0]
  have e : wrap64 (s % 65536) = s % 65536 := by unfold wrap64; omega
  rw [e, Int.tmod_eq_emod_of_nonneg (by omega)]
  unfold startI
  simp only

theorem ref_join (b n : Int) (hb0 : 0 ≤ b) (hb1 : b < 4294967296) (hn : n ≤ 5000) (d : Nat) : ∀ (k : Nat) (i x y : Int), 0 ≤ i → d = (n - i).toNat → d < k → -65521 < x → x < 65521 → -65521 < y → y < 65521 →
    drydockref03_Join.l0 k b n x y i = some (tellI (red (gadd (gmul (x, y) (M d)) (startI b)))) := by
  induction d with
  | zero =>
    intro k i x y hi hd hk hx0 hx1 hy0 hy1
    obtain ⟨k, rfl⟩ : ∃ m, k = m + 1 := ⟨k - 1, by omega⟩
    obtain ⟨o1, o2, o3, o4⟩ := Ok_start b
    simp only [drydockref03_Join.l0]
    rw [if_neg (by omega), start_fst b hb0 hb1, start_snd b hb0 hb1, ref_end x _ hx0 hx1 o1 o2, ref_end y _ hy0 hy1 o3 o4, ref_tell _ _ (by omega) (by omega) (by omega) (by omega)]
    rw [show M 0 = (1, 0) from rfl, gmul_one]
    rfl
  | succ d ih =>
    intro k i x y hi hd hk hx0 hx1 hy0 hy1
    obtain ⟨k, rfl⟩ : ∃ m, k = m + 1 := ⟨k - 1, by omega⟩
    have hlt : i < n := by omega
    obtain ⟨e1, e2⟩ := ref_round x y hx0 hx1 hy0 hy1
    have e3 : wrap64 (i + 1) = i + 1 := by unfold wrap64; omega
    obtain ⟨a1, a2, a3⟩ := tmod_red (2 * x - y)
    obtain ⟨b1, b2, b3⟩ := tmod_red (x + 2 * y)
    have hrest := ih k (i + 1) _ _ (by omega) (by omega) (by omega) a2 a3 b2 b3
    simp only [drydockref03_Join.l0]
    rw [if_pos hlt, e1, e2, e3, hrest]
    have g : red ((2 * x - y).tmod 65521, (x + 2 * y).tmod 65521) = red (gmul (x, y) (2, 1)) := by
      unfold red gmul
      simp only
      rw [a1, b1]
      congr 2 <;> omega
    rw [← red_gadd_l, ← red_gmul_l, g, red_gmul_l, red_gadd_l, gmul_assoc, show gmul (2, 1) (M d) = M (d + 1) from by rw [gmul_comm]; rfl]

theorem ref_join_f (a b n : Int) (ha0 : 0 ≤ a) (ha1 : a < 4294967296) (hb0 : 0 ≤ b) (hb1 : b < 4294967296) (hn : n ≤ 5000) :
    drydockref03_Join.f 5001 a b n = joinF a b n := by
  rw [join_eq ha0 ha1 hb0 hb1 (by omega)]
  unfold drydockref03_Join.f
  obtain ⟨o1, o2, o3, o4⟩ := Ok_start a
  rw [start_fst a ha0 ha1, start_snd a ha0 ha1, ref_join b n hb0 hb1 hn n.toNat 5001 0 _ _ (by omega) (by omega) (by omega) (by omega) (by omega) (by omega) (by omega)]
  have e : gadd (startI a) (-1, 0) = ((startI a).1 - 1, (startI a).2) := by
    unfold gadd
    simp only [Int.add_zero]
    rfl
  rw [e]

theorem SpinJoins : drydocklaw03_SpinJoins.Pure := by
  intro a b n ha hb hn
  obtain ⟨ha0, ha1⟩ := wf_u32 ha
  obtain ⟨hb0, hb1⟩ := wf_u32 hb
  obtain ⟨hn0, hn1⟩ := wf_i64 hn
  refine ⟨5001, ?_⟩
  unfold drydocklaw03_SpinJoins.f spin_Join.f
  rw [awake_true]
  simp only [Option.bind_some]
  by_cases h : n > 5000
  · rw [if_pos h, if_pos trivial, ref_join_f a b 5000 ha0 ha1 hb0 hb1 (by omega), join_eq ha0 ha1 hb0 hb1 (by omega)]
    simp
  · rw [if_neg h, if_pos trivial, ref_join_f a b n ha0 ha1 hb0 hb1 (by omega), join_eq ha0 ha1 hb0 hb1 (by omega)]
    simp

end Go.Proofs.Ytcfjojgpfpgfdaa.Pure
