/- For every start and every bytes, More and Sum of the program and of the reference tell one number. Conditions: none beyond the form's own. -/
import Derived.Test.YtcfjojgpfpgfdaaPSpinSumsx1
import Derived.Test.YtcfjojgpfpgfdaaSpinLaw
namespace Go.Proofs.Ytcfjojgpfpgfdaa.Pure
open Go.RowKit Go.Proofs.Ytcfjojgpfpgfdaa.PSpinSums Go.Proofs.YtcfjojgpfpgfdaaW.PrintWords Go.Proofs.YtcfjojgpfpgfdaaW.PrintLast Go.Proofs.Ytcfjojgpfpgfdaa.Spin

theorem awake_true : drydocklaw03_awake.f = some true := by
  unfold drydocklaw03_awake.f spin_Sum.f
  rw [sum_nil]
  simp only [Option.bind_some]
  rw [if_pos trivial, sum_five]
  rfl

theorem ref_round (x y c : Int) (hx0 : 0 ≤ x) (hx1 : x < 65521) (hy0 : 0 ≤ y) (hy1 : y < 65521) (hc0 : 0 ≤ c) (hc1 : c < 256) :
    Int.tmod (wrap64 ((Int.tmod (wrap64 ((wrap64 ((wrap64 (2 * x)) - y)) + (wrap64 c))) 65521) + 65521)) 65521 = (x * 2 - y + c) % 65521 ∧ Int.tmod (wrap64 (x + (wrap64 (2 * y)))) 65521 = (x + y * 2) % 65521 := by
  have e1 : wrap64 (2 * x) = 2 * x := by unfold wrap64; omega
  have e2 : wrap64 (2 * x - y) = 2 * x - y := by unfold wrap64; omega
  have e3 : wrap64 c = c := by unfold wrap64; omega
  have e4 : wrap64 (2 * x - y + c) = 2 * x - y + c := by unfold wrap64; omega
  have e5 : wrap64 (2 * y) = 2 * y := by unfold wrap64; omega
  have e6 : wrap64 (x + 2 * y) = x + 2 * y := by unfold wrap64; omega
  rw [e1, e2, e3, e4, e5, e6]
  obtain ⟨h1, h2, h3, h4⟩ := tmod_facts (2 * x - y + c)
  generalize (2 * x - y + c).tmod 65521 = r at *
  have e7 : wrap64 (r + 65521) = r + 65521 := by unfold wrap64; omega
  rw [e7, Int.tmod_eq_emod_of_nonneg (by omega), Int.tmod_eq_emod_of_nonneg (by omega)]
  constructor
  · by_cases h : r < 0
    · have := h1 h
      omega
    · have := h2 (by omega)
      omega
  · omega

theorem ref_end (x y : Int) (hx0 : 0 ≤ x) (hx1 : x < 65521) (hy0 : 0 ≤ y) (hy1 : y < 65521) : (((((x) % 4294967296) * 65536) % 4294967296) + ((y) % 4294967296)) % 4294967296 = x * 65536 + y := by omega

theorem ref_more (l : List Int) (hl : Bytes l) (hn : l.length ≤ 4611686018427387904) (d : Nat) : ∀ (k i : Nat) (x y : Int), i + d = l.length → d < k → Ok (x, y) →
    drydockref03_More.l0 k l x y i = some (tellI (runI (x, y) (l.drop i))) := by
  induction d with
  | zero =>
    intro k i x y hi hk hz
    obtain ⟨k, rfl⟩ : ∃ m, k = m + 1 := ⟨k - 1, by omega⟩
    obtain ⟨h1, h2, h3, h4⟩ := hz
    simp only at h1 h2 h3 h4
    simp only [drydockref03_More.l0]
    rw [if_neg (by omega), ref_end x y h1 h2 h3 h4, List.drop_eq_nil_of_le (by omega)]
    rfl
  | succ d ih =>
    intro k i x y hi hk hz
    obtain ⟨k, rfl⟩ : ∃ m, k = m + 1 := ⟨k - 1, by omega⟩
    obtain ⟨h1, h2, h3, h4⟩ := hz
    simp only at h1 h2 h3 h4
    have hlt : i < l.length := by omega
    have hb := hl _ (rd_mem hlt)
    simp only [drydockref03_More.l0]
    have g0 : (i : Int) < (l.length : Int) := by omega
    have g1 : 0 ≤ (i : Int) := by omega
    have hrest := ih k (i + 1) _ _ (by omega) (by omega) (Ok_step (x, y) (rd l i))
    obtain ⟨e1, e2⟩ := ref_round x y (rd l i) h1 h2 h3 h4 hb.1 hb.2
    have e3 : wrap64 ((i : Int) + 1) = ((i + 1 : Nat) : Int) := by unfold wrap64; omega
    have e4 : rd l i = l[i] := by simp [rd, List.getD, hlt]
    rw [if_pos g0, if_pos g1, e1, e2, e3, List.drop_eq_getElem_cons hlt, run_cons, ← e4]
    exact hrest

theorem ref_more_f (s : Int) (l : List Int) (h0 : 0 ≤ s) (h1 : s < 4294967296) (hl : Bytes l) (hn : l.length ≤ 4611686018427387904) : drydockref03_More.f (l.length + 1) s l = some (tellI (runI (startI s) l)) := by
  unfold drydockref03_More.f
  have e1 : ((Int.tdiv s 65536) % 4294967296) % 65521 = (startI s).1 := by
    rw [Int.tdiv_eq_ediv_of_nonneg h0]
    unfold startI
    simp only
    omega
  have e2 : Int.tmod (wrap64 (Int.tmod s 65536)) 65521 = (startI s).2 := by
    rw [Int.tmod_eq_emod_of_nonneg h0]
    have e : wrap64 (s % 65536) = s % 65536 := by unfold wrap64; omega
    rw [e, Int.tmod_eq_emod_of_nonneg (by omega)]
    unfold startI
    simp only
  rw [e1, e2]
  exact ref_more l hl hn l.length (l.length + 1) 0 _ _ (by omega) (by omega) (Ok_start s)

theorem SpinSums : drydocklaw03_SpinSums.Pure := by
  intro s l hs hl1 hl2 hl3
  obtain ⟨h0, h1⟩ := wf_u32 hs
  have hl := bytes_wf hl3
  have hn : l.length ≤ 4611686018427387904 := by omega
  refine ⟨l.length + 1, ?_⟩
  unfold drydocklaw03_SpinSums.f
  rw [awake_true]
  simp only [Option.bind_some]
  rw [if_pos trivial]
  unfold spin_Sum.f drydockref03_Sum.f spin_More.f
  rw [sum_eq hl hn, ref_more_f 65536 l (by omega) (by omega) hl hn, start_one]
  simp only [Option.bind_some]
  rw [if_pos trivial, more_eq h0 h1 hl hn, ref_more_f s l h0 h1 hl hn]
  simp

end Go.Proofs.Ytcfjojgpfpgfdaa.Pure
