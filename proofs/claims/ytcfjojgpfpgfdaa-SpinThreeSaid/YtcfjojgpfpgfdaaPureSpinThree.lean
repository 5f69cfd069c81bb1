/- For every three texts: joining their sums may be begun at either end. Conditions: none beyond the form's own. -/
import Derived.Test.YtcfjojgpfpgfdaaPSpinThreex1
import Derived.Test.YtcfjojgpfpgfdaaSpinLaw
namespace Go.Proofs.Ytcfjojgpfpgfdaa.Pure
open Go.RowKit Go.Proofs.Ytcfjojgpfpgfdaa.PSpinThree Go.Proofs.YtcfjojgpfpgfdaaW.PrintWords Go.Proofs.YtcfjojgpfpgfdaaW.PrintLast Go.Proofs.Ytcfjojgpfpgfdaa.Spin

theorem awake_true : drydocklaw03_awake.f = some true := by
  unfold drydocklaw03_awake.f spin_Sum.f
  rw [sum_nil]
  simp only [Option.bind_some]
  rw [if_pos trivial, sum_five]
  rfl

theorem SpinThree : drydocklaw03_SpinThree.Pure := by
  intro a b c a1 a2 a3 b1 b2 b3 c1 c2 c3
  have ha := bytes_wf a3
  have hb := bytes_wf b3
  have hc := bytes_wf c3
  have oa := Ok_run Ok_one a
  have ob := Ok_run Ok_one b
  have oc := Ok_run Ok_one c
  unfold drydocklaw03_SpinThree.f spin_Sum.f spin_Join.f
  rw [sum_eq ha (by omega), sum_eq hb (by omega), sum_eq hc (by omega), awake_true]
  simp only [Option.bind_some]
  rw [if_pos trivial]
  generalize runI (1, 0) a = x at *
  generalize runI (1, 0) b = y at *
  generalize runI (1, 0) c = z at *
  have ta := tell_range oa
  have tb := tell_range ob
  have tc := tell_range oc
  have e1 : wrap64 ((b.length : Int) + (c.length : Int)) = ((b.length + c.length : Nat) : Int) := by unfold wrap64; omega
  rw [e1, join_eq ta.1 ta.2 tb.1 tb.2 (by omega), join_eq tb.1 tb.2 tc.1 tc.2 (by omega), Int.toNat_natCast, Int.toNat_natCast, start_tell oa, start_tell ob, start_tell oc]
  simp only [Option.bind_some]
  have o1 := Ok_red (gadd (gmul (gadd x (-1, 0)) (M b.length)) y)
  have o2 := Ok_red (gadd (gmul (gadd y (-1, 0)) (M c.length)) z)
  have t1 := tell_range o1
  have t2 := tell_range o2
  rw [join_eq t1.1 t1.2 tc.1 tc.2 (by omega), join_eq ta.1 ta.2 t2.1 t2.2 (by omega), start_tell o1, start_tell o2, start_tell oa, start_tell oc, Int.toNat_natCast, Int.toNat_natCast]
  simp only [Option.bind_some]
  have key : red (gadd (gmul (gadd (red (gadd (gmul (gadd x (-1, 0)) (M b.length)) y)) (-1, 0)) (M c.length)) z) = red (gadd (gmul (gadd x (-1, 0)) (M (b.length + c.length))) (red (gadd (gmul (gadd y (-1, 0)) (M c.length)) z))) := by
    have s1 : ∀ q m : Int × Int, red (gmul (gadd (red q) (-1, 0)) m) = red (gmul (gadd q (-1, 0)) m) := fun q m => by rw [← red_gmul_l, red_gadd_l, red_gmul_l]
    rw [red_gadd_r, ← red_gadd_l (gmul _ _) z, s1, red_gadd_l]
    show red (gadd (gmul (gadd (gadd (gmul (gadd x (-1, 0)) (gpow (2, 1) b.length)) y) (-1, 0)) (gpow (2, 1) c.length)) z) = red (gadd (gmul (gadd x (-1, 0)) (gpow (2, 1) (b.length + c.length))) (gadd (gmul (gadd y (-1, 0)) (gpow (2, 1) c.length)) z))
    rw [gpow_add, ← gmul_assoc, ← gadd_assoc, ← gmul_add, ← gadd_assoc]
  rw [key]
  simp

end Go.Proofs.Ytcfjojgpfpgfdaa.Pure
