/- Plain laws of the blocks of layer 8. -/
import Derived.Test.YtcihfmehbmficaaSuper
import Derived.Test.YtcihfmehbmficaaBase
namespace Go.Proofs.Ytcihfmehbmficaa.Super
open Go Go.Proofs.YtcihfmehbmficaaW.PrintWords Go.Proofs.Ytcihfmehbmficaa.Spin Go.Proofs.Ytcihfmehbmficaa.Ref Go.Proofs.Ytcihfmehbmficaa.Field Go.Proofs.Ytcihfmehbmficaa.Page Go.Proofs.Ytcihfmehbmficaa.Text
set_option linter.unusedVariables false

theorem headP_eq (a0 a1 : Int) : headP a0 a1 = [72, 69, 65, 68] ++ leB a0 1 ++ List.replicate 3 0 ++ leB a1 4 ++ List.replicate 52 0 := by rfl
theorem headP_length (a0 a1 : Int) : (headP a0 a1).length = 64 := by rfl
theorem headP_bytes (a0 a1 : Int) : Bytes (headP a0 a1) := by
  rw [headP_eq]
  refine bytes_append (bytes_append (bytes_append (bytes_append ?_ (leB_bytes _ _)) (bytes_replicate _)) (leB_bytes _ _)) (bytes_replicate _)
  intro x hx; simp only [List.mem_cons, List.not_mem_nil, or_false] at hx; omega
theorem headF_eq (a0 a1 : Int) : headF a0 a1 = some (if headB a0 a1 = true then (sealI (headP a0 a1), 0) else ([], 2)) := by
  unfold headF
  split
  · exact seal_eq (headP_bytes _ _) (headP_length _ _)
  · rfl
end Go.Proofs.Ytcihfmehbmficaa.Super
