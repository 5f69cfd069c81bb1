-- Printed out of the translation by a program; functions that were proved by hand stand among them. Lean checks it.
import Derived.Test.YtcihfmehbmficaaProg
import Derived.Below
import Derived.Deep.Draws
import Derived.Deep.AppendLies
import Derived.Maps.AppendAt
import Derived.OwnWalk
import Derived.Laws.BytesArg
import Derived.Laws.MakeOwn
import Derived.Laws.OwnMore
import Derived.Deep.OwnRows
import Derived.Tactics
import Derived.Lib.ConvBytes
import Derived.Laws.Slices
import Derived.WalkKit
import Derived.KernelRfl
import Derived.RowKit3
import Derived.Deep.LoopGhost
import Derived.Deep.QuietTactic
import Derived.BigQuiet
import Derived.WideLaws
import Derived.Deep.DeepCutAuto
import Derived.Deep.CutBlock
import Derived.Deep.RegionHeld3
import Derived.Laws.Rows
import Derived.Lib.AppendStr
import Derived.ArgAppend
import Derived.Laws.IdiomCopy
import Derived.OrdersHeld
import Derived.Laws.BitsLemmas
import Derived.RowKit
import Derived.Test.YtcihfmehbmficaaBase
import Derived.Test.YtcihfmehbmficaaLog
import Derived.Test.YtcihfmehbmficaaSuper
import Derived.Test.YtcihfmehbmficaaWWords
import Derived.Test.YtcihfmehbmficaaWLast
import Derived.Test.YtcihfmehbmficaaWTab
import Derived.Test.YtcihfmehbmficaaWFour
import Derived.Test.YtcihfmehbmficaaWQPut
import Derived.Test.YtcihfmehbmficaaWApart
import Derived.Test.YtcihfmehbmficaaWArr
import Derived.Test.YtcihfmehbmficaaWZeros
import Derived.Test.YtcihfmehbmficaaWFoot
import Derived.Test.YtcihfmehbmficaaWKept
import Derived.Test.YtcihfmehbmficaaWShare
import Derived.Test.YtcihfmehbmficaaWN
import Derived.Test.YtcihfmehbmficaaWFootNe
import Derived.Test.YtcihfmehbmficaaWAt
import Derived.Test.YtcihfmehbmficaaWEqStruct
import Derived.Test.YtcihfmehbmficaaWRepsOne
import Derived.Test.YtcihfmehbmficaaWInv
import Derived.Test.YtcihfmehbmficaaWInvWords
import Derived.Test.YtcihfmehbmficaaWGuard
import Derived.Test.YtcihfmehbmficaaWNEv
import Derived.Test.YtcihfmehbmficaaWMore
namespace Go.Proofs.Ytcihfmehbmficaa.PAll
open Go.RowKit Go.Proofs.YtcihfmehbmficaaW.PrintWords Go.Proofs.YtcihfmehbmficaaW.PrintLast Go.Proofs.YtcihfmehbmficaaW.PrintMore
attribute [local go_sem] max2_int min2_int max_two min_two max_three min_three max_four min_four   -- for this text's walks alone
set_option linter.unusedVariables false
set_option linter.unusedSimpArgs false



def errW : Option Int → Value
  | none => .nilIface
  | some c => .iface 0 (.int .i64 c)
theorem errW_none : errW none = .nilIface := rfl
theorem errW_some (c : Int) : errW (some c) = .iface 0 (.int .i64 c) := rfl

theorem info3 : (Try.prog.info? 3).map (fun i => (i.zero, i.size, i.bytes)) = some (some (.int .i64 0), 1, 8) := by kernel_rfl
theorem info5 : (Try.prog.info? 5).map (fun i => (i.zero, i.size, i.bytes)) = some (some (.int .u8 0), 1, 1) := by kernel_rfl
-- the values' own types

end Go.Proofs.Ytcihfmehbmficaa.PAll
