-- Printed out of the translation by a program; functions that were proved by hand stand among them. Lean checks it.
import Derived.Test.YtcfjojgpfpgfdaaProg
import Derived.Below
import Derived.Deep.Draws
import Derived.Deep.AppendLies
import Derived.Maps.AppendAt
import Derived.OwnWalk
import Derived.Laws.BytesArg
import Derived.Laws.MakeOwn
import Derived.Laws.OwnMore
import Derived.Deep.OwnRows
import Derived.Tactics
import Derived.Lib.ConvBytes
import Derived.Laws.Slices
import Derived.WalkKit
import Derived.KernelRfl
import Derived.RowKit3
import Derived.Deep.LoopGhost
import Derived.Deep.QuietTactic
import Derived.BigQuiet
import Derived.WideLaws
import Derived.Deep.DeepCutAuto
import Derived.Deep.CutBlock
import Derived.Deep.RegionHeld3
import Derived.Laws.Rows
import Derived.Lib.AppendStr
import Derived.ArgAppend
import Derived.Laws.IdiomCopy
import Derived.OrdersHeld
import Derived.Laws.BitsLemmas
import Derived.RowKit
import Derived.Test.YtcfjojgpfpgfdaaSpin
import Derived.Test.YtcfjojgpfpgfdaaWWords
import Derived.Test.YtcfjojgpfpgfdaaWLast
import Derived.Test.YtcfjojgpfpgfdaaWTab
import Derived.Test.YtcfjojgpfpgfdaaWFour
import Derived.Test.YtcfjojgpfpgfdaaWQPut
import Derived.Test.YtcfjojgpfpgfdaaWApart
import Derived.Test.YtcfjojgpfpgfdaaWArr
import Derived.Test.YtcfjojgpfpgfdaaWZeros
import Derived.Test.YtcfjojgpfpgfdaaWFoot
import Derived.Test.YtcfjojgpfpgfdaaWKept
import Derived.Test.YtcfjojgpfpgfdaaWShare
import Derived.Test.YtcfjojgpfpgfdaaWN
import Derived.Test.YtcfjojgpfpgfdaaWFootNe
import Derived.Test.YtcfjojgpfpgfdaaWAt
import Derived.Test.YtcfjojgpfpgfdaaWEqStruct
import Derived.Test.YtcfjojgpfpgfdaaWRepsOne
import Derived.Test.YtcfjojgpfpgfdaaWInv
import Derived.Test.YtcfjojgpfpgfdaaWInvWords
import Derived.Test.YtcfjojgpfpgfdaaWGuard
import Derived.Test.YtcfjojgpfpgfdaaWNEv
import Derived.Test.YtcfjojgpfpgfdaaWMore
namespace Go.Proofs.Ytcfjojgpfpgfdaa.PSpinParts
open Go.RowKit Go.Proofs.YtcfjojgpfpgfdaaW.PrintWords Go.Proofs.YtcfjojgpfpgfdaaW.PrintLast Go.Proofs.YtcfjojgpfpgfdaaW.PrintMore
attribute [local go_sem] max2_int min2_int max_two min_two max_three min_three max_four min_four   -- for this text's walks alone
set_option linter.unusedVariables false
set_option linter.unusedSimpArgs false



def errW : Option Int → Value
  | none => .nilIface
  | some c => .iface 0 (.int .i64 c)
theorem errW_none : errW none = .nilIface := rfl
theorem errW_some (c : Int) : errW (some c) = .iface 0 (.int .i64 c) := rfl

theorem info5 : (Try.prog.info? 5).map (fun i => (i.zero, i.size, i.bytes)) = some (some (.int .u8 0), 1, 1) := by kernel_rfl
-- the values' own types

end Go.Proofs.Ytcfjojgpfpgfdaa.PSpinParts
