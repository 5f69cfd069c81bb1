-- Printed out of the translation by a program; functions that were proved by hand stand among them. Lean checks it.
import Derived.Test.YtefhjfaojbjjaaaProg
import Derived.Below
import Derived.Deep.Draws
import Derived.Deep.AppendLies
import Derived.Maps.AppendAt
import Derived.OwnWalk
import Derived.Laws.BytesArg
import Derived.Laws.MakeOwn
import Derived.Laws.OwnMore
import Derived.Deep.OwnRows
import Derived.Tactics
import Derived.Lib.ConvBytes
import Derived.Laws.Slices
import Derived.WalkKit
import Derived.KernelRfl
import Derived.RowKit3
import Derived.Deep.LoopGhost
import Derived.Deep.QuietTactic
import Derived.BigQuiet
import Derived.WideLaws
import Derived.Deep.DeepCutAuto
import Derived.Deep.CutBlock
import Derived.Deep.RegionHeld3
import Derived.Laws.Rows
import Derived.Lib.AppendStr
import Derived.ArgAppend
import Derived.Laws.IdiomCopy
import Derived.OrdersHeld
import Derived.Laws.BitsLemmas
import Derived.RowKit
import Derived.Test.YtefhjfaojbjjaaaSpin
import Derived.Test.YtefhjfaojbjjaaaField
import Derived.Test.YtefhjfaojbjjaaaRef
import Derived.Test.YtefhjfaojbjjaaaText
import Derived.Test.YtefhjfaojbjjaaaLog
import Derived.Test.YtefhjfaojbjjaaaWWords
import Derived.Test.YtefhjfaojbjjaaaWLast
import Derived.Test.YtefhjfaojbjjaaaWTab
import Derived.Test.YtefhjfaojbjjaaaWFour
import Derived.Test.YtefhjfaojbjjaaaWQPut
import Derived.Test.YtefhjfaojbjjaaaWApart
import Derived.Test.YtefhjfaojbjjaaaWArr
import Derived.Test.YtefhjfaojbjjaaaWZeros
import Derived.Test.YtefhjfaojbjjaaaWFoot
import Derived.Test.YtefhjfaojbjjaaaWKept
import Derived.Test.YtefhjfaojbjjaaaWShare
import Derived.Test.YtefhjfaojbjjaaaWN
import Derived.Test.YtefhjfaojbjjaaaWFootNe
import Derived.Test.YtefhjfaojbjjaaaWAt
import Derived.Test.YtefhjfaojbjjaaaWEqStruct
import Derived.Test.YtefhjfaojbjjaaaWRepsOne
import Derived.Test.YtefhjfaojbjjaaaWInv
import Derived.Test.YtefhjfaojbjjaaaWInvWords
import Derived.Test.YtefhjfaojbjjaaaWGuard
import Derived.Test.YtefhjfaojbjjaaaWNEv
import Derived.Test.YtefhjfaojbjjaaaWMore
namespace Go.Proofs.Ytefhjfaojbjjaaa.PAll
open Go.RowKit Go.Proofs.YtefhjfaojbjjaaaW.PrintWords Go.Proofs.YtefhjfaojbjjaaaW.PrintLast Go.Proofs.YtefhjfaojbjjaaaW.PrintMore
attribute [local go_sem] max2_int min2_int max_two min_two max_three min_three max_four min_four   -- for this text's walks alone
set_option linter.unusedVariables false
set_option linter.unusedSimpArgs false



def errW : Option Int → Value
  | none => .nilIface
  | some c => .iface 0 (.int .i64 c)
theorem errW_none : errW none = .nilIface := rfl
theorem errW_some (c : Int) : errW (some c) = .iface 0 (.int .i64 c) := rfl

theorem info3 : (Try.prog.info? 3).map (fun i => (i.zero, i.size, i.bytes)) = some (some (.int .i64 0), 1, 8) := by kernel_rfl
theorem info5 : (Try.prog.info? 5).map (fun i => (i.zero, i.size, i.bytes)) = some (some (.int .u8 0), 1, 1) := by kernel_rfl
-- the values' own types

end Go.Proofs.Ytefhjfaojbjjaaa.PAll
