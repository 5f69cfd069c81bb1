-- Printed out of the translation by a program; functions that were proved by hand stand among them. Lean checks it.
import Derived.Test.YtjicnmelmflfbaaProg
import Derived.Below
import Derived.Deep.Draws
import Derived.Deep.AppendLies
import Derived.Maps.AppendAt
import Derived.OwnWalk
import Derived.Laws.BytesArg
import Derived.Laws.MakeOwn
import Derived.Laws.OwnMore
import Derived.Deep.OwnRows
import Derived.Tactics
import Derived.Lib.ConvBytes
import Derived.Laws.Slices
import Derived.WalkKit
import Derived.KernelRfl
import Derived.RowKit3
import Derived.Deep.LoopGhost
import Derived.Deep.QuietTactic
import Derived.BigQuiet
import Derived.WideLaws
import Derived.Deep.DeepCutAuto
import Derived.Deep.CutBlock
import Derived.Deep.RegionHeld3
import Derived.Laws.Rows
import Derived.Lib.AppendStr
import Derived.ArgAppend
import Derived.Laws.IdiomCopy
import Derived.OrdersHeld
import Derived.Laws.BitsLemmas
import Derived.RowKit
import Derived.Test.YtjicnmelmflfbaaIndex
import Derived.Test.YtjicnmelmflfbaaIndexFunc
import Derived.Test.YtjicnmelmflfbaaJoinLaid
import Derived.Test.YtjicnmelmflfbaaWWords
import Derived.Test.YtjicnmelmflfbaaWLast
import Derived.Test.YtjicnmelmflfbaaWTab
import Derived.Test.YtjicnmelmflfbaaWFour
import Derived.Test.YtjicnmelmflfbaaWQPut
import Derived.Test.YtjicnmelmflfbaaWApart
import Derived.Test.YtjicnmelmflfbaaWArr
import Derived.Test.YtjicnmelmflfbaaWZeros
import Derived.Test.YtjicnmelmflfbaaWFoot
import Derived.Test.YtjicnmelmflfbaaWKept
import Derived.Test.YtjicnmelmflfbaaWShare
import Derived.Test.YtjicnmelmflfbaaWN
import Derived.Test.YtjicnmelmflfbaaWFootNe
import Derived.Test.YtjicnmelmflfbaaWAt
import Derived.Test.YtjicnmelmflfbaaWEqStruct
import Derived.Test.YtjicnmelmflfbaaWRepsOne
import Derived.Test.YtjicnmelmflfbaaWInv
import Derived.Test.YtjicnmelmflfbaaWInvWords
import Derived.Test.YtjicnmelmflfbaaWGuard
import Derived.Test.YtjicnmelmflfbaaWNEv
import Derived.Test.YtjicnmelmflfbaaWMore
namespace Go.Proofs.Ytjicnmelmflfbaa.PAll
open Go.RowKit Go.Proofs.YtjicnmelmflfbaaW.PrintWords Go.Proofs.YtjicnmelmflfbaaW.PrintLast Go.Proofs.YtjicnmelmflfbaaW.PrintMore
attribute [local go_sem] max2_int min2_int max_two min_two max_three min_three max_four min_four   -- for this text's walks alone
set_option linter.unusedVariables false
set_option linter.unusedSimpArgs false



def errW : Option Int → Value
  | none => .nilIface
  | some c => .iface 0 (.int .i64 c)
theorem errW_none : errW none = .nilIface := rfl
theorem errW_some (c : Int) : errW (some c) = .iface 0 (.int .i64 c) := rfl

theorem info9 : (Try.prog.info? 9).map (fun i => (i.zero, i.size, i.bytes)) = some (some (.string ⟨#[]⟩), 1, 16) := by kernel_rfl
-- the values' own types

end Go.Proofs.Ytjicnmelmflfbaa.PAll
