/-
  No cell of these rows narrows 'for every input' (looked for: loops, veiled, ifaces, maps, wideKeys, modest, calm, conditions, laid).
  DERIVED. THE GIVEN ROWS OF THIS SEAT. 6 by the template 'for every input the law returns true; each argument reads behind the call as it read before'; 0 by the template 'total and deterministic' (their statements: YtjicnmelmflfbaaTotals.lean).
  GIVEN WITH THE SEED: the statements are not yours to turn. If you find one false, say at which input.
  Laid BY PROGRAM, IN A SANDBOX (cutbox-rows.mjs): the forced cells as the released guide's own fill.sh prints them over the translation fde48805eda9a707… (all of the seat's roots in one cut). By AI agents, Wed Nov 11 2026. No macro, syntax, notation, axiom, sorry.
-/
import Derived.Test.YtjicnmelmflfbaaChecked
import GoSem.Claim
import GoSem.ClaimJoined
import GoSem.ClaimMapViews
import Derived.JoinedTies
import Derived.KernelRfl
namespace Go.Proofs.Ytjicnmelmflfbaa
/- THE CELL 'sum', in the pinned program and in every row, IS THE sha256 OF THE DUMP (.gsa) THAT YtjicnmelmflfbaaProg.lean LOADS. Nothing in Lean hashes anything: it is a label: what it is worth is what the hold of that sum in a sandbox is worth. -/
noncomputable def Try.pinned : Pinned := { name := "ytjicnmelmflfbaa", sum := "fde48805eda9a7071ce58d194cded33cf14b9e099cd56aef53d2873aad9d5b45", checked := Try.checked }
namespace Rows
def none {H : Type} : Left H := { results := [], args := [] }

/-- 'drydocklaw14.PathSplits': WHATEVER THE INPUT: true; the input reads as it did. -/
def pathSplitsSpec : ChangeSpec := { name := "pathSplits", fn := fun _ => fun
  | [d] => { results := [.lit (.bool true)], args := [d] }
  | _ => none }
def pathSplitsRow : OpenClaim := { program := "ytjicnmelmflfbaa", sum := "fde48805eda9a7071ce58d194cded33cf14b9e099cd56aef53d2873aad9d5b45", func := "drydock/drydocklaw14.PathSplits", spec := "pathSplits", inPlace := ["internal/bytealg.IndexByteString", "internal/bytealg.IndexString", "internal/abi.NoEscape", "internal/bytealg.MakeNoZero"], unfollowed := true, recurses := true, named := ["internal/bytealg.MaxLen"], apart := false }
def PathSplitsSaid : Prop := pathSplitsRow.holds Try.pinned (OpenSpec.ofChange pathSplitsSpec)

/-- ITS FALSE NEIGHBOUR: 'it returns false'. Refute it at one input. -/
def pathSplitsWrong : ChangeSpec := { name := "pathSplits", fn := fun _ => fun
  | [d] => { results := [.lit (.bool false)], args := [d] }
  | _ => none }
def PathSplitsWrongFalsely : Prop := pathSplitsRow.holds Try.pinned (OpenSpec.ofChange pathSplitsWrong)

/-- 'drydocklaw14.PathJoins': WHATEVER THE INPUT: true; the input reads as it did. -/
def pathJoinsSpec : ChangeSpec := { name := "pathJoins", fn := fun _ => fun
  | [d] => { results := [.lit (.bool true)], args := [d] }
  | _ => none }
def pathJoinsRow : OpenClaim := { program := "ytjicnmelmflfbaa", sum := "fde48805eda9a7071ce58d194cded33cf14b9e099cd56aef53d2873aad9d5b45", func := "drydock/drydocklaw14.PathJoins", spec := "pathJoins", inPlace := ["internal/bytealg.IndexByteString", "internal/bytealg.IndexString", "internal/abi.NoEscape", "internal/bytealg.MakeNoZero"], unfollowed := true, recurses := true, named := ["internal/bytealg.MaxLen"], apart := false }
def PathJoinsSaid : Prop := pathJoinsRow.holds Try.pinned (OpenSpec.ofChange pathJoinsSpec)

/-- ITS FALSE NEIGHBOUR: 'it returns false'. Refute it at one input. -/
def pathJoinsWrong : ChangeSpec := { name := "pathJoins", fn := fun _ => fun
  | [d] => { results := [.lit (.bool false)], args := [d] }
  | _ => none }
def PathJoinsWrongFalsely : Prop := pathJoinsRow.holds Try.pinned (OpenSpec.ofChange pathJoinsWrong)

/-- 'drydocklaw14.PathUnder': WHATEVER THE INPUT: true; the input reads as it did. -/
def pathUnderSpec : ChangeSpec := { name := "pathUnder", fn := fun _ => fun
  | [d1, d2] => { results := [.lit (.bool true)], args := [d1, d2] }
  | _ => none }
def pathUnderRow : OpenClaim := { program := "ytjicnmelmflfbaa", sum := "fde48805eda9a7071ce58d194cded33cf14b9e099cd56aef53d2873aad9d5b45", func := "drydock/drydocklaw14.PathUnder", spec := "pathUnder", inPlace := ["internal/bytealg.IndexByteString", "internal/bytealg.IndexString", "internal/abi.NoEscape", "internal/bytealg.MakeNoZero"], unfollowed := true, recurses := true, named := ["internal/bytealg.MaxLen"], apart := false }
def PathUnderSaid : Prop := pathUnderRow.holds Try.pinned (OpenSpec.ofChange pathUnderSpec)

/-- ITS FALSE NEIGHBOUR: 'it returns false'. Refute it at one input. -/
def pathUnderWrong : ChangeSpec := { name := "pathUnder", fn := fun _ => fun
  | [d1, d2] => { results := [.lit (.bool false)], args := [d1, d2] }
  | _ => none }
def PathUnderWrongFalsely : Prop := pathUnderRow.holds Try.pinned (OpenSpec.ofChange pathUnderWrong)

/-- 'drydocklaw14.PathBack': WHATEVER THE INPUT: true; the input reads as it did. -/
def pathBackSpec : ChangeSpec := { name := "pathBack", fn := fun _ => fun
  | [d1, d2] => { results := [.lit (.bool true)], args := [d1, d2] }
  | _ => none }
def pathBackRow : OpenClaim := { program := "ytjicnmelmflfbaa", sum := "fde48805eda9a7071ce58d194cded33cf14b9e099cd56aef53d2873aad9d5b45", func := "drydock/drydocklaw14.PathBack", spec := "pathBack", inPlace := ["internal/bytealg.IndexByteString", "internal/bytealg.IndexString", "internal/abi.NoEscape", "internal/bytealg.MakeNoZero"], unfollowed := true, recurses := true, named := ["internal/bytealg.MaxLen"], apart := false }
def PathBackSaid : Prop := pathBackRow.holds Try.pinned (OpenSpec.ofChange pathBackSpec)

/-- ITS FALSE NEIGHBOUR: 'it returns false'. Refute it at one input. -/
def pathBackWrong : ChangeSpec := { name := "pathBack", fn := fun _ => fun
  | [d1, d2] => { results := [.lit (.bool false)], args := [d1, d2] }
  | _ => none }
def PathBackWrongFalsely : Prop := pathBackRow.holds Try.pinned (OpenSpec.ofChange pathBackWrong)

/-- 'drydocklaw14.PathUp': WHATEVER THE INPUT: true; the input reads as it did. -/
def pathUpSpec : ChangeSpec := { name := "pathUp", fn := fun _ => fun
  | [d1, d2] => { results := [.lit (.bool true)], args := [d1, d2] }
  | _ => none }
def pathUpRow : OpenClaim := { program := "ytjicnmelmflfbaa", sum := "fde48805eda9a7071ce58d194cded33cf14b9e099cd56aef53d2873aad9d5b45", func := "drydock/drydocklaw14.PathUp", spec := "pathUp", inPlace := ["internal/bytealg.IndexByteString", "internal/bytealg.IndexString", "internal/abi.NoEscape", "internal/bytealg.MakeNoZero"], unfollowed := true, recurses := true, named := ["internal/bytealg.MaxLen"], apart := false }
def PathUpSaid : Prop := pathUpRow.holds Try.pinned (OpenSpec.ofChange pathUpSpec)

/-- ITS FALSE NEIGHBOUR: 'it returns false'. Refute it at one input. -/
def pathUpWrong : ChangeSpec := { name := "pathUp", fn := fun _ => fun
  | [d1, d2] => { results := [.lit (.bool false)], args := [d1, d2] }
  | _ => none }
def PathUpWrongFalsely : Prop := pathUpRow.holds Try.pinned (OpenSpec.ofChange pathUpWrong)

/-- 'drydocklaw14.PathDots': WHATEVER THE INPUT: true; the input reads as it did. -/
def pathDotsSpec : ChangeSpec := { name := "pathDots", fn := fun _ => fun
  | [d1, d2] => { results := [.lit (.bool true)], args := [d1, d2] }
  | _ => none }
def pathDotsRow : OpenClaim := { program := "ytjicnmelmflfbaa", sum := "fde48805eda9a7071ce58d194cded33cf14b9e099cd56aef53d2873aad9d5b45", func := "drydock/drydocklaw14.PathDots", spec := "pathDots", inPlace := ["internal/bytealg.IndexByteString", "internal/bytealg.IndexString", "internal/abi.NoEscape", "internal/bytealg.MakeNoZero"], unfollowed := true, recurses := true, named := ["internal/bytealg.MaxLen"], apart := false }
def PathDotsSaid : Prop := pathDotsRow.holds Try.pinned (OpenSpec.ofChange pathDotsSpec)

/-- ITS FALSE NEIGHBOUR: 'it returns false'. Refute it at one input. -/
def pathDotsWrong : ChangeSpec := { name := "pathDots", fn := fun _ => fun
  | [d1, d2] => { results := [.lit (.bool false)], args := [d1, d2] }
  | _ => none }
def PathDotsWrongFalsely : Prop := pathDotsRow.holds Try.pinned (OpenSpec.ofChange pathDotsWrong)

/- THE SECOND FORM. 'bulk': how many values and letters a reading holds, each counted each time it is reached (what is shared counts as often as it is met; a slice's spare places count too). A statement '..UptoSaid' is the law's where the arguments, and the package variables that the reading takes, are together of bulk at most 1048576: NARROWER than '..Said'. Prove '..Said' where nothing that the law and all that it calls make is longer than what came in: it says more and counts as full. Else prove '..UptoSaid'. A law counts once. -/
mutual
def uptoBulk {H : Type} : DataW H → Nat
  | .lit (.string bytes) => bytes.length + 1
  | .lit _ => 1
  | .nil => 1
  | .ptr d => uptoBulk d + 1
  | .slice elems spare => uptoBulkAll elems + uptoBulkAll spare + 1
  | .agg parts => uptoBulkAll parts + 1
  | .iface _ d => uptoBulk d + 1
  | .map entries => uptoBulkEntries entries + 1
  | .held _ => 1
def uptoBulkAll {H : Type} : List (DataW H) → Nat
  | [] => 0
  | d :: r => uptoBulk d + uptoBulkAll r
def uptoBulkEntries {H : Type} : List (Lit × DataW H) → Nat
  | [] => 0
  | x :: r => uptoBulkEntry x + uptoBulkEntries r
def uptoBulkEntry {H : Type} : Lit × DataW H → Nat
  | (.string bytes, d) => bytes.length + uptoBulk d + 1
  | (_, d) => uptoBulk d + 1
 end
def uptoSmall : (H : Type) → List (DataW H) → Bool := fun _ ds => decide (uptoBulkAll ds ≤ 1048576)
def OpenSpec.upto (s : _root_.Go.ChangeSpec) : _root_.Go.OpenSpec := { _root_.Go.OpenSpec.ofChange s with cond := some uptoSmall }

/-- 'drydocklaw14.PathSplits', WHERE WHAT IT READS IS OF BULK AT MOST 1048576: true; the input reads as it did. -/
def pathSplitsUptoRow : OpenClaim := { program := "ytjicnmelmflfbaa", sum := "fde48805eda9a7071ce58d194cded33cf14b9e099cd56aef53d2873aad9d5b45", func := "drydock/drydocklaw14.PathSplits", spec := "pathSplits", inPlace := ["internal/bytealg.IndexByteString", "internal/bytealg.IndexString", "internal/abi.NoEscape", "internal/bytealg.MakeNoZero"], unfollowed := true, recurses := true, named := ["internal/bytealg.MaxLen"], apart := false, narrowed := true }
def PathSplitsUptoSaid : Prop := pathSplitsUptoRow.holds Try.pinned (OpenSpec.upto pathSplitsSpec)

/-- 'drydocklaw14.PathJoins', WHERE WHAT IT READS IS OF BULK AT MOST 1048576: true; the input reads as it did. -/
def pathJoinsUptoRow : OpenClaim := { program := "ytjicnmelmflfbaa", sum := "fde48805eda9a7071ce58d194cded33cf14b9e099cd56aef53d2873aad9d5b45", func := "drydock/drydocklaw14.PathJoins", spec := "pathJoins", inPlace := ["internal/bytealg.IndexByteString", "internal/bytealg.IndexString", "internal/abi.NoEscape", "internal/bytealg.MakeNoZero"], unfollowed := true, recurses := true, named := ["internal/bytealg.MaxLen"], apart := false, narrowed := true }
def PathJoinsUptoSaid : Prop := pathJoinsUptoRow.holds Try.pinned (OpenSpec.upto pathJoinsSpec)

/-- 'drydocklaw14.PathUnder', WHERE WHAT IT READS IS OF BULK AT MOST 1048576: true; the input reads as it did. -/
def pathUnderUptoRow : OpenClaim := { program := "ytjicnmelmflfbaa", sum := "fde48805eda9a7071ce58d194cded33cf14b9e099cd56aef53d2873aad9d5b45", func := "drydock/drydocklaw14.PathUnder", spec := "pathUnder", inPlace := ["internal/bytealg.IndexByteString", "internal/bytealg.IndexString", "internal/abi.NoEscape", "internal/bytealg.MakeNoZero"], unfollowed := true, recurses := true, named := ["internal/bytealg.MaxLen"], apart := false, narrowed := true }
def PathUnderUptoSaid : Prop := pathUnderUptoRow.holds Try.pinned (OpenSpec.upto pathUnderSpec)

/-- 'drydocklaw14.PathBack', WHERE WHAT IT READS IS OF BULK AT MOST 1048576: true; the input reads as it did. -/
def pathBackUptoRow : OpenClaim := { program := "ytjicnmelmflfbaa", sum := "fde48805eda9a7071ce58d194cded33cf14b9e099cd56aef53d2873aad9d5b45", func := "drydock/drydocklaw14.PathBack", spec := "pathBack", inPlace := ["internal/bytealg.IndexByteString", "internal/bytealg.IndexString", "internal/abi.NoEscape", "internal/bytealg.MakeNoZero"], unfollowed := true, recurses := true, named := ["internal/bytealg.MaxLen"], apart := false, narrowed := true }
def PathBackUptoSaid : Prop := pathBackUptoRow.holds Try.pinned (OpenSpec.upto pathBackSpec)

/-- 'drydocklaw14.PathUp', WHERE WHAT IT READS IS OF BULK AT MOST 1048576: true; the input reads as it did. -/
def pathUpUptoRow : OpenClaim := { program := "ytjicnmelmflfbaa", sum := "fde48805eda9a7071ce58d194cded33cf14b9e099cd56aef53d2873aad9d5b45", func := "drydock/drydocklaw14.PathUp", spec := "pathUp", inPlace := ["internal/bytealg.IndexByteString", "internal/bytealg.IndexString", "internal/abi.NoEscape", "internal/bytealg.MakeNoZero"], unfollowed := true, recurses := true, named := ["internal/bytealg.MaxLen"], apart := false, narrowed := true }
def PathUpUptoSaid : Prop := pathUpUptoRow.holds Try.pinned (OpenSpec.upto pathUpSpec)

/-- 'drydocklaw14.PathDots', WHERE WHAT IT READS IS OF BULK AT MOST 1048576: true; the input reads as it did. -/
def pathDotsUptoRow : OpenClaim := { program := "ytjicnmelmflfbaa", sum := "fde48805eda9a7071ce58d194cded33cf14b9e099cd56aef53d2873aad9d5b45", func := "drydock/drydocklaw14.PathDots", spec := "pathDots", inPlace := ["internal/bytealg.IndexByteString", "internal/bytealg.IndexString", "internal/abi.NoEscape", "internal/bytealg.MakeNoZero"], unfollowed := true, recurses := true, named := ["internal/bytealg.MaxLen"], apart := false, narrowed := true }
def PathDotsUptoSaid : Prop := pathDotsUptoRow.holds Try.pinned (OpenSpec.upto pathDotsSpec)

end Rows
end Go.Proofs.Ytjicnmelmflfbaa
