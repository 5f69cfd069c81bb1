/-
  No cell of these rows narrows 'for every input' (looked for: loops, veiled, ifaces, maps, wideKeys, modest, calm, conditions, laid).
  DERIVED. THE GIVEN ROWS OF THIS SEAT. 7 by the template 'for every input the law returns true; each argument reads behind the call as it read before'; 0 by the template 'total and deterministic' (their statements: YtcfjojgpfpgfdaaTotals.lean).
  GIVEN WITH THE SEED: the statements are not yours to turn. If you find one false, say at which input.
  Laid BY PROGRAM, IN A SANDBOX (cutbox-rows.mjs): the forced cells as the released guide's own fill.sh prints them over the translation adbd82ea117c74a8… (all of the seat's roots in one cut). By AI agents, Wed Nov 11 2026. No macro, syntax, notation, axiom, sorry.
-/
import Derived.Test.YtcfjojgpfpgfdaaChecked
import GoSem.Claim
import GoSem.ClaimJoined
import GoSem.ClaimMapViews
import Derived.JoinedTies
import Derived.KernelRfl
namespace Go.Proofs.Ytcfjojgpfpgfdaa
/- THE CELL 'sum', in the pinned program and in every row, IS THE sha256 OF THE DUMP (.gsa) THAT YtcfjojgpfpgfdaaProg.lean LOADS. Nothing in Lean hashes anything: it is a label: what it is worth is what the hold of that sum in a sandbox is worth. -/
noncomputable def Try.pinned : Pinned := { name := "ytcfjojgpfpgfdaa", sum := "adbd82ea117c74a82157d12ef5d3dcd83d882bc0b76ceea9c396611de9d85fe3", checked := Try.checked }
namespace Rows
def none {H : Type} : Left H := { results := [], args := [] }

/-- 'drydocklaw03.SpinSums': WHATEVER THE INPUT: true; the input reads as it did. -/
def spinSumsSpec : ChangeSpec := { name := "spinSums", fn := fun _ => fun
  | [d1, d2] => { results := [.lit (.bool true)], args := [d1, d2] }
  | _ => none }
def spinSumsRow : OpenClaim := { program := "ytcfjojgpfpgfdaa", sum := "adbd82ea117c74a82157d12ef5d3dcd83d882bc0b76ceea9c396611de9d85fe3", func := "drydock/drydocklaw03.SpinSums", spec := "spinSums", apart := false }
def SpinSumsSaid : Prop := spinSumsRow.holds Try.pinned (OpenSpec.ofChange spinSumsSpec)

/-- ITS FALSE NEIGHBOUR: 'it returns false'. Refute it at one input. -/
def spinSumsWrong : ChangeSpec := { name := "spinSums", fn := fun _ => fun
  | [d1, d2] => { results := [.lit (.bool false)], args := [d1, d2] }
  | _ => none }
def SpinSumsWrongFalsely : Prop := spinSumsRow.holds Try.pinned (OpenSpec.ofChange spinSumsWrong)

/-- 'drydocklaw03.SpinTurns': WHATEVER THE INPUT: true; the input reads as it did. -/
def spinTurnsSpec : ChangeSpec := { name := "spinTurns", fn := fun _ => fun
  | [d1, d2, d3] => { results := [.lit (.bool true)], args := [d1, d2, d3] }
  | _ => none }
def spinTurnsRow : OpenClaim := { program := "ytcfjojgpfpgfdaa", sum := "adbd82ea117c74a82157d12ef5d3dcd83d882bc0b76ceea9c396611de9d85fe3", func := "drydock/drydocklaw03.SpinTurns", spec := "spinTurns", apart := false }
def SpinTurnsSaid : Prop := spinTurnsRow.holds Try.pinned (OpenSpec.ofChange spinTurnsSpec)

/-- ITS FALSE NEIGHBOUR: 'it returns false'. Refute it at one input. -/
def spinTurnsWrong : ChangeSpec := { name := "spinTurns", fn := fun _ => fun
  | [d1, d2, d3] => { results := [.lit (.bool false)], args := [d1, d2, d3] }
  | _ => none }
def SpinTurnsWrongFalsely : Prop := spinTurnsRow.holds Try.pinned (OpenSpec.ofChange spinTurnsWrong)

/-- 'drydocklaw03.SpinBytes': WHATEVER THE INPUT: true; the input reads as it did. -/
def spinBytesSpec : ChangeSpec := { name := "spinBytes", fn := fun _ => fun
  | [d] => { results := [.lit (.bool true)], args := [d] }
  | _ => none }
def spinBytesRow : OpenClaim := { program := "ytcfjojgpfpgfdaa", sum := "adbd82ea117c74a82157d12ef5d3dcd83d882bc0b76ceea9c396611de9d85fe3", func := "drydock/drydocklaw03.SpinBytes", spec := "spinBytes", apart := false }
def SpinBytesSaid : Prop := spinBytesRow.holds Try.pinned (OpenSpec.ofChange spinBytesSpec)

/-- ITS FALSE NEIGHBOUR: 'it returns false'. Refute it at one input. -/
def spinBytesWrong : ChangeSpec := { name := "spinBytes", fn := fun _ => fun
  | [d] => { results := [.lit (.bool false)], args := [d] }
  | _ => none }
def SpinBytesWrongFalsely : Prop := spinBytesRow.holds Try.pinned (OpenSpec.ofChange spinBytesWrong)

/-- 'drydocklaw03.SpinSwaps': WHATEVER THE INPUT: true; the input reads as it did. -/
def spinSwapsSpec : ChangeSpec := { name := "spinSwaps", fn := fun _ => fun
  | [d1, d2] => { results := [.lit (.bool true)], args := [d1, d2] }
  | _ => none }
def spinSwapsRow : OpenClaim := { program := "ytcfjojgpfpgfdaa", sum := "adbd82ea117c74a82157d12ef5d3dcd83d882bc0b76ceea9c396611de9d85fe3", func := "drydock/drydocklaw03.SpinSwaps", spec := "spinSwaps", apart := false }
def SpinSwapsSaid : Prop := spinSwapsRow.holds Try.pinned (OpenSpec.ofChange spinSwapsSpec)

/-- ITS FALSE NEIGHBOUR: 'it returns false'. Refute it at one input. -/
def spinSwapsWrong : ChangeSpec := { name := "spinSwaps", fn := fun _ => fun
  | [d1, d2] => { results := [.lit (.bool false)], args := [d1, d2] }
  | _ => none }
def SpinSwapsWrongFalsely : Prop := spinSwapsRow.holds Try.pinned (OpenSpec.ofChange spinSwapsWrong)

/-- 'drydocklaw03.SpinJoins': WHATEVER THE INPUT: true; the input reads as it did. -/
def spinJoinsSpec : ChangeSpec := { name := "spinJoins", fn := fun _ => fun
  | [d1, d2, d3] => { results := [.lit (.bool true)], args := [d1, d2, d3] }
  | _ => none }
def spinJoinsRow : OpenClaim := { program := "ytcfjojgpfpgfdaa", sum := "adbd82ea117c74a82157d12ef5d3dcd83d882bc0b76ceea9c396611de9d85fe3", func := "drydock/drydocklaw03.SpinJoins", spec := "spinJoins", apart := false }
def SpinJoinsSaid : Prop := spinJoinsRow.holds Try.pinned (OpenSpec.ofChange spinJoinsSpec)

/-- ITS FALSE NEIGHBOUR: 'it returns false'. Refute it at one input. -/
def spinJoinsWrong : ChangeSpec := { name := "spinJoins", fn := fun _ => fun
  | [d1, d2, d3] => { results := [.lit (.bool false)], args := [d1, d2, d3] }
  | _ => none }
def SpinJoinsWrongFalsely : Prop := spinJoinsRow.holds Try.pinned (OpenSpec.ofChange spinJoinsWrong)

/-- 'drydocklaw03.SpinParts': WHATEVER THE INPUT: true; the input reads as it did. -/
def spinPartsSpec : ChangeSpec := { name := "spinParts", fn := fun _ => fun
  | [d1, d2] => { results := [.lit (.bool true)], args := [d1, d2] }
  | _ => none }
def spinPartsRow : OpenClaim := { program := "ytcfjojgpfpgfdaa", sum := "adbd82ea117c74a82157d12ef5d3dcd83d882bc0b76ceea9c396611de9d85fe3", func := "drydock/drydocklaw03.SpinParts", spec := "spinParts", apart := false }
def SpinPartsSaid : Prop := spinPartsRow.holds Try.pinned (OpenSpec.ofChange spinPartsSpec)

/-- ITS FALSE NEIGHBOUR: 'it returns false'. Refute it at one input. -/
def spinPartsWrong : ChangeSpec := { name := "spinParts", fn := fun _ => fun
  | [d1, d2] => { results := [.lit (.bool false)], args := [d1, d2] }
  | _ => none }
def SpinPartsWrongFalsely : Prop := spinPartsRow.holds Try.pinned (OpenSpec.ofChange spinPartsWrong)

/-- 'drydocklaw03.SpinThree': WHATEVER THE INPUT: true; the input reads as it did. -/
def spinThreeSpec : ChangeSpec := { name := "spinThree", fn := fun _ => fun
  | [d1, d2, d3] => { results := [.lit (.bool true)], args := [d1, d2, d3] }
  | _ => none }
def spinThreeRow : OpenClaim := { program := "ytcfjojgpfpgfdaa", sum := "adbd82ea117c74a82157d12ef5d3dcd83d882bc0b76ceea9c396611de9d85fe3", func := "drydock/drydocklaw03.SpinThree", spec := "spinThree", apart := false }
def SpinThreeSaid : Prop := spinThreeRow.holds Try.pinned (OpenSpec.ofChange spinThreeSpec)

/-- ITS FALSE NEIGHBOUR: 'it returns false'. Refute it at one input. -/
def spinThreeWrong : ChangeSpec := { name := "spinThree", fn := fun _ => fun
  | [d1, d2, d3] => { results := [.lit (.bool false)], args := [d1, d2, d3] }
  | _ => none }
def SpinThreeWrongFalsely : Prop := spinThreeRow.holds Try.pinned (OpenSpec.ofChange spinThreeWrong)

/- THE SECOND FORM. 'bulk': how many values and letters a reading holds, each counted each time it is reached (what is shared counts as often as it is met; a slice's spare places count too). A statement '..UptoSaid' is the law's where the arguments, and the package variables that the reading takes, are together of bulk at most 1048576: NARROWER than '..Said'. Prove '..Said' where nothing that the law and all that it calls make is longer than what came in: it says more and counts as full. Else prove '..UptoSaid'. A law counts once. -/
mutual
def uptoBulk {H : Type} : DataW H → Nat
  | .lit (.string bytes) => bytes.length + 1
  | .lit _ => 1
  | .nil => 1
  | .ptr d => uptoBulk d + 1
  | .slice elems spare => uptoBulkAll elems + uptoBulkAll spare + 1
  | .agg parts => uptoBulkAll parts + 1
  | .iface _ d => uptoBulk d + 1
  | .map entries => uptoBulkEntries entries + 1
  | .held _ => 1
def uptoBulkAll {H : Type} : List (DataW H) → Nat
  | [] => 0
  | d :: r => uptoBulk d + uptoBulkAll r
def uptoBulkEntries {H : Type} : List (Lit × DataW H) → Nat
  | [] => 0
  | x :: r => uptoBulkEntry x + uptoBulkEntries r
def uptoBulkEntry {H : Type} : Lit × DataW H → Nat
  | (.string bytes, d) => bytes.length + uptoBulk d + 1
  | (_, d) => uptoBulk d + 1
 end
def uptoSmall : (H : Type) → List (DataW H) → Bool := fun _ ds => decide (uptoBulkAll ds ≤ 1048576)
def OpenSpec.upto (s : _root_.Go.ChangeSpec) : _root_.Go.OpenSpec := { _root_.Go.OpenSpec.ofChange s with cond := some uptoSmall }

/-- 'drydocklaw03.SpinSums', WHERE WHAT IT READS IS OF BULK AT MOST 1048576: true; the input reads as it did. -/
def spinSumsUptoRow : OpenClaim := { program := "ytcfjojgpfpgfdaa", sum := "adbd82ea117c74a82157d12ef5d3dcd83d882bc0b76ceea9c396611de9d85fe3", func := "drydock/drydocklaw03.SpinSums", spec := "spinSums", apart := false, narrowed := true }
def SpinSumsUptoSaid : Prop := spinSumsUptoRow.holds Try.pinned (OpenSpec.upto spinSumsSpec)

/-- 'drydocklaw03.SpinTurns', WHERE WHAT IT READS IS OF BULK AT MOST 1048576: true; the input reads as it did. -/
def spinTurnsUptoRow : OpenClaim := { program := "ytcfjojgpfpgfdaa", sum := "adbd82ea117c74a82157d12ef5d3dcd83d882bc0b76ceea9c396611de9d85fe3", func := "drydock/drydocklaw03.SpinTurns", spec := "spinTurns", apart := false, narrowed := true }
def SpinTurnsUptoSaid : Prop := spinTurnsUptoRow.holds Try.pinned (OpenSpec.upto spinTurnsSpec)

/-- 'drydocklaw03.SpinBytes', WHERE WHAT IT READS IS OF BULK AT MOST 1048576: true; the input reads as it did. -/
def spinBytesUptoRow : OpenClaim := { program := "ytcfjojgpfpgfdaa", sum := "adbd82ea117c74a82157d12ef5d3dcd83d882bc0b76ceea9c396611de9d85fe3", func := "drydock/drydocklaw03.SpinBytes", spec := "spinBytes", apart := false, narrowed := true }
def SpinBytesUptoSaid : Prop := spinBytesUptoRow.holds Try.pinned (OpenSpec.upto spinBytesSpec)

/-- 'drydocklaw03.SpinSwaps', WHERE WHAT IT READS IS OF BULK AT MOST 1048576: true; the input reads as it did. -/
def spinSwapsUptoRow : OpenClaim := { program := "ytcfjojgpfpgfdaa", sum := "adbd82ea117c74a82157d12ef5d3dcd83d882bc0b76ceea9c396611de9d85fe3", func := "drydock/drydocklaw03.SpinSwaps", spec := "spinSwaps", apart := false, narrowed := true }
def SpinSwapsUptoSaid : Prop := spinSwapsUptoRow.holds Try.pinned (OpenSpec.upto spinSwapsSpec)

/-- 'drydocklaw03.SpinJoins', WHERE WHAT IT READS IS OF BULK AT MOST 1048576: true; the input reads as it did. -/
def spinJoinsUptoRow : OpenClaim := { program := "ytcfjojgpfpgfdaa", sum := "adbd82ea117c74a82157d12ef5d3dcd83d882bc0b76ceea9c396611de9d85fe3", func := "drydock/drydocklaw03.SpinJoins", spec := "spinJoins", apart := false, narrowed := true }
def SpinJoinsUptoSaid : Prop := spinJoinsUptoRow.holds Try.pinned (OpenSpec.upto spinJoinsSpec)

/-- 'drydocklaw03.SpinParts', WHERE WHAT IT READS IS OF BULK AT MOST 1048576: true; the input reads as it did. -/
def spinPartsUptoRow : OpenClaim := { program := "ytcfjojgpfpgfdaa", sum := "adbd82ea117c74a82157d12ef5d3dcd83d882bc0b76ceea9c396611de9d85fe3", func := "drydock/drydocklaw03.SpinParts", spec := "spinParts", apart := false, narrowed := true }
def SpinPartsUptoSaid : Prop := spinPartsUptoRow.holds Try.pinned (OpenSpec.upto spinPartsSpec)

/-- 'drydocklaw03.SpinThree', WHERE WHAT IT READS IS OF BULK AT MOST 1048576: true; the input reads as it did. -/
def spinThreeUptoRow : OpenClaim := { program := "ytcfjojgpfpgfdaa", sum := "adbd82ea117c74a82157d12ef5d3dcd83d882bc0b76ceea9c396611de9d85fe3", func := "drydock/drydocklaw03.SpinThree", spec := "spinThree", apart := false, narrowed := true }
def SpinThreeUptoSaid : Prop := spinThreeUptoRow.holds Try.pinned (OpenSpec.upto spinThreeSpec)

end Rows
end Go.Proofs.Ytcfjojgpfpgfdaa
