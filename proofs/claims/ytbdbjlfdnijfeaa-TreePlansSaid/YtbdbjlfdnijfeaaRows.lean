/-
  No cell of these rows narrows 'for every input' (looked for: loops, veiled, ifaces, maps, wideKeys, modest, calm, conditions, laid).
  DERIVED. THE GIVEN ROWS OF THIS SEAT. 4 by the template 'for every input the law returns true; each argument reads behind the call as it read before'; 0 by the template 'total and deterministic' (their statements: YtbdbjlfdnijfeaaTotals.lean).
  GIVEN WITH THE SEED: the statements are not yours to turn. If you find one false, say at which input.
  Laid BY PROGRAM, IN A SANDBOX (cutbox-rows.mjs): the forced cells as the released guide's own fill.sh prints them over the translation 6d2a2245b20aee54… (all of the seat's roots in one cut). By AI agents, Wed Nov 11 2026. No macro, syntax, notation, axiom, sorry.
-/
import Derived.Test.YtbdbjlfdnijfeaaChecked
import GoSem.Claim
import GoSem.ClaimJoined
import GoSem.ClaimMapViews
import Derived.JoinedTies
import Derived.KernelRfl
namespace Go.Proofs.Ytbdbjlfdnijfeaa
/- THE CELL 'sum', in the pinned program and in every row, IS THE sha256 OF THE DUMP (.gsa) THAT YtbdbjlfdnijfeaaProg.lean LOADS. Nothing in Lean hashes anything: it is a label: what it is worth is what the hold of that sum in a sandbox is worth. -/
noncomputable def Try.pinned : Pinned := { name := "ytbdbjlfdnijfeaa", sum := "6d2a2245b20aee54b47e1bcb1a972e6c10be3ece4ab18366bcafb28aadbadad1", checked := Try.checked }
namespace Rows
def none {H : Type} : Left H := { results := [], args := [] }

/-- 'drydocklaw11.TreeNeeds': WHATEVER THE INPUT: true; the input reads as it did. -/
def treeNeedsSpec : ChangeSpec := { name := "treeNeeds", fn := fun _ => fun
  | [d] => { results := [.lit (.bool true)], args := [d] }
  | _ => none }
def treeNeedsRow : OpenClaim := { program := "ytbdbjlfdnijfeaa", sum := "6d2a2245b20aee54b47e1bcb1a972e6c10be3ece4ab18366bcafb28aadbadad1", func := "drydock/drydocklaw11.TreeNeeds", spec := "treeNeeds", unfollowed := true, recurses := true, apart := false }
def TreeNeedsSaid : Prop := treeNeedsRow.holds Try.pinned (OpenSpec.ofChange treeNeedsSpec)

/-- ITS FALSE NEIGHBOUR: 'it returns false'. Refute it at one input. -/
def treeNeedsWrong : ChangeSpec := { name := "treeNeeds", fn := fun _ => fun
  | [d] => { results := [.lit (.bool false)], args := [d] }
  | _ => none }
def TreeNeedsWrongFalsely : Prop := treeNeedsRow.holds Try.pinned (OpenSpec.ofChange treeNeedsWrong)

/-- 'drydocklaw11.TreePlans': WHATEVER THE INPUT: true; the input reads as it did. -/
def treePlansSpec : ChangeSpec := { name := "treePlans", fn := fun _ => fun
  | [d1, d2] => { results := [.lit (.bool true)], args := [d1, d2] }
  | _ => none }
def treePlansRow : OpenClaim := { program := "ytbdbjlfdnijfeaa", sum := "6d2a2245b20aee54b47e1bcb1a972e6c10be3ece4ab18366bcafb28aadbadad1", func := "drydock/drydocklaw11.TreePlans", spec := "treePlans", unfollowed := true, recurses := true, apart := false }
def TreePlansSaid : Prop := treePlansRow.holds Try.pinned (OpenSpec.ofChange treePlansSpec)

/-- ITS FALSE NEIGHBOUR: 'it returns false'. Refute it at one input. -/
def treePlansWrong : ChangeSpec := { name := "treePlans", fn := fun _ => fun
  | [d1, d2] => { results := [.lit (.bool false)], args := [d1, d2] }
  | _ => none }
def TreePlansWrongFalsely : Prop := treePlansRow.holds Try.pinned (OpenSpec.ofChange treePlansWrong)

/-- 'drydocklaw11.TreeBack': WHATEVER THE INPUT: true; the input reads as it did. -/
def treeBackSpec : ChangeSpec := { name := "treeBack", fn := fun _ => fun
  | [d1, d2, d3] => { results := [.lit (.bool true)], args := [d1, d2, d3] }
  | _ => none }
def treeBackRow : OpenClaim := { program := "ytbdbjlfdnijfeaa", sum := "6d2a2245b20aee54b47e1bcb1a972e6c10be3ece4ab18366bcafb28aadbadad1", func := "drydock/drydocklaw11.TreeBack", spec := "treeBack", unfollowed := true, recurses := true, apart := false }
def TreeBackSaid : Prop := treeBackRow.holds Try.pinned (OpenSpec.ofChange treeBackSpec)

/-- ITS FALSE NEIGHBOUR: 'it returns false'. Refute it at one input. -/
def treeBackWrong : ChangeSpec := { name := "treeBack", fn := fun _ => fun
  | [d1, d2, d3] => { results := [.lit (.bool false)], args := [d1, d2, d3] }
  | _ => none }
def TreeBackWrongFalsely : Prop := treeBackRow.holds Try.pinned (OpenSpec.ofChange treeBackWrong)

/-- 'drydocklaw11.TreeZeros': WHATEVER THE INPUT: true; the input reads as it did. -/
def treeZerosSpec : ChangeSpec := { name := "treeZeros", fn := fun _ => fun
  | [d1, d2, d3, d4] => { results := [.lit (.bool true)], args := [d1, d2, d3, d4] }
  | _ => none }
def treeZerosRow : OpenClaim := { program := "ytbdbjlfdnijfeaa", sum := "6d2a2245b20aee54b47e1bcb1a972e6c10be3ece4ab18366bcafb28aadbadad1", func := "drydock/drydocklaw11.TreeZeros", spec := "treeZeros", unfollowed := true, recurses := true, apart := false }
def TreeZerosSaid : Prop := treeZerosRow.holds Try.pinned (OpenSpec.ofChange treeZerosSpec)

/-- ITS FALSE NEIGHBOUR: 'it returns false'. Refute it at one input. -/
def treeZerosWrong : ChangeSpec := { name := "treeZeros", fn := fun _ => fun
  | [d1, d2, d3, d4] => { results := [.lit (.bool false)], args := [d1, d2, d3, d4] }
  | _ => none }
def TreeZerosWrongFalsely : Prop := treeZerosRow.holds Try.pinned (OpenSpec.ofChange treeZerosWrong)

/- THE SECOND FORM. 'bulk': how many values and letters a reading holds, each counted each time it is reached (what is shared counts as often as it is met; a slice's spare places count too). A statement '..UptoSaid' is the law's where the arguments, and the package variables that the reading takes, are together of bulk at most 1048576: NARROWER than '..Said'. Prove '..Said' where nothing that the law and all that it calls make is longer than what came in: it says more and counts as full. Else prove '..UptoSaid'. A law counts once. -/
mutual
def uptoBulk {H : Type} : DataW H → Nat
  | .lit (.string bytes) => bytes.length + 1
  | .lit _ => 1
  | .nil => 1
  | .ptr d => uptoBulk d + 1
  | .slice elems spare => uptoBulkAll elems + uptoBulkAll spare + 1
  | .agg parts => uptoBulkAll parts + 1
  | .iface _ d => uptoBulk d + 1
  | .map entries => uptoBulkEntries entries + 1
  | .held _ => 1
def uptoBulkAll {H : Type} : List (DataW H) → Nat
  | [] => 0
  | d :: r => uptoBulk d + uptoBulkAll r
def uptoBulkEntries {H : Type} : List (Lit × DataW H) → Nat
  | [] => 0
  | x :: r => uptoBulkEntry x + uptoBulkEntries r
def uptoBulkEntry {H : Type} : Lit × DataW H → Nat
  | (.string bytes, d) => bytes.length + uptoBulk d + 1
  | (_, d) => uptoBulk d + 1
 end
def uptoSmall : (H : Type) → List (DataW H) → Bool := fun _ ds => decide (uptoBulkAll ds ≤ 1048576)
def OpenSpec.upto (s : _root_.Go.ChangeSpec) : _root_.Go.OpenSpec := { _root_.Go.OpenSpec.ofChange s with cond := some uptoSmall }

/-- 'drydocklaw11.TreeNeeds', WHERE WHAT IT READS IS OF BULK AT MOST 1048576: true; the input reads as it did. -/
def treeNeedsUptoRow : OpenClaim := { program := "ytbdbjlfdnijfeaa", sum := "6d2a2245b20aee54b47e1bcb1a972e6c10be3ece4ab18366bcafb28aadbadad1", func := "drydock/drydocklaw11.TreeNeeds", spec := "treeNeeds", unfollowed := true, recurses := true, apart := false, narrowed := true }
def TreeNeedsUptoSaid : Prop := treeNeedsUptoRow.holds Try.pinned (OpenSpec.upto treeNeedsSpec)

/-- 'drydocklaw11.TreePlans', WHERE WHAT IT READS IS OF BULK AT MOST 1048576: true; the input reads as it did. -/
def treePlansUptoRow : OpenClaim := { program := "ytbdbjlfdnijfeaa", sum := "6d2a2245b20aee54b47e1bcb1a972e6c10be3ece4ab18366bcafb28aadbadad1", func := "drydock/drydocklaw11.TreePlans", spec := "treePlans", unfollowed := true, recurses := true, apart := false, narrowed := true }
def TreePlansUptoSaid : Prop := treePlansUptoRow.holds Try.pinned (OpenSpec.upto treePlansSpec)

/-- 'drydocklaw11.TreeBack', WHERE WHAT IT READS IS OF BULK AT MOST 1048576: true; the input reads as it did. -/
def treeBackUptoRow : OpenClaim := { program := "ytbdbjlfdnijfeaa", sum := "6d2a2245b20aee54b47e1bcb1a972e6c10be3ece4ab18366bcafb28aadbadad1", func := "drydock/drydocklaw11.TreeBack", spec := "treeBack", unfollowed := true, recurses := true, apart := false, narrowed := true }
def TreeBackUptoSaid : Prop := treeBackUptoRow.holds Try.pinned (OpenSpec.upto treeBackSpec)

/-- 'drydocklaw11.TreeZeros', WHERE WHAT IT READS IS OF BULK AT MOST 1048576: true; the input reads as it did. -/
def treeZerosUptoRow : OpenClaim := { program := "ytbdbjlfdnijfeaa", sum := "6d2a2245b20aee54b47e1bcb1a972e6c10be3ece4ab18366bcafb28aadbadad1", func := "drydock/drydocklaw11.TreeZeros", spec := "treeZeros", unfollowed := true, recurses := true, apart := false, narrowed := true }
def TreeZerosUptoSaid : Prop := treeZerosUptoRow.holds Try.pinned (OpenSpec.upto treeZerosSpec)

end Rows
end Go.Proofs.Ytbdbjlfdnijfeaa
