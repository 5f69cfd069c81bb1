/-
  No cell of these rows narrows 'for every input' (looked for: loops, veiled, ifaces, maps, wideKeys, modest, calm, conditions, laid).
  DERIVED. THE GIVEN ROWS OF THIS SEAT. 6 by the template 'for every input the law returns true; each argument reads behind the call as it read before'; 0 by the template 'total and deterministic' (their statements: YtefhjfaojbjjaaaTotals.lean).
  GIVEN WITH THE SEED: the statements are not yours to turn. If you find one false, say at which input.
  Laid BY PROGRAM, IN A SANDBOX (cutbox-rows.mjs): the forced cells as the released guide's own fill.sh prints them over the translation 5f4ec10d98855118… (all of the seat's roots in one cut). By AI agents, Wed Nov 11 2026. No macro, syntax, notation, axiom, sorry.
-/
import Derived.Test.YtefhjfaojbjjaaaChecked
import GoSem.Claim
import GoSem.ClaimJoined
import GoSem.ClaimMapViews
import Derived.JoinedTies
import Derived.KernelRfl
namespace Go.Proofs.Ytefhjfaojbjjaaa
/- THE CELL 'sum', in the pinned program and in every row, IS THE sha256 OF THE DUMP (.gsa) THAT YtefhjfaojbjjaaaProg.lean LOADS. Nothing in Lean hashes anything: it is a label: what it is worth is what the hold of that sum in a sandbox is worth. -/
noncomputable def Try.pinned : Pinned := { name := "ytefhjfaojbjjaaa", sum := "5f4ec10d9885511814440549cf5f1a89c05095de6d008ffcb8ea396bb2c7d001", checked := Try.checked }
namespace Rows
def none {H : Type} : Left H := { results := [], args := [] }

/-- 'drydocklaw15.LogBegins': WHATEVER THE INPUT: true; the input reads as it did. -/
def logBeginsSpec : ChangeSpec := { name := "logBegins", fn := fun _ => fun
  | [d1, d2] => { results := [.lit (.bool true)], args := [d1, d2] }
  | _ => none }
def logBeginsRow : OpenClaim := { program := "ytefhjfaojbjjaaa", sum := "5f4ec10d9885511814440549cf5f1a89c05095de6d008ffcb8ea396bb2c7d001", func := "drydock/drydocklaw15.LogBegins", spec := "logBegins", apart := false }
def LogBeginsSaid : Prop := logBeginsRow.holds Try.pinned (OpenSpec.ofChange logBeginsSpec)

/-- ITS FALSE NEIGHBOUR: 'it returns false'. Refute it at one input. -/
def logBeginsWrong : ChangeSpec := { name := "logBegins", fn := fun _ => fun
  | [d1, d2] => { results := [.lit (.bool false)], args := [d1, d2] }
  | _ => none }
def LogBeginsWrongFalsely : Prop := logBeginsRow.holds Try.pinned (OpenSpec.ofChange logBeginsWrong)

/-- 'drydocklaw15.LogEnds': WHATEVER THE INPUT: true; the input reads as it did. -/
def logEndsSpec : ChangeSpec := { name := "logEnds", fn := fun _ => fun
  | [d1, d2, d3] => { results := [.lit (.bool true)], args := [d1, d2, d3] }
  | _ => none }
def logEndsRow : OpenClaim := { program := "ytefhjfaojbjjaaa", sum := "5f4ec10d9885511814440549cf5f1a89c05095de6d008ffcb8ea396bb2c7d001", func := "drydock/drydocklaw15.LogEnds", spec := "logEnds", apart := false }
def LogEndsSaid : Prop := logEndsRow.holds Try.pinned (OpenSpec.ofChange logEndsSpec)

/-- ITS FALSE NEIGHBOUR: 'it returns false'. Refute it at one input. -/
def logEndsWrong : ChangeSpec := { name := "logEnds", fn := fun _ => fun
  | [d1, d2, d3] => { results := [.lit (.bool false)], args := [d1, d2, d3] }
  | _ => none }
def LogEndsWrongFalsely : Prop := logEndsRow.holds Try.pinned (OpenSpec.ofChange logEndsWrong)

/-- 'drydocklaw15.LogBack': WHATEVER THE INPUT: true; the input reads as it did. -/
def logBackSpec : ChangeSpec := { name := "logBack", fn := fun _ => fun
  | [d1, d2, d3] => { results := [.lit (.bool true)], args := [d1, d2, d3] }
  | _ => none }
def logBackRow : OpenClaim := { program := "ytefhjfaojbjjaaa", sum := "5f4ec10d9885511814440549cf5f1a89c05095de6d008ffcb8ea396bb2c7d001", func := "drydock/drydocklaw15.LogBack", spec := "logBack", apart := false }
def LogBackSaid : Prop := logBackRow.holds Try.pinned (OpenSpec.ofChange logBackSpec)

/-- ITS FALSE NEIGHBOUR: 'it returns false'. Refute it at one input. -/
def logBackWrong : ChangeSpec := { name := "logBack", fn := fun _ => fun
  | [d1, d2, d3] => { results := [.lit (.bool false)], args := [d1, d2, d3] }
  | _ => none }
def LogBackWrongFalsely : Prop := logBackRow.holds Try.pinned (OpenSpec.ofChange logBackWrong)

/-- 'drydocklaw15.LogFinds': WHATEVER THE INPUT: true; the input reads as it did. -/
def logFindsSpec : ChangeSpec := { name := "logFinds", fn := fun _ => fun
  | [d1, d2] => { results := [.lit (.bool true)], args := [d1, d2] }
  | _ => none }
def logFindsRow : OpenClaim := { program := "ytefhjfaojbjjaaa", sum := "5f4ec10d9885511814440549cf5f1a89c05095de6d008ffcb8ea396bb2c7d001", func := "drydock/drydocklaw15.LogFinds", spec := "logFinds", unfollowed := true, recurses := true, apart := false }
def LogFindsSaid : Prop := logFindsRow.holds Try.pinned (OpenSpec.ofChange logFindsSpec)

/-- ITS FALSE NEIGHBOUR: 'it returns false'. Refute it at one input. -/
def logFindsWrong : ChangeSpec := { name := "logFinds", fn := fun _ => fun
  | [d1, d2] => { results := [.lit (.bool false)], args := [d1, d2] }
  | _ => none }
def LogFindsWrongFalsely : Prop := logFindsRow.holds Try.pinned (OpenSpec.ofChange logFindsWrong)

/-- 'drydocklaw15.LogWhole': WHATEVER THE INPUT: true; the input reads as it did. -/
def logWholeSpec : ChangeSpec := { name := "logWhole", fn := fun _ => fun
  | [d1, d2, d3, d4, d5] => { results := [.lit (.bool true)], args := [d1, d2, d3, d4, d5] }
  | _ => none }
def logWholeRow : OpenClaim := { program := "ytefhjfaojbjjaaa", sum := "5f4ec10d9885511814440549cf5f1a89c05095de6d008ffcb8ea396bb2c7d001", func := "drydock/drydocklaw15.LogWhole", spec := "logWhole", unfollowed := true, recurses := true, apart := false }
def LogWholeSaid : Prop := logWholeRow.holds Try.pinned (OpenSpec.ofChange logWholeSpec)

/-- ITS FALSE NEIGHBOUR: 'it returns false'. Refute it at one input. -/
def logWholeWrong : ChangeSpec := { name := "logWhole", fn := fun _ => fun
  | [d1, d2, d3, d4, d5] => { results := [.lit (.bool false)], args := [d1, d2, d3, d4, d5] }
  | _ => none }
def LogWholeWrongFalsely : Prop := logWholeRow.holds Try.pinned (OpenSpec.ofChange logWholeWrong)

/-- 'drydocklaw15.LogElder': WHATEVER THE INPUT: true; the input reads as it did. -/
def logElderSpec : ChangeSpec := { name := "logElder", fn := fun _ => fun
  | [d1, d2] => { results := [.lit (.bool true)], args := [d1, d2] }
  | _ => none }
def logElderRow : OpenClaim := { program := "ytefhjfaojbjjaaa", sum := "5f4ec10d9885511814440549cf5f1a89c05095de6d008ffcb8ea396bb2c7d001", func := "drydock/drydocklaw15.LogElder", spec := "logElder", unfollowed := true, recurses := true, apart := false }
def LogElderSaid : Prop := logElderRow.holds Try.pinned (OpenSpec.ofChange logElderSpec)

/-- ITS FALSE NEIGHBOUR: 'it returns false'. Refute it at one input. -/
def logElderWrong : ChangeSpec := { name := "logElder", fn := fun _ => fun
  | [d1, d2] => { results := [.lit (.bool false)], args := [d1, d2] }
  | _ => none }
def LogElderWrongFalsely : Prop := logElderRow.holds Try.pinned (OpenSpec.ofChange logElderWrong)

/- THE SECOND FORM. 'bulk': how many values and letters a reading holds, each counted each time it is reached (what is shared counts as often as it is met; a slice's spare places count too). A statement '..UptoSaid' is the law's where the arguments, and the package variables that the reading takes, are together of bulk at most 1048576: NARROWER than '..Said'. Prove '..Said' where nothing that the law and all that it calls make is longer than what came in: it says more and counts as full. Else prove '..UptoSaid'. A law counts once. -/
mutual
def uptoBulk {H : Type} : DataW H → Nat
  | .lit (.string bytes) => bytes.length + 1
  | .lit _ => 1
  | .nil => 1
  | .ptr d => uptoBulk d + 1
  | .slice elems spare => uptoBulkAll elems + uptoBulkAll spare + 1
  | .agg parts => uptoBulkAll parts + 1
  | .iface _ d => uptoBulk d + 1
  | .map entries => uptoBulkEntries entries + 1
  | .held _ => 1
def uptoBulkAll {H : Type} : List (DataW H) → Nat
  | [] => 0
  | d :: r => uptoBulk d + uptoBulkAll r
def uptoBulkEntries {H : Type} : List (Lit × DataW H) → Nat
  | [] => 0
  | x :: r => uptoBulkEntry x + uptoBulkEntries r
def uptoBulkEntry {H : Type} : Lit × DataW H → Nat
  | (.string bytes, d) => bytes.length + uptoBulk d + 1
  | (_, d) => uptoBulk d + 1
 end
def uptoSmall : (H : Type) → List (DataW H) → Bool := fun _ ds => decide (uptoBulkAll ds ≤ 1048576)
def OpenSpec.upto (s : _root_.Go.ChangeSpec) : _root_.Go.OpenSpec := { _root_.Go.OpenSpec.ofChange s with cond := some uptoSmall }

/-- 'drydocklaw15.LogBegins', WHERE WHAT IT READS IS OF BULK AT MOST 1048576: true; the input reads as it did. -/
def logBeginsUptoRow : OpenClaim := { program := "ytefhjfaojbjjaaa", sum := "5f4ec10d9885511814440549cf5f1a89c05095de6d008ffcb8ea396bb2c7d001", func := "drydock/drydocklaw15.LogBegins", spec := "logBegins", apart := false, narrowed := true }
def LogBeginsUptoSaid : Prop := logBeginsUptoRow.holds Try.pinned (OpenSpec.upto logBeginsSpec)

/-- 'drydocklaw15.LogEnds', WHERE WHAT IT READS IS OF BULK AT MOST 1048576: true; the input reads as it did. -/
def logEndsUptoRow : OpenClaim := { program := "ytefhjfaojbjjaaa", sum := "5f4ec10d9885511814440549cf5f1a89c05095de6d008ffcb8ea396bb2c7d001", func := "drydock/drydocklaw15.LogEnds", spec := "logEnds", apart := false, narrowed := true }
def LogEndsUptoSaid : Prop := logEndsUptoRow.holds Try.pinned (OpenSpec.upto logEndsSpec)

/-- 'drydocklaw15.LogBack', WHERE WHAT IT READS IS OF BULK AT MOST 1048576: true; the input reads as it did. -/
def logBackUptoRow : OpenClaim := { program := "ytefhjfaojbjjaaa", sum := "5f4ec10d9885511814440549cf5f1a89c05095de6d008ffcb8ea396bb2c7d001", func := "drydock/drydocklaw15.LogBack", spec := "logBack", apart := false, narrowed := true }
def LogBackUptoSaid : Prop := logBackUptoRow.holds Try.pinned (OpenSpec.upto logBackSpec)

/-- 'drydocklaw15.LogFinds', WHERE WHAT IT READS IS OF BULK AT MOST 1048576: true; the input reads as it did. -/
def logFindsUptoRow : OpenClaim := { program := "ytefhjfaojbjjaaa", sum := "5f4ec10d9885511814440549cf5f1a89c05095de6d008ffcb8ea396bb2c7d001", func := "drydock/drydocklaw15.LogFinds", spec := "logFinds", unfollowed := true, recurses := true, apart := false, narrowed := true }
def LogFindsUptoSaid : Prop := logFindsUptoRow.holds Try.pinned (OpenSpec.upto logFindsSpec)

/-- 'drydocklaw15.LogWhole', WHERE WHAT IT READS IS OF BULK AT MOST 1048576: true; the input reads as it did. -/
def logWholeUptoRow : OpenClaim := { program := "ytefhjfaojbjjaaa", sum := "5f4ec10d9885511814440549cf5f1a89c05095de6d008ffcb8ea396bb2c7d001", func := "drydock/drydocklaw15.LogWhole", spec := "logWhole", unfollowed := true, recurses := true, apart := false, narrowed := true }
def LogWholeUptoSaid : Prop := logWholeUptoRow.holds Try.pinned (OpenSpec.upto logWholeSpec)

/-- 'drydocklaw15.LogElder', WHERE WHAT IT READS IS OF BULK AT MOST 1048576: true; the input reads as it did. -/
def logElderUptoRow : OpenClaim := { program := "ytefhjfaojbjjaaa", sum := "5f4ec10d9885511814440549cf5f1a89c05095de6d008ffcb8ea396bb2c7d001", func := "drydock/drydocklaw15.LogElder", spec := "logElder", unfollowed := true, recurses := true, apart := false, narrowed := true }
def LogElderUptoSaid : Prop := logElderUptoRow.holds Try.pinned (OpenSpec.upto logElderSpec)

end Rows
end Go.Proofs.Ytefhjfaojbjjaaa
