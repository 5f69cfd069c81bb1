/-
  No cell of these rows narrows 'for every input' (looked for: loops, veiled, ifaces, maps, wideKeys, modest, calm, conditions, laid).
  DERIVED. THE GIVEN ROWS OF THIS SEAT. 11 by the template 'for every input the law returns true; each argument reads behind the call as it read before'; 0 by the template 'total and deterministic' (their statements: YtbgnmiicbaecfaaTotals.lean).
  GIVEN WITH THE SEED: the statements are not yours to turn. If you find one false, say at which input.
  Laid BY PROGRAM, IN A SANDBOX (cutbox-rows.mjs): the forced cells as the released guide's own fill.sh prints them over the translation e7c0ee9b26aca41c… (all of the seat's roots in one cut). By AI agents, Wed Nov 11 2026. No macro, syntax, notation, axiom, sorry.
-/
import Derived.Test.YtbgnmiicbaecfaaChecked
import GoSem.Claim
import GoSem.ClaimJoined
import GoSem.ClaimMapViews
import Derived.JoinedTies
import Derived.KernelRfl
namespace Go.Proofs.Ytbgnmiicbaecfaa
/- THE CELL 'sum', in the pinned program and in every row, IS THE sha256 OF THE DUMP (.gsa) THAT YtbgnmiicbaecfaaProg.lean LOADS. Nothing in Lean hashes anything: it is a label: what it is worth is what the hold of that sum in a sandbox is worth. -/
noncomputable def Try.pinned : Pinned := { name := "ytbgnmiicbaecfaa", sum := "e7c0ee9b26aca41c79afdf0d4e6a90e099e829185e309bcbe84a95b3d4bd6e2a", checked := Try.checked }
namespace Rows
def none {H : Type} : Left H := { results := [], args := [] }

/-- 'drydocklaw04.FieldSets': WHATEVER THE INPUT: true; the input reads as it did. -/
def fieldSetsSpec : ChangeSpec := { name := "fieldSets", fn := fun _ => fun
  | [d1, d2, d3, d4] => { results := [.lit (.bool true)], args := [d1, d2, d3, d4] }
  | _ => none }
def fieldSetsRow : OpenClaim := { program := "ytbgnmiicbaecfaa", sum := "e7c0ee9b26aca41c79afdf0d4e6a90e099e829185e309bcbe84a95b3d4bd6e2a", func := "drydock/drydocklaw04.FieldSets", spec := "fieldSets", apart := false }
def FieldSetsSaid : Prop := fieldSetsRow.holds Try.pinned (OpenSpec.ofChange fieldSetsSpec)

/-- ITS FALSE NEIGHBOUR: 'it returns false'. Refute it at one input. -/
def fieldSetsWrong : ChangeSpec := { name := "fieldSets", fn := fun _ => fun
  | [d1, d2, d3, d4] => { results := [.lit (.bool false)], args := [d1, d2, d3, d4] }
  | _ => none }
def FieldSetsWrongFalsely : Prop := fieldSetsRow.holds Try.pinned (OpenSpec.ofChange fieldSetsWrong)

/-- 'drydocklaw04.FieldGets': WHATEVER THE INPUT: true; the input reads as it did. -/
def fieldGetsSpec : ChangeSpec := { name := "fieldGets", fn := fun _ => fun
  | [d1, d2, d3] => { results := [.lit (.bool true)], args := [d1, d2, d3] }
  | _ => none }
def fieldGetsRow : OpenClaim := { program := "ytbgnmiicbaecfaa", sum := "e7c0ee9b26aca41c79afdf0d4e6a90e099e829185e309bcbe84a95b3d4bd6e2a", func := "drydock/drydocklaw04.FieldGets", spec := "fieldGets", apart := false }
def FieldGetsSaid : Prop := fieldGetsRow.holds Try.pinned (OpenSpec.ofChange fieldGetsSpec)

/-- ITS FALSE NEIGHBOUR: 'it returns false'. Refute it at one input. -/
def fieldGetsWrong : ChangeSpec := { name := "fieldGets", fn := fun _ => fun
  | [d1, d2, d3] => { results := [.lit (.bool false)], args := [d1, d2, d3] }
  | _ => none }
def FieldGetsWrongFalsely : Prop := fieldGetsRow.holds Try.pinned (OpenSpec.ofChange fieldGetsWrong)

/-- 'drydocklaw04.FieldSeals': WHATEVER THE INPUT: true; the input reads as it did. -/
def fieldSealsSpec : ChangeSpec := { name := "fieldSeals", fn := fun _ => fun
  | [d] => { results := [.lit (.bool true)], args := [d] }
  | _ => none }
def fieldSealsRow : OpenClaim := { program := "ytbgnmiicbaecfaa", sum := "e7c0ee9b26aca41c79afdf0d4e6a90e099e829185e309bcbe84a95b3d4bd6e2a", func := "drydock/drydocklaw04.FieldSeals", spec := "fieldSeals", apart := false }
def FieldSealsSaid : Prop := fieldSealsRow.holds Try.pinned (OpenSpec.ofChange fieldSealsSpec)

/-- ITS FALSE NEIGHBOUR: 'it returns false'. Refute it at one input. -/
def fieldSealsWrong : ChangeSpec := { name := "fieldSeals", fn := fun _ => fun
  | [d] => { results := [.lit (.bool false)], args := [d] }
  | _ => none }
def FieldSealsWrongFalsely : Prop := fieldSealsRow.holds Try.pinned (OpenSpec.ofChange fieldSealsWrong)

/-- 'drydocklaw04.FieldBack': WHATEVER THE INPUT: true; the input reads as it did. -/
def fieldBackSpec : ChangeSpec := { name := "fieldBack", fn := fun _ => fun
  | [d1, d2, d3, d4, d5] => { results := [.lit (.bool true)], args := [d1, d2, d3, d4, d5] }
  | _ => none }
def fieldBackRow : OpenClaim := { program := "ytbgnmiicbaecfaa", sum := "e7c0ee9b26aca41c79afdf0d4e6a90e099e829185e309bcbe84a95b3d4bd6e2a", func := "drydock/drydocklaw04.FieldBack", spec := "fieldBack", apart := false }
def FieldBackSaid : Prop := fieldBackRow.holds Try.pinned (OpenSpec.ofChange fieldBackSpec)

/-- ITS FALSE NEIGHBOUR: 'it returns false'. Refute it at one input. -/
def fieldBackWrong : ChangeSpec := { name := "fieldBack", fn := fun _ => fun
  | [d1, d2, d3, d4, d5] => { results := [.lit (.bool false)], args := [d1, d2, d3, d4, d5] }
  | _ => none }
def FieldBackWrongFalsely : Prop := fieldBackRow.holds Try.pinned (OpenSpec.ofChange fieldBackWrong)

/-- 'drydocklaw04.FieldTurned': WHATEVER THE INPUT: true; the input reads as it did. -/
def fieldTurnedSpec : ChangeSpec := { name := "fieldTurned", fn := fun _ => fun
  | [d1, d2, d3] => { results := [.lit (.bool true)], args := [d1, d2, d3] }
  | _ => none }
def fieldTurnedRow : OpenClaim := { program := "ytbgnmiicbaecfaa", sum := "e7c0ee9b26aca41c79afdf0d4e6a90e099e829185e309bcbe84a95b3d4bd6e2a", func := "drydock/drydocklaw04.FieldTurned", spec := "fieldTurned", apart := false }
def FieldTurnedSaid : Prop := fieldTurnedRow.holds Try.pinned (OpenSpec.ofChange fieldTurnedSpec)

/-- ITS FALSE NEIGHBOUR: 'it returns false'. Refute it at one input. -/
def fieldTurnedWrong : ChangeSpec := { name := "fieldTurned", fn := fun _ => fun
  | [d1, d2, d3] => { results := [.lit (.bool false)], args := [d1, d2, d3] }
  | _ => none }
def FieldTurnedWrongFalsely : Prop := fieldTurnedRow.holds Try.pinned (OpenSpec.ofChange fieldTurnedWrong)

/-- 'drydocklaw04.FieldApart': WHATEVER THE INPUT: true; the input reads as it did. -/
def fieldApartSpec : ChangeSpec := { name := "fieldApart", fn := fun _ => fun
  | [d1, d2, d3, d4, d5, d6] => { results := [.lit (.bool true)], args := [d1, d2, d3, d4, d5, d6] }
  | _ => none }
def fieldApartRow : OpenClaim := { program := "ytbgnmiicbaecfaa", sum := "e7c0ee9b26aca41c79afdf0d4e6a90e099e829185e309bcbe84a95b3d4bd6e2a", func := "drydock/drydocklaw04.FieldApart", spec := "fieldApart", apart := false }
def FieldApartSaid : Prop := fieldApartRow.holds Try.pinned (OpenSpec.ofChange fieldApartSpec)

/-- ITS FALSE NEIGHBOUR: 'it returns false'. Refute it at one input. -/
def fieldApartWrong : ChangeSpec := { name := "fieldApart", fn := fun _ => fun
  | [d1, d2, d3, d4, d5, d6] => { results := [.lit (.bool false)], args := [d1, d2, d3, d4, d5, d6] }
  | _ => none }
def FieldApartWrongFalsely : Prop := fieldApartRow.holds Try.pinned (OpenSpec.ofChange fieldApartWrong)

/-- 'drydocklaw04.FieldTexts': WHATEVER THE INPUT: true; the input reads as it did. -/
def fieldTextsSpec : ChangeSpec := { name := "fieldTexts", fn := fun _ => fun
  | [d1, d2, d3] => { results := [.lit (.bool true)], args := [d1, d2, d3] }
  | _ => none }
def fieldTextsRow : OpenClaim := { program := "ytbgnmiicbaecfaa", sum := "e7c0ee9b26aca41c79afdf0d4e6a90e099e829185e309bcbe84a95b3d4bd6e2a", func := "drydock/drydocklaw04.FieldTexts", spec := "fieldTexts", apart := false }
def FieldTextsSaid : Prop := fieldTextsRow.holds Try.pinned (OpenSpec.ofChange fieldTextsSpec)

/-- ITS FALSE NEIGHBOUR: 'it returns false'. Refute it at one input. -/
def fieldTextsWrong : ChangeSpec := { name := "fieldTexts", fn := fun _ => fun
  | [d1, d2, d3] => { results := [.lit (.bool false)], args := [d1, d2, d3] }
  | _ => none }
def FieldTextsWrongFalsely : Prop := fieldTextsRow.holds Try.pinned (OpenSpec.ofChange fieldTextsWrong)

/-- 'drydocklaw08.SuperEncodes': WHATEVER THE INPUT: true; the input reads as it did. -/
def superEncodesSpec : ChangeSpec := { name := "superEncodes", fn := fun _ => fun
  | [d1, d2] => { results := [.lit (.bool true)], args := [d1, d2] }
  | _ => none }
def superEncodesRow : OpenClaim := { program := "ytbgnmiicbaecfaa", sum := "e7c0ee9b26aca41c79afdf0d4e6a90e099e829185e309bcbe84a95b3d4bd6e2a", func := "drydock/drydocklaw08.SuperEncodes", spec := "superEncodes", apart := false }
def SuperEncodesSaid : Prop := superEncodesRow.holds Try.pinned (OpenSpec.ofChange superEncodesSpec)

/-- ITS FALSE NEIGHBOUR: 'it returns false'. Refute it at one input. -/
def superEncodesWrong : ChangeSpec := { name := "superEncodes", fn := fun _ => fun
  | [d1, d2] => { results := [.lit (.bool false)], args := [d1, d2] }
  | _ => none }
def SuperEncodesWrongFalsely : Prop := superEncodesRow.holds Try.pinned (OpenSpec.ofChange superEncodesWrong)

/-- 'drydocklaw08.SuperDecodes': WHATEVER THE INPUT: true; the input reads as it did. -/
def superDecodesSpec : ChangeSpec := { name := "superDecodes", fn := fun _ => fun
  | [d] => { results := [.lit (.bool true)], args := [d] }
  | _ => none }
def superDecodesRow : OpenClaim := { program := "ytbgnmiicbaecfaa", sum := "e7c0ee9b26aca41c79afdf0d4e6a90e099e829185e309bcbe84a95b3d4bd6e2a", func := "drydock/drydocklaw08.SuperDecodes", spec := "superDecodes", apart := false }
def SuperDecodesSaid : Prop := superDecodesRow.holds Try.pinned (OpenSpec.ofChange superDecodesSpec)

/-- ITS FALSE NEIGHBOUR: 'it returns false'. Refute it at one input. -/
def superDecodesWrong : ChangeSpec := { name := "superDecodes", fn := fun _ => fun
  | [d] => { results := [.lit (.bool false)], args := [d] }
  | _ => none }
def SuperDecodesWrongFalsely : Prop := superDecodesRow.holds Try.pinned (OpenSpec.ofChange superDecodesWrong)

/-- 'drydocklaw08.SuperBack': WHATEVER THE INPUT: true; the input reads as it did. -/
def superBackSpec : ChangeSpec := { name := "superBack", fn := fun _ => fun
  | [d1, d2, d3] => { results := [.lit (.bool true)], args := [d1, d2, d3] }
  | _ => none }
def superBackRow : OpenClaim := { program := "ytbgnmiicbaecfaa", sum := "e7c0ee9b26aca41c79afdf0d4e6a90e099e829185e309bcbe84a95b3d4bd6e2a", func := "drydock/drydocklaw08.SuperBack", spec := "superBack", apart := false }
def SuperBackSaid : Prop := superBackRow.holds Try.pinned (OpenSpec.ofChange superBackSpec)

/-- ITS FALSE NEIGHBOUR: 'it returns false'. Refute it at one input. -/
def superBackWrong : ChangeSpec := { name := "superBack", fn := fun _ => fun
  | [d1, d2, d3] => { results := [.lit (.bool false)], args := [d1, d2, d3] }
  | _ => none }
def SuperBackWrongFalsely : Prop := superBackRow.holds Try.pinned (OpenSpec.ofChange superBackWrong)

/-- 'drydocklaw08.SuperTurned': WHATEVER THE INPUT: true; the input reads as it did. -/
def superTurnedSpec : ChangeSpec := { name := "superTurned", fn := fun _ => fun
  | [d1, d2, d3, d4] => { results := [.lit (.bool true)], args := [d1, d2, d3, d4] }
  | _ => none }
def superTurnedRow : OpenClaim := { program := "ytbgnmiicbaecfaa", sum := "e7c0ee9b26aca41c79afdf0d4e6a90e099e829185e309bcbe84a95b3d4bd6e2a", func := "drydock/drydocklaw08.SuperTurned", spec := "superTurned", apart := false }
def SuperTurnedSaid : Prop := superTurnedRow.holds Try.pinned (OpenSpec.ofChange superTurnedSpec)

/-- ITS FALSE NEIGHBOUR: 'it returns false'. Refute it at one input. -/
def superTurnedWrong : ChangeSpec := { name := "superTurned", fn := fun _ => fun
  | [d1, d2, d3, d4] => { results := [.lit (.bool false)], args := [d1, d2, d3, d4] }
  | _ => none }
def SuperTurnedWrongFalsely : Prop := superTurnedRow.holds Try.pinned (OpenSpec.ofChange superTurnedWrong)

/- THE SECOND FORM. 'bulk': how many values and letters a reading holds, each counted each time it is reached (what is shared counts as often as it is met; a slice's spare places count too). A statement '..UptoSaid' is the law's where the arguments, and the package variables that the reading takes, are together of bulk at most 1048576: NARROWER than '..Said'. Prove '..Said' where nothing that the law and all that it calls make is longer than what came in: it says more and counts as full. Else prove '..UptoSaid'. A law counts once. -/
mutual
def uptoBulk {H : Type} : DataW H → Nat
  | .lit (.string bytes) => bytes.length + 1
  | .lit _ => 1
  | .nil => 1
  | .ptr d => uptoBulk d + 1
  | .slice elems spare => uptoBulkAll elems + uptoBulkAll spare + 1
  | .agg parts => uptoBulkAll parts + 1
  | .iface _ d => uptoBulk d + 1
  | .map entries => uptoBulkEntries entries + 1
  | .held _ => 1
def uptoBulkAll {H : Type} : List (DataW H) → Nat
  | [] => 0
  | d :: r => uptoBulk d + uptoBulkAll r
def uptoBulkEntries {H : Type} : List (Lit × DataW H) → Nat
  | [] => 0
  | x :: r => uptoBulkEntry x + uptoBulkEntries r
def uptoBulkEntry {H : Type} : Lit × DataW H → Nat
  | (.string bytes, d) => bytes.length + uptoBulk d + 1
  | (_, d) => uptoBulk d + 1
 end
def uptoSmall : (H : Type) → List (DataW H) → Bool := fun _ ds => decide (uptoBulkAll ds ≤ 1048576)
def OpenSpec.upto (s : _root_.Go.ChangeSpec) : _root_.Go.OpenSpec := { _root_.Go.OpenSpec.ofChange s with cond := some uptoSmall }

/-- 'drydocklaw04.FieldSets', WHERE WHAT IT READS IS OF BULK AT MOST 1048576: true; the input reads as it did. -/
def fieldSetsUptoRow : OpenClaim := { program := "ytbgnmiicbaecfaa", sum := "e7c0ee9b26aca41c79afdf0d4e6a90e099e829185e309bcbe84a95b3d4bd6e2a", func := "drydock/drydocklaw04.FieldSets", spec := "fieldSets", apart := false, narrowed := true }
def FieldSetsUptoSaid : Prop := fieldSetsUptoRow.holds Try.pinned (OpenSpec.upto fieldSetsSpec)

/-- 'drydocklaw04.FieldGets', WHERE WHAT IT READS IS OF BULK AT MOST 1048576: true; the input reads as it did. -/
def fieldGetsUptoRow : OpenClaim := { program := "ytbgnmiicbaecfaa", sum := "e7c0ee9b26aca41c79afdf0d4e6a90e099e829185e309bcbe84a95b3d4bd6e2a", func := "drydock/drydocklaw04.FieldGets", spec := "fieldGets", apart := false, narrowed := true }
def FieldGetsUptoSaid : Prop := fieldGetsUptoRow.holds Try.pinned (OpenSpec.upto fieldGetsSpec)

/-- 'drydocklaw04.FieldSeals', WHERE WHAT IT READS IS OF BULK AT MOST 1048576: true; the input reads as it did. -/
def fieldSealsUptoRow : OpenClaim := { program := "ytbgnmiicbaecfaa", sum := "e7c0ee9b26aca41c79afdf0d4e6a90e099e829185e309bcbe84a95b3d4bd6e2a", func := "drydock/drydocklaw04.FieldSeals", spec := "fieldSeals", apart := false, narrowed := true }
def FieldSealsUptoSaid : Prop := fieldSealsUptoRow.holds Try.pinned (OpenSpec.upto fieldSealsSpec)

/-- 'drydocklaw04.FieldBack', WHERE WHAT IT READS IS OF BULK AT MOST 1048576: true; the input reads as it did. -/
def fieldBackUptoRow : OpenClaim := { program := "ytbgnmiicbaecfaa", sum := "e7c0ee9b26aca41c79afdf0d4e6a90e099e829185e309bcbe84a95b3d4bd6e2a", func := "drydock/drydocklaw04.FieldBack", spec := "fieldBack", apart := false, narrowed := true }
def FieldBackUptoSaid : Prop := fieldBackUptoRow.holds Try.pinned (OpenSpec.upto fieldBackSpec)

/-- 'drydocklaw04.FieldTurned', WHERE WHAT IT READS IS OF BULK AT MOST 1048576: true; the input reads as it did. -/
def fieldTurnedUptoRow : OpenClaim := { program := "ytbgnmiicbaecfaa", sum := "e7c0ee9b26aca41c79afdf0d4e6a90e099e829185e309bcbe84a95b3d4bd6e2a", func := "drydock/drydocklaw04.FieldTurned", spec := "fieldTurned", apart := false, narrowed := true }
def FieldTurnedUptoSaid : Prop := fieldTurnedUptoRow.holds Try.pinned (OpenSpec.upto fieldTurnedSpec)

/-- 'drydocklaw04.FieldApart', WHERE WHAT IT READS IS OF BULK AT MOST 1048576: true; the input reads as it did. -/
def fieldApartUptoRow : OpenClaim := { program := "ytbgnmiicbaecfaa", sum := "e7c0ee9b26aca41c79afdf0d4e6a90e099e829185e309bcbe84a95b3d4bd6e2a", func := "drydock/drydocklaw04.FieldApart", spec := "fieldApart", apart := false, narrowed := true }
def FieldApartUptoSaid : Prop := fieldApartUptoRow.holds Try.pinned (OpenSpec.upto fieldApartSpec)

/-- 'drydocklaw04.FieldTexts', WHERE WHAT IT READS IS OF BULK AT MOST 1048576: true; the input reads as it did. -/
def fieldTextsUptoRow : OpenClaim := { program := "ytbgnmiicbaecfaa", sum := "e7c0ee9b26aca41c79afdf0d4e6a90e099e829185e309bcbe84a95b3d4bd6e2a", func := "drydock/drydocklaw04.FieldTexts", spec := "fieldTexts", apart := false, narrowed := true }
def FieldTextsUptoSaid : Prop := fieldTextsUptoRow.holds Try.pinned (OpenSpec.upto fieldTextsSpec)

/-- 'drydocklaw08.SuperEncodes', WHERE WHAT IT READS IS OF BULK AT MOST 1048576: true; the input reads as it did. -/
def superEncodesUptoRow : OpenClaim := { program := "ytbgnmiicbaecfaa", sum := "e7c0ee9b26aca41c79afdf0d4e6a90e099e829185e309bcbe84a95b3d4bd6e2a", func := "drydock/drydocklaw08.SuperEncodes", spec := "superEncodes", apart := false, narrowed := true }
def SuperEncodesUptoSaid : Prop := superEncodesUptoRow.holds Try.pinned (OpenSpec.upto superEncodesSpec)

/-- 'drydocklaw08.SuperDecodes', WHERE WHAT IT READS IS OF BULK AT MOST 1048576: true; the input reads as it did. -/
def superDecodesUptoRow : OpenClaim := { program := "ytbgnmiicbaecfaa", sum := "e7c0ee9b26aca41c79afdf0d4e6a90e099e829185e309bcbe84a95b3d4bd6e2a", func := "drydock/drydocklaw08.SuperDecodes", spec := "superDecodes", apart := false, narrowed := true }
def SuperDecodesUptoSaid : Prop := superDecodesUptoRow.holds Try.pinned (OpenSpec.upto superDecodesSpec)

/-- 'drydocklaw08.SuperBack', WHERE WHAT IT READS IS OF BULK AT MOST 1048576: true; the input reads as it did. -/
def superBackUptoRow : OpenClaim := { program := "ytbgnmiicbaecfaa", sum := "e7c0ee9b26aca41c79afdf0d4e6a90e099e829185e309bcbe84a95b3d4bd6e2a", func := "drydock/drydocklaw08.SuperBack", spec := "superBack", apart := false, narrowed := true }
def SuperBackUptoSaid : Prop := superBackUptoRow.holds Try.pinned (OpenSpec.upto superBackSpec)

/-- 'drydocklaw08.SuperTurned', WHERE WHAT IT READS IS OF BULK AT MOST 1048576: true; the input reads as it did. -/
def superTurnedUptoRow : OpenClaim := { program := "ytbgnmiicbaecfaa", sum := "e7c0ee9b26aca41c79afdf0d4e6a90e099e829185e309bcbe84a95b3d4bd6e2a", func := "drydock/drydocklaw08.SuperTurned", spec := "superTurned", apart := false, narrowed := true }
def SuperTurnedUptoSaid : Prop := superTurnedUptoRow.holds Try.pinned (OpenSpec.upto superTurnedSpec)

end Rows
end Go.Proofs.Ytbgnmiicbaecfaa
