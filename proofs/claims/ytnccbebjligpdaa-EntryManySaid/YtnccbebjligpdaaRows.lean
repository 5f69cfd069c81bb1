/-
  No cell of these rows narrows 'for every input' (looked for: loops, veiled, ifaces, maps, wideKeys, modest, calm, conditions, laid).
  DERIVED. THE GIVEN ROWS OF THIS SEAT. 9 by the template 'for every input the law returns true; each argument reads behind the call as it read before'; 0 by the template 'total and deterministic' (their statements: YtnccbebjligpdaaTotals.lean).
  GIVEN WITH THE SEED: the statements are not yours to turn. If you find one false, say at which input.
  Laid BY PROGRAM, IN A SANDBOX (cutbox-rows.mjs): the forced cells as the released guide's own fill.sh prints them over the translation 9219d07631936a73… (all of the seat's roots in one cut). By AI agents, Wed Nov 11 2026. No macro, syntax, notation, axiom, sorry.
-/
import Derived.Test.YtnccbebjligpdaaChecked
import GoSem.Claim
import GoSem.ClaimJoined
import GoSem.ClaimMapViews
import Derived.JoinedTies
import Derived.KernelRfl
namespace Go.Proofs.Ytnccbebjligpdaa
/- THE CELL 'sum', in the pinned program and in every row, IS THE sha256 OF THE DUMP (.gsa) THAT YtnccbebjligpdaaProg.lean LOADS. Nothing in Lean hashes anything: it is a label: what it is worth is what the hold of that sum in a sandbox is worth. -/
noncomputable def Try.pinned : Pinned := { name := "ytnccbebjligpdaa", sum := "9219d07631936a73e823b2eb58f8b55c4fa526ef814f0964e53b2e6bd8660d80", checked := Try.checked }
namespace Rows
def none {H : Type} : Left H := { results := [], args := [] }

/-- 'drydocklaw10.EntryEncodes': WHATEVER THE INPUT: true; the input reads as it did. -/
def entryEncodesSpec : ChangeSpec := { name := "entryEncodes", fn := fun _ => fun
  | [d] => { results := [.lit (.bool true)], args := [d] }
  | _ => none }
def entryEncodesRow : OpenClaim := { program := "ytnccbebjligpdaa", sum := "9219d07631936a73e823b2eb58f8b55c4fa526ef814f0964e53b2e6bd8660d80", func := "drydock/drydocklaw10.EntryEncodes", spec := "entryEncodes", inPlace := ["internal/bytealg.IndexByteString", "internal/bytealg.IndexString"], unfollowed := true, recurses := true, named := ["internal/bytealg.MaxLen"], apart := false }
def EntryEncodesSaid : Prop := entryEncodesRow.holds Try.pinned (OpenSpec.ofChange entryEncodesSpec)

/-- ITS FALSE NEIGHBOUR: 'it returns false'. Refute it at one input. -/
def entryEncodesWrong : ChangeSpec := { name := "entryEncodes", fn := fun _ => fun
  | [d] => { results := [.lit (.bool false)], args := [d] }
  | _ => none }
def EntryEncodesWrongFalsely : Prop := entryEncodesRow.holds Try.pinned (OpenSpec.ofChange entryEncodesWrong)

/-- 'drydocklaw10.EntryDecodes': WHATEVER THE INPUT: true; the input reads as it did. -/
def entryDecodesSpec : ChangeSpec := { name := "entryDecodes", fn := fun _ => fun
  | [d] => { results := [.lit (.bool true)], args := [d] }
  | _ => none }
def entryDecodesRow : OpenClaim := { program := "ytnccbebjligpdaa", sum := "9219d07631936a73e823b2eb58f8b55c4fa526ef814f0964e53b2e6bd8660d80", func := "drydock/drydocklaw10.EntryDecodes", spec := "entryDecodes", inPlace := ["internal/bytealg.IndexByteString", "internal/bytealg.IndexString"], unfollowed := true, recurses := true, named := ["internal/bytealg.MaxLen"], apart := false }
def EntryDecodesSaid : Prop := entryDecodesRow.holds Try.pinned (OpenSpec.ofChange entryDecodesSpec)

/-- ITS FALSE NEIGHBOUR: 'it returns false'. Refute it at one input. -/
def entryDecodesWrong : ChangeSpec := { name := "entryDecodes", fn := fun _ => fun
  | [d] => { results := [.lit (.bool false)], args := [d] }
  | _ => none }
def EntryDecodesWrongFalsely : Prop := entryDecodesRow.holds Try.pinned (OpenSpec.ofChange entryDecodesWrong)

/-- 'drydocklaw10.EntryNames': WHATEVER THE INPUT: true; the input reads as it did. -/
def entryNamesSpec : ChangeSpec := { name := "entryNames", fn := fun _ => fun
  | [d] => { results := [.lit (.bool true)], args := [d] }
  | _ => none }
def entryNamesRow : OpenClaim := { program := "ytnccbebjligpdaa", sum := "9219d07631936a73e823b2eb58f8b55c4fa526ef814f0964e53b2e6bd8660d80", func := "drydock/drydocklaw10.EntryNames", spec := "entryNames", inPlace := ["internal/bytealg.IndexByteString", "internal/bytealg.IndexString"], unfollowed := true, recurses := true, named := ["internal/bytealg.MaxLen"], apart := false }
def EntryNamesSaid : Prop := entryNamesRow.holds Try.pinned (OpenSpec.ofChange entryNamesSpec)

/-- ITS FALSE NEIGHBOUR: 'it returns false'. Refute it at one input. -/
def entryNamesWrong : ChangeSpec := { name := "entryNames", fn := fun _ => fun
  | [d] => { results := [.lit (.bool false)], args := [d] }
  | _ => none }
def EntryNamesWrongFalsely : Prop := entryNamesRow.holds Try.pinned (OpenSpec.ofChange entryNamesWrong)

/-- 'drydocklaw10.EntryFinds': WHATEVER THE INPUT: true; the input reads as it did. -/
def entryFindsSpec : ChangeSpec := { name := "entryFinds", fn := fun _ => fun
  | [d1, d2] => { results := [.lit (.bool true)], args := [d1, d2] }
  | _ => none }
def entryFindsRow : OpenClaim := { program := "ytnccbebjligpdaa", sum := "9219d07631936a73e823b2eb58f8b55c4fa526ef814f0964e53b2e6bd8660d80", func := "drydock/drydocklaw10.EntryFinds", spec := "entryFinds", inPlace := ["internal/bytealg.IndexByteString", "internal/bytealg.IndexString"], unfollowed := true, recurses := true, named := ["internal/bytealg.MaxLen"], apart := false }
def EntryFindsSaid : Prop := entryFindsRow.holds Try.pinned (OpenSpec.ofChange entryFindsSpec)

/-- ITS FALSE NEIGHBOUR: 'it returns false'. Refute it at one input. -/
def entryFindsWrong : ChangeSpec := { name := "entryFinds", fn := fun _ => fun
  | [d1, d2] => { results := [.lit (.bool false)], args := [d1, d2] }
  | _ => none }
def EntryFindsWrongFalsely : Prop := entryFindsRow.holds Try.pinned (OpenSpec.ofChange entryFindsWrong)

/-- 'drydocklaw10.EntryRound': WHATEVER THE INPUT: true; the input reads as it did. -/
def entryRoundSpec : ChangeSpec := { name := "entryRound", fn := fun _ => fun
  | [d1, d2] => { results := [.lit (.bool true)], args := [d1, d2] }
  | _ => none }
def entryRoundRow : OpenClaim := { program := "ytnccbebjligpdaa", sum := "9219d07631936a73e823b2eb58f8b55c4fa526ef814f0964e53b2e6bd8660d80", func := "drydock/drydocklaw10.EntryRound", spec := "entryRound", inPlace := ["internal/bytealg.IndexByteString", "internal/bytealg.IndexString"], unfollowed := true, recurses := true, named := ["internal/bytealg.MaxLen"], apart := false }
def EntryRoundSaid : Prop := entryRoundRow.holds Try.pinned (OpenSpec.ofChange entryRoundSpec)

/-- ITS FALSE NEIGHBOUR: 'it returns false'. Refute it at one input. -/
def entryRoundWrong : ChangeSpec := { name := "entryRound", fn := fun _ => fun
  | [d1, d2] => { results := [.lit (.bool false)], args := [d1, d2] }
  | _ => none }
def EntryRoundWrongFalsely : Prop := entryRoundRow.holds Try.pinned (OpenSpec.ofChange entryRoundWrong)

/-- 'drydocklaw10.EntryAdds': WHATEVER THE INPUT: true; the input reads as it did. -/
def entryAddsSpec : ChangeSpec := { name := "entryAdds", fn := fun _ => fun
  | [d1, d2] => { results := [.lit (.bool true)], args := [d1, d2] }
  | _ => none }
def entryAddsRow : OpenClaim := { program := "ytnccbebjligpdaa", sum := "9219d07631936a73e823b2eb58f8b55c4fa526ef814f0964e53b2e6bd8660d80", func := "drydock/drydocklaw10.EntryAdds", spec := "entryAdds", inPlace := ["internal/bytealg.IndexByteString", "internal/bytealg.IndexString"], unfollowed := true, recurses := true, named := ["internal/bytealg.MaxLen"], apart := false }
def EntryAddsSaid : Prop := entryAddsRow.holds Try.pinned (OpenSpec.ofChange entryAddsSpec)

/-- ITS FALSE NEIGHBOUR: 'it returns false'. Refute it at one input. -/
def entryAddsWrong : ChangeSpec := { name := "entryAdds", fn := fun _ => fun
  | [d1, d2] => { results := [.lit (.bool false)], args := [d1, d2] }
  | _ => none }
def EntryAddsWrongFalsely : Prop := entryAddsRow.holds Try.pinned (OpenSpec.ofChange entryAddsWrong)

/-- 'drydocklaw10.EntryRemoves': WHATEVER THE INPUT: true; the input reads as it did. -/
def entryRemovesSpec : ChangeSpec := { name := "entryRemoves", fn := fun _ => fun
  | [d1, d2] => { results := [.lit (.bool true)], args := [d1, d2] }
  | _ => none }
def entryRemovesRow : OpenClaim := { program := "ytnccbebjligpdaa", sum := "9219d07631936a73e823b2eb58f8b55c4fa526ef814f0964e53b2e6bd8660d80", func := "drydock/drydocklaw10.EntryRemoves", spec := "entryRemoves", inPlace := ["internal/bytealg.IndexByteString", "internal/bytealg.IndexString"], unfollowed := true, recurses := true, named := ["internal/bytealg.MaxLen"], apart := false }
def EntryRemovesSaid : Prop := entryRemovesRow.holds Try.pinned (OpenSpec.ofChange entryRemovesSpec)

/-- ITS FALSE NEIGHBOUR: 'it returns false'. Refute it at one input. -/
def entryRemovesWrong : ChangeSpec := { name := "entryRemoves", fn := fun _ => fun
  | [d1, d2] => { results := [.lit (.bool false)], args := [d1, d2] }
  | _ => none }
def EntryRemovesWrongFalsely : Prop := entryRemovesRow.holds Try.pinned (OpenSpec.ofChange entryRemovesWrong)

/-- 'drydocklaw10.EntryBack': WHATEVER THE INPUT: true; the input reads as it did. -/
def entryBackSpec : ChangeSpec := { name := "entryBack", fn := fun _ => fun
  | [d1, d2, d3] => { results := [.lit (.bool true)], args := [d1, d2, d3] }
  | _ => none }
def entryBackRow : OpenClaim := { program := "ytnccbebjligpdaa", sum := "9219d07631936a73e823b2eb58f8b55c4fa526ef814f0964e53b2e6bd8660d80", func := "drydock/drydocklaw10.EntryBack", spec := "entryBack", inPlace := ["internal/bytealg.IndexByteString", "internal/bytealg.IndexString"], unfollowed := true, recurses := true, named := ["internal/bytealg.MaxLen"], apart := false }
def EntryBackSaid : Prop := entryBackRow.holds Try.pinned (OpenSpec.ofChange entryBackSpec)

/-- ITS FALSE NEIGHBOUR: 'it returns false'. Refute it at one input. -/
def entryBackWrong : ChangeSpec := { name := "entryBack", fn := fun _ => fun
  | [d1, d2, d3] => { results := [.lit (.bool false)], args := [d1, d2, d3] }
  | _ => none }
def EntryBackWrongFalsely : Prop := entryBackRow.holds Try.pinned (OpenSpec.ofChange entryBackWrong)

/-- 'drydocklaw10.EntryMany': WHATEVER THE INPUT: true; the input reads as it did. -/
def entryManySpec : ChangeSpec := { name := "entryMany", fn := fun _ => fun
  | [d1, d2] => { results := [.lit (.bool true)], args := [d1, d2] }
  | _ => none }
def entryManyRow : OpenClaim := { program := "ytnccbebjligpdaa", sum := "9219d07631936a73e823b2eb58f8b55c4fa526ef814f0964e53b2e6bd8660d80", func := "drydock/drydocklaw10.EntryMany", spec := "entryMany", inPlace := ["internal/bytealg.IndexByteString", "internal/bytealg.IndexString"], unfollowed := true, recurses := true, named := ["internal/bytealg.MaxLen"], apart := false }
def EntryManySaid : Prop := entryManyRow.holds Try.pinned (OpenSpec.ofChange entryManySpec)

/-- ITS FALSE NEIGHBOUR: 'it returns false'. Refute it at one input. -/
def entryManyWrong : ChangeSpec := { name := "entryMany", fn := fun _ => fun
  | [d1, d2] => { results := [.lit (.bool false)], args := [d1, d2] }
  | _ => none }
def EntryManyWrongFalsely : Prop := entryManyRow.holds Try.pinned (OpenSpec.ofChange entryManyWrong)

/- THE SECOND FORM. 'bulk': how many values and letters a reading holds, each counted each time it is reached (what is shared counts as often as it is met; a slice's spare places count too). A statement '..UptoSaid' is the law's where the arguments, and the package variables that the reading takes, are together of bulk at most 1048576: NARROWER than '..Said'. Prove '..Said' where nothing that the law and all that it calls make is longer than what came in: it says more and counts as full. Else prove '..UptoSaid'. A law counts once. -/
mutual
def uptoBulk {H : Type} : DataW H → Nat
  | .lit (.string bytes) => bytes.length + 1
  | .lit _ => 1
  | .nil => 1
  | .ptr d => uptoBulk d + 1
  | .slice elems spare => uptoBulkAll elems + uptoBulkAll spare + 1
  | .agg parts => uptoBulkAll parts + 1
  | .iface _ d => uptoBulk d + 1
  | .map entries => uptoBulkEntries entries + 1
  | .held _ => 1
def uptoBulkAll {H : Type} : List (DataW H) → Nat
  | [] => 0
  | d :: r => uptoBulk d + uptoBulkAll r
def uptoBulkEntries {H : Type} : List (Lit × DataW H) → Nat
  | [] => 0
  | x :: r => uptoBulkEntry x + uptoBulkEntries r
def uptoBulkEntry {H : Type} : Lit × DataW H → Nat
  | (.string bytes, d) => bytes.length + uptoBulk d + 1
  | (_, d) => uptoBulk d + 1
 end
def uptoSmall : (H : Type) → List (DataW H) → Bool := fun _ ds => decide (uptoBulkAll ds ≤ 1048576)
def OpenSpec.upto (s : _root_.Go.ChangeSpec) : _root_.Go.OpenSpec := { _root_.Go.OpenSpec.ofChange s with cond := some uptoSmall }

/-- 'drydocklaw10.EntryEncodes', WHERE WHAT IT READS IS OF BULK AT MOST 1048576: true; the input reads as it did. -/
def entryEncodesUptoRow : OpenClaim := { program := "ytnccbebjligpdaa", sum := "9219d07631936a73e823b2eb58f8b55c4fa526ef814f0964e53b2e6bd8660d80", func := "drydock/drydocklaw10.EntryEncodes", spec := "entryEncodes", inPlace := ["internal/bytealg.IndexByteString", "internal/bytealg.IndexString"], unfollowed := true, recurses := true, named := ["internal/bytealg.MaxLen"], apart := false, narrowed := true }
def EntryEncodesUptoSaid : Prop := entryEncodesUptoRow.holds Try.pinned (OpenSpec.upto entryEncodesSpec)

/-- 'drydocklaw10.EntryDecodes', WHERE WHAT IT READS IS OF BULK AT MOST 1048576: true; the input reads as it did. -/
def entryDecodesUptoRow : OpenClaim := { program := "ytnccbebjligpdaa", sum := "9219d07631936a73e823b2eb58f8b55c4fa526ef814f0964e53b2e6bd8660d80", func := "drydock/drydocklaw10.EntryDecodes", spec := "entryDecodes", inPlace := ["internal/bytealg.IndexByteString", "internal/bytealg.IndexString"], unfollowed := true, recurses := true, named := ["internal/bytealg.MaxLen"], apart := false, narrowed := true }
def EntryDecodesUptoSaid : Prop := entryDecodesUptoRow.holds Try.pinned (OpenSpec.upto entryDecodesSpec)

/-- 'drydocklaw10.EntryNames', WHERE WHAT IT READS IS OF BULK AT MOST 1048576: true; the input reads as it did. -/
def entryNamesUptoRow : OpenClaim := { program := "ytnccbebjligpdaa", sum := "9219d07631936a73e823b2eb58f8b55c4fa526ef814f0964e53b2e6bd8660d80", func := "drydock/drydocklaw10.EntryNames", spec := "entryNames", inPlace := ["internal/bytealg.IndexByteString", "internal/bytealg.IndexString"], unfollowed := true, recurses := true, named := ["internal/bytealg.MaxLen"], apart := false, narrowed := true }
def EntryNamesUptoSaid : Prop := entryNamesUptoRow.holds Try.pinned (OpenSpec.upto entryNamesSpec)

/-- 'drydocklaw10.EntryFinds', WHERE WHAT IT READS IS OF BULK AT MOST 1048576: true; the input reads as it did. -/
def entryFindsUptoRow : OpenClaim := { program := "ytnccbebjligpdaa", sum := "9219d07631936a73e823b2eb58f8b55c4fa526ef814f0964e53b2e6bd8660d80", func := "drydock/drydocklaw10.EntryFinds", spec := "entryFinds", inPlace := ["internal/bytealg.IndexByteString", "internal/bytealg.IndexString"], unfollowed := true, recurses := true, named := ["internal/bytealg.MaxLen"], apart := false, narrowed := true }
def EntryFindsUptoSaid : Prop := entryFindsUptoRow.holds Try.pinned (OpenSpec.upto entryFindsSpec)

/-- 'drydocklaw10.EntryRound', WHERE WHAT IT READS IS OF BULK AT MOST 1048576: true; the input reads as it did. -/
def entryRoundUptoRow : OpenClaim := { program := "ytnccbebjligpdaa", sum := "9219d07631936a73e823b2eb58f8b55c4fa526ef814f0964e53b2e6bd8660d80", func := "drydock/drydocklaw10.EntryRound", spec := "entryRound", inPlace := ["internal/bytealg.IndexByteString", "internal/bytealg.IndexString"], unfollowed := true, recurses := true, named := ["internal/bytealg.MaxLen"], apart := false, narrowed := true }
def EntryRoundUptoSaid : Prop := entryRoundUptoRow.holds Try.pinned (OpenSpec.upto entryRoundSpec)

/-- 'drydocklaw10.EntryAdds', WHERE WHAT IT READS IS OF BULK AT MOST 1048576: true; the input reads as it did. -/
def entryAddsUptoRow : OpenClaim := { program := "ytnccbebjligpdaa", sum := "9219d07631936a73e823b2eb58f8b55c4fa526ef814f0964e53b2e6bd8660d80", func := "drydock/drydocklaw10.EntryAdds", spec := "entryAdds", inPlace := ["internal/bytealg.IndexByteString", "internal/bytealg.IndexString"], unfollowed := true, recurses := true, named := ["internal/bytealg.MaxLen"], apart := false, narrowed := true }
def EntryAddsUptoSaid : Prop := entryAddsUptoRow.holds Try.pinned (OpenSpec.upto entryAddsSpec)

/-- 'drydocklaw10.EntryRemoves', WHERE WHAT IT READS IS OF BULK AT MOST 1048576: true; the input reads as it did. -/
def entryRemovesUptoRow : OpenClaim := { program := "ytnccbebjligpdaa", sum := "9219d07631936a73e823b2eb58f8b55c4fa526ef814f0964e53b2e6bd8660d80", func := "drydock/drydocklaw10.EntryRemoves", spec := "entryRemoves", inPlace := ["internal/bytealg.IndexByteString", "internal/bytealg.IndexString"], unfollowed := true, recurses := true, named := ["internal/bytealg.MaxLen"], apart := false, narrowed := true }
def EntryRemovesUptoSaid : Prop := entryRemovesUptoRow.holds Try.pinned (OpenSpec.upto entryRemovesSpec)

/-- 'drydocklaw10.EntryBack', WHERE WHAT IT READS IS OF BULK AT MOST 1048576: true; the input reads as it did. -/
def entryBackUptoRow : OpenClaim := { program := "ytnccbebjligpdaa", sum := "9219d07631936a73e823b2eb58f8b55c4fa526ef814f0964e53b2e6bd8660d80", func := "drydock/drydocklaw10.EntryBack", spec := "entryBack", inPlace := ["internal/bytealg.IndexByteString", "internal/bytealg.IndexString"], unfollowed := true, recurses := true, named := ["internal/bytealg.MaxLen"], apart := false, narrowed := true }
def EntryBackUptoSaid : Prop := entryBackUptoRow.holds Try.pinned (OpenSpec.upto entryBackSpec)

/-- 'drydocklaw10.EntryMany', WHERE WHAT IT READS IS OF BULK AT MOST 1048576: true; the input reads as it did. -/
def entryManyUptoRow : OpenClaim := { program := "ytnccbebjligpdaa", sum := "9219d07631936a73e823b2eb58f8b55c4fa526ef814f0964e53b2e6bd8660d80", func := "drydock/drydocklaw10.EntryMany", spec := "entryMany", inPlace := ["internal/bytealg.IndexByteString", "internal/bytealg.IndexString"], unfollowed := true, recurses := true, named := ["internal/bytealg.MaxLen"], apart := false, narrowed := true }
def EntryManyUptoSaid : Prop := entryManyUptoRow.holds Try.pinned (OpenSpec.upto entryManySpec)

end Rows
end Go.Proofs.Ytnccbebjligpdaa
