/-
  No cell of these rows narrows 'for every input' (looked for: loops, veiled, ifaces, maps, wideKeys, modest, calm, conditions, laid).
  DERIVED. THE GIVEN ROWS OF THIS SEAT. 3 by the template 'for every input the law returns true; each argument reads behind the call as it read before'; 0 by the template 'total and deterministic' (their statements: YtcihfmehbmficaaTotals.lean).
  GIVEN WITH THE SEED: the statements are not yours to turn. If you find one false, say at which input.
  Laid BY PROGRAM, IN A SANDBOX (cutbox-rows.mjs): the forced cells as the released guide's own fill.sh prints them over the translation baad104f6bbe3e9a… (all of the seat's roots in one cut). By AI agents, Wed Nov 11 2026. No macro, syntax, notation, axiom, sorry.
-/
import Derived.Test.YtcihfmehbmficaaChecked
import GoSem.Claim
import GoSem.ClaimJoined
import GoSem.ClaimMapViews
import Derived.JoinedTies
import Derived.KernelRfl
namespace Go.Proofs.Ytcihfmehbmficaa
/- THE CELL 'sum', in the pinned program and in every row, IS THE sha256 OF THE DUMP (.gsa) THAT YtcihfmehbmficaaProg.lean LOADS. Nothing in Lean hashes anything: it is a label: what it is worth is what the hold of that sum in a sandbox is worth. -/
noncomputable def Try.pinned : Pinned := { name := "ytcihfmehbmficaa", sum := "baad104f6bbe3e9af014083d8c3cc6cda193c370f6c6acc9c0b667b28f0bce4d", checked := Try.checked }
namespace Rows
def none {H : Type} : Left H := { results := [], args := [] }

/-- 'drydocklaw16.JournalLasts': WHATEVER THE INPUT: true; the input reads as it did. -/
def journalLastsSpec : ChangeSpec := { name := "journalLasts", fn := fun _ => fun
  | [d1, d2] => { results := [.lit (.bool true)], args := [d1, d2] }
  | _ => none }
def journalLastsRow : OpenClaim := { program := "ytcihfmehbmficaa", sum := "baad104f6bbe3e9af014083d8c3cc6cda193c370f6c6acc9c0b667b28f0bce4d", func := "drydock/drydocklaw16.JournalLasts", spec := "journalLasts", unfollowed := true, recurses := true, apart := false }
def JournalLastsSaid : Prop := journalLastsRow.holds Try.pinned (OpenSpec.ofChange journalLastsSpec)

/-- ITS FALSE NEIGHBOUR: 'it returns false'. Refute it at one input. -/
def journalLastsWrong : ChangeSpec := { name := "journalLasts", fn := fun _ => fun
  | [d1, d2] => { results := [.lit (.bool false)], args := [d1, d2] }
  | _ => none }
def JournalLastsWrongFalsely : Prop := journalLastsRow.holds Try.pinned (OpenSpec.ofChange journalLastsWrong)

/-- 'drydocklaw16.JournalArgs': WHATEVER THE INPUT: true; the input reads as it did. -/
def journalArgsSpec : ChangeSpec := { name := "journalArgs", fn := fun _ => fun
  | [d1, d2, d3] => { results := [.lit (.bool true)], args := [d1, d2, d3] }
  | _ => none }
def journalArgsRow : OpenClaim := { program := "ytcihfmehbmficaa", sum := "baad104f6bbe3e9af014083d8c3cc6cda193c370f6c6acc9c0b667b28f0bce4d", func := "drydock/drydocklaw16.JournalArgs", spec := "journalArgs", unfollowed := true, recurses := true, apart := false }
def JournalArgsSaid : Prop := journalArgsRow.holds Try.pinned (OpenSpec.ofChange journalArgsSpec)

/-- ITS FALSE NEIGHBOUR: 'it returns false'. Refute it at one input. -/
def journalArgsWrong : ChangeSpec := { name := "journalArgs", fn := fun _ => fun
  | [d1, d2, d3] => { results := [.lit (.bool false)], args := [d1, d2, d3] }
  | _ => none }
def JournalArgsWrongFalsely : Prop := journalArgsRow.holds Try.pinned (OpenSpec.ofChange journalArgsWrong)

/-- 'drydocklaw16.JournalAgain': WHATEVER THE INPUT: true; the input reads as it did. -/
def journalAgainSpec : ChangeSpec := { name := "journalAgain", fn := fun _ => fun
  | [d1, d2] => { results := [.lit (.bool true)], args := [d1, d2] }
  | _ => none }
def journalAgainRow : OpenClaim := { program := "ytcihfmehbmficaa", sum := "baad104f6bbe3e9af014083d8c3cc6cda193c370f6c6acc9c0b667b28f0bce4d", func := "drydock/drydocklaw16.JournalAgain", spec := "journalAgain", unfollowed := true, recurses := true, apart := false }
def JournalAgainSaid : Prop := journalAgainRow.holds Try.pinned (OpenSpec.ofChange journalAgainSpec)

/-- ITS FALSE NEIGHBOUR: 'it returns false'. Refute it at one input. -/
def journalAgainWrong : ChangeSpec := { name := "journalAgain", fn := fun _ => fun
  | [d1, d2] => { results := [.lit (.bool false)], args := [d1, d2] }
  | _ => none }
def JournalAgainWrongFalsely : Prop := journalAgainRow.holds Try.pinned (OpenSpec.ofChange journalAgainWrong)

/- THE SECOND FORM. 'bulk': how many values and letters a reading holds, each counted each time it is reached (what is shared counts as often as it is met; a slice's spare places count too). A statement '..UptoSaid' is the law's where the arguments, and the package variables that the reading takes, are together of bulk at most 1048576: NARROWER than '..Said'. Prove '..Said' where nothing that the law and all that it calls make is longer than what came in: it says more and counts as full. Else prove '..UptoSaid'. A law counts once. -/
mutual
def uptoBulk {H : Type} : DataW H → Nat
  | .lit (.string bytes) => bytes.length + 1
  | .lit _ => 1
  | .nil => 1
  | .ptr d => uptoBulk d + 1
  | .slice elems spare => uptoBulkAll elems + uptoBulkAll spare + 1
  | .agg parts => uptoBulkAll parts + 1
  | .iface _ d => uptoBulk d + 1
  | .map entries => uptoBulkEntries entries + 1
  | .held _ => 1
def uptoBulkAll {H : Type} : List (DataW H) → Nat
  | [] => 0
  | d :: r => uptoBulk d + uptoBulkAll r
def uptoBulkEntries {H : Type} : List (Lit × DataW H) → Nat
  | [] => 0
  | x :: r => uptoBulkEntry x + uptoBulkEntries r
def uptoBulkEntry {H : Type} : Lit × DataW H → Nat
  | (.string bytes, d) => bytes.length + uptoBulk d + 1
  | (_, d) => uptoBulk d + 1
 end
def uptoSmall : (H : Type) → List (DataW H) → Bool := fun _ ds => decide (uptoBulkAll ds ≤ 1048576)
def OpenSpec.upto (s : _root_.Go.ChangeSpec) : _root_.Go.OpenSpec := { _root_.Go.OpenSpec.ofChange s with cond := some uptoSmall }

/-- 'drydocklaw16.JournalLasts', WHERE WHAT IT READS IS OF BULK AT MOST 1048576: true; the input reads as it did. -/
def journalLastsUptoRow : OpenClaim := { program := "ytcihfmehbmficaa", sum := "baad104f6bbe3e9af014083d8c3cc6cda193c370f6c6acc9c0b667b28f0bce4d", func := "drydock/drydocklaw16.JournalLasts", spec := "journalLasts", unfollowed := true, recurses := true, apart := false, narrowed := true }
def JournalLastsUptoSaid : Prop := journalLastsUptoRow.holds Try.pinned (OpenSpec.upto journalLastsSpec)

/-- 'drydocklaw16.JournalArgs', WHERE WHAT IT READS IS OF BULK AT MOST 1048576: true; the input reads as it did. -/
def journalArgsUptoRow : OpenClaim := { program := "ytcihfmehbmficaa", sum := "baad104f6bbe3e9af014083d8c3cc6cda193c370f6c6acc9c0b667b28f0bce4d", func := "drydock/drydocklaw16.JournalArgs", spec := "journalArgs", unfollowed := true, recurses := true, apart := false, narrowed := true }
def JournalArgsUptoSaid : Prop := journalArgsUptoRow.holds Try.pinned (OpenSpec.upto journalArgsSpec)

/-- 'drydocklaw16.JournalAgain', WHERE WHAT IT READS IS OF BULK AT MOST 1048576: true; the input reads as it did. -/
def journalAgainUptoRow : OpenClaim := { program := "ytcihfmehbmficaa", sum := "baad104f6bbe3e9af014083d8c3cc6cda193c370f6c6acc9c0b667b28f0bce4d", func := "drydock/drydocklaw16.JournalAgain", spec := "journalAgain", unfollowed := true, recurses := true, apart := false, narrowed := true }
def JournalAgainUptoSaid : Prop := journalAgainUptoRow.holds Try.pinned (OpenSpec.upto journalAgainSpec)

end Rows
end Go.Proofs.Ytcihfmehbmficaa
