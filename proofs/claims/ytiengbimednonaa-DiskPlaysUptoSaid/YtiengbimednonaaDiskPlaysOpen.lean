/- For all worlds: the calls that the law's input names, opened. Conditions: the types are the program's. -/
import Derived.Test.YtiengbimednonaaOpen
import Derived.Test.YtiengbimednonaaDiskPlays
namespace Go.Proofs.Ytiengbimednonaa.Disk
open Go Go.RowKit Go.Proofs.Ytiengbimednonaa.Open Go.Proofs.YtiengbimednonaaW.PrintWords Go.Proofs.YtiengbimednonaaW.PrintLast Go.Proofs.YtiengbimednonaaW.PrintMore
set_option linter.unusedVariables false
section
variable {H : Type} {enc : TypeId × Value → H} {w : World} {base : Nat} {spare : Nat → Bool} {held : Bool}
instance : Inhabited Wr := ⟨zW⟩
instance : Inhabited Ac := ⟨zAc⟩
theorem opnI : Opn enc Try.prog w base spare held 3 (Kd.int .i64) (fun z => (Lit.int .i64 z).wf = true) (fun _ => 1) := Opn.int Try.underlying3 (by kernel_rfl)
theorem opnB : Opn enc Try.prog w base spare held 5 B (fun z => (Lit.int .u8 z).wf = true) (fun _ => 1) := Opn.int Try.underlying5 (by kernel_rfl)
theorem opnW : Opn enc Try.prog w base spare held 34 kW (fun _ => True) (fun _ => 1) :=
  Opn.mono (Opn.iso (fun x : Wr => (x.tgt, x.data)) (fun p => ⟨p.1, p.2⟩) (fun _ => rfl) (Opn.two Try.underlying34 (by kernel_rfl) rfl rfl opnI (Opn.slice Try.underlying23 (by kernel_rfl) opnB))) (fun _ _ => trivial) (fun _ => Nat.le_add_right _ _)
theorem sum_one {α : Type} : ∀ (l : List α), (l.map (fun _ => 1)).sum = l.length
  | [] => rfl
  | x :: l => by rw [List.map_cons, List.sum_cons, sum_one l, List.length_cons]; omega
theorem opnAc : Opn enc Try.prog w base spare held 46 kAc (fun x => x.n ≤ 9223372036854775807) (fun x => x.list.length) :=
  Opn.mono (Opn.iso (fun x : Ac => (x.what, x.n, x.list, x.keep)) (fun p => ⟨p.1, p.2.1, p.2.2.1, p.2.2.2⟩) (fun _ => rfl)
    (Opn.four Try.underlying46 (by kernel_rfl) rfl rfl rfl rfl opnI opnI (Opn.slice Try.underlying40 (by kernel_rfl) opnW) (Opn.slice Try.underlying24 (by kernel_rfl) opnI)))
    (fun x hx => by
      have h := hx.2.1
      simp [Lit.wf, IntKind.min, IntKind.max, IntKind.signed, IntKind.bits] at h
      omega)
    (fun x => by
      show x.list.length ≤ 1 + (1 + (((x.list.map (fun _ => 1)).sum + 1) + _))
      rw [sum_one]
      omega)
end
theorem rest_le {l : List Ac} {n : Nat} (h : (l.map (fun x => x.list.length)).sum ≤ n) : rest l 0 ≤ n := by
  unfold rest; rw [List.drop_zero]; exact h
/-- The walk, as the law's row asks it. -/
theorem plays_row (a0 : Int) (A1 : Option Addr) (c1 : Nat) (l1 : List Ac) (w : World) (hC : Kd.C kAc w A1 l1.length l1) (_ : l1.length ≤ c1) (hwf : ∀ x ∈ l1, x.n ≤ 9223372036854775807) (hsum : rest l1 0 ≤ 1048576) :
    Calls Try.prog 5 #[.int .i64 a0, .slice A1 l1.length c1] w fun e w' => e = .returned (.bool true) ∧ Below w.heap.size w w' := plays_calls a0 A1 c1 l1 w hC hsum hwf
end Go.Proofs.Ytiengbimednonaa.Disk
