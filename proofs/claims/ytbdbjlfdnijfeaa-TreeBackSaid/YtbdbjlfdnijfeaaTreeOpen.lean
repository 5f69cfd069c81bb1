/- For all worlds: a row of writes among the arguments, opened; its size. Conditions: the types are the program's. -/
import Derived.Test.YtbdbjlfdnijfeaaOpen
import Derived.Test.YtbdbjlfdnijfeaaTreeBack
import Derived.SizedLaws
import Derived.Test.YtbdbjlfdnijfeaaWSized
namespace Go.Proofs.Ytbdbjlfdnijfeaa.Tree
open Go Go.RowKit Go.ChangeShapes Go.WideShapes Go.Deep Go.Proofs.Ytbdbjlfdnijfeaa.Open Go.Proofs.YtbdbjlfdnijfeaaW.PrintWords Go.Proofs.YtbdbjlfdnijfeaaW.PrintLast Go.Proofs.YtbdbjlfdnijfeaaW.PrintMore
set_option linter.unusedVariables false
section
variable {H : Type} {enc : TypeId × Value → H} {w : World} {base : Nat} {spare : Nat → Bool} {held : Bool}
instance : Inhabited Wr := ⟨zW⟩
theorem opnI : Opn enc Try.prog w base spare held 3 (Kd.int .i64) (fun z => (Lit.int .i64 z).wf = true) (fun _ => 1) := Opn.int Try.underlying3 (by kernel_rfl)
theorem opnB : Opn enc Try.prog w base spare held 5 (Kd.int .u8) (fun z => (Lit.int .u8 z).wf = true) (fun _ => 1) := Opn.int Try.underlying5 (by kernel_rfl)
theorem opnW : Opn enc Try.prog w base spare held 59 kW (fun x => Spin.Bytes x.data) (fun _ => 1) :=
  Opn.mono (Opn.iso (fun x : Wr => (x.tgt, x.data)) (fun p => ⟨p.1, p.2⟩) (fun _ => rfl) (Opn.two Try.underlying59 (by kernel_rfl) rfl rfl opnI (Opn.slice Try.underlying56 (by kernel_rfl) opnB)))
    (fun x hx y hy => by
      have h := hx.2 y hy
      simp [Lit.wf, IntKind.min, IntKind.max, IntKind.signed, IntKind.bits] at h
      omega) (fun _ => Nat.le_add_right _ _)
theorem sized_rows {P : Program} {t e : TypeId} {a : Option Addr} {len cap : Nat} {d : DataW H} {ps : List MemPlace} {ts : List TypeId} {ds : List (DataW H)} {j : Nat}
    (hsz : (DataW.weightsEach P ts ds).all (· ≤ reachBytes) = true) (ht : ts[j]? = some t) (hd : ds[j]? = some d) (hu : P.underlying t = some (.slice e)) {B : Nat} (hB : P.bytesOf e = B)
    (h : DataW.Trod enc P w base spare held t (.slice a len cap) d ps) : len * B ≤ 140737488351232 := by
  obtain ⟨fuel, hf⟩ := h
  rcases open_slice hu hf with ⟨hcs, _⟩ | ⟨a', len', cap', m, n, D, Pl, hcs, _, _, _, hmm, hx, _⟩
  · simp [Value.cells] at hcs
    obtain ⟨rfl, rfl, rfl⟩ := hcs
    simp
  · simp [Value.cells] at hcs
    obtain ⟨rfl, rfl, rfl⟩ := hcs
    obtain ⟨hx, _⟩ := Prod.mk.inj hx
    subst hx
    have z := sized_slice hsz ht hd hu
    rw [hB] at z
    refine Nat.le_trans (Nat.mul_le_mul_right _ ?_) z
    simp
end
end Go.Proofs.Ytbdbjlfdnijfeaa.Tree
