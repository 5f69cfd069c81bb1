/- The library's search for one byte in a string, and what stands on it. -/
import Derived.Test.YtnccbebjligpdaaProg
import Derived.Test.YtnccbebjligpdaaWWords
import Derived.WalkKit
import Derived.KernelRfl
import Derived.Lib.Walk
import Derived.Lib.Strings
import Derived.Lib.Slices
import Derived.Lib.Bytealg
import Derived.Lib.IndexEntry
import Derived.Lib.IndexLaws
import Derived.Lib.IndexBytes
import Derived.BigCall
import Derived.BigGuard
import Derived.Deep.Draws
import Derived.Laws.Strings3
namespace Go.Proofs.Ytnccbebjligpdaa.Index
open Go Go.RowKit Go.Lib Go.Proofs.YtnccbebjligpdaaW.PrintWords
set_option linter.unusedVariables false

theorem indexByte_calls (s : ByteArray) (c : Int) (w : World) :
    Calls Try.prog 64 #[.string s, .int .u8 c] w fun e w' => e = .returned (.int .i64 (Lib.indexByte s.data.toList c.toNat.toUInt8)) ∧ w' = w := by
  go_enter Try.func64, Try.ntmps64
  go_wp2
  rw [run_callFunc_extern Try.func69 (by kernel_rfl) (by kernel_rfl) (by kernel_rfl) (e := Extern.BytealgIndexByte.indexByte) (by kernel_rfl), Lib.run_indexByteString]
  simp only [Result.andThen]
  rw [Oper.upon_value]
  go_wp2
  go_ret
  exact ⟨rfl, rfl⟩
set_option maxHeartbeats 2000000 in
set_option maxRecDepth 100000 in
theorem index_one (s : ByteArray) (c : UInt8) (w : World) :
    Calls Try.prog 60 #[.string s, .string ⟨#[c]⟩] w fun e w' => e = .returned (.int .i64 (Lib.indexByte s.data.toList c)) ∧ w' = w := by
  go_enter Try.func60, Try.ntmps60
  go_wp2_with fail
  · have h : ([c] == s.toList) = true := by assumption
    go_ret
    refine ⟨?_, rfl⟩
    have e : s.data.toList = [c] := by rw [← Lib.toList_data]; exact (beq_iff_eq.1 h).symm
    rw [e]
    simp [Lib.indexByte]
  · ((with_reducible refine (indexByte_calls _ _ _).mono ?_); rintro e w' ⟨rfl, rfl⟩)
    go_wp2
    go_ret
    exact ⟨rfl, rfl⟩
/-- The library's Index at a text of one byte; elsewhere it is not asked. -/
def indexF (s t : ByteArray) : Option Int := if t.size = 1 then some (Lib.indexByte s.data.toList (t.data.getD 0 0)) else none
theorem index_calls (s t : ByteArray) (r : Int) (w : World) (h : indexF s t = some r) :
    Calls Try.prog 60 #[.string s, .string t] w fun e w' => e = .returned (.int .i64 r) ∧ Drawn0 w w' := by
  unfold indexF at h
  split at h
  · rename_i h1
    obtain ⟨⟨l⟩⟩ := t
    match l, h1 with
    | [c], _ =>
      cases h
      refine (index_one s c w).mono ?_
      rintro e w' ⟨rfl, rfl⟩
      exact ⟨rfl, .refl _⟩
  · cases h
end Go.Proofs.Ytnccbebjligpdaa.Index
