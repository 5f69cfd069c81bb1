/- The shelf's strings.Join, laid at this program: each body compared by the kernel. -/
import Derived.Test.YtjicnmelmflfbaaProg
import Derived.Test.YtjicnmelmflfbaaWWords
import Derived.Shelf.Strings.OnBuilder
import Derived.Test.YtjicnmelmflfbaaIndexFunc
import Derived.KernelRfl
namespace Go.Proofs.Ytjicnmelmflfbaa.JoinLaid
open Go Go.Proofs Go.Shelf Go.RowKit Go.Proofs.YtjicnmelmflfbaaW.PrintWords
set_option linter.unusedVariables false
def ren : Ren := ⟨fun n => if n = 156 then 23 else if n = 165 then 29 else if n = 166 then 30 else if n = 169 then 31 else if n = 240 then 34 else if n = 241 then 35 else if n = 276 then 40 else if n = 277 then 41 else 0, fun n => if n = 0 then 0 else if n = 3 then 3 else if n = 4 then 4 else if n = 9 then 9 else if n = 20 then 20 else if n = 31 then 22 else if n = 37 then 37 else if n = 70 then 44 else if n = 72 then 46 else if n = 75 then 49 else if n = 76 then 50 else if n = 127 then 54 else if n = 164 then 58 else if n = 5 then 5 else if n = 80 then 52 else 0, fun n => n⟩
set_option maxHeartbeats 4000000 in
theorem lays : Lays.n156 Try.prog ren where
  mixed := by kernel_rfl
  f156 := by kernel_rfl
  f165 := by kernel_rfl
  f166 := by kernel_rfl
  f169 := by kernel_rfl
  f240 := by kernel_rfl
  f241 := by kernel_rfl
  f276 := by kernel_rfl
  f277 := by kernel_rfl
  t0 := Try.underlying0
  a0 := Try.isAgg0
  z0 := Try.sizeOf0
  v0 := Try.zeroValue0
  t3 := Try.underlying3
  a3 := Try.isAgg3
  z3 := Try.sizeOf3
  v3 := Try.zeroValue3
  t4 := Try.underlying4
  a4 := Try.isAgg4
  z4 := Try.sizeOf4
  v4 := Try.zeroValue4
  t9 := Try.underlying9
  a9 := Try.isAgg9
  z9 := Try.sizeOf9
  v9 := Try.zeroValue9
  t20 := Try.underlying20
  a20 := Try.isAgg20
  z20 := Try.sizeOf20
  v20 := Try.zeroValue20
  t31 := Try.underlying22
  a31 := Try.isAgg22
  z31 := Try.sizeOf22
  v31 := Try.zeroValue22
  t37 := Try.underlying37
  a37 := Try.isAgg37
  z37 := Try.sizeOf37
  v37 := Try.zeroValue37
  t70 := Try.underlying44
  a70 := Try.isAgg44
  z70 := Try.sizeOf44
  v70 := Try.zeroValue44
  t72 := Try.underlying46
  a72 := Try.isAgg46
  z72 := Try.sizeOf46
  v72 := Try.zeroValue46
  t75 := Try.underlying49
  a75 := Try.isAgg49
  z75 := Try.sizeOf49
  v75 := Try.zeroValue49
  t76 := Try.underlying50
  a76 := Try.isAgg50
  z76 := Try.sizeOf50
  v76 := Try.zeroValue50
  t127 := Try.underlying54
  a127 := Try.isAgg54
  z127 := Try.sizeOf54
  v127 := Try.zeroValue54
  t164 := Try.underlying58
  a164 := Try.isAgg58
  z164 := Try.sizeOf58
  v164 := Try.zeroValue58
theorem extra : Builder.Extra Try.prog ren where
  sizeBuilder := by kernel_rfl
  liesBuilder := by kernel_rfl
  t5 := Try.underlying5
  a5 := Try.isAgg5
  z5 := Try.sizeOf5
  v5 := Try.zeroValue5
  infoByte := by kernel_rfl
  cellsByte := by kernel_rfl
  sizeByte := by kernel_rfl
  neB5 := by decide
/-- What strings.Join gives where all its texts together are not long. -/
def joinF (xs : List ByteArray) (sep : ByteArray) : Option ByteArray := if xs.length ≤ 1024 ∧ (Lib.join (xs.map (·.data.toList)) sep.data.toList).length ≤ 1048576 then some ⟨(Lib.join (xs.map (·.data.toList)) sep.data.toList).toArray⟩ else none
theorem join_calls (A0 : Option Addr) (c0 : Nat) (l0 : List ByteArray) (a1 : ByteArray) (r : ByteArray) (w : World) (hr0 : Kd.C Kd.string w A0 l0.length l0) (hc0 : l0.length ≤ c0) (h : joinF l0 a1 = some r) :
    Calls Try.prog 23 #[.slice A0 l0.length c0, .string a1] w fun e w' => e = .returned (.string r) ∧ Below w.heap.size w w' := by
  unfold joinF at h
  split at h
  · rename_i hb
    cases h
    by_cases h0 : l0.length = 0
    · obtain rfl : l0 = [] := List.length_eq_zero_iff.1 h0
      refine (Any.strings_Join_none lays extra A0 c0 a1 w).mono ?_
      rintro e w' ⟨rfl, rfl⟩
      exact ⟨rfl, Below.refl _ _⟩
    · obtain ⟨b, o, rfl, hc, hbk⟩ := IdxFn.row_cells (Kd.reads_of_C (d := ByteArray.empty) hr0) (by omega)
      have hcells : ∀ (j : Nat) x, l0[j]? = some x → w.cell? ⟨b, o + j, none⟩ = some (.string x) := by
        intro j x hj
        have hl : j < l0.length := (List.getElem?_eq_some_iff.1 hj).1
        rw [hc j hl, List.getD_eq_getElem?_getD, hj]
        rfl
      exact Any.strings_Join lays extra b o c0 l0 a1 w hcells hbk (by omega) hc0 (by omega)
  · cases h
end Go.Proofs.Ytjicnmelmflfbaa.JoinLaid
