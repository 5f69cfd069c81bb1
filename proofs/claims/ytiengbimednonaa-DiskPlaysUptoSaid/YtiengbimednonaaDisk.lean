/- Walks of package disk: a disk in memory, and what each of its functions makes of it. -/
import Derived.Test.YtiengbimednonaaProg
import Derived.Test.YtiengbimednonaaWWords
import Derived.Test.YtiengbimednonaaWLast
import Derived.Test.YtiengbimednonaaWMore
import Derived.Test.YtiengbimednonaaWArr
import Derived.Test.YtiengbimednonaaWTab
import Derived.WalkKit
import Derived.KernelRfl
import Derived.Laws.Cover3
import Derived.WalkSpells
import Derived.Deep.QuietTactic
import Derived.BigQuiet
import Derived.Deep.LoopGhost
import Derived.Deep.MidRow
import Derived.OrdersHeld
import Derived.Laws.MakeOwn
import Derived.Outline
import Derived.OwnWalk
namespace Go.Proofs.Ytiengbimednonaa.Disk
open Go Go.RowKit Go.Proofs.YtiengbimednonaaW.PrintWords Go.Proofs.YtiengbimednonaaW.PrintLast Go.Proofs.YtiengbimednonaaW.PrintMore
attribute [local go_sem] max2_int min2_int max_two min_two
set_option linter.unusedVariables false
set_option linter.unusedSimpArgs false

abbrev B : Kd Int := Kd.int .u8
/-- A block's bytes, as an array. -/
abbrev KA : Kd (List Int) := Kd.arr 64 B (by decide)
/-- A block: what lasts, the writes that are open. -/
structure Blk where
  last : List Int
  opn : List (List Int)
/-- A disk. -/
structure DS where
  off : Bool
  left : Int
  bs : List Blk
/-- A disk in memory: its struct at block g, its blocks at block gb; F: all blocks of memory that are its own. -/
structure DWx (w : World) (F : Nat → Prop) (g gb : Nat) (C : Array Value) (v : Nat → Value) (f : Nat → Nat) (s : DS) : Prop where
  hg : w.heap[g]? = some (.cells #[.bool s.off, .int .i64 s.left, .slice (some ⟨gb, 0, none⟩) s.bs.length s.bs.length] 62 (0, 0))
  hb : w.heap[gb]? = some (.cells C 67 (0, 0))
  hC : C.size = s.bs.length * 65
  h64 : ∀ (i : Nat) (b : Blk), s.bs[i]? = some b → b.last.length = 64
  hl : ∀ (i : Nat) (b : Blk), s.bs[i]? = some b → ∀ j x, b.last[j]? = some x → C[i * 65 + j]? = some (.int .u8 x)
  hv : ∀ i, i < s.bs.length → C[i * 65 + 64]? = some (v i)
  ho : ∀ (i : Nat) (b : Blk), s.bs[i]? = some b → KA.R 64 w 0 (fun k => F k ∧ f k = i) (v i) b.opn
  fg : F g
  fb : F gb
  lt : ∀ k, F k → k < w.heap.size
  n480 : s.bs.length ≤ 480
def DW (w : World) (F : Nat → Prop) (g : Nat) (s : DS) : Prop := ∃ gb C v f, DWx w F g gb C v f s
/-- What a call on a disk has turned: only the disk's own blocks; the blocks that are its own behind the call are its own or new. -/
structure Ch (w w' : World) (F F' : Nat → Prop) : Prop where
  os : w'.os = w.os
  tape : w'.tape = w.tape
  output : w'.output = w.output
  size : w.heap.size ≤ w'.heap.size
  far : ∀ k, k < w.heap.size → ¬ F k → w'.heap[k]? = w.heap[k]?
  new : ∀ k, F' k → F k ∨ w.heap.size ≤ k
theorem Ch.refl (w : World) (F : Nat → Prop) : Ch w w F F := ⟨rfl, rfl, rfl, Nat.le_refl _, fun _ _ _ => rfl, fun _ h => .inl h⟩
theorem Ch.trans {w w1 w2 : World} {F F1 F2 : Nat → Prop} (h : Ch w w1 F F1) (k : Ch w1 w2 F1 F2) : Ch w w2 F F2 :=
  ⟨k.os.trans h.os, k.tape.trans h.tape, k.output.trans h.output, Nat.le_trans h.size k.size,
   fun i hi hF => (k.far i (Nat.lt_of_lt_of_le hi h.size) (fun h1 => (h.new i h1).elim hF (fun h2 => by omega))).trans (h.far i hi hF),
   fun i hi => (k.new i hi).elim (fun h1 => h.new i h1) (fun h1 => .inr (Nat.le_trans h.size h1))⟩
theorem Ch.of_below {w w' : World} (F : Nat → Prop) (h : Below w.heap.size w w') : Ch w w' F F := ⟨h.os, h.tape, h.output, h.size, fun k hk _ => h.block k hk, fun _ h => .inl h⟩
theorem Ch.below {w w' : World} {F F' : Nat → Prop} {n : Nat} (h : Ch w w' F F') (hF : ∀ k, F k → n ≤ k) (hn : n ≤ w.heap.size) : Below n w w' :=
  ⟨h.os, h.tape, h.output, h.size, fun k hk => h.far k (Nat.lt_of_lt_of_le hk hn) (fun hf => by have := hF k hf; omega)⟩
theorem Ch.drewN {w w' : World} {F F' : Nat → Prop} (h : Ch w w' F F') (n : Nat) : Ch w (w'.drewN n) F F' := ⟨h.os, h.tape, h.output, h.size, h.far, h.new⟩
section
variable {w w1 : World} {F : Nat → Prop} {g gb : Nat} {C : Array Value} {v : Nat → Value} {f : Nat → Nat} {s : DS}
theorem DWx.kept (h : DWx w F g gb C v f s) (hk : ∀ k, F k → w1.heap[k]? = w.heap[k]?) (hs : w.heap.size ≤ w1.heap.size) : DWx w1 F g gb C v f s :=
  ⟨(hk g h.fg).trans h.hg, (hk gb h.fb).trans h.hb, h.hC, h.h64, h.hl, h.hv, fun i b hi => Kd.R_move (h.ho i b hi) (fun k hk' => hk k hk'.1), h.fg, h.fb, fun k hF => Nat.lt_of_lt_of_le (h.lt k hF) hs, h.n480⟩
theorem DWx.below (h : DWx w F g gb C v f s) (hb : Below w.heap.size w w1) : DWx w1 F g gb C v f s := h.kept (fun k hk => hb.block k (h.lt k hk)) hb.size
theorem DWx.ne (h : DWx w F g gb C v f s) : g ≠ gb := blk_ne h.hg h.hb (by decide)
theorem DWx.len {i : Nat} {b : Blk} (h : DWx w F g gb C v f s) (hi : s.bs[i]? = some b) : i < s.bs.length := (List.getElem?_eq_some_iff.1 hi).1
/-- The open writes' row. -/
theorem DWx.row {i : Nat} {b : Blk} (h : DWx w F g gb C v f s) (hi : s.bs[i]? = some b) : ∃ A c, v i = .slice A b.opn.length c := Kd.R_slice (h.ho i b hi)
theorem DWx.cell (h : DWx w F g gb C v f s) (k : Nat) : w.cell? ⟨gb, k, none⟩ = C[k]? := blk_cell h.hb k
theorem DWx.cellg (h : DWx w F g gb C v f s) (k : Nat) : w.cell? ⟨g, k, none⟩ = (#[.bool s.off, .int .i64 s.left, .slice (some ⟨gb, 0, none⟩) s.bs.length s.bs.length] : Array Value)[k]? := blk_cell h.hg k
/-- The disk's struct is written. -/
theorem DWx.power (h : DWx w F g gb C v f s) (hw : w.grownBy w1 (some g)) (off : Bool) (left : Int) (hg : w1.heap[g]? = some (.cells #[.bool off, .int .i64 left, .slice (some ⟨gb, 0, none⟩) s.bs.length s.bs.length] 62 (0, 0))) :
    DWx w1 F g gb C v f ⟨off, left, s.bs⟩ ∧ Ch w w1 F F := by
  have hne := h.ne
  have far : ∀ k, k < w.heap.size → k ≠ g → w1.heap[k]? = w.heap[k]? := fun k hk hn => hw.block k hk (fun e => hn (Option.some.inj e))
  refine ⟨⟨hg, (far gb (h.lt gb h.fb) (Ne.symm hne)).trans h.hb, h.hC, h.h64, h.hl, h.hv, fun i b hi => ?_, h.fg, h.fb, fun k hF => Nat.lt_of_lt_of_le (h.lt k hF) hw.size, h.n480⟩, ⟨hw.os, hw.tape, hw.output, hw.size, fun k hk hF => far k hk (fun e => hF (e ▸ h.fg)), fun _ hF => .inl hF⟩⟩
  exact Kd.R_mono (Kd.R_move (Kd.R_types (h.ho i b hi) h.hg (by decide)) (fun k hk => far k (h.lt k hk.1.1) hk.2)) (fun k hk => hk.1)
end

/-! ### power -/
def spendS (off : Bool) (left : Int) : Bool × Int × Int := if left = 0 then (true, 0, 8) else if 0 < left then (off, left - 1, 0) else (off, left, 0)
theorem spend_calls (g : Nat) (off : Bool) (left : Int) (c : Value) (hlo : left ≤ 9223372036854775807) (w : World) (hg : w.heap[g]? = some (.cells #[.bool off, .int .i64 left, c] 62 (0, 0))) :
    Calls Try.prog 23 #[.pointer (some ⟨g, 0, none⟩)] w fun e w' => e = .returned (.int .i64 (spendS off left).2.2) ∧ w.grownBy w' (some g) ∧ w'.heap[g]? = some (.cells #[.bool (spendS off left).1, .int .i64 (spendS off left).2.1, c] 62 (0, 0)) := by
  have c0 := blk_cell hg 0
  have c1 := blk_cell hg 1
  have f0 := blk_frozen hg 0
  have f1 := blk_frozen hg 1
  have HG := Aside0.mk hg
  clear hg
  unfold spendS
  by_cases h0 : left = 0
  · subst h0
    go_enter Try.func23, Try.ntmps23
    go_wp2_with fail
    go_ret
    exact ⟨rfl, ⟨rfl, rfl, rfl, by simp [World.setCell], fun k _ hn => heap_setCell_other _ _ _ _ (fun e => hn (by rw [e]))⟩, blk_set HG.out 0 _⟩
  · rw [if_neg h0]
    have h0b : (left == 0) = false := beq_eq_false_iff_ne.2 h0
    by_cases h1 : 0 < left
    · rw [if_pos h1]
      have h1b : decide (0 < left) = true := decide_eq_true h1
      go_enter Try.func23, Try.ntmps23
      go_wp2_with fail
      go_ret
      exact ⟨rfl, ⟨rfl, rfl, rfl, by simp [World.setCell], fun k _ hn => heap_setCell_other _ _ _ _ (fun e => hn (by rw [e]))⟩, blk_set HG.out 1 _⟩
    · rw [if_neg h1]
      have h1b : decide (0 < left) = false := decide_eq_false h1
      go_enter Try.func23, Try.ntmps23
      go_wp2_with fail
      go_ret
      exact ⟨rfl, World.grownBy.refl w _, HG.out⟩
theorem ready_nil (w : World) : Calls Try.prog 22 #[.pointer none] w fun e w' => e = .returned (.int .i64 1) ∧ w = w' := by
  go_enter Try.func22, Try.ntmps22
  go_wp2_with fail
  go_ret
  exact ⟨rfl, rfl⟩
theorem ready_calls (g : Nat) (off : Bool) (w : World) (hc : w.cell? ⟨g, 0, none⟩ = some (.bool off)) :
    Calls Try.prog 22 #[.pointer (some ⟨g, 0, none⟩)] w fun e w' => e = .returned (.int .i64 (if off = true then 8 else 0)) ∧ w = w' := by
  cases off
  all_goals
    go_enter Try.func22, Try.ntmps22
    go_wp2_with fail
    go_ret
    exact ⟨rfl, rfl⟩
theorem fail_nil (n : Int) (w : World) : Calls Try.prog 19 #[.pointer none, .int .i64 n] w fun e w' => e = .returned (.tuple #[]) ∧ w = w' := by
  go_enter Try.func19, Try.ntmps19
  go_wp2_with fail
  go_end0
  exact ⟨rfl, rfl⟩
theorem restart_nil (A : Option Addr) (n c : Nat) (w : World) : Calls Try.prog 11 #[.pointer none, .slice A n c] w fun e w' => e = .returned (.tuple #[]) ∧ w = w' := by
  go_enter Try.func11, Try.ntmps11
  go_wp2_with fail
  refine bodyPost_ret (results_none rfl _ _ _) rfl ?_
  exact ⟨rfl, rfl⟩
theorem get_nil (n : Int) (w : World) : Calls Try.prog 12 #[.pointer none, .int .i64 n] w fun e w' => e = .returned (.tuple #[.slice none 0 0, .int .i64 1]) ∧ w = w' := by
  go_enter Try.func12, Try.ntmps12
  go_wp2_with (go_at_call 22; refine (ready_nil _).mono ?_; rintro e w' ⟨rfl, rfl⟩)
  go_ret2
  exact ⟨rfl, rfl⟩
theorem put_nil (A : Option Addr) (n c : Nat) (w : World) : Calls Try.prog 10 #[.pointer none, .slice A n c] w fun e w' => e = .returned (.int .i64 1) ∧ w = w' := by
  go_enter Try.func10, Try.ntmps10
  go_wp2_with (go_at_call 22; refine (ready_nil _).mono ?_; rintro e w' ⟨rfl, rfl⟩)
  go_ret
  exact ⟨rfl, rfl⟩
theorem barrier_nil (w : World) : Calls Try.prog 14 #[.pointer none] w fun e w' => e = .returned (.int .i64 1) ∧ w = w' := by
  go_enter Try.func14, Try.ntmps14
  go_wp2_with (go_at_call 22; refine (ready_nil _).mono ?_; rintro e w' ⟨rfl, rfl⟩)
  refine wp_loop_rounds 1 ?_
  rw [rounds_succ]
  go_wp2_with fail
  go_ret
  exact ⟨rfl, rfl⟩
theorem blocks_nil (w : World) : Calls Try.prog 21 #[.pointer none] w fun e w' => e = .returned (.int .i64 0) ∧ w = w' := by
  go_enter Try.func21, Try.ntmps21
  go_wp2_with fail
  go_ret
  exact ⟨rfl, rfl⟩
theorem open_nil (n : Int) (w : World) : Calls Try.prog 13 #[.pointer none, .int .i64 n] w fun e w' => e = .returned (.int .i64 0) ∧ w = w' := by
  go_enter Try.func13, Try.ntmps13
  go_wp2_with fail
  go_ret
  exact ⟨rfl, rfl⟩
end Go.Proofs.Ytiengbimednonaa.Disk
