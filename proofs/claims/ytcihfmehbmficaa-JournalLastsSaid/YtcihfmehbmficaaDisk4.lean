/- Walks of package disk: a disk in memory, and what each of its functions makes of it. -/
import Derived.Test.YtcihfmehbmficaaProg
import Derived.Test.YtcihfmehbmficaaWWords
import Derived.Test.YtcihfmehbmficaaWLast
import Derived.Test.YtcihfmehbmficaaWMore
import Derived.Test.YtcihfmehbmficaaWArr
import Derived.Test.YtcihfmehbmficaaWTab
import Derived.WalkKit
import Derived.KernelRfl
import Derived.Laws.Cover3
import Derived.WalkSpells
import Derived.Deep.QuietTactic
import Derived.BigQuiet
import Derived.Deep.LoopGhost
import Derived.Deep.MidRow
import Derived.OrdersHeld
import Derived.Laws.MakeOwn
import Derived.Outline
import Derived.OwnWalk
import Derived.Laws.NewBlocks
namespace Go.Proofs.Ytcihfmehbmficaa.Disk
open Go Go.RowKit Go.Proofs.YtcihfmehbmficaaW.PrintWords Go.Proofs.YtcihfmehbmficaaW.PrintLast Go.Proofs.YtcihfmehbmficaaW.PrintMore
attribute [local go_sem] max2_int min2_int max_two min_two
set_option linter.unusedVariables false
set_option linter.unusedSimpArgs false

abbrev B : Kd Int := Kd.int .u8
/-- A block's bytes, as an array. -/
abbrev KA : Kd (List Int) := Kd.arr 64 B (by decide)
/-- A block: what lasts, the writes that are open. -/
structure Blk where
  last : List Int
  opn : List (List Int)
/-- A disk. -/
structure DS where
  off : Bool
  left : Int
  bs : List Blk
/-- A disk in memory: its struct at block g, its blocks at block gb; F: all blocks of memory that are its own. -/
structure DWx (w : World) (F : Nat → Prop) (g gb : Nat) (C : Array Value) (v : Nat → Value) (f : Nat → Nat) (s : DS) : Prop where
  hg : w.heap[g]? = some (.cells #[.bool s.off, .int .i64 s.left, .slice (some ⟨gb, 0, none⟩) s.bs.length s.bs.length] 70 (0, 0))
  hb : w.heap[gb]? = some (.cells C 74 (0, 0))
  hC : C.size = s.bs.length * 65
  h64 : ∀ (i : Nat) (b : Blk), s.bs[i]? = some b → b.last.length = 64
  hl : ∀ (i : Nat) (b : Blk), s.bs[i]? = some b → ∀ j x, b.last[j]? = some x → C[i * 65 + j]? = some (.int .u8 x)
  hv : ∀ i, i < s.bs.length → C[i * 65 + 64]? = some (v i)
  ho : ∀ (i : Nat) (b : Blk), s.bs[i]? = some b → KA.R 71 w 0 (fun k => F k ∧ f k = i) (v i) b.opn
  fg : F g
  fb : F gb
  lt : ∀ k, F k → k < w.heap.size
  n480 : s.bs.length ≤ 480
def DW (w : World) (F : Nat → Prop) (g : Nat) (s : DS) : Prop := ∃ gb C v f, DWx w F g gb C v f s
/-- What a call on a disk has turned: only the disk's own blocks; the blocks that are its own behind the call are its own or new. -/
structure Ch (w w' : World) (F F' : Nat → Prop) : Prop where
  os : w'.os = w.os
  tape : w'.tape = w.tape
  output : w'.output = w.output
  size : w.heap.size ≤ w'.heap.size
  far : ∀ k, k < w.heap.size → ¬ F k → w'.heap[k]? = w.heap[k]?
  new : ∀ k, F' k → F k ∨ w.heap.size ≤ k
theorem Ch.refl (w : World) (F : Nat → Prop) : Ch w w F F := ⟨rfl, rfl, rfl, Nat.le_refl _, fun _ _ _ => rfl, fun _ h => .inl h⟩
theorem Ch.trans {w w1 w2 : World} {F F1 F2 : Nat → Prop} (h : Ch w w1 F F1) (k : Ch w1 w2 F1 F2) : Ch w w2 F F2 :=
  ⟨k.os.trans h.os, k.tape.trans h.tape, k.output.trans h.output, Nat.le_trans h.size k.size,
   fun i hi hF => (k.far i (Nat.lt_of_lt_of_le hi h.size) (fun h1 => (h.new i h1).elim hF (fun h2 => by omega))).trans (h.far i hi hF),
   fun i hi => (k.new i hi).elim (fun h1 => h.new i h1) (fun h1 => .inr (Nat.le_trans h.size h1))⟩
theorem Ch.of_below {w w' : World} (F : Nat → Prop) (h : Below w.heap.size w w') : Ch w w' F F := ⟨h.os, h.tape, h.output, h.size, fun k hk _ => h.block k hk, fun _ h => .inl h⟩
theorem Ch.below {w w' : World} {F F' : Nat → Prop} {n : Nat} (h : Ch w w' F F') (hF : ∀ k, F k → n ≤ k) (hn : n ≤ w.heap.size) : Below n w w' :=
  ⟨h.os, h.tape, h.output, h.size, fun k hk => h.far k (Nat.lt_of_lt_of_le hk hn) (fun hf => by have := hF k hf; omega)⟩
theorem Ch.drewN {w w' : World} {F F' : Nat → Prop} (h : Ch w w' F F') (n : Nat) : Ch w (w'.drewN n) F F' := ⟨h.os, h.tape, h.output, h.size, h.far, h.new⟩
section
variable {w w1 : World} {F : Nat → Prop} {g gb : Nat} {C : Array Value} {v : Nat → Value} {f : Nat → Nat} {s : DS}
theorem DWx.kept (h : DWx w F g gb C v f s) (hk : ∀ k, F k → w1.heap[k]? = w.heap[k]?) (hs : w.heap.size ≤ w1.heap.size) : DWx w1 F g gb C v f s :=
  ⟨(hk g h.fg).trans h.hg, (hk gb h.fb).trans h.hb, h.hC, h.h64, h.hl, h.hv, fun i b hi => Kd.R_move (h.ho i b hi) (fun k hk' => hk k hk'.1), h.fg, h.fb, fun k hF => Nat.lt_of_lt_of_le (h.lt k hF) hs, h.n480⟩
theorem DWx.below (h : DWx w F g gb C v f s) (hb : Below w.heap.size w w1) : DWx w1 F g gb C v f s := h.kept (fun k hk => hb.block k (h.lt k hk)) hb.size
theorem DWx.ne (h : DWx w F g gb C v f s) : g ≠ gb := blk_ne h.hg h.hb (by decide)
theorem DWx.len {i : Nat} {b : Blk} (h : DWx w F g gb C v f s) (hi : s.bs[i]? = some b) : i < s.bs.length := (List.getElem?_eq_some_iff.1 hi).1
/-- The open writes' row. -/
theorem DWx.row {i : Nat} {b : Blk} (h : DWx w F g gb C v f s) (hi : s.bs[i]? = some b) : ∃ A c, v i = .slice A b.opn.length c := Kd.R_slice (h.ho i b hi)
theorem DWx.cell (h : DWx w F g gb C v f s) (k : Nat) : w.cell? ⟨gb, k, none⟩ = C[k]? := blk_cell h.hb k
theorem DWx.cellg (h : DWx w F g gb C v f s) (k : Nat) : w.cell? ⟨g, k, none⟩ = (#[.bool s.off, .int .i64 s.left, .slice (some ⟨gb, 0, none⟩) s.bs.length s.bs.length] : Array Value)[k]? := blk_cell h.hg k
/-- The disk's struct is written. -/
theorem DWx.power (h : DWx w F g gb C v f s) (hw : w.grownBy w1 (some g)) (off : Bool) (left : Int) (hg : w1.heap[g]? = some (.cells #[.bool off, .int .i64 left, .slice (some ⟨gb, 0, none⟩) s.bs.length s.bs.length] 70 (0, 0))) :
    DWx w1 F g gb C v f ⟨off, left, s.bs⟩ ∧ Ch w w1 F F := by
  have hne := h.ne
  have far : ∀ k, k < w.heap.size → k ≠ g → w1.heap[k]? = w.heap[k]? := fun k hk hn => hw.block k hk (fun e => hn (Option.some.inj e))
  refine ⟨⟨hg, (far gb (h.lt gb h.fb) (Ne.symm hne)).trans h.hb, h.hC, h.h64, h.hl, h.hv, fun i b hi => ?_, h.fg, h.fb, fun k hF => Nat.lt_of_lt_of_le (h.lt k hF) hw.size, h.n480⟩, ⟨hw.os, hw.tape, hw.output, hw.size, fun k hk hF => far k hk (fun e => hF (e ▸ h.fg)), fun _ hF => .inl hF⟩⟩
  exact Kd.R_mono (Kd.R_move (Kd.R_types (h.ho i b hi) h.hg (by decide)) (fun k hk => far k (h.lt k hk.1.1) hk.2)) (fun k hk => hk.1)
end

/-! ### power -/
def spendS (off : Bool) (left : Int) : Bool × Int × Int := if left = 0 then (true, 0, 8) else if 0 < left then (off, left - 1, 0) else (off, left, 0)
theorem spend_calls (g : Nat) (off : Bool) (left : Int) (c : Value) (hlo : left ≤ 9223372036854775807) (w : World) (hg : w.heap[g]? = some (.cells #[.bool off, .int .i64 left, c] 70 (0, 0))) :
    Calls Try.prog 31 #[.pointer (some ⟨g, 0, none⟩)] w fun e w' => e = .returned (.int .i64 (spendS off left).2.2) ∧ w.grownBy w' (some g) ∧ w'.heap[g]? = some (.cells #[.bool (spendS off left).1, .int .i64 (spendS off left).2.1, c] 70 (0, 0)) := by
  have c0 := blk_cell hg 0
  have c1 := blk_cell hg 1
  have f0 := blk_frozen hg 0
  have f1 := blk_frozen hg 1
  have HG := Aside0.mk hg
  clear hg
  unfold spendS
  by_cases h0 : left = 0
  · subst h0
    go_enter Try.func31, Try.ntmps31
    go_wp2_with fail
    go_ret
    exact ⟨rfl, ⟨rfl, rfl, rfl, by simp [World.setCell], fun k _ hn => heap_setCell_other _ _ _ _ (fun e => hn (by rw [e]))⟩, blk_set HG.out 0 _⟩
  · rw [if_neg h0]
    have h0b : (left == 0) = false := beq_eq_false_iff_ne.2 h0
    by_cases h1 : 0 < left
    · rw [if_pos h1]
      have h1b : decide (0 < left) = true := decide_eq_true h1
      go_enter Try.func31, Try.ntmps31
      go_wp2_with fail
      go_ret
      exact ⟨rfl, ⟨rfl, rfl, rfl, by simp [World.setCell], fun k _ hn => heap_setCell_other _ _ _ _ (fun e => hn (by rw [e]))⟩, blk_set HG.out 1 _⟩
    · rw [if_neg h1]
      have h1b : decide (0 < left) = false := decide_eq_false h1
      go_enter Try.func31, Try.ntmps31
      go_wp2_with fail
      go_ret
      exact ⟨rfl, World.grownBy.refl w _, HG.out⟩
theorem ready_nil (w : World) : Calls Try.prog 30 #[.pointer none] w fun e w' => e = .returned (.int .i64 1) ∧ w = w' := by
  go_enter Try.func30, Try.ntmps30
  go_wp2_with fail
  go_ret
  exact ⟨rfl, rfl⟩
theorem ready_calls (g : Nat) (off : Bool) (w : World) (hc : w.cell? ⟨g, 0, none⟩ = some (.bool off)) :
    Calls Try.prog 30 #[.pointer (some ⟨g, 0, none⟩)] w fun e w' => e = .returned (.int .i64 (if off = true then 8 else 0)) ∧ w = w' := by
  cases off
  all_goals
    go_enter Try.func30, Try.ntmps30
    go_wp2_with fail
    go_ret
    exact ⟨rfl, rfl⟩
theorem restart_nil (A : Option Addr) (n c : Nat) (w : World) : Calls Try.prog 9 #[.pointer none, .slice A n c] w fun e w' => e = .returned (.tuple #[]) ∧ w = w' := by
  go_enter Try.func9, Try.ntmps9
  go_wp2_with fail
  refine bodyPost_ret (results_none rfl _ _ _) rfl ?_
  exact ⟨rfl, rfl⟩
theorem get_nil (n : Int) (w : World) : Calls Try.prog 28 #[.pointer none, .int .i64 n] w fun e w' => e = .returned (.tuple #[.slice none 0 0, .int .i64 1]) ∧ w = w' := by
  go_enter Try.func28, Try.ntmps28
  go_wp2_with (go_at_call 30; refine (ready_nil _).mono ?_; rintro e w' ⟨rfl, rfl⟩)
  go_ret2
  exact ⟨rfl, rfl⟩
theorem put_nil (A : Option Addr) (n c : Nat) (w : World) : Calls Try.prog 16 #[.pointer none, .slice A n c] w fun e w' => e = .returned (.int .i64 1) ∧ w = w' := by
  go_enter Try.func16, Try.ntmps16
  go_wp2_with (go_at_call 30; refine (ready_nil _).mono ?_; rintro e w' ⟨rfl, rfl⟩)
  go_ret
  exact ⟨rfl, rfl⟩
theorem barrier_nil (w : World) : Calls Try.prog 19 #[.pointer none] w fun e w' => e = .returned (.int .i64 1) ∧ w = w' := by
  go_enter Try.func19, Try.ntmps19
  go_wp2_with (go_at_call 30; refine (ready_nil _).mono ?_; rintro e w' ⟨rfl, rfl⟩)
  refine wp_loop_rounds 1 ?_
  rw [rounds_succ]
  go_wp2_with fail
  go_ret
  exact ⟨rfl, rfl⟩
theorem blocks_nil (w : World) : Calls Try.prog 20 #[.pointer none] w fun e w' => e = .returned (.int .i64 0) ∧ w = w' := by
  go_enter Try.func20, Try.ntmps20
  go_wp2_with fail
  go_ret
  exact ⟨rfl, rfl⟩
theorem open_nil (n : Int) (w : World) : Calls Try.prog 17 #[.pointer none, .int .i64 n] w fun e w' => e = .returned (.int .i64 0) ∧ w = w' := by
  go_enter Try.func17, Try.ntmps17
  go_wp2_with fail
  go_ret
  exact ⟨rfl, rfl⟩
end Go.Proofs.Ytcihfmehbmficaa.Disk
/- Walks of package disk: bytes.Clone, a new disk, what a disk tells. -/
namespace Go.Proofs.Ytcihfmehbmficaa.Disk
open Go Go.RowKit Go.Proofs.YtcihfmehbmficaaW.PrintWords Go.Proofs.YtcihfmehbmficaaW.PrintLast Go.Proofs.YtcihfmehbmficaaW.PrintMore
attribute [local go_sem] max2_int min2_int max_two min_two
set_option linter.unusedVariables false
set_option linter.unusedSimpArgs false

theorem infob : (Try.prog.info? 5).map (fun i => (i.zero, i.size, i.bytes)) = some (some (.int .u8 0), 1, 1) := by kernel_rfl

/-- What bytes.Clone gives. -/
def cloneF (l : List Int) : Option (List Int) := if l.length < 140737488355328 then some l else none

theorem clone_calls (A0 : Option Addr) (c0 : Nat) (l0 : List Int) (r : List Int) (w : World) (hr0 : Kd.C B w A0 l0.length l0) (hc0 : l0.length ≤ c0) (h : cloneF l0 = some r) :
    Calls Try.prog 59 #[.slice A0 l0.length c0] w fun e w' => ∃ v0_ : Value, e = .returned (v0_) ∧ Kd.R B 5 w' w.heap.size (fun _ => True) v0_ r ∧ Below w.heap.size w w' := by
  unfold cloneF at h
  split at h
  · rename_i hlen
    obtain rfl := Option.some.inj h
    clear h
    cases A0 with
    | none =>
      have hl0 : l0 = [] := by
        rcases l0 with _ | ⟨x, xs⟩
        · rfl
        · obtain ⟨ad, h, _⟩ := hr0.2.2 (by simp)
          cases h
      subst hl0
      clear hr0 hlen
      have he : ∀ W : World, (binOp .eql 23 (.slice none 0 c0) (.slice none 0 0)).run Try.prog W = .ok (.bool true) W := fun W => Lib.run_eql_slice_nil W _ _ _ _ _ _ _ Try.underlying23
      go_enter Try.func59, Try.ntmps59
      go_wp2
      go_ret
      exact ⟨_, rfl, Kd.R_nil _ _ _ _ _, Below.refl _ _⟩
    | some ad =>
      have he : ∀ W : World, (binOp .eql 23 (.slice (some ad) l0.length c0) (.slice none 0 0)).run Try.prog W = .ok (.bool false) W := fun W => Lib.run_eql_slice_nil W _ _ _ _ _ _ _ Try.underlying23
      have HR0 := Aside0.mk hr0
      have HC0 := Aside0.mk hc0
      have HL := Aside0.mk hlen
      clear hr0 hc0 hlen
      go_enter Try.func59, Try.ntmps59
      go_wp2_with (first | ((with_reducible refine gate_dst (N := 5) rfl ?_); (try (refine gate_guard (by rfl) ?_; dsimp only)); refine Kd.R_lit B _ 5 ?hg (N := 5) ?hd (xs := ([] : List Int)) (inner := []) (ok := fun _ => True) (okp := fun _ => True) ?hr ?hp (fun _ hk => hk) trivial (Below.refl _ _) (Nat.le_refl _) (by simp) ?_; (case hd => rfl); (case hg => rfl); (case hr => first | (go_simp; done) | (go_simp; rfl)); (case hp => exact (Reps.none _ _)); intro v1 w1 ho1 hb1 hg1 hn1; clear hg1 hn1; have HO := Aside0.mk ho1; have HB := Aside0.mk hb1; clear ho1 hb1) | ((with_reducible refine gate_builtin (b := .append) (xs := #[.tmp 5, .tmp 6]) rfl ?_); (try (refine gate_guard (by rfl) ?_; dsimp only)); at_builtin; refine Kd.R_append_rows B (w0 := w) w.heap.size rfl (.tmp 5) (.tmp 6) 23 5 (.int .u8 0) 1 rfl Try.underlying23 infob rfl (by decide) (by omega) v1 [] l0 _ _ _ (fun _ => True) (fun _ => False) rfl rfl HO.out (Kd.C_below HR0.out HB.out) (fun _ _ h => h) (fun _ h => h.elim) (fun _ _ => trivial) HB.out (below_size HB.out) ?aL ?_; (case aL => have := HL.out; simp only [List.length_nil]; omega); intro v2 w2 ho hb hg hat; have HO2 := Aside0.mk ho; have HB2 := Aside0.mk hb; clear ho hb hg hat))
      go_ret
      exact ⟨_, rfl, HO2.out, HB2.out⟩
  · cases h

def zb : Array Value := (Array.replicate 64 (Value.int .u8 0)).push (.slice none 0 0)
theorem infoK : (Try.prog.info? 74).map (fun i => (i.zero, i.size, i.bytes)) = some (some (.agg zb), 65, 88) := by kernel_rfl
theorem infoA : (Try.prog.info? 71).map (fun i => (i.zero, i.size, i.bytes)) = some (some (.agg (Array.replicate 64 (.int .u8 0))), 64, 64) := by kernel_rfl
theorem zb_at (j : Nat) (hj : j < 65) : zb[j]! = if j < 64 then .int .u8 0 else .slice none 0 0 := by
  have hs : zb.size = 65 := rfl
  rw [getElem!_pos zb j (by omega)]
  unfold zb
  rw [Array.getElem_push]
  split
  · rename_i h
    have h' : j < 64 := by simpa using h
    rw [if_pos h', Array.getElem_replicate]
  · rename_i h
    have h' : ¬ j < 64 := by simpa using h
    rw [if_neg h']
theorem made_cell (n i j : Nat) (hi : i < n) (hj : j < 65) : (madeCells zb (n * 65))[i * 65 + j]? = some (if j < 64 then .int .u8 0 else .slice none 0 0) := by
  have hk : i * 65 + j < n * 65 := by omega
  have hs : zb.size = 65 := rfl
  rw [Array.getElem?_eq_getElem (by rw [size_madeCells]; exact hk)]
  unfold madeCells
  rw [Array.getElem_map, Array.getElem_range, hs, show (i * 65 + j) % 65 = j by omega, zb_at j hj]
def newS (n : Nat) : DS := ⟨false, -1, List.replicate n ⟨List.replicate 64 0, []⟩⟩
theorem newS_at {n i : Nat} {b : Blk} (h : (newS n).bs[i]? = some b) : i < n ∧ b = ⟨List.replicate 64 0, []⟩ := by
  have h1 : (List.replicate n (⟨List.replicate 64 0, []⟩ : Blk))[i]? = some b := h
  rw [List.getElem?_replicate] at h1
  split at h1
  · exact ⟨by assumption, (Option.some.inj h1).symm⟩
  · cases h1
theorem new_no (n : Int) (h : n < 1 ∨ 480 < n) (w : World) : Calls Try.prog 12 #[.int .i64 n] w fun e w' => e = .returned (.tuple #[.pointer none, .int .i64 1]) ∧ w = w' := by
  by_cases h1 : n < 1
  · have b1 : decide (n < 1) = true := decide_eq_true h1
    clear h
    go_enter Try.func12, Try.ntmps12
    go_wp2_with fail
    go_ret2
    exact ⟨rfl, rfl⟩
  · have h2 : 480 < n := by omega
    have b1 : decide (n < 1) = false := decide_eq_false h1
    have b2 : decide (480 < n) = true := decide_eq_true h2
    clear h
    go_enter Try.func12, Try.ntmps12
    go_wp2_with fail
    go_ret2
    exact ⟨rfl, rfl⟩
theorem new_ok (n : Nat) (h1 : 1 ≤ n) (h2 : n ≤ 480) (w : World) :
    Calls Try.prog 12 #[.int .i64 n] w fun e w' => ∃ g F, e = .returned (.tuple #[.pointer (some ⟨g, 0, none⟩), .int .i64 0]) ∧ DW w' F g (newS n) ∧ (∀ k, F k → w.heap.size ≤ k) ∧ Below w.heap.size w w' := by
  obtain ⟨i0, hi0, hz0, hs0, hb0⟩ := info_parts infoK
  have hmk : ∀ W : World, (Instr.makeSlice 68 (.int .i64 (n : Int)) (.int .i64 (n : Int))).run Try.prog W = .ok (.slice (some ⟨W.heap.size, 0, none⟩) n n) (W.alloc (.cells (madeCells zb (n * 65)) 74)) := fun W => by
    have hr := run_make (P := Try.prog) W 68 74 i0 (.agg zb) Try.underlying68 hi0 hz0 .i64 .i64 n n (by omega) (by omega) (by rw [hb0]; omega) (by omega)
    simp only [Int.toNat_natCast, hs0] at hr
    exact hr
  clear hi0 hz0 hs0 hb0
  have b1 : decide ((n : Int) < 1) = false := decide_eq_false (by omega)
  have b2 : decide (480 < (n : Int)) = false := decide_eq_false (by omega)
  go_enter Try.func12, Try.ntmps12
  go_wp2_with fail
  go_ret2
  have e1 : (w.alloc (.cells (madeCells zb (n * 65)) 74)).heap.size = w.heap.size + 1 := Array.size_push _
  refine ⟨_, fun k => k = w.heap.size ∨ k = w.heap.size + 1, rfl, ⟨w.heap.size, madeCells zb (n * 65), fun _ => .slice none 0 0, fun _ => 0, ⟨?_, ?_, ?_, ?_, ?_, ?_, ?_, ?_, ?_, ?_, ?_⟩⟩, ?_, ?_⟩
  · have h := heap_alloc_new (w.alloc (.cells (madeCells zb (n * 65)) 74)) (.cells #[.bool false, .int .i64 (-1), .slice (some ⟨w.heap.size, 0, none⟩) n n] 70)
    rw [e1] at h
    have hl : (newS n).bs.length = n := List.length_replicate
    rw [hl]
    exact h
  · exact blk_alloc (blk_new w _) _
  · show (madeCells zb (n * 65)).size = (List.replicate n _).length * 65
    rw [size_madeCells, List.length_replicate]
  · intro i b hi
    rw [(newS_at hi).2]; exact List.length_replicate
  · intro i b hi j x hj
    obtain ⟨hin, rfl⟩ := newS_at hi
    rw [List.getElem?_replicate] at hj
    split at hj
    · obtain rfl := Option.some.inj hj
      rw [made_cell n i j hin (by omega), if_pos (by assumption)]
    · cases hj
  · intro i hi
    have hin : i < n := by rwa [show (newS n).bs.length = n from List.length_replicate] at hi
    rw [made_cell n i 64 hin (by omega), if_neg (by omega)]
  · intro i b hi
    obtain ⟨hin, rfl⟩ := newS_at hi
    exact Kd.R_nil _ _ _ _ _
  · exact .inr rfl
  · exact .inl rfl
  · intro k hk
    have e2 := Array.size_push (xs := (w.alloc (.cells (madeCells zb (n * 65)) 74)).heap) (.cells #[.bool false, .int .i64 (-1), .slice (some ⟨w.heap.size, 0, none⟩) n n] 70)
    show k < (Array.push _ _).size
    rw [e2, e1]
    omega
  · rw [show (newS n).bs.length = n from List.length_replicate]; exact h2
  · rintro k (rfl | rfl) <;> omega
  · exact below_alloc (below_alloc (Below.refl _ _) _) _
section
variable {w : World} {F : Nat → Prop} {g gb : Nat} {C : Array Value} {v : Nat → Value} {f : Nat → Nat} {s : DS}
theorem blocks_calls (h : DWx w F g gb C v f s) : Calls Try.prog 20 #[.pointer (some ⟨g, 0, none⟩)] w fun e w' => e = .returned (.int .i64 s.bs.length) ∧ w = w' := by
  have c2 := h.cellg 2
  clear h
  go_enter Try.func20, Try.ntmps20
  go_wp2_with fail
  go_ret
  exact ⟨rfl, rfl⟩
theorem open_yes (h : DWx w F g gb C v f s) (i : Nat) (b : Blk) (hi : s.bs[i]? = some b) : Calls Try.prog 17 #[.pointer (some ⟨g, 0, none⟩), .int .i64 i] w fun e w' => e = .returned (.int .i64 b.opn.length) ∧ w = w' := by
  have c2 := h.cellg 2
  have hlen := h.len hi
  obtain ⟨A, c, hrow⟩ := h.row hi
  have cv : w.cell? ⟨gb, i * 65 + 64, none⟩ = some (.slice A b.opn.length c) := by rw [h.cell, h.hv i hlen, hrow]
  have n480 := h.n480
  obtain ⟨n, hn⟩ : ∃ n, n = s.bs.length := ⟨_, rfl⟩
  have HN := Aside0.mk hn
  rw [← hn] at c2 hlen n480
  clear h hi hrow hn
  have b1 : decide ((i : Int) < 0) = false := decide_eq_false (by omega)
  have b2 : decide ((n : Int) ≤ (i : Int)) = false := decide_eq_false (by omega)
  go_enter Try.func17, Try.ntmps17
  go_wp2_with fail
  go_ret
  exact ⟨rfl, rfl⟩
theorem open_no (h : DWx w F g gb C v f s) (i : Int) (hi : i < 0 ∨ (s.bs.length : Int) ≤ i) : Calls Try.prog 17 #[.pointer (some ⟨g, 0, none⟩), .int .i64 i] w fun e w' => e = .returned (.int .i64 0) ∧ w = w' := by
  have c2 := h.cellg 2
  have n480 := h.n480
  obtain ⟨n, hn⟩ : ∃ n, n = s.bs.length := ⟨_, rfl⟩
  rw [← hn] at c2 n480 hi
  clear h hn
  by_cases h1 : i < 0
  · have b1 : decide (i < 0) = true := decide_eq_true h1
    clear hi
    go_enter Try.func17, Try.ntmps17
    go_wp2_with fail
    go_ret
    exact ⟨rfl, rfl⟩
  · have h2 : (n : Int) ≤ i := by omega
    have b1 : decide (i < 0) = false := decide_eq_false h1
    have b2 : decide ((n : Int) ≤ i) = true := decide_eq_true h2
    clear hi
    go_enter Try.func17, Try.ntmps17
    go_wp2_with fail
    go_ret
    exact ⟨rfl, rfl⟩
end
end Go.Proofs.Ytcihfmehbmficaa.Disk
/- Walks of package disk: a block as it was put last; the first so many open writes last. -/
namespace Go.Proofs.Ytcihfmehbmficaa.Disk
open Go Go.RowKit Go.Proofs.YtcihfmehbmficaaW.PrintWords Go.Proofs.YtcihfmehbmficaaW.PrintLast Go.Proofs.YtcihfmehbmficaaW.PrintMore
attribute [local go_sem] max2_int min2_int max_two min_two
set_option linter.unusedVariables false
set_option linter.unusedSimpArgs false

def curB (b : Blk) : List Int := b.opn.getLastD b.last
def keepN (b : Blk) (n : Int) : Nat := (min n (b.opn.length : Int)).toNat
def keepB (b : Blk) (n : Int) : Blk := ⟨if keepN b n = 0 then b.last else b.opn.getD (keepN b n - 1) [], []⟩
theorem c_of_cells {w : World} {gb o : Nat} {l : List Int} (hl : l.length ≤ 9223372036854775807) (h : ∀ j x, l[j]? = some x → w.cell? ⟨gb, o + j, none⟩ = some (.int .u8 x)) : Kd.C B w (some ⟨gb, o, none⟩) l.length l := by
  refine Kd.C_of_reads (d := (0 : Int)) (h1 := fun _ => rfl) ⟨rfl, hl, fun _ => ⟨_, rfl, fun j hj => ?_⟩⟩
  rw [Addr.add_mid, h j _ (List.getElem?_eq_getElem hj), List.getD_eq_getElem?_getD, List.getElem?_eq_getElem hj]
  rfl
section
variable {w : World} {F : Nat → Prop} {g gb : Nat} {C : Array Value} {v : Nat → Value} {f : Nat → Nat} {s : DS}
theorem DWx.lastC (h : DWx w F g gb C v f s) {i : Nat} {b : Blk} (hi : s.bs[i]? = some b) : Kd.C B w (some ⟨gb, i * 65, none⟩) b.last.length b.last :=
  c_of_cells (by rw [h.h64 i b hi]; omega) (fun j x hj => by rw [h.cell]; exact h.hl i b hi j x hj)
/-- An open write's cells. -/
theorem DWx.opnC (h : DWx w F g gb C v f s) {i k : Nat} {b : Blk} {x : List Int} (hi : s.bs[i]? = some b) (hk : b.opn[k]? = some x) :
    ∃ gr c, v i = .slice (some ⟨gr, 0, none⟩) b.opn.length c ∧ x.length = 64 ∧ (∀ j y, x[j]? = some y → w.cell? ⟨gr, k * 64 + j, none⟩ = some (.int .u8 y)) ∧ gr ≠ gb ∧ gr ≠ g := by
  have hR := h.ho i b hi
  have hkl : k < b.opn.length := (List.getElem?_eq_some_iff.1 hk).1
  obtain ⟨gr, c, hv, _, _, cells, hh⟩ := Kd.R_form hR (by omega)
  have hne := Kd.R_ne hR h.hb (by decide)
  have hne2 := Kd.R_ne hR h.hg (by decide)
  rw [hv] at hR hne hne2
  obtain ⟨cs, _, hM, hc⟩ := Kd.R_get hR [] (k : Int) (by omega) (by omega)
  have hx : b.opn.getD ((k : Int)).toNat [] = x := by rw [Int.toNat_natCast, List.getD_eq_getElem?_getD, hk]; rfl
  rw [hx] at hM
  obtain ⟨hx64, hcs⟩ := Kd.arr_cells (KA.K_of_M hM)
  refine ⟨gr, c, hv, hx64, fun j y hj => ?_, fun e => hne (by rw [e]; rfl), fun e => hne2 (by rw [e]; rfl)⟩
  have h1 := hc j (.int .u8 y) (by rw [hcs]; simp [encs, hj])
  rw [Addr.add_mid, Int.toNat_natCast, show KA.sz = 64 from rfl, Nat.zero_add] at h1
  exact h1
theorem clone64 (A : Option Addr) (l : List Int) (n : Nat) (hn : l.length = n) (h64 : n = 64) (w : World) (hr : Kd.C B w A l.length l) :
    Calls Try.prog 59 #[.slice A 64 64] w fun e w' => ∃ v0_ : Value, e = .returned (v0_) ∧ Kd.R B 5 w' w.heap.size (fun _ => True) v0_ l ∧ Below w.heap.size w w' := by
  have h := clone_calls A 64 l l w hr (by omega) (by unfold cloneF; rw [if_pos (by omega)])
  rw [hn, h64] at h
  exact h
theorem now_calls (h : DWx w F g gb C v f s) {i : Nat} {b : Blk} (hi : s.bs[i]? = some b) : Calls Try.prog 44 #[.pointer (some ⟨gb, i * 65, none⟩)] w fun e w' => ∃ v0_ : Value, e = .returned (v0_) ∧ Kd.R B 5 w' w.heap.size (fun _ => True) v0_ (curB b) ∧ Below w.heap.size w w' := by
  have hlen := h.len hi
  have n480 := h.n480
  by_cases h0 : b.opn = []
  · have hcur : curB b = b.last := by unfold curB; rw [h0]; rfl
    obtain ⟨A, c, hrow⟩ := h.row hi
    have cv : w.cell? ⟨gb, i * 65 + 64, none⟩ = some (.slice A 0 c) := by rw [h.cell, h.hv i hlen, hrow, h0]; rfl
    have HC := Aside0.mk (clone64 _ b.last _ rfl (h.h64 i b hi) w (h.lastC hi))
    have HCUR := Aside0.mk hcur
    clear h hi hrow h0 hcur hlen n480
    go_enter Try.func44, Try.ntmps44
    go_wp2_with (go_at_call 59; (with_reducible refine HC.out.mono ?_); rintro e w1 ⟨v1, rfl, hR, hB⟩; have HR := Aside0.mk hR; have HB := Aside0.mk hB; clear hR hB)
    go_ret
    exact ⟨_, rfl, by rw [HCUR.out]; exact HR.out, HB.out⟩
  · obtain ⟨m, hm⟩ : ∃ m, b.opn.length = m + 1 := by
      cases hb : b.opn with
      | nil => exact absurd hb h0
      | cons x y => exact ⟨y.length, rfl⟩
    obtain ⟨x, hx⟩ : ∃ x, b.opn[m]? = some x := ⟨_, List.getElem?_eq_getElem (by omega)⟩
    have hcur : curB b = x := by
      unfold curB
      rw [List.getLastD_eq_getLast?, List.getLast?_eq_getElem?, hm]
      simp [hx]
    obtain ⟨gr, c, hv, hx64, hcells, _, _⟩ := h.opnC hi hx
    have cv : w.cell? ⟨gb, i * 65 + 64, none⟩ = some (.slice (some ⟨gr, 0, none⟩) (m + 1) c) := by rw [h.cell, h.hv i hlen, hv, hm]
    have HC := Aside0.mk (clone64 (some ⟨gr, m * 64, none⟩) x _ rfl hx64 w (c_of_cells (by omega) hcells))
    have HCUR := Aside0.mk hcur
    have hmm : Aside0 (m < 9223372036854775807) := by
      have := (Kd.R_reads' (A := some ⟨gr, 0, none⟩) (n := b.opn.length) (c := c) (hv ▸ h.ho i b hi)).2.2.2.1
      exact ⟨by omega⟩
    have hm1 := hmm.out
    have hb1 : decide (0 < ((m + 1 : Nat) : Int)) = true := decide_eq_true (by omega)
    clear h hi h0 hcur hlen n480 hx hv hx64 hcells hm hmm
    go_enter Try.func44, Try.ntmps44
    go_wp2_with (go_at_call 59; (with_reducible refine HC.out.mono ?_); rintro e w1 ⟨v1, rfl, hR, hB⟩; have HR := Aside0.mk hR; have HB := Aside0.mk hB; clear hR hB)
    go_ret
    exact ⟨_, rfl, by rw [HCUR.out]; exact HR.out, HB.out⟩
theorem get_off (h : DWx w F g gb C v f s) (ho : s.off = true) (i : Int) : Calls Try.prog 28 #[.pointer (some ⟨g, 0, none⟩), .int .i64 i] w fun e w' => e = .returned (.tuple #[.slice none 0 0, .int .i64 8]) ∧ w = w' := by
  have HC := Aside0.mk (ready_calls g true w (by rw [h.cellg, ho]; rfl))
  clear h ho
  go_enter Try.func28, Try.ntmps28
  go_wp2_with (go_at_call 30; (with_reducible refine HC.out.mono ?_); rintro e w' ⟨rfl, rfl⟩)
  go_ret2
  exact ⟨rfl, rfl⟩
theorem get_range (h : DWx w F g gb C v f s) (ho : s.off = false) (i : Int) (hi : i < 0 ∨ (s.bs.length : Int) ≤ i) : Calls Try.prog 28 #[.pointer (some ⟨g, 0, none⟩), .int .i64 i] w fun e w' => e = .returned (.tuple #[.slice none 0 0, .int .i64 7]) ∧ w = w' := by
  have HC := Aside0.mk (ready_calls g false w (by rw [h.cellg, ho]; rfl))
  have c2 := h.cellg 2
  have n480 := h.n480
  obtain ⟨n, hn⟩ : ∃ n, n = s.bs.length := ⟨_, rfl⟩
  rw [← hn] at c2 n480 hi
  clear h ho hn
  by_cases h1 : i < 0
  · have b1 : decide (i < 0) = true := decide_eq_true h1
    clear hi
    go_enter Try.func28, Try.ntmps28
    go_wp2_with (go_at_call 30; (with_reducible refine HC.out.mono ?_); rintro e w' ⟨rfl, rfl⟩)
    go_ret2
    exact ⟨rfl, rfl⟩
  · have h2 : (n : Int) ≤ i := by omega
    have b1 : decide (i < 0) = false := decide_eq_false h1
    have b2 : decide ((n : Int) ≤ i) = true := decide_eq_true h2
    clear hi
    go_enter Try.func28, Try.ntmps28
    go_wp2_with (go_at_call 30; (with_reducible refine HC.out.mono ?_); rintro e w' ⟨rfl, rfl⟩)
    go_ret2
    exact ⟨rfl, rfl⟩
theorem get_yes (h : DWx w F g gb C v f s) (ho : s.off = false) {i : Nat} {b : Blk} (hi : s.bs[i]? = some b) : Calls Try.prog 28 #[.pointer (some ⟨g, 0, none⟩), .int .i64 i] w fun e w' => ∃ v0_ : Value, e = .returned (.tuple #[v0_, .int .i64 0]) ∧ Kd.R B 5 w' w.heap.size (fun _ => True) v0_ (curB b) ∧ Below w.heap.size w w' := by
  have HC := Aside0.mk (ready_calls g false w (by rw [h.cellg, ho]; rfl))
  have HN := Aside0.mk (now_calls h hi)
  have c2 := h.cellg 2
  have hlen := h.len hi
  have n480 := h.n480
  obtain ⟨n, hn⟩ : ∃ n, n = s.bs.length := ⟨_, rfl⟩
  rw [← hn] at c2 n480 hlen
  clear h ho hn hi
  have b1 : decide ((i : Int) < 0) = false := decide_eq_false (by omega)
  have b2 : decide ((n : Int) ≤ (i : Int)) = false := decide_eq_false (by omega)
  go_enter Try.func28, Try.ntmps28
  go_wp2_with (first | (go_at_call 30; (with_reducible refine HC.out.mono ?_); rintro e w' ⟨rfl, rfl⟩) | (go_at_call 44; (with_reducible refine HN.out.mono ?_); rintro e w1 ⟨v1, rfl, hR, hB⟩; have HR := Aside0.mk hR; have HB := Aside0.mk hB; clear hR hB))
  go_ret2
  exact ⟨_, rfl, HR.out, HB.out⟩
/-- One block of a disk is another one. -/
theorem DWx.setB (h : DWx w F g gb C v f s) {i : Nat} (hi : i < s.bs.length) (b' : Blk) (v' : Value) (C2 : Array Value) (w2 : World) (F' : Nat → Prop) (f' : Nat → Nat)
    (hb2 : w2.heap[gb]? = some (.cells C2 74 (0, 0))) (hs : C2.size = C.size) (h64 : b'.last.length = 64)
    (hl : ∀ j x, b'.last[j]? = some x → C2[i * 65 + j]? = some (.int .u8 x)) (hv : C2[i * 65 + 64]? = some v')
    (hout : ∀ k, (k < i * 65 ∨ i * 65 + 65 ≤ k) → C2[k]? = C[k]?)
    (hR : KA.R 71 w2 0 (fun k => F' k ∧ f' k = i) v' b'.opn)
    (far : ∀ k, F k → k ≠ gb → (k = g ∨ f k ≠ i) → w2.heap[k]? = w.heap[k]?)
    (hF : ∀ k, F k → F' k ∧ f' k = f k) (hlt : ∀ k, F' k → k < w2.heap.size) :
    DWx w2 F' g gb C2 (fun k => if k = i then v' else v k) f' ⟨s.off, s.left, s.bs.set i b'⟩ := by
  have hne := h.ne
  refine ⟨?_, hb2, ?_, ?_, ?_, ?_, ?_, (hF g h.fg).1, (hF gb h.fb).1, hlt, ?_⟩
  · have h1 := (far g h.fg hne (.inl rfl)).trans h.hg
    rw [h1]
    show _ = some (Obj.cells #[_, _, .slice _ (s.bs.set i b').length (s.bs.set i b').length] _ _)
    rw [List.length_set]
  · show C2.size = (s.bs.set i b').length * 65
    rw [List.length_set, hs, h.hC]
  · intro j b hj
    have hj' : (s.bs.set i b')[j]? = some b := hj
    by_cases e : j = i
    · subst e
      rw [List.getElem?_set_self hi] at hj'
      obtain rfl := Option.some.inj hj'
      exact h64
    · rw [List.getElem?_set_ne (Ne.symm e)] at hj'
      exact h.h64 j b hj'
  · intro j b hj k x hk
    have hj' : (s.bs.set i b')[j]? = some b := hj
    by_cases e : j = i
    · subst e
      rw [List.getElem?_set_self hi] at hj'
      obtain rfl := Option.some.inj hj'
      exact hl k x hk
    · rw [List.getElem?_set_ne (Ne.symm e)] at hj'
      have hk64 : k < 64 := by rw [← h.h64 j b hj']; exact (List.getElem?_eq_some_iff.1 hk).1
      rw [hout (j * 65 + k) (by omega)]
      exact h.hl j b hj' k x hk
  · intro j hj
    have hj' : j < s.bs.length := by rw [show (⟨s.off, s.left, s.bs.set i b'⟩ : DS).bs.length = s.bs.length from List.length_set] at hj; exact hj
    by_cases e : j = i
    · subst e
      rw [if_pos rfl]; exact hv
    · rw [if_neg e, hout (j * 65 + 64) (by omega)]
      exact h.hv j hj'
  · intro j b hj
    have hj' : (s.bs.set i b')[j]? = some b := hj
    by_cases e : j = i
    · subst e
      rw [List.getElem?_set_self hi] at hj'
      obtain rfl := Option.some.inj hj'
      rw [if_pos rfl]
      exact hR
    · rw [List.getElem?_set_ne (Ne.symm e)] at hj'
      rw [if_neg e]
      refine Kd.R_mono (Kd.R_move (Kd.R_types (h.ho j b hj') h.hb (by decide)) (fun k hk => far k hk.1.1 hk.2 (.inr (by rw [hk.1.2]; exact e)))) (fun k hk => ⟨(hF k hk.1.1).1, ?_⟩)
      rw [(hF k hk.1.1).2]; exact hk.1.2
  · show (s.bs.set i b').length ≤ 480
    rw [List.length_set]; exact h.n480
end
/-- A whole array into the middle of a block that is known whole. -/
theorem wpList_store_at {P : Program} {ops : Array Oper} {rest : List Oper} {op : Oper} {a : Act} {w : World} {Q : Exit → Act → World → Prop} (hgd : op.guard = none) (ty : TypeId) (x y : Operand) (ho : op.op = .store ty x y)
    (gb o : Nat) (t0 : TypeId) (cur cells : Array Value) (hx : a.eval x = .pointer (some ⟨gb, o, none⟩)) (hy : a.eval y = .agg cells)
    (hg : w.heap[gb]? = some (.cells cur t0 (0, 0))) (hfit : o + cells.size ≤ cur.size) (hi : (P.info? ty).map (·.size) = some cells.size) (h1 : ∀ u ∈ cells.toList, u.oneCell' = true)
    (h : ∀ w1, w1.heap[gb]? = some (.cells (cur.toList.take o ++ cells.toList ++ cur.toList.drop (o + cells.size)).toArray t0 (0, 0)) → w.grownBy w1 (some gb) → wpList P ops Q rest (a.put op.dst undef) w1) : wpList P ops Q (op :: rest) a w := by
  refine wpList_plain hgd fun K hK => ?_
  have hst := run_storeCells_at P gb o t0 cells.toList 0 cur w hg (by simpa using hfit) h1
  have hrun : (storeVar ty ⟨gb, o, none⟩ (.agg cells)).run P w = .ok () (w.setRow gb (cur.toList.take o ++ cells.toList ++ cur.toList.drop (o + cells.size)).toArray) := by
    cases hq : P.info? ty with
    | none => simp [hq] at hi
    | some i =>
      have hs : cells.size = i.size := by simp [hq] at hi; omega
      simp only [Nat.add_zero, Array.length_toList] at hst
      simp [storeVar, sizeOf, typeInfo, hq, Value.cells, hs, hst]
  unfold Oper.wp execOp
  simp only [ho, hx, hy, Instr.storeAt, Instr.sureAddr, Sem.run_bind, Sem.run_pure, Result.andThen_ok, hrun]
  exact hK _ _ (h _ (setRow_heap _ _ _ _ _ _ hg) ⟨rfl, rfl, rfl, by simp, fun k _ hn => setRow_other _ _ _ _ (fun e => hn (by rw [e]))⟩)
end Go.Proofs.Ytcihfmehbmficaa.Disk
/- Walks of package disk: the first so many open writes of a block last. -/
namespace Go.Proofs.Ytcihfmehbmficaa.Disk
open Go Go.RowKit Go.Proofs.YtcihfmehbmficaaW.PrintWords Go.Proofs.YtcihfmehbmficaaW.PrintLast Go.Proofs.YtcihfmehbmficaaW.PrintMore
attribute [local go_sem] max2_int min2_int max_two min_two
set_option linter.unusedVariables false
set_option linter.unusedSimpArgs false

theorem if_min (m : Nat) (n : Int) : (if (m : Int) < n then (m : Int) else n) = min n (m : Int) := by
  by_cases h : (m : Int) < n
  · rw [if_pos h]; omega
  · rw [if_neg h]; omega
/-- The same blocks of memory, another disk in them. -/
structure Kpt (w w' : World) (F : Nat → Prop) (g gb : Nat) (f : Nat → Nat) (s : DS) : Prop where
  st : ∃ C v, DWx w' F g gb C v f s
  ch : Ch w w' F F
theorem seg_at (C seg : Array Value) (o k : Nat) (hfit : o + seg.size ≤ C.size) : ((C.toList.take o ++ seg.toList ++ C.toList.drop (o + seg.size)).toArray)[k]? = if k < o then C[k]? else if k < o + seg.size then seg[k - o]? else C[k]? := by
  have hl : (C.toList.take o).length = o := by rw [List.length_take, Array.length_toList]; omega
  rw [List.getElem?_toArray, List.append_assoc]
  by_cases h1 : k < o
  · rw [if_pos h1, List.getElem?_append_left (by omega), List.getElem?_take, if_pos h1, Array.getElem?_toList]
  · rw [if_neg h1, List.getElem?_append_right (by omega), hl]
    by_cases h2 : k < o + seg.size
    · rw [if_pos h2, List.getElem?_append_left (by rw [Array.length_toList]; omega), Array.getElem?_toList]
    · rw [if_neg h2, List.getElem?_append_right (by rw [Array.length_toList]; omega), Array.length_toList, List.getElem?_drop, Array.getElem?_toList, show o + seg.size + (k - o - seg.size) = k by omega]
theorem seg_size (C seg : Array Value) (o : Nat) (hfit : o + seg.size ≤ C.size) : ((C.toList.take o ++ seg.toList ++ C.toList.drop (o + seg.size)).toArray).size = C.size := by
  simp only [List.size_toArray, List.length_append, List.length_take, List.length_drop, Array.length_toList]; omega
section
variable {w : World} {F : Nat → Prop} {g gb : Nat} {C : Array Value} {v : Nat → Value} {f : Nat → Nat} {s : DS}
theorem keep_calls (h : DWx w F g gb C v f s) {i : Nat} {b : Blk} (hi : s.bs[i]? = some b) (n : Int) :
    Calls Try.prog 26 #[.pointer (some ⟨gb, i * 65, none⟩), .int .i64 n] w fun e w' => e = .returned (.tuple #[]) ∧ Kpt w w' F g gb f ⟨s.off, s.left, s.bs.set i (keepB b n)⟩ := by
  have hlen := h.len hi
  have n480 := h.n480
  have hsz : i * 65 + 65 ≤ C.size := by rw [h.hC]; omega
  obtain ⟨A, c, hrow⟩ := h.row hi
  obtain ⟨m, hm⟩ : ∃ m, b.opn.length = m := ⟨_, rfl⟩
  have cv : w.cell? ⟨gb, i * 65 + 64, none⟩ = some (.slice A m c) := by rw [h.cell, h.hv i hlen, hrow, hm]
  have fz := blk_frozen h.hb (i * 65 + 64)
  have hmm : m ≤ 9223372036854775807 := by
    have := (Kd.R_reads' (hrow ▸ h.ho i b hi)).2.2.2.1
    omega
  -- what the last store leaves
  have fin : ∀ (w1 : World) (C1 : Array Value) (b' : Blk), w1.heap[gb]? = some (.cells C1 74 (0, 0)) → w.grownBy w1 (some gb) → C1.size = C.size → b'.last.length = 64 → b'.opn = [] →
      (∀ j x, b'.last[j]? = some x → C1[i * 65 + j]? = some (.int .u8 x)) → (∀ k, (k < i * 65 ∨ i * 65 + 64 ≤ k) → C1[k]? = C[k]?) →
      Kpt w (w1.setCell ⟨gb, i * 65 + 64, none⟩ (.slice none 0 0)) F g gb f ⟨s.off, s.left, s.bs.set i b'⟩ := by
    intro w1 C1 b' hb1 hg1 hs1 h64 ho1 hl1 hout1
    have far : ∀ k, k < w.heap.size → k ≠ gb → (w1.setCell ⟨gb, i * 65 + 64, none⟩ (.slice none 0 0)).heap[k]? = w.heap[k]? := fun k hk hn => (heap_setCell_other _ _ _ _ hn).trans (hg1.block k hk (fun e => hn (Option.some.inj e)))
    have hsz2 : w.heap.size ≤ (w1.setCell ⟨gb, i * 65 + 64, none⟩ (.slice none 0 0)).heap.size := by simpa [World.setCell] using hg1.size
    refine ⟨⟨_, _, h.setB hlen b' (.slice none 0 0) (C1.setIfInBounds (i * 65 + 64) (.slice none 0 0)) _ F f (blk_set hb1 _ _) (by rw [Array.size_setIfInBounds, hs1]) h64 (fun j x hj => ?_) ?_ (fun k hk => ?_) (by rw [ho1]; exact Kd.R_nil _ _ _ _ _)
      (fun k hF hn _ => far k (h.lt k hF) hn) (fun k hF => ⟨hF, rfl⟩) (fun k hF => Nat.lt_of_lt_of_le (h.lt k hF) hsz2)⟩, ⟨hg1.os, hg1.tape, hg1.output, hsz2, fun k hk hF => far k hk (fun e => hF (e ▸ h.fb)), fun _ hF => .inl hF⟩⟩
    · have hj64 : j < 64 := by rw [← h64]; exact (List.getElem?_eq_some_iff.1 hj).1
      rw [Array.getElem?_setIfInBounds_ne (by omega)]
      exact hl1 j x hj
    · rw [Array.getElem?_setIfInBounds_self_of_lt (by omega)]
    · rw [Array.getElem?_setIfInBounds_ne (by omega)]
      exact hout1 k (by omega)
  have FIN := Aside0.mk fin
  have H := Aside0.mk h
  have HI := Aside0.mk hi
  have HM := Aside0.mk hm
  have HSZ := Aside0.mk hsz
  clear fin
  by_cases hq : keepN b n = 0
  · have hkb : keepB b n = ⟨b.last, []⟩ := by unfold keepB; rw [if_pos hq]
    have HKB := Aside0.mk hkb
    unfold keepN at hq
    rw [hm] at hq
    obtain ⟨q, hqq⟩ : ∃ q : Int, (if (m : Int) < n then (m : Int) else n) = q := ⟨_, rfl⟩
    have hq0 : ¬ 0 < q := by rw [← hqq, if_min]; omega
    have b1 : decide (0 < q) = false := decide_eq_false hq0
    clear h hi hrow hm hsz hq hkb hq0
    go_enter Try.func26, Try.ntmps26
    go_wp2_with fail
    go_end0
    refine ⟨rfl, ?_⟩
    rw [HKB.out]
    exact FIN.out w C ⟨b.last, []⟩ H.out.hb (World.grownBy.refl w _) rfl (H.out.h64 i b HI.out) rfl (H.out.hl i b HI.out) (fun _ _ => rfl)
  · obtain ⟨q, hqn⟩ : ∃ q, keepN b n = q + 1 := ⟨keepN b n - 1, by omega⟩
    have hqq : (if (m : Int) < n then (m : Int) else n) = ((q + 1 : Nat) : Int) := by rw [if_min]; unfold keepN at hqn; rw [hm] at hqn; omega
    have hqm : q + 1 ≤ m := by rw [if_min] at hqq; omega
    obtain ⟨x, hx⟩ : ∃ x, b.opn[q]? = some x := ⟨_, List.getElem?_eq_getElem (by omega)⟩
    have hkb : keepB b n = ⟨x, []⟩ := by
      unfold keepB
      rw [if_neg hq, hqn, Nat.add_sub_cancel, List.getD_eq_getElem?_getD, hx]; rfl
    obtain ⟨gr, c', hv', hx64, hcells, hne1, _⟩ := h.opnC hi hx
    rw [hrow] at hv'
    injection hv' with hA _ _
    subst hA
    have b1 : decide (0 < ((q + 1 : Nat) : Int)) = true := decide_eq_true (by omega)
    have hxs : ((x.map (Value.int .u8)).toArray).size = 64 := by simp [hx64]
    have hiA : (Try.prog.info? 71).map (·.size) = some 64 := by kernel_rfl
    have hld : w.rangeAt gr (q * 64) (x.map (Value.int .u8)) := fun j u hu => by
      rw [List.getElem?_map] at hu
      cases hj : x[j]? with
      | none => rw [hj] at hu; cases hu
      | some y => rw [hj] at hu; obtain rfl := Option.some.inj hu; exact hcells j y hj
    have HLD := Aside0.mk hld
    have HXS := Aside0.mk hxs
    have HX64 := Aside0.mk hx64
    have HKB := Aside0.mk hkb
    have HIA := Aside0.mk hiA
    clear h hi hrow hm hsz hq hkb hqn hx hcells hx64 hld hxs hiA
    go_enter Try.func26, Try.ntmps26
    go_wp2_with (first
      | (with_reducible refine wpList_load_mid rfl 71 (.tmp 20) rfl gr (q * 64) ?lx (x.map (Value.int .u8)) _ HLD.out Try.underlying71 rfl ?li ?_
         case lx => rfl
         case li => rw [HIA.out, List.length_map, HX64.out])
      | (with_reducible refine wpList_store_at rfl 71 (.tmp 23) (.tmp 21) rfl gb (i * 65) 74 C (x.map (Value.int .u8)).toArray ?sx ?sy H.out.hb ?sf ?si ?s1 ?_
         case sx => rfl
         case sy => rfl
         case sf => rw [HXS.out]; have := HSZ.out; omega
         case si => rw [HIA.out, HXS.out]
         case s1 => intro u hu; simp at hu; obtain ⟨y, _, rfl⟩ := hu; rfl
         intro w1 hb1 hg1
         have HB1 := Aside0.mk hb1
         have HG1 := Aside0.mk hg1
         have c64 : w1.cell? ⟨gb, i * 65 + 64, none⟩ = some (.slice (some ⟨gr, 0, none⟩) m c) := by
           rw [blk_cell hb1, seg_at _ _ _ _ (by rw [HXS.out]; have := HSZ.out; omega), HXS.out, if_neg (by omega), if_neg (by omega), ← blk_cell H.out.hb]
           exact cv
         have f64 := blk_frozen hb1 (i * 65 + 64)
         clear hb1 hg1))
    go_end0
    refine ⟨rfl, ?_⟩
    rw [HKB.out]
    have hf : i * 65 + (x.map (Value.int .u8)).toArray.size ≤ C.size := by rw [HXS.out]; have := HSZ.out; omega
    refine FIN.out w1 _ ⟨x, []⟩ HB1.out HG1.out (seg_size _ _ _ hf) HX64.out rfl (fun j y hj => ?_) (fun k hk => ?_)
    · have hj64 : j < 64 := by rw [← HX64.out]; exact (List.getElem?_eq_some_iff.1 hj).1
      rw [seg_at _ _ _ _ hf, if_neg (by omega), HXS.out, if_pos (by omega), show i * 65 + j - i * 65 = j by omega]
      simp [hj]
    · rw [seg_at _ _ _ _ hf, HXS.out]
      rcases hk with hk | hk
      · rw [if_pos hk]
      · rw [if_neg (by omega), if_neg (by omega)]
end
end Go.Proofs.Ytcihfmehbmficaa.Disk
