/- Walks of package disk: bytes.Clone, a new disk, what a disk tells. -/
import Derived.Test.YtiengbimednonaaDisk
import Derived.Laws.NewBlocks
namespace Go.Proofs.Ytiengbimednonaa.Disk
open Go Go.RowKit Go.Proofs.YtiengbimednonaaW.PrintWords Go.Proofs.YtiengbimednonaaW.PrintLast Go.Proofs.YtiengbimednonaaW.PrintMore
attribute [local go_sem] max2_int min2_int max_two min_two
set_option linter.unusedVariables false
set_option linter.unusedSimpArgs false

theorem infob : (Try.prog.info? 5).map (fun i => (i.zero, i.size, i.bytes)) = some (some (.int .u8 0), 1, 1) := by kernel_rfl

/-- What bytes.Clone gives. -/
def cloneF (l : List Int) : Option (List Int) := if l.length < 140737488355328 then some l else none

theorem clone_calls (A0 : Option Addr) (c0 : Nat) (l0 : List Int) (r : List Int) (w : World) (hr0 : Kd.C B w A0 l0.length l0) (hc0 : l0.length ≤ c0) (h : cloneF l0 = some r) :
    Calls Try.prog 28 #[.slice A0 l0.length c0] w fun e w' => ∃ v0_ : Value, e = .returned (v0_) ∧ Kd.R B 5 w' w.heap.size (fun _ => True) v0_ r ∧ Below w.heap.size w w' := by
  unfold cloneF at h
  split at h
  · rename_i hlen
    obtain rfl := Option.some.inj h
    clear h
    cases A0 with
    | none =>
      have hl0 : l0 = [] := by
        rcases l0 with _ | ⟨x, xs⟩
        · rfl
        · obtain ⟨ad, h, _⟩ := hr0.2.2 (by simp)
          cases h
      subst hl0
      clear hr0 hlen
      have he : ∀ W : World, (binOp .eql 23 (.slice none 0 c0) (.slice none 0 0)).run Try.prog W = .ok (.bool true) W := fun W => Lib.run_eql_slice_nil W _ _ _ _ _ _ _ Try.underlying23
      go_enter Try.func28, Try.ntmps28
      go_wp2
      go_ret
      exact ⟨_, rfl, Kd.R_nil _ _ _ _ _, Below.refl _ _⟩
    | some ad =>
      have he : ∀ W : World, (binOp .eql 23 (.slice (some ad) l0.length c0) (.slice none 0 0)).run Try.prog W = .ok (.bool false) W := fun W => Lib.run_eql_slice_nil W _ _ _ _ _ _ _ Try.underlying23
      have HR0 := Aside0.mk hr0
      have HC0 := Aside0.mk hc0
      have HL := Aside0.mk hlen
      clear hr0 hc0 hlen
      go_enter Try.func28, Try.ntmps28
      go_wp2_with (first | ((with_reducible refine gate_dst (N := 5) rfl ?_); (try (refine gate_guard (by rfl) ?_; dsimp only)); refine Kd.R_lit B _ 5 ?hg (N := 5) ?hd (xs := ([] : List Int)) (inner := []) (ok := fun _ => True) (okp := fun _ => True) ?hr ?hp (fun _ hk => hk) trivial (Below.refl _ _) (Nat.le_refl _) (by simp) ?_; (case hd => rfl); (case hg => rfl); (case hr => first | (go_simp; done) | (go_simp; rfl)); (case hp => exact (Reps.none _ _)); intro v1 w1 ho1 hb1 hg1 hn1; clear hg1 hn1; have HO := Aside0.mk ho1; have HB := Aside0.mk hb1; clear ho1 hb1) | ((with_reducible refine gate_builtin (b := .append) (xs := #[.tmp 5, .tmp 6]) rfl ?_); (try (refine gate_guard (by rfl) ?_; dsimp only)); at_builtin; refine Kd.R_append_rows B (w0 := w) w.heap.size rfl (.tmp 5) (.tmp 6) 23 5 (.int .u8 0) 1 rfl Try.underlying23 infob rfl (by decide) (by omega) v1 [] l0 _ _ _ (fun _ => True) (fun _ => False) rfl rfl HO.out (Kd.C_below HR0.out HB.out) (fun _ _ h => h) (fun _ h => h.elim) (fun _ _ => trivial) HB.out (below_size HB.out) ?aL ?_; (case aL => have := HL.out; simp only [List.length_nil]; omega); intro v2 w2 ho hb hg hat; have HO2 := Aside0.mk ho; have HB2 := Aside0.mk hb; clear ho hb hg hat))
      go_ret
      exact ⟨_, rfl, HO2.out, HB2.out⟩
  · cases h

def zb : Array Value := (Array.replicate 64 (Value.int .u8 0)).push (.slice none 0 0)
theorem infoK : (Try.prog.info? 67).map (fun i => (i.zero, i.size, i.bytes)) = some (some (.agg zb), 65, 88) := by kernel_rfl
theorem infoA : (Try.prog.info? 64).map (fun i => (i.zero, i.size, i.bytes)) = some (some (.agg (Array.replicate 64 (.int .u8 0))), 64, 64) := by kernel_rfl
theorem zb_at (j : Nat) (hj : j < 65) : zb[j]! = if j < 64 then .int .u8 0 else .slice none 0 0 := by
  have hs : zb.size = 65 := rfl
  rw [getElem!_pos zb j (by omega)]
  unfold zb
  rw [Array.getElem_push]
  split
  · rename_i h
    have h' : j < 64 := by simpa using h
    rw [if_pos h', Array.getElem_replicate]
  · rename_i h
    have h' : ¬ j < 64 := by simpa using h
    rw [if_neg h']
theorem made_cell (n i j : Nat) (hi : i < n) (hj : j < 65) : (madeCells zb (n * 65))[i * 65 + j]? = some (if j < 64 then .int .u8 0 else .slice none 0 0) := by
  have hk : i * 65 + j < n * 65 := by omega
  have hs : zb.size = 65 := rfl
  rw [Array.getElem?_eq_getElem (by rw [size_madeCells]; exact hk)]
  unfold madeCells
  rw [Array.getElem_map, Array.getElem_range, hs, show (i * 65 + j) % 65 = j by omega, zb_at j hj]
def newS (n : Nat) : DS := ⟨false, -1, List.replicate n ⟨List.replicate 64 0, []⟩⟩
theorem newS_at {n i : Nat} {b : Blk} (h : (newS n).bs[i]? = some b) : i < n ∧ b = ⟨List.replicate 64 0, []⟩ := by
  have h1 : (List.replicate n (⟨List.replicate 64 0, []⟩ : Blk))[i]? = some b := h
  rw [List.getElem?_replicate] at h1
  split at h1
  · exact ⟨by assumption, (Option.some.inj h1).symm⟩
  · cases h1
theorem new_no (n : Int) (h : n < 1 ∨ 480 < n) (w : World) : Calls Try.prog 8 #[.int .i64 n] w fun e w' => e = .returned (.tuple #[.pointer none, .int .i64 1]) ∧ w = w' := by
  by_cases h1 : n < 1
  · have b1 : decide (n < 1) = true := decide_eq_true h1
    clear h
    go_enter Try.func8, Try.ntmps8
    go_wp2_with fail
    go_ret2
    exact ⟨rfl, rfl⟩
  · have h2 : 480 < n := by omega
    have b1 : decide (n < 1) = false := decide_eq_false h1
    have b2 : decide (480 < n) = true := decide_eq_true h2
    clear h
    go_enter Try.func8, Try.ntmps8
    go_wp2_with fail
    go_ret2
    exact ⟨rfl, rfl⟩
theorem new_ok (n : Nat) (h1 : 1 ≤ n) (h2 : n ≤ 480) (w : World) :
    Calls Try.prog 8 #[.int .i64 n] w fun e w' => ∃ g F, e = .returned (.tuple #[.pointer (some ⟨g, 0, none⟩), .int .i64 0]) ∧ DW w' F g (newS n) ∧ (∀ k, F k → w.heap.size ≤ k) ∧ Below w.heap.size w w' := by
  obtain ⟨i0, hi0, hz0, hs0, hb0⟩ := info_parts infoK
  have hmk : ∀ W : World, (Instr.makeSlice 60 (.int .i64 (n : Int)) (.int .i64 (n : Int))).run Try.prog W = .ok (.slice (some ⟨W.heap.size, 0, none⟩) n n) (W.alloc (.cells (madeCells zb (n * 65)) 67)) := fun W => by
    have hr := run_make (P := Try.prog) W 60 67 i0 (.agg zb) Try.underlying60 hi0 hz0 .i64 .i64 n n (by omega) (by omega) (by rw [hb0]; omega) (by omega)
    simp only [Int.toNat_natCast, hs0] at hr
    exact hr
  clear hi0 hz0 hs0 hb0
  have b1 : decide ((n : Int) < 1) = false := decide_eq_false (by omega)
  have b2 : decide (480 < (n : Int)) = false := decide_eq_false (by omega)
  go_enter Try.func8, Try.ntmps8
  go_wp2_with fail
  go_ret2
  have e1 : (w.alloc (.cells (madeCells zb (n * 65)) 67)).heap.size = w.heap.size + 1 := Array.size_push _
  refine ⟨_, fun k => k = w.heap.size ∨ k = w.heap.size + 1, rfl, ⟨w.heap.size, madeCells zb (n * 65), fun _ => .slice none 0 0, fun _ => 0, ⟨?_, ?_, ?_, ?_, ?_, ?_, ?_, ?_, ?_, ?_, ?_⟩⟩, ?_, ?_⟩
  · have h := heap_alloc_new (w.alloc (.cells (madeCells zb (n * 65)) 67)) (.cells #[.bool false, .int .i64 (-1), .slice (some ⟨w.heap.size, 0, none⟩) n n] 62)
    rw [e1] at h
    have hl : (newS n).bs.length = n := List.length_replicate
    rw [hl]
    exact h
  · exact blk_alloc (blk_new w _) _
  · show (madeCells zb (n * 65)).size = (List.replicate n _).length * 65
    rw [size_madeCells, List.length_replicate]
  · intro i b hi
    rw [(newS_at hi).2]; exact List.length_replicate
  · intro i b hi j x hj
    obtain ⟨hin, rfl⟩ := newS_at hi
    rw [List.getElem?_replicate] at hj
    split at hj
    · obtain rfl := Option.some.inj hj
      rw [made_cell n i j hin (by omega), if_pos (by assumption)]
    · cases hj
  · intro i hi
    have hin : i < n := by rwa [show (newS n).bs.length = n from List.length_replicate] at hi
    rw [made_cell n i 64 hin (by omega), if_neg (by omega)]
  · intro i b hi
    obtain ⟨hin, rfl⟩ := newS_at hi
    exact Kd.R_nil _ _ _ _ _
  · exact .inr rfl
  · exact .inl rfl
  · intro k hk
    have e2 := Array.size_push (xs := (w.alloc (.cells (madeCells zb (n * 65)) 67)).heap) (.cells #[.bool false, .int .i64 (-1), .slice (some ⟨w.heap.size, 0, none⟩) n n] 62)
    show k < (Array.push _ _).size
    rw [e2, e1]
    omega
  · rw [show (newS n).bs.length = n from List.length_replicate]; exact h2
  · rintro k (rfl | rfl) <;> omega
  · exact below_alloc (below_alloc (Below.refl _ _) _) _
section
variable {w : World} {F : Nat → Prop} {g gb : Nat} {C : Array Value} {v : Nat → Value} {f : Nat → Nat} {s : DS}
theorem blocks_calls (h : DWx w F g gb C v f s) : Calls Try.prog 21 #[.pointer (some ⟨g, 0, none⟩)] w fun e w' => e = .returned (.int .i64 s.bs.length) ∧ w = w' := by
  have c2 := h.cellg 2
  clear h
  go_enter Try.func21, Try.ntmps21
  go_wp2_with fail
  go_ret
  exact ⟨rfl, rfl⟩
theorem open_yes (h : DWx w F g gb C v f s) (i : Nat) (b : Blk) (hi : s.bs[i]? = some b) : Calls Try.prog 13 #[.pointer (some ⟨g, 0, none⟩), .int .i64 i] w fun e w' => e = .returned (.int .i64 b.opn.length) ∧ w = w' := by
  have c2 := h.cellg 2
  have hlen := h.len hi
  obtain ⟨A, c, hrow⟩ := h.row hi
  have cv : w.cell? ⟨gb, i * 65 + 64, none⟩ = some (.slice A b.opn.length c) := by rw [h.cell, h.hv i hlen, hrow]
  have n480 := h.n480
  obtain ⟨n, hn⟩ : ∃ n, n = s.bs.length := ⟨_, rfl⟩
  have HN := Aside0.mk hn
  rw [← hn] at c2 hlen n480
  clear h hi hrow hn
  have b1 : decide ((i : Int) < 0) = false := decide_eq_false (by omega)
  have b2 : decide ((n : Int) ≤ (i : Int)) = false := decide_eq_false (by omega)
  go_enter Try.func13, Try.ntmps13
  go_wp2_with fail
  go_ret
  exact ⟨rfl, rfl⟩
theorem open_no (h : DWx w F g gb C v f s) (i : Int) (hi : i < 0 ∨ (s.bs.length : Int) ≤ i) : Calls Try.prog 13 #[.pointer (some ⟨g, 0, none⟩), .int .i64 i] w fun e w' => e = .returned (.int .i64 0) ∧ w = w' := by
  have c2 := h.cellg 2
  have n480 := h.n480
  obtain ⟨n, hn⟩ : ∃ n, n = s.bs.length := ⟨_, rfl⟩
  rw [← hn] at c2 n480 hi
  clear h hn
  by_cases h1 : i < 0
  · have b1 : decide (i < 0) = true := decide_eq_true h1
    clear hi
    go_enter Try.func13, Try.ntmps13
    go_wp2_with fail
    go_ret
    exact ⟨rfl, rfl⟩
  · have h2 : (n : Int) ≤ i := by omega
    have b1 : decide (i < 0) = false := decide_eq_false h1
    have b2 : decide ((n : Int) ≤ i) = true := decide_eq_true h2
    clear hi
    go_enter Try.func13, Try.ntmps13
    go_wp2_with fail
    go_ret
    exact ⟨rfl, rfl⟩
end
end Go.Proofs.Ytiengbimednonaa.Disk
