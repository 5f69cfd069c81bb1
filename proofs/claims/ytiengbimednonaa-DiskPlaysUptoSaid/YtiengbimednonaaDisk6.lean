/- Walks of package disk: Put. -/
import Derived.Test.YtiengbimednonaaDisk5
namespace Go.Proofs.Ytiengbimednonaa.Disk
open Go Go.RowKit Go.Proofs.YtiengbimednonaaW.PrintWords Go.Proofs.YtiengbimednonaaW.PrintLast Go.Proofs.YtiengbimednonaaW.PrintMore
attribute [local go_sem] max2_int min2_int max_two min_two
set_option linter.unusedVariables false
set_option linter.unusedSimpArgs false

/-- A block that is to lie somewhere. -/
structure Wr where
  tgt : Int
  data : List Int
def zW : Wr := ⟨0, []⟩
def kW : Kd Wr := Kd.iso (Kd.pair (Kd.int .i64) (Kd.slice 5 B)) (fun x : Wr => (x.tgt, x.data))
theorem kW_open {w : World} {x : Wr} {cs : List Value} (h : kW.K w x cs) : ∃ A1 c1, cs = [.int .i64 x.tgt, .slice A1 x.data.length c1] ∧ x.data.length ≤ c1 ∧ B.C w A1 x.data.length x.data := by
  obtain ⟨_, _, rfl, rfl, ⟨A1, c1, rfl, l1, g1⟩⟩ := h
  exact ⟨A1, c1, rfl, l1, g1⟩
theorem at_W {w : World} {A : Option Addr} {n : Nat} {xs : List Wr} (h : Kd.C kW w A n xs) {i : Nat} {x : Wr} (hi : xs[i]? = some x) :
    ∃ ad A1 c1, A = some ad ∧ w.cell? (ad.add (i * 2)) = some (.int .i64 x.tgt) ∧ w.cell? ⟨(ad.add (i * 2)).block, (ad.add (i * 2)).off + 1, none⟩ = some (.slice A1 x.data.length c1) ∧ x.data.length ≤ c1 ∧ B.C w A1 x.data.length x.data := by
  have hl : i < n := by rw [← h.1]; exact (List.getElem?_eq_some_iff.1 hi).1
  obtain ⟨ad, c, e, _, hK, hc0⟩ := Kd.C_get h zW (i : Int) (by omega) (by omega)
  have hx : xs.getD ((i : Int)).toNat zW = x := by rw [Int.toNat_natCast, List.getD_eq_getElem?_getD, hi]; rfl
  rw [hx] at hK
  have hc : ∀ j u, c[j]? = some u → w.cell? (ad.add (i * 2 + j)) = some u := hc0
  obtain ⟨A1, c1, rfl, l1, g1⟩ := kW_open hK
  exact ⟨ad, A1, c1, e, hc 0 _ rfl, by rw [← add_field _ _ 1 (by omega)]; exact hc 1 _ rfl, l1, g1⟩
theorem C_far0 {k : IntKind} {w w1 : World} {A : Option Addr} {n : Nat} {xs : List Int} (h : (Kd.int k).C w A n xs) (hA : 0 < n → ∀ ad, A = some ad → w1.heap[ad.block]? = w.heap[ad.block]?) : (Kd.int k).C w1 A n xs := by
  by_cases h0 : 0 < n
  · exact C_far h (hA h0)
  · exact ⟨h.1, h.2.1, fun hn => absurd hn h0⟩
/-- Blocks to be written, read out of memory; none of what they lie in is the disk's. -/
def RW (w : World) (F : Nat → Prop) (A : Option Addr) (ws : List Wr) : Prop := ∀ (i : Nat) (x : Wr), ws[i]? = some x → ∃ ad A1 c1, A = some ad ∧ ad.block < w.heap.size ∧ ¬ F ad.block ∧
  w.cell? (ad.add (i * 2)) = some (.int .i64 x.tgt) ∧ w.cell? ⟨(ad.add (i * 2)).block, (ad.add (i * 2)).off + 1, none⟩ = some (.slice A1 x.data.length c1) ∧ x.data.length ≤ c1 ∧ B.C w A1 x.data.length x.data ∧ (0 < x.data.length → ∀ ad1, A1 = some ad1 → ad1.block < w.heap.size ∧ ¬ F ad1.block)
theorem RW.ch {w w1 : World} {F F1 : Nat → Prop} {A : Option Addr} {ws : List Wr} (h : RW w F A ws) (hc : Ch w w1 F F1) : RW w1 F1 A ws := fun i x hi => by
  obtain ⟨ad, A1, c1, e, hb, hF, ca, cd, hl, hC, hA⟩ := h i x hi
  have far : ∀ k, k < w.heap.size → ¬ F k → w1.heap[k]? = w.heap[k]? ∧ k < w1.heap.size ∧ ¬ F1 k := fun k hk hn => ⟨hc.far k hk hn, Nat.lt_of_lt_of_le hk hc.size, fun h1 => (hc.new k h1).elim hn (fun h2 => by omega)⟩
  obtain ⟨f1, f2, f3⟩ := far _ hb hF
  refine ⟨ad, A1, c1, e, f2, f3, ?_, ?_, hl, C_far0 hC (fun h0 ad1 e1 => (far _ (hA h0 ad1 e1).1 (hA h0 ad1 e1).2).1), fun h0 ad1 e1 => (far _ (hA h0 ad1 e1).1 (hA h0 ad1 e1).2).2⟩
  · rw [← ca]; exact World.cell?_of_block (by rw [add_block]; exact f1)
  · rw [← cd]; exact World.cell?_of_block (by show w1.heap[(ad.add (i * 2)).block]? = w.heap[(ad.add (i * 2)).block]?; rw [add_block]; exact f1)
def push (x : List Int) (b : Blk) : Blk := ⟨b.last, b.opn ++ [x]⟩
def putRun : Bool → Int → List Blk → List Wr → DS × Int
  | off, left, bs, [] => (⟨off, left, bs⟩, 0)
  | off, left, bs, x :: xs => if left = 0 then (⟨true, 0, bs⟩, 8) else putRun off (spendS off left).2.1 (bs.modify x.tgt.toNat (push x.data)) xs
def badLen (ws : List Wr) : Bool := ws.any (fun x => x.data.length != 64)
def badTo (n : Nat) (ws : List Wr) : Bool := ws.any (fun x => decide (x.tgt < 0) || decide ((n : Int) ≤ x.tgt))
def putF (s : DS) (ws : List Wr) : DS × Int := if s.off = true then (s, 8) else if badLen ws = true then (s, 1) else if badTo s.bs.length ws = true then (s, 7) else putRun s.off s.left s.bs ws
def PutP (w w' : World) (F : Nat → Prop) (g : Nat) (s : DS) : Prop := ∃ F', DW w' F' g s ∧ Ch w w' F F'
theorem load_arr {w : World} {ad : Addr} {l : List Int} {n : Nat} (hn : n = 64) (h : Kd.C B w (some ad) n l) : (Instr.loadAt 64 (.pointer (some ad))).run Try.prog w = .ok (.agg (nums .u8 l).toArray) w := by
  subst hn
  have hl64 : l.length = 64 := h.1
  have hl : (loadCells ad 64).run Try.prog w = .ok (nums .u8 l).toArray w := by
    have h1 := run_loadCells_list (P := Try.prog) w ad (nums .u8 l) (fun j u hu => by
      unfold nums at hu
      rw [List.getElem?_map] at hu
      cases hj : l[j]? with
      | none => rw [hj] at hu; cases hu
      | some y =>
        rw [hj] at hu
        obtain rfl := Option.some.inj hu
        have hj64 : j < 64 := by rw [← hl64]; exact (List.getElem?_eq_some_iff.1 hj).1
        obtain ⟨ad', e, hx⟩ := Kd.at_int h (j : Int) (by omega) (by omega)
        obtain rfl := Option.some.inj e
        rw [Int.toNat_natCast] at hx
        rw [hx]
        show some (Value.int .u8 (l.getD (j : Int).toNat 0)) = _
        rw [Int.toNat_natCast, List.getD_eq_getElem?_getD, hj]; rfl)
    rw [show (nums .u8 l).length = 64 from by rw [Go.Proofs.YtiengbimednonaaW.PrintWords.nums_length, hl64]] at h1
    exact h1
  have hsz : (Try.prog.info? 64).map (·.size) = some 64 := by kernel_rfl
  cases hq : Try.prog.info? 64 with
  | none => simp [hq] at hsz
  | some i =>
    have hs : i.size = 64 := by simpa [hq] using hsz
    have hagg : (isAgg 64).run Try.prog w = .ok true w := by
      unfold isAgg
      rw [Sem.run_bind, run_underlying Try.underlying64 w]
      rfl
    simp only [Instr.loadAt, Instr.sureAddr, Sem.run_bind, Sem.run_pure, Result.andThen_ok]
    simp [loadVar, Sem.run_bind, hagg, sizeOf, typeInfo, hq, hs, hl]
section
variable {w : World} {F : Nat → Prop} {g gb : Nat} {C : Array Value} {v : Nat → Value} {f : Nat → Nat} {s : DS}
theorem put_off (h : DWx w F g gb C v f s) (ho : s.off = true) (A : Option Addr) (n c : Nat) : Calls Try.prog 10 #[.pointer (some ⟨g, 0, none⟩), .slice A n c] w fun e w' => e = .returned (.int .i64 8) ∧ w = w' := by
  have HC := Aside0.mk (ready_calls g true w (by rw [h.cellg, ho]; rfl))
  clear h ho
  go_enter Try.func10, Try.ntmps10
  go_wp2_with (go_at_call 22; (with_reducible refine HC.out.mono ?_); rintro e w' ⟨rfl, rfl⟩)
  go_ret
  exact ⟨rfl, rfl⟩
/-- An open write more. -/
theorem DWx.pushed (h : DWx w F g gb C v f s) {i : Nat} {b : Blk} (hi : s.bs[i]? = some b) (x : List Int) (w1 : World) (v1 : Value) (F1 : Nat → Prop) (hF1 : F1 = fun k => F k ∨ (w.heap.size ≤ k ∧ k < w1.heap.size))
    (hR : KA.R 64 w1 0 (fun k => k < w.heap.size → F k ∧ f k = i) v1 (b.opn ++ [x])) (hg : w.grownBy w1 (v i).ownBlock) :
    DWx (w1.setCell ⟨gb, i * 65 + 64, none⟩ v1) F1 g gb (C.setIfInBounds (i * 65 + 64) v1) (fun k => if k = i then v1 else v k) (fun k => if k < w.heap.size then f k else i) ⟨s.off, s.left, s.bs.modify i (push x)⟩ ∧ Ch w (w1.setCell ⟨gb, i * 65 + 64, none⟩ v1) F F1 := by
  have hlen := h.len hi
  have hsz : i * 65 + 65 ≤ C.size := by rw [h.hC]; omega
  have hRi := h.ho i b hi
  have hne := Kd.R_ne hRi h.hb (by decide)
  have hneg := Kd.R_ne hRi h.hg (by decide)
  have hb1 : w1.heap[gb]? = some (.cells C 67 (0, 0)) := blk_grown h.hb hg hne
  have s2 : (w1.setCell ⟨gb, i * 65 + 64, none⟩ v1).heap.size = w1.heap.size := by simp [World.setCell]
  have hmod : s.bs.modify i (push x) = s.bs.set i (push x b) := by
    apply List.ext_getElem?
    intro j
    rw [List.getElem?_modify, List.getElem?_set]
    by_cases e : i = j
    · subst e; simp [hlen, (List.getElem?_eq_some_iff.1 hi).2]
    · simp [e]
  rw [hmod]
  have own : ∀ k, (v i).ownBlock = some k → F k ∧ f k = i := hRi.1
  have far : ∀ k, k < w.heap.size → k ≠ gb → (v i).ownBlock ≠ some k → (w1.setCell ⟨gb, i * 65 + 64, none⟩ v1).heap[k]? = w.heap[k]? := fun k hk hn hv => (heap_setCell_other _ _ _ _ hn).trans (hg.block k hk (Ne.symm hv))
  have hneb : v1.ownBlock ≠ some gb := fun e => by
    have hR2 := Kd.R_ne hR hb1 (by decide)
    exact hR2 e.symm
  refine ⟨h.setB hlen (push x b) v1 _ _ F1 _ (blk_set hb1 _ _) (by rw [Array.size_setIfInBounds]) (h.h64 i b hi) (fun j y hj => ?_) ?_ (fun k hk => ?_) ?_ (fun k hF hn hf => ?_) (fun k hF => ?_) (fun k hF => ?_), ⟨hg.os, hg.tape, hg.output, by rw [s2]; exact hg.size, fun k hk hF => far k hk (fun e => hF (e ▸ h.fb)) (fun e => hF (own k e).1), fun k hF => ?_⟩⟩
  · have hj64 : j < 64 := by rw [← h.h64 i b hi]; exact (List.getElem?_eq_some_iff.1 hj).1
    rw [Array.getElem?_setIfInBounds_ne (by omega)]
    exact h.hl i b hi j y hj
  · rw [Array.getElem?_setIfInBounds_self_of_lt (by omega)]
  · rw [Array.getElem?_setIfInBounds_ne (by omega)]
  · refine Kd.R_mono (Kd.R_set (Kd.R_bound hR) hb1 (by decide) (i * 65 + 64) v1) (fun k hk => ?_)
    obtain ⟨hk1, _, hk2, _⟩ := hk
    rw [hF1]
    by_cases hlt : k < w.heap.size
    · exact ⟨.inl (hk1 hlt).1, by rw [if_pos hlt]; exact (hk1 hlt).2⟩
    · exact ⟨.inr ⟨by omega, hk2⟩, by rw [if_neg hlt]⟩
  · refine far k (h.lt k hF) hn (fun e => ?_)
    rcases hf with rfl | hf
    · exact hneg e.symm
    · exact hf (own k e).2
  · rw [hF1]
    exact ⟨.inl hF, by rw [if_pos (h.lt k hF)]⟩
  · rw [hF1] at hF
    rw [s2]
    rcases hF with hF | hF
    · exact Nat.lt_of_lt_of_le (h.lt k hF) hg.size
    · exact hF.2
  · rw [hF1] at hF
    exact hF.imp id (fun h => h.1)
end
end Go.Proofs.Ytiengbimednonaa.Disk
