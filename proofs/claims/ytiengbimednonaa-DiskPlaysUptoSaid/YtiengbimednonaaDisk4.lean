/- Walks of package disk: the first so many open writes of a block last. -/
import Derived.Test.YtiengbimednonaaDisk3
namespace Go.Proofs.Ytiengbimednonaa.Disk
open Go Go.RowKit Go.Proofs.YtiengbimednonaaW.PrintWords Go.Proofs.YtiengbimednonaaW.PrintLast Go.Proofs.YtiengbimednonaaW.PrintMore
attribute [local go_sem] max2_int min2_int max_two min_two
set_option linter.unusedVariables false
set_option linter.unusedSimpArgs false

theorem if_min (m : Nat) (n : Int) : (if (m : Int) < n then (m : Int) else n) = min n (m : Int) := by
  by_cases h : (m : Int) < n
  · rw [if_pos h]; omega
  · rw [if_neg h]; omega
/-- The same blocks of memory, another disk in them. -/
structure Kpt (w w' : World) (F : Nat → Prop) (g gb : Nat) (f : Nat → Nat) (s : DS) : Prop where
  st : ∃ C v, DWx w' F g gb C v f s
  ch : Ch w w' F F
theorem seg_at (C seg : Array Value) (o k : Nat) (hfit : o + seg.size ≤ C.size) : ((C.toList.take o ++ seg.toList ++ C.toList.drop (o + seg.size)).toArray)[k]? = if k < o then C[k]? else if k < o + seg.size then seg[k - o]? else C[k]? := by
  have hl : (C.toList.take o).length = o := by rw [List.length_take, Array.length_toList]; omega
  rw [List.getElem?_toArray, List.append_assoc]
  by_cases h1 : k < o
  · rw [if_pos h1, List.getElem?_append_left (by omega), List.getElem?_take, if_pos h1, Array.getElem?_toList]
  · rw [if_neg h1, List.getElem?_append_right (by omega), hl]
    by_cases h2 : k < o + seg.size
    · rw [if_pos h2, List.getElem?_append_left (by rw [Array.length_toList]; omega), Array.getElem?_toList]
    · rw [if_neg h2, List.getElem?_append_right (by rw [Array.length_toList]; omega), Array.length_toList, List.getElem?_drop, Array.getElem?_toList, show o + seg.size + (k - o - seg.size) = k by omega]
theorem seg_size (C seg : Array Value) (o : Nat) (hfit : o + seg.size ≤ C.size) : ((C.toList.take o ++ seg.toList ++ C.toList.drop (o + seg.size)).toArray).size = C.size := by
  simp only [List.size_toArray, List.length_append, List.length_take, List.length_drop, Array.length_toList]; omega
section
variable {w : World} {F : Nat → Prop} {g gb : Nat} {C : Array Value} {v : Nat → Value} {f : Nat → Nat} {s : DS}
theorem keep_calls (h : DWx w F g gb C v f s) {i : Nat} {b : Blk} (hi : s.bs[i]? = some b) (n : Int) :
    Calls Try.prog 24 #[.pointer (some ⟨gb, i * 65, none⟩), .int .i64 n] w fun e w' => e = .returned (.tuple #[]) ∧ Kpt w w' F g gb f ⟨s.off, s.left, s.bs.set i (keepB b n)⟩ := by
  have hlen := h.len hi
  have n480 := h.n480
  have hsz : i * 65 + 65 ≤ C.size := by rw [h.hC]; omega
  obtain ⟨A, c, hrow⟩ := h.row hi
  obtain ⟨m, hm⟩ : ∃ m, b.opn.length = m := ⟨_, rfl⟩
  have cv : w.cell? ⟨gb, i * 65 + 64, none⟩ = some (.slice A m c) := by rw [h.cell, h.hv i hlen, hrow, hm]
  have fz := blk_frozen h.hb (i * 65 + 64)
  have hmm : m ≤ 9223372036854775807 := by
    have := (Kd.R_reads' (hrow ▸ h.ho i b hi)).2.2.2.1
    omega
  -- what the last store leaves
  have fin : ∀ (w1 : World) (C1 : Array Value) (b' : Blk), w1.heap[gb]? = some (.cells C1 67 (0, 0)) → w.grownBy w1 (some gb) → C1.size = C.size → b'.last.length = 64 → b'.opn = [] →
      (∀ j x, b'.last[j]? = some x → C1[i * 65 + j]? = some (.int .u8 x)) → (∀ k, (k < i * 65 ∨ i * 65 + 64 ≤ k) → C1[k]? = C[k]?) →
      Kpt w (w1.setCell ⟨gb, i * 65 + 64, none⟩ (.slice none 0 0)) F g gb f ⟨s.off, s.left, s.bs.set i b'⟩ := by
    intro w1 C1 b' hb1 hg1 hs1 h64 ho1 hl1 hout1
    have far : ∀ k, k < w.heap.size → k ≠ gb → (w1.setCell ⟨gb, i * 65 + 64, none⟩ (.slice none 0 0)).heap[k]? = w.heap[k]? := fun k hk hn => (heap_setCell_other _ _ _ _ hn).trans (hg1.block k hk (fun e => hn (Option.some.inj e)))
    have hsz2 : w.heap.size ≤ (w1.setCell ⟨gb, i * 65 + 64, none⟩ (.slice none 0 0)).heap.size := by simpa [World.setCell] using hg1.size
    refine ⟨⟨_, _, h.setB hlen b' (.slice none 0 0) (C1.setIfInBounds (i * 65 + 64) (.slice none 0 0)) _ F f (blk_set hb1 _ _) (by rw [Array.size_setIfInBounds, hs1]) h64 (fun j x hj => ?_) ?_ (fun k hk => ?_) (by rw [ho1]; exact Kd.R_nil _ _ _ _ _)
      (fun k hF hn _ => far k (h.lt k hF) hn) (fun k hF => ⟨hF, rfl⟩) (fun k hF => Nat.lt_of_lt_of_le (h.lt k hF) hsz2)⟩, ⟨hg1.os, hg1.tape, hg1.output, hsz2, fun k hk hF => far k hk (fun e => hF (e ▸ h.fb)), fun _ hF => .inl hF⟩⟩
    · have hj64 : j < 64 := by rw [← h64]; exact (List.getElem?_eq_some_iff.1 hj).1
      rw [Array.getElem?_setIfInBounds_ne (by omega)]
      exact hl1 j x hj
    · rw [Array.getElem?_setIfInBounds_self_of_lt (by omega)]
    · rw [Array.getElem?_setIfInBounds_ne (by omega)]
      exact hout1 k (by omega)
  have FIN := Aside0.mk fin
  have H := Aside0.mk h
  have HI := Aside0.mk hi
  have HM := Aside0.mk hm
  have HSZ := Aside0.mk hsz
  clear fin
  by_cases hq : keepN b n = 0
  · have hkb : keepB b n = ⟨b.last, []⟩ := by unfold keepB; rw [if_pos hq]
    have HKB := Aside0.mk hkb
    unfold keepN at hq
    rw [hm] at hq
    obtain ⟨q, hqq⟩ : ∃ q : Int, (if (m : Int) < n then (m : Int) else n) = q := ⟨_, rfl⟩
    have hq0 : ¬ 0 < q := by rw [← hqq, if_min]; omega
    have b1 : decide (0 < q) = false := decide_eq_false hq0
    clear h hi hrow hm hsz hq hkb hq0
    go_enter Try.func24, Try.ntmps24
    go_wp2_with fail
    go_end0
    refine ⟨rfl, ?_⟩
    rw [HKB.out]
    exact FIN.out w C ⟨b.last, []⟩ H.out.hb (World.grownBy.refl w _) rfl (H.out.h64 i b HI.out) rfl (H.out.hl i b HI.out) (fun _ _ => rfl)
  · obtain ⟨q, hqn⟩ : ∃ q, keepN b n = q + 1 := ⟨keepN b n - 1, by omega⟩
    have hqq : (if (m : Int) < n then (m : Int) else n) = ((q + 1 : Nat) : Int) := by rw [if_min]; unfold keepN at hqn; rw [hm] at hqn; omega
    have hqm : q + 1 ≤ m := by rw [if_min] at hqq; omega
    obtain ⟨x, hx⟩ : ∃ x, b.opn[q]? = some x := ⟨_, List.getElem?_eq_getElem (by omega)⟩
    have hkb : keepB b n = ⟨x, []⟩ := by
      unfold keepB
      rw [if_neg hq, hqn, Nat.add_sub_cancel, List.getD_eq_getElem?_getD, hx]; rfl
    obtain ⟨gr, c', hv', hx64, hcells, hne1, _⟩ := h.opnC hi hx
    rw [hrow] at hv'
    injection hv' with hA _ _
    subst hA
    have b1 : decide (0 < ((q + 1 : Nat) : Int)) = true := decide_eq_true (by omega)
    have hxs : ((x.map (Value.int .u8)).toArray).size = 64 := by simp [hx64]
    have hiA : (Try.prog.info? 64).map (·.size) = some 64 := by kernel_rfl
    have hld : w.rangeAt gr (q * 64) (x.map (Value.int .u8)) := fun j u hu => by
      rw [List.getElem?_map] at hu
      cases hj : x[j]? with
      | none => rw [hj] at hu; cases hu
      | some y => rw [hj] at hu; obtain rfl := Option.some.inj hu; exact hcells j y hj
    have HLD := Aside0.mk hld
    have HXS := Aside0.mk hxs
    have HX64 := Aside0.mk hx64
    have HKB := Aside0.mk hkb
    have HIA := Aside0.mk hiA
    clear h hi hrow hm hsz hq hkb hqn hx hcells hx64 hld hxs hiA
    go_enter Try.func24, Try.ntmps24
    go_wp2_with (first
      | (with_reducible refine wpList_load_mid rfl 64 (.tmp 20) rfl gr (q * 64) ?lx (x.map (Value.int .u8)) _ HLD.out Try.underlying64 rfl ?li ?_
         case lx => rfl
         case li => rw [HIA.out, List.length_map, HX64.out])
      | (with_reducible refine wpList_store_at rfl 64 (.tmp 23) (.tmp 21) rfl gb (i * 65) 67 C (x.map (Value.int .u8)).toArray ?sx ?sy H.out.hb ?sf ?si ?s1 ?_
         case sx => rfl
         case sy => rfl
         case sf => rw [HXS.out]; have := HSZ.out; omega
         case si => rw [HIA.out, HXS.out]
         case s1 => intro u hu; simp at hu; obtain ⟨y, _, rfl⟩ := hu; rfl
         intro w1 hb1 hg1
         have HB1 := Aside0.mk hb1
         have HG1 := Aside0.mk hg1
         have c64 : w1.cell? ⟨gb, i * 65 + 64, none⟩ = some (.slice (some ⟨gr, 0, none⟩) m c) := by
           rw [blk_cell hb1, seg_at _ _ _ _ (by rw [HXS.out]; have := HSZ.out; omega), HXS.out, if_neg (by omega), if_neg (by omega), ← blk_cell H.out.hb]
           exact cv
         have f64 := blk_frozen hb1 (i * 65 + 64)
         clear hb1 hg1))
    go_end0
    refine ⟨rfl, ?_⟩
    rw [HKB.out]
    have hf : i * 65 + (x.map (Value.int .u8)).toArray.size ≤ C.size := by rw [HXS.out]; have := HSZ.out; omega
    refine FIN.out w1 _ ⟨x, []⟩ HB1.out HG1.out (seg_size _ _ _ hf) HX64.out rfl (fun j y hj => ?_) (fun k hk => ?_)
    · have hj64 : j < 64 := by rw [← HX64.out]; exact (List.getElem?_eq_some_iff.1 hj).1
      rw [seg_at _ _ _ _ hf, if_neg (by omega), HXS.out, if_pos (by omega), show i * 65 + j - i * 65 = j by omega]
      simp [hj]
    · rw [seg_at _ _ _ _ hf, HXS.out]
      rcases hk with hk | hk
      · rw [if_pos hk]
      · rw [if_neg (by omega), if_neg (by omega)]
end
end Go.Proofs.Ytiengbimednonaa.Disk
