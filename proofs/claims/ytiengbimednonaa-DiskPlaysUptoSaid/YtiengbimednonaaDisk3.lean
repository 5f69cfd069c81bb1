/- Walks of package disk: a block as it was put last; the first so many open writes last. -/
import Derived.Test.YtiengbimednonaaDisk2
namespace Go.Proofs.Ytiengbimednonaa.Disk
open Go Go.RowKit Go.Proofs.YtiengbimednonaaW.PrintWords Go.Proofs.YtiengbimednonaaW.PrintLast Go.Proofs.YtiengbimednonaaW.PrintMore
attribute [local go_sem] max2_int min2_int max_two min_two
set_option linter.unusedVariables false
set_option linter.unusedSimpArgs false

def curB (b : Blk) : List Int := b.opn.getLastD b.last
def keepN (b : Blk) (n : Int) : Nat := (min n (b.opn.length : Int)).toNat
def keepB (b : Blk) (n : Int) : Blk := ⟨if keepN b n = 0 then b.last else b.opn.getD (keepN b n - 1) [], []⟩
theorem c_of_cells {w : World} {gb o : Nat} {l : List Int} (hl : l.length ≤ 9223372036854775807) (h : ∀ j x, l[j]? = some x → w.cell? ⟨gb, o + j, none⟩ = some (.int .u8 x)) : Kd.C B w (some ⟨gb, o, none⟩) l.length l := by
  refine Kd.C_of_reads (d := (0 : Int)) (h1 := fun _ => rfl) ⟨rfl, hl, fun _ => ⟨_, rfl, fun j hj => ?_⟩⟩
  rw [Addr.add_mid, h j _ (List.getElem?_eq_getElem hj), List.getD_eq_getElem?_getD, List.getElem?_eq_getElem hj]
  rfl
section
variable {w : World} {F : Nat → Prop} {g gb : Nat} {C : Array Value} {v : Nat → Value} {f : Nat → Nat} {s : DS}
theorem DWx.lastC (h : DWx w F g gb C v f s) {i : Nat} {b : Blk} (hi : s.bs[i]? = some b) : Kd.C B w (some ⟨gb, i * 65, none⟩) b.last.length b.last :=
  c_of_cells (by rw [h.h64 i b hi]; omega) (fun j x hj => by rw [h.cell]; exact h.hl i b hi j x hj)
/-- An open write's cells. -/
theorem DWx.opnC (h : DWx w F g gb C v f s) {i k : Nat} {b : Blk} {x : List Int} (hi : s.bs[i]? = some b) (hk : b.opn[k]? = some x) :
    ∃ gr c, v i = .slice (some ⟨gr, 0, none⟩) b.opn.length c ∧ x.length = 64 ∧ (∀ j y, x[j]? = some y → w.cell? ⟨gr, k * 64 + j, none⟩ = some (.int .u8 y)) ∧ gr ≠ gb ∧ gr ≠ g := by
  have hR := h.ho i b hi
  have hkl : k < b.opn.length := (List.getElem?_eq_some_iff.1 hk).1
  obtain ⟨gr, c, hv, _, _, cells, hh⟩ := Kd.R_form hR (by omega)
  have hne := Kd.R_ne hR h.hb (by decide)
  have hne2 := Kd.R_ne hR h.hg (by decide)
  rw [hv] at hR hne hne2
  obtain ⟨cs, _, hM, hc⟩ := Kd.R_get hR [] (k : Int) (by omega) (by omega)
  have hx : b.opn.getD ((k : Int)).toNat [] = x := by rw [Int.toNat_natCast, List.getD_eq_getElem?_getD, hk]; rfl
  rw [hx] at hM
  obtain ⟨hx64, hcs⟩ := Kd.arr_cells (KA.K_of_M hM)
  refine ⟨gr, c, hv, hx64, fun j y hj => ?_, fun e => hne (by rw [e]; rfl), fun e => hne2 (by rw [e]; rfl)⟩
  have h1 := hc j (.int .u8 y) (by rw [hcs]; simp [encs, hj])
  rw [Addr.add_mid, Int.toNat_natCast, show KA.sz = 64 from rfl, Nat.zero_add] at h1
  exact h1
theorem clone64 (A : Option Addr) (l : List Int) (n : Nat) (hn : l.length = n) (h64 : n = 64) (w : World) (hr : Kd.C B w A l.length l) :
    Calls Try.prog 28 #[.slice A 64 64] w fun e w' => ∃ v0_ : Value, e = .returned (v0_) ∧ Kd.R B 5 w' w.heap.size (fun _ => True) v0_ l ∧ Below w.heap.size w w' := by
  have h := clone_calls A 64 l l w hr (by omega) (by unfold cloneF; rw [if_pos (by omega)])
  rw [hn, h64] at h
  exact h
theorem now_calls (h : DWx w F g gb C v f s) {i : Nat} {b : Blk} (hi : s.bs[i]? = some b) : Calls Try.prog 25 #[.pointer (some ⟨gb, i * 65, none⟩)] w fun e w' => ∃ v0_ : Value, e = .returned (v0_) ∧ Kd.R B 5 w' w.heap.size (fun _ => True) v0_ (curB b) ∧ Below w.heap.size w w' := by
  have hlen := h.len hi
  have n480 := h.n480
  by_cases h0 : b.opn = []
  · have hcur : curB b = b.last := by unfold curB; rw [h0]; rfl
    obtain ⟨A, c, hrow⟩ := h.row hi
    have cv : w.cell? ⟨gb, i * 65 + 64, none⟩ = some (.slice A 0 c) := by rw [h.cell, h.hv i hlen, hrow, h0]; rfl
    have HC := Aside0.mk (clone64 _ b.last _ rfl (h.h64 i b hi) w (h.lastC hi))
    have HCUR := Aside0.mk hcur
    clear h hi hrow h0 hcur hlen n480
    go_enter Try.func25, Try.ntmps25
    go_wp2_with (go_at_call 28; (with_reducible refine HC.out.mono ?_); rintro e w1 ⟨v1, rfl, hR, hB⟩; have HR := Aside0.mk hR; have HB := Aside0.mk hB; clear hR hB)
    go_ret
    exact ⟨_, rfl, by rw [HCUR.out]; exact HR.out, HB.out⟩
  · obtain ⟨m, hm⟩ : ∃ m, b.opn.length = m + 1 := by
      cases hb : b.opn with
      | nil => exact absurd hb h0
      | cons x y => exact ⟨y.length, rfl⟩
    obtain ⟨x, hx⟩ : ∃ x, b.opn[m]? = some x := ⟨_, List.getElem?_eq_getElem (by omega)⟩
    have hcur : curB b = x := by
      unfold curB
      rw [List.getLastD_eq_getLast?, List.getLast?_eq_getElem?, hm]
      simp [hx]
    obtain ⟨gr, c, hv, hx64, hcells, _, _⟩ := h.opnC hi hx
    have cv : w.cell? ⟨gb, i * 65 + 64, none⟩ = some (.slice (some ⟨gr, 0, none⟩) (m + 1) c) := by rw [h.cell, h.hv i hlen, hv, hm]
    have HC := Aside0.mk (clone64 (some ⟨gr, m * 64, none⟩) x _ rfl hx64 w (c_of_cells (by omega) hcells))
    have HCUR := Aside0.mk hcur
    have hmm : Aside0 (m < 9223372036854775807) := by
      have := (Kd.R_reads' (A := some ⟨gr, 0, none⟩) (n := b.opn.length) (c := c) (hv ▸ h.ho i b hi)).2.2.2.1
      exact ⟨by omega⟩
    have hm1 := hmm.out
    have hb1 : decide (0 < ((m + 1 : Nat) : Int)) = true := decide_eq_true (by omega)
    clear h hi h0 hcur hlen n480 hx hv hx64 hcells hm hmm
    go_enter Try.func25, Try.ntmps25
    go_wp2_with (go_at_call 28; (with_reducible refine HC.out.mono ?_); rintro e w1 ⟨v1, rfl, hR, hB⟩; have HR := Aside0.mk hR; have HB := Aside0.mk hB; clear hR hB)
    go_ret
    exact ⟨_, rfl, by rw [HCUR.out]; exact HR.out, HB.out⟩
theorem get_off (h : DWx w F g gb C v f s) (ho : s.off = true) (i : Int) : Calls Try.prog 12 #[.pointer (some ⟨g, 0, none⟩), .int .i64 i] w fun e w' => e = .returned (.tuple #[.slice none 0 0, .int .i64 8]) ∧ w = w' := by
  have HC := Aside0.mk (ready_calls g true w (by rw [h.cellg, ho]; rfl))
  clear h ho
  go_enter Try.func12, Try.ntmps12
  go_wp2_with (go_at_call 22; (with_reducible refine HC.out.mono ?_); rintro e w' ⟨rfl, rfl⟩)
  go_ret2
  exact ⟨rfl, rfl⟩
theorem get_range (h : DWx w F g gb C v f s) (ho : s.off = false) (i : Int) (hi : i < 0 ∨ (s.bs.length : Int) ≤ i) : Calls Try.prog 12 #[.pointer (some ⟨g, 0, none⟩), .int .i64 i] w fun e w' => e = .returned (.tuple #[.slice none 0 0, .int .i64 7]) ∧ w = w' := by
  have HC := Aside0.mk (ready_calls g false w (by rw [h.cellg, ho]; rfl))
  have c2 := h.cellg 2
  have n480 := h.n480
  obtain ⟨n, hn⟩ : ∃ n, n = s.bs.length := ⟨_, rfl⟩
  rw [← hn] at c2 n480 hi
  clear h ho hn
  by_cases h1 : i < 0
  · have b1 : decide (i < 0) = true := decide_eq_true h1
    clear hi
    go_enter Try.func12, Try.ntmps12
    go_wp2_with (go_at_call 22; (with_reducible refine HC.out.mono ?_); rintro e w' ⟨rfl, rfl⟩)
    go_ret2
    exact ⟨rfl, rfl⟩
  · have h2 : (n : Int) ≤ i := by omega
    have b1 : decide (i < 0) = false := decide_eq_false h1
    have b2 : decide ((n : Int) ≤ i) = true := decide_eq_true h2
    clear hi
    go_enter Try.func12, Try.ntmps12
    go_wp2_with (go_at_call 22; (with_reducible refine HC.out.mono ?_); rintro e w' ⟨rfl, rfl⟩)
    go_ret2
    exact ⟨rfl, rfl⟩
theorem get_yes (h : DWx w F g gb C v f s) (ho : s.off = false) {i : Nat} {b : Blk} (hi : s.bs[i]? = some b) : Calls Try.prog 12 #[.pointer (some ⟨g, 0, none⟩), .int .i64 i] w fun e w' => ∃ v0_ : Value, e = .returned (.tuple #[v0_, .int .i64 0]) ∧ Kd.R B 5 w' w.heap.size (fun _ => True) v0_ (curB b) ∧ Below w.heap.size w w' := by
  have HC := Aside0.mk (ready_calls g false w (by rw [h.cellg, ho]; rfl))
  have HN := Aside0.mk (now_calls h hi)
  have c2 := h.cellg 2
  have hlen := h.len hi
  have n480 := h.n480
  obtain ⟨n, hn⟩ : ∃ n, n = s.bs.length := ⟨_, rfl⟩
  rw [← hn] at c2 n480 hlen
  clear h ho hn hi
  have b1 : decide ((i : Int) < 0) = false := decide_eq_false (by omega)
  have b2 : decide ((n : Int) ≤ (i : Int)) = false := decide_eq_false (by omega)
  go_enter Try.func12, Try.ntmps12
  go_wp2_with (first | (go_at_call 22; (with_reducible refine HC.out.mono ?_); rintro e w' ⟨rfl, rfl⟩) | (go_at_call 25; (with_reducible refine HN.out.mono ?_); rintro e w1 ⟨v1, rfl, hR, hB⟩; have HR := Aside0.mk hR; have HB := Aside0.mk hB; clear hR hB))
  go_ret2
  exact ⟨_, rfl, HR.out, HB.out⟩
/-- One block of a disk is another one. -/
theorem DWx.setB (h : DWx w F g gb C v f s) {i : Nat} (hi : i < s.bs.length) (b' : Blk) (v' : Value) (C2 : Array Value) (w2 : World) (F' : Nat → Prop) (f' : Nat → Nat)
    (hb2 : w2.heap[gb]? = some (.cells C2 67 (0, 0))) (hs : C2.size = C.size) (h64 : b'.last.length = 64)
    (hl : ∀ j x, b'.last[j]? = some x → C2[i * 65 + j]? = some (.int .u8 x)) (hv : C2[i * 65 + 64]? = some v')
    (hout : ∀ k, (k < i * 65 ∨ i * 65 + 65 ≤ k) → C2[k]? = C[k]?)
    (hR : KA.R 64 w2 0 (fun k => F' k ∧ f' k = i) v' b'.opn)
    (far : ∀ k, F k → k ≠ gb → (k = g ∨ f k ≠ i) → w2.heap[k]? = w.heap[k]?)
    (hF : ∀ k, F k → F' k ∧ f' k = f k) (hlt : ∀ k, F' k → k < w2.heap.size) :
    DWx w2 F' g gb C2 (fun k => if k = i then v' else v k) f' ⟨s.off, s.left, s.bs.set i b'⟩ := by
  have hne := h.ne
  refine ⟨?_, hb2, ?_, ?_, ?_, ?_, ?_, (hF g h.fg).1, (hF gb h.fb).1, hlt, ?_⟩
  · have h1 := (far g h.fg hne (.inl rfl)).trans h.hg
    rw [h1]
    show _ = some (Obj.cells #[_, _, .slice _ (s.bs.set i b').length (s.bs.set i b').length] _ _)
    rw [List.length_set]
  · show C2.size = (s.bs.set i b').length * 65
    rw [List.length_set, hs, h.hC]
  · intro j b hj
    have hj' : (s.bs.set i b')[j]? = some b := hj
    by_cases e : j = i
    · subst e
      rw [List.getElem?_set_self hi] at hj'
      obtain rfl := Option.some.inj hj'
      exact h64
    · rw [List.getElem?_set_ne (Ne.symm e)] at hj'
      exact h.h64 j b hj'
  · intro j b hj k x hk
    have hj' : (s.bs.set i b')[j]? = some b := hj
    by_cases e : j = i
    · subst e
      rw [List.getElem?_set_self hi] at hj'
      obtain rfl := Option.some.inj hj'
      exact hl k x hk
    · rw [List.getElem?_set_ne (Ne.symm e)] at hj'
      have hk64 : k < 64 := by rw [← h.h64 j b hj']; exact (List.getElem?_eq_some_iff.1 hk).1
      rw [hout (j * 65 + k) (by omega)]
      exact h.hl j b hj' k x hk
  · intro j hj
    have hj' : j < s.bs.length := by rw [show (⟨s.off, s.left, s.bs.set i b'⟩ : DS).bs.length = s.bs.length from List.length_set] at hj; exact hj
    by_cases e : j = i
    · subst e
      rw [if_pos rfl]; exact hv
    · rw [if_neg e, hout (j * 65 + 64) (by omega)]
      exact h.hv j hj'
  · intro j b hj
    have hj' : (s.bs.set i b')[j]? = some b := hj
    by_cases e : j = i
    · subst e
      rw [List.getElem?_set_self hi] at hj'
      obtain rfl := Option.some.inj hj'
      rw [if_pos rfl]
      exact hR
    · rw [List.getElem?_set_ne (Ne.symm e)] at hj'
      rw [if_neg e]
      refine Kd.R_mono (Kd.R_move (Kd.R_types (h.ho j b hj') h.hb (by decide)) (fun k hk => far k hk.1.1 hk.2 (.inr (by rw [hk.1.2]; exact e)))) (fun k hk => ⟨(hF k hk.1.1).1, ?_⟩)
      rw [(hF k hk.1.1).2]; exact hk.1.2
  · show (s.bs.set i b').length ≤ 480
    rw [List.length_set]; exact h.n480
end
/-- A whole array into the middle of a block that is known whole. -/
theorem wpList_store_at {P : Program} {ops : Array Oper} {rest : List Oper} {op : Oper} {a : Act} {w : World} {Q : Exit → Act → World → Prop} (hgd : op.guard = none) (ty : TypeId) (x y : Operand) (ho : op.op = .store ty x y)
    (gb o : Nat) (t0 : TypeId) (cur cells : Array Value) (hx : a.eval x = .pointer (some ⟨gb, o, none⟩)) (hy : a.eval y = .agg cells)
    (hg : w.heap[gb]? = some (.cells cur t0 (0, 0))) (hfit : o + cells.size ≤ cur.size) (hi : (P.info? ty).map (·.size) = some cells.size) (h1 : ∀ u ∈ cells.toList, u.oneCell' = true)
    (h : ∀ w1, w1.heap[gb]? = some (.cells (cur.toList.take o ++ cells.toList ++ cur.toList.drop (o + cells.size)).toArray t0 (0, 0)) → w.grownBy w1 (some gb) → wpList P ops Q rest (a.put op.dst undef) w1) : wpList P ops Q (op :: rest) a w := by
  refine wpList_plain hgd fun K hK => ?_
  have hst := run_storeCells_at P gb o t0 cells.toList 0 cur w hg (by simpa using hfit) h1
  have hrun : (storeVar ty ⟨gb, o, none⟩ (.agg cells)).run P w = .ok () (w.setRow gb (cur.toList.take o ++ cells.toList ++ cur.toList.drop (o + cells.size)).toArray) := by
    cases hq : P.info? ty with
    | none => simp [hq] at hi
    | some i =>
      have hs : cells.size = i.size := by simp [hq] at hi; omega
      simp only [Nat.add_zero, Array.length_toList] at hst
      simp [storeVar, sizeOf, typeInfo, hq, Value.cells, hs, hst]
  unfold Oper.wp execOp
  simp only [ho, hx, hy, Instr.storeAt, Instr.sureAddr, Sem.run_bind, Sem.run_pure, Result.andThen_ok, hrun]
  exact hK _ _ (h _ (setRow_heap _ _ _ _ _ _ hg) ⟨rfl, rfl, rfl, by simp, fun k _ hn => setRow_other _ _ _ _ (fun e => hn (by rw [e]))⟩)
end Go.Proofs.Ytiengbimednonaa.Disk
