-- Printed out of the translation by a program; functions that were proved by hand stand among them. Lean checks it.
import Derived.Test.YtnccbebjligpdaaPAllx0
import Derived.Test.YtnccbebjligpdaaPAllx1
import Derived.Test.YtnccbebjligpdaaPAllx4
import Derived.Test.YtnccbebjligpdaaPAllx5
namespace Go.Proofs.Ytnccbebjligpdaa.PAll
open Go.RowKit Go.Proofs.YtnccbebjligpdaaW.PrintWords Go.Proofs.YtnccbebjligpdaaW.PrintLast Go.Proofs.YtnccbebjligpdaaW.PrintMore
open Go.Proofs.YtnccbebjligpdaaW.PrintWords renaming blk_drewN → zN, blk_drew → zD, blk_alloc → zA, below_alloc → zB, pw_below_drewN → zP, below_drew1 → zE, below_set → zS
attribute [local go_sem] max2_int min2_int max_two min_two max_three min_three max_four min_four   -- for this text's walks alone
set_option linter.unusedVariables false
set_option linter.unusedSimpArgs false

-- NOT PRINTED: function 43 (api_Entry_43)

/-! ### slices.Delete of one entry, in place -/
/-- Cells behind a row's length may be written: the row stays. -/
theorem entry_Delete.beyond {W : World} {g n c base : Nat} {ok : Nat → Prop} {xs : List S41} (HO : Kd.R k41 41 W base ok (.slice (some ⟨g, 0, none⟩) n c) xs) (hc : n + 1 ≤ c) (a b : Value) :
    Kd.R k41 41 (W.setCells g (n * 2) [a, b]) base ok (.slice (some ⟨g, 0, none⟩) n c) xs ∧ W.grownBy (W.setCells g (n * 2) [a, b]) (some g) := by
  obtain ⟨hn, hnc, _⟩ := Kd.R_reads' HO
  obtain ⟨hok, inner, hown, hr⟩ := HO
  rcases hown.2 with ⟨hv, _⟩ | ⟨g', cap', cur, hv, hb, hh, hl, hcm, hcs, htake⟩
  · cases hv
  injection hv with ha _ hc'
  injection ha with ha
  injection ha with hg
  subst hg; subst hc'
  have hsz : k41.sz = 2 := rfl
  rw [hsz] at hcs htake
  obtain ⟨cur', h3, h4, h5⟩ := setCells_row [a, b] (n * 2) W cur hh (by rw [hcs]; simp only [List.length_cons, List.length_nil]; omega)
  obtain ⟨s1, s2, s3, s4⟩ := setCells_same g [a, b] (n * 2) W
  have hfar : ∀ k', k' ≠ g → (W.setCells g (n * 2) [a, b]).heap[k']? = W.heap[k']? := fun k' hk' => setCells_far [a, b] _ k' hk'
  refine ⟨⟨hok, inner, ⟨hown.1, .inr ⟨g, c, cur', by rw [← hn], hb, h3, hl, hcm, by rw [h4, hcs, hsz], ?_⟩⟩, hr.imp_ (fun p q hp => k41.M_move (fun k' hk' => hfar k' (fun he => hk'.2 (by rw [he]; simp [Value.ownBlock]))) hp)⟩, ⟨s1, s2, s3, by rw [s4]; exact Nat.le_refl _, fun k' _ hk' => hfar k' (fun he => hk' (by rw [he]))⟩⟩
  rw [h5, hsz, ← htake, ← hn]
  rw [List.append_assoc, List.take_append_of_le_length (by rw [List.length_take, Array.length_toList, hcs]; omega), List.take_take, Nat.min_self]
theorem entry_Delete.zero41 (w : World) : (zeroValue 41).run Try.prog w = .ok (.agg #[.int .i64 0, .string ⟨#[]⟩]) w := by kernel_rfl
theorem entry_Delete.clear_run (w : World) (ty : TypeId) (g n c' : Nat) (cur : Array Value) (hh : w.heap[g]? = some (.cells cur 41 (0, 0))) (fit : n * 2 + 2 ≤ cur.size) :
    (Builtin.clear_ #[22] ty #[.slice (some ⟨g, n * 2, none⟩) 1 c']).run Try.prog w = .ok (.tuple #[]) (w.setCells g (n * 2) [.int .i64 0, .string ⟨#[]⟩]) := by
  have hst := run_storeCells_cells (P := Try.prog) g (n * 2) [.int .i64 0, .string ⟨#[]⟩] 0 w
    (by intro j hj; rw [blk_cell hh]; simp only [List.length_cons, List.length_nil] at hj; simp; omega) (by intro j hj; exact blk_frozen hh _) (by intro v hv; simp only [List.mem_cons, List.not_mem_nil, or_false] at hv; rcases hv with rfl | rfl <;> rfl)
  simp only [Nat.add_zero] at hst
  have hzc : (Builtin.zeroCells (Value.agg #[.int .i64 0, .string ⟨#[]⟩]).cells 1).toList = [.int .i64 0, .string ⟨#[]⟩] := by first | kernel_rfl | (simp [Builtin.zeroCells]; done) | (simp [Builtin.zeroCells]; rfl)
  simp [Builtin.clear_, run_underlying Try.underlying22, hzc, hst]
set_option maxRecDepth 100000 in
set_option maxHeartbeats 8000000 in
theorem entry_Delete.calls (g c k n base : Nat) (ok : Nat → Prop) (xs : List S41) (w : World) (hR : Kd.R k41 41 w base ok (.slice (some ⟨g, 0, none⟩) n c) xs) (hk : k < n) :
    Calls Try.prog 43 #[.slice (some ⟨g, 0, none⟩) n c, .int .i64 (k : Int), .int .i64 ((k : Int) + 1)] w fun e w' => e = .returned (.slice (some ⟨g, 0, none⟩) (n - 1) c) ∧ Kd.R k41 41 w' base ok (.slice (some ⟨g, 0, none⟩) (n - 1) c) (xs.eraseIdx k) ∧ w.grownBy w' (some g) := by
  obtain ⟨hnx, hnc, hCx⟩ := Kd.R_reads' hR
  have hnm : n ≤ 9223372036854775807 := by rw [hnx]; exact hCx.2.1
  have hcm : c ≤ 9223372036854775807 := by
    obtain ⟨_, inner, ho, _⟩ := hR
    rcases ho.2 with ⟨hv, _⟩ | ⟨g', cap', cur, hv, hb, hh, hl, hm, hcs, htake⟩
    · cases hv
    · injection hv with _ _ hc'
      subst hc'
      exact hm
  have HBS : Aside0 (base ≤ w.drew.heap.size) := ⟨Nat.le_of_lt (Nat.lt_of_le_of_lt (Kd.R_base hR g (by simp [Value.ownBlock])) (Kd.R_lt hR g (by simp [Value.ownBlock])))⟩
  have HO := Aside0.mk hR
  have HK := Aside0.mk hk
  obtain ⟨m, hm⟩ : ∃ m, n = m + 1 := ⟨n - 1, by omega⟩
  have HM := Aside0.mk hm
  have hmn : (m : Int) < (n : Int) := by omega
  have hnm1 : Aside0 (n - 1 = m) := ⟨by omega⟩
  obtain ⟨i0, hi0, _, hsz0, _⟩ := info_parts info41
  have hcA := cut_to (P := Try.prog) 22 41 .i64 Try.underlying22 hi0 (some ⟨g, 0, none⟩) n c (k : Int) (by omega) (by omega) hnc
  have hcB := cut_from (P := Try.prog) 22 41 .i64 Try.underlying22 hi0 2 hsz0 (some ⟨g, 0, none⟩) n c ((k : Int) + 1) (by omega) (by omega)
  rw [show ((k : Int) + 1).toNat = k + 1 from by omega] at hcB
  rw [Int.toNat_natCast] at hcA
  obtain ⟨A2, hA2⟩ : ∃ A2, A2 = (if c = k + 1 then some (⟨g, 0, none⟩ : Addr) else (some (⟨g, 0, none⟩ : Addr)).map (·.add ((k + 1) * 2))) := ⟨_, rfl⟩
  rw [← hA2] at hcB
  have HA2 := Aside0.mk hA2
  have hcE : ∀ W : World, (Instr.slice 22 (.slice (some ⟨g, 0, none⟩) m c) (some (.int .i64 (m : Int))) (some (.int .i64 (n : Int))) none).run Try.prog W = .ok (.slice (some ⟨g, m * 2, none⟩) 1 (c - m)) W := by
    intro W
    rw [run_slice_lh W 22 (some ⟨g, 0, none⟩) m c (by kernel_rfl) .i64 .i64 (m : Int) (n : Int) (by omega) (by omega) (by omega)]
    have hel : Try.prog.elem 22 = 41 := by simp [Program.elem, Try.underlying22]
    rw [hel]
    simp [sizeOf, typeInfo, hi0, hsz0, sliced, Result.andThen, Addr.add]
    refine ⟨?_, by omega⟩
    rw [if_neg (by omega)]
    by_cases h0 : m = 0
    · subst h0; rfl
    · rw [if_neg (by omega)]
  have hne : ((k : Int) == (k : Int) + 1) = false := beq_eq_false_iff_ne.2 (by omega)
  have hw1 : IntKind.i64.wrap ((k : Int) + 1) = (k : Int) + 1 := Go.IntWalk.i64_in _ (by omega)
  have hkz : (k : Int) + 1 ≤ (n : Int) := by omega
  clear hR hA2 hCx hm hw1 hnx
  go_enter Try.func43, Try.ntmps43
  go_wp2
  refine start_ (n := 8) (S := fun w' => True) (ds := []) #[false, false, false, false, false, false, false, false] (by kernel_rfl) rfl rfl (trivial) (fun hHeld => ?_)
  refine pure_ (i := 0) (N := some 20) (v := ?_) (a' := ?_) #[true, false, false, false, false, false, false, false] rfl rfl (by kernel_rfl) (fun _ _ _ h => h) (Or.inl ⟨by rfl, ?_⟩) ?_ ?_
  rotate_left
  · intro w'
    go_simp
    with_reducible rfl
  rotate_left
  · simp only [Act.put, List.setIfInBounds_toArray, List.set_cons_zero, List.set_cons_succ, i64_w, i32_w]
    rfl
  refine pure_ (i := 1) (N := some 21) (v := ?_) (a' := ?_) #[true, true, false, false, false, false, false, false] rfl rfl (by kernel_rfl) (fun _ _ _ h => h) (Or.inl ⟨by rfl, ?_⟩) ?_ ?_
  rotate_left
  · intro w'
    go_simp
    with_reducible rfl
  rotate_left
  · simp only [Act.put, List.setIfInBounds_toArray, List.set_cons_zero, List.set_cons_succ, i64_w, i32_w]
    rfl
  refine pure_ (i := 2) (N := some 22) (v := ?_) (a' := ?_) #[true, true, true, false, false, false, false, false] rfl rfl (by kernel_rfl) (fun _ _ _ h => h) (Or.inl ⟨by rfl, ?_⟩) ?_ ?_
  rotate_left
  · intro w'
    go_simp
    with_reducible rfl
  rotate_left
  · simp only [Act.put, List.setIfInBounds_toArray, List.set_cons_zero, List.set_cons_succ, i64_w, i32_w]
    rfl
  refine pure_ (i := 3) (N := some 23) (v := ?_) (a' := ?_) #[true, true, true, true, false, false, false, false] rfl rfl (by kernel_rfl) (fun _ _ _ h => h) (Or.inl ⟨by rfl, ?_⟩) ?_ ?_
  rotate_left
  · intro w'
    go_simp
    with_reducible rfl
  rotate_left
  · simp only [Act.put, List.setIfInBounds_toArray, List.set_cons_zero, List.set_cons_succ, i64_w, i32_w]
    rfl
  refine pure_ (i := 4) (N := some 24) (v := ?_) (a' := ?_) #[true, true, true, true, true, false, false, false] rfl rfl (by kernel_rfl) (fun _ _ _ h => h) (Or.inl ⟨by rfl, ?_⟩) ?_ ?_
  rotate_left
  · intro w'
    go_simp
    with_reducible rfl
  rotate_left
  · simp only [Act.put, List.setIfInBounds_toArray, List.set_cons_zero, List.set_cons_succ, i64_w, i32_w]
    rfl
  refine pure_ (i := 5) (N := some 25) (v := ?_) (a' := ?_) #[true, true, true, true, true, true, false, false] rfl rfl (by kernel_rfl) (fun _ _ _ h => h) (Or.inl ⟨by rfl, ?_⟩) ?_ ?_
  rotate_left
  · intro w'
    go_simp
    with_reducible rfl
  rotate_left
  · simp only [Act.put, List.setIfInBounds_toArray, List.set_cons_zero, List.set_cons_succ, i64_w, i32_w]
    rfl
  refine one_ (i := 6) (N := some 26) #[true, true, true, true, true, true, true, false] rfl rfl (by kernel_rfl) (by decide) (fun K hK => ?_)
  refine Kd.R_delete_step k41 (w0 := w.drew) base (by rfl) (.tmp 22) (.tmp 25) 22 41 rfl Try.underlying22 (by kernel_rfl) (g := g) (n := n) (c := c) (k := k) (A := A2) rfl rfl HA2.out rfl (Kd.R_drew HO.out) HK.out (Below.refl _ _) HBS.out ?_
  intro w2 ho hb hg
  have HO1 := Aside0.mk ho
  have HG1 := Aside0.mk hg
  clear ho hb hg
  refine hK.out _ _ (trivial) (fun hHeld => ?_)
  clear hK K
  refine norm_ (a' := ?_) ?_ ?_
  rotate_left
  · show Act.put _ (some 26) _ = _
    simp only [Act.put, List.setIfInBounds_toArray, List.set_cons_zero, List.set_cons_succ, i64_w, i32_w]
    rfl
  refine pure_ (i := 7) (N := some 0) (v := ?_) (a' := ?_) #[true, true, true, true, true, true, true, true] rfl rfl (by kernel_rfl) (fun _ _ _ h => h) (Or.inl ⟨by rfl, ?_⟩) ?_ ?_
  rotate_left
  · intro w'
    go_simp
    with_reducible rfl
  rotate_left
  · simp only [Act.put, List.setIfInBounds_toArray, List.set_cons_zero, List.set_cons_succ, i64_w, i32_w]
    rfl
  refine done_ (by kernel_rfl) ?_
  have ho1 := HO1.out
  rw [hnm1.out] at ho1
  rw [hnm1.out]
  obtain ⟨hb1, hb2⟩ := entry_Delete.beyond ho1 (by omega) (.int .i64 0) (.string ⟨#[]⟩)
  have HX1 := Aside0.mk hb1
  have HX2 : Aside0 (w.grownBy _ (some g)) := ⟨⟨hb2.os.trans HG1.out.os, hb2.tape.trans HG1.out.tape, hb2.output.trans HG1.out.output, Nat.le_trans HG1.out.size hb2.size, fun q hq hne => (hb2.block q (Nat.lt_of_lt_of_le hq HG1.out.size) hne).trans (HG1.out.block q hq hne)⟩⟩
  have hcl : ∀ ty, (Builtin.clear_ #[22] ty #[.slice (some ⟨g, m * 2, none⟩) 1 (c - m)]).run Try.prog w2 = .ok (.tuple #[]) (w2.setCells g (m * 2) [.int .i64 0, .string ⟨#[]⟩]) := by
    intro ty
    obtain ⟨_, inner, ho, _⟩ := ho1
    rcases ho.2 with ⟨hv, _⟩ | ⟨g', cap', cur, hv, hb, hh, hl, hm, hcs, htake⟩
    · cases hv
    · injection hv with ha _ hc'
      injection ha with ha
      injection ha with hg
      subst hg; subst hc'
      exact entry_Delete.clear_run w2 ty g m _ cur hh (by rw [hcs, show k41.sz = 2 from rfl]; omega)
  clear ho1 hb1 hb2 HO1 HG1
  go_wp2
  go_ret
  exact ⟨by rw [hnm1.out]; rfl, by rw [hnm1.out]; exact HX1.out, HX2.out⟩
/-! ### entry_Remove: function 24 -/
def entry_Remove.f (k : Nat) (l0 : List (List S41)) (a1 : ByteArray) : Option (List (List S41) × Int × Int) := (entry_check.f l0 0 a1).bind fun t => (if t = 0 then ((entry_find.f l0 a1).bind fun b => (if b.2.2 = true then ((entry_clone.f k l0).bind fun y => (if (0 ≤ b.1 ∧ b.1 < (y.length : Int)) ∧ (0 ≤ b.2.1 ∧ b.2.1 < ((entry_sound.rdL y b.1).length : Int)) then some (y.set b.1.toNat ((entry_sound.rdL y b.1).eraseIdx b.2.1.toNat), b.1, 0) else none)) else some ([], 0, 4))) else some ([], 0, t))
theorem entry_Remove.mono : ∀ a0 a1 k, LeO (entry_Remove.f k a0 a1) (entry_Remove.f (k + 1) a0 a1) := by
  intro a0 a1 k
  unfold entry_Remove.f
  refine LeO.bind (LeO.refl _) (fun t => LeO.ite (LeO.bind (LeO.refl _) (fun b => LeO.ite (LeO.bind (entry_clone.mono _ _) (fun y => LeO.refl _)) (LeO.refl _))) (LeO.refl _))
set_option maxRecDepth 100000 in
set_option maxHeartbeats 8000000 in
theorem entry_Remove.calls (k : Nat) (A0 : Option Addr) (c0 : Nat) (l0 : List (List S41)) (a1 : ByteArray) (r1 : List (List S41)) (r2 r3 : Int) (w : World) (hr0 : Kd.C (Kd.slice 41 k41) w A0 l0.length l0) (hc0 : l0.length ≤ c0) (h : entry_Remove.f k l0 a1 = some (r1, r2, r3)) :
    Calls Try.prog 24 #[.slice A0 l0.length c0, .string a1] w fun e w' => ∃ v0_ : Value, e = .returned (.tuple #[v0_, .int .i64 r2, .int .i64 r3]) ∧ Kd.S (Kd.slice 41 k41) 22 w' w.heap.size (fun _ => True) v0_ r1 ∧ Below w.heap.size w w' := by
  unfold entry_Remove.f at h
  obtain ⟨t, ht, h⟩ := Option.bind_eq_some_iff.1 h
  have HR := Aside0.mk hr0
  have HC := Aside0.mk hc0
  have HT := Aside0.mk ht
  clear hr0 hc0 ht
  by_cases ht0 : t = 0
  case neg =>
    rw [if_neg ht0] at h
    have c1 : (t == 0) = false := beq_eq_false_iff_ne.mpr ht0
    have c2 : (t != 0) = true := bne_iff_ne.mpr ht0
    simp only [Option.some.injEq, Prod.mk.injEq] at h
    obtain ⟨rfl, rfl, rfl⟩ := h
    clear ht0
    go_enter Try.func24, Try.ntmps24
    go_wp2_with fail
    ((with_reducible refine (entry_check.calls _ _ l0 0 a1 _ _ HR.out HC.out HT.out).mono ?_); rintro e w1 ⟨rfl, hb1⟩)
    have HB1 := Aside0.mk hb1
    clear hb1
    go_wp2
    go_ret3
    exact ⟨_, rfl, Kd.S_nil _ _ _ _ _, HB1.out⟩
  case pos =>
  rw [if_pos ht0] at h
  subst ht0
  obtain ⟨⟨b1, b2, b3⟩, hf, h⟩ := Option.bind_eq_some_iff.1 h
  have HF := Aside0.mk hf
  clear hf
  cases b3 with
  | false =>
    rw [if_neg (show ¬ (false = true) by decide)] at h
    simp only [Option.some.injEq, Prod.mk.injEq] at h
    obtain ⟨rfl, rfl, rfl⟩ := h
    go_enter Try.func24, Try.ntmps24
    go_wp2_with fail
    ((with_reducible refine (entry_check.calls _ _ l0 0 a1 _ _ HR.out HC.out HT.out).mono ?_); rintro e w1 ⟨rfl, hb1⟩)
    have HB1 := Aside0.mk hb1
    clear hb1
    go_wp2_with fail
    ((with_reducible refine (entry_find.calls _ _ l0 a1 _ _ _ _ (Kd.C_below HR.out HB1.out) HC.out HF.out).mono ?_); rintro e w2 ⟨rfl, hb2⟩)
    have HB2 := Aside0.mk (HB1.out.trans (hb2.mono HB1.out.size))
    clear hb2
    go_wp2
    go_ret3
    exact ⟨_, rfl, Kd.S_nil _ _ _ _ _, HB2.out⟩
  | true =>
    rw [if_pos (show true = true from rfl)] at h
    obtain ⟨y, hy, h⟩ := Option.bind_eq_some_iff.1 h
    have HY := Aside0.mk hy
    clear hy
    split at h
    case isFalse => cases h
    rename_i hbd
    obtain ⟨⟨hi0, hi1⟩, hk0, hk1⟩ := hbd
    simp only at hi0 hi1 hk0 hk1
    obtain ⟨i, rfl⟩ : ∃ i : Nat, b1 = i := ⟨b1.toNat, by omega⟩
    obtain ⟨q, rfl⟩ : ∃ q : Nat, b2 = q := ⟨b2.toNat, by omega⟩
    simp only [Option.some.injEq, Prod.mk.injEq, Int.toNat_natCast] at h
    obtain ⟨h1, rfl, rfl⟩ := h
    have HE1 := Aside0.mk h1
    obtain ⟨row, hrow⟩ : ∃ row, entry_sound.rdL y (i : Int) = row := ⟨_, rfl⟩
    rw [hrow] at hk1
    have HRW := Aside0.mk hrow
    obtain ⟨ny, hny⟩ : ∃ ny, y.length = ny := ⟨_, rfl⟩
    obtain ⟨nr, hnr⟩ : ∃ nr, row.length = nr := ⟨_, rfl⟩
    have HNY := Aside0.mk hny
    have HNR := Aside0.mk hnr
    rw [hny] at hi1
    rw [hnr] at hk1
    clear h1 hrow hny hnr hi0 hk0
    go_enter Try.func24, Try.ntmps24
    go_wp2_with fail
    ((with_reducible refine (entry_check.calls _ _ l0 0 a1 _ _ HR.out HC.out HT.out).mono ?_); rintro e w1 ⟨rfl, hb1⟩)
    have HB1 := Aside0.mk hb1
    clear hb1
    go_wp2_with fail
    ((with_reducible refine (entry_find.calls _ _ l0 a1 _ _ _ _ (Kd.C_below HR.out HB1.out) HC.out HF.out).mono ?_); rintro e w2 ⟨rfl, hb2⟩)
    have HB2 := Aside0.mk (HB1.out.trans (hb2.mono HB1.out.size))
    clear hb2
    go_wp2_with fail
    ((with_reducible refine (entry_clone.calls k _ _ l0 y _ (Kd.C_below HR.out HB2.out) HC.out HY.out).mono ?_); rintro e w3 ⟨v, rfl, hS, hb3⟩)
    have HB3 := Aside0.mk (HB2.out.trans (hb3.mono HB2.out.size))
    have hS0 := Kd.S_lower hS HB2.out.size
    clear hb3 hS
    obtain ⟨g, cap, rfl, hg, hlt, cells, hh⟩ := Kd.S_form hS0 (by have := HNY.out; omega)
    obtain ⟨oki, ce, hcl, hM, hcc, hfr, hoki, hH⟩ := Kd.S_elem hS0 [] (i : Int) (by omega) (by have := HNY.out; omega)
    obtain ⟨ve, rfl, hE⟩ := hM
    have hE2 : Kd.R k41 41 w3 w.heap.size oki ve row := by rw [← HRW.out]; exact hE
    obtain ⟨g2, c2, rfl, hg2, _, _, _⟩ := Kd.R_form hE2 (by have := HNR.out; omega)
    have hx := hcc 0 _ rfl
    have hz := hfr 0
    have hn2 : nr ≤ 9223372036854775807 := by
      have := (Kd.R_reads' hE2).2.2.2.1
      have := HNR.out
      omega
    rw [show (i : Int).toNat * (Kd.slice 41 k41).sz + 0 = i from by rw [show (Kd.slice 41 k41).sz = 1 from rfl, Nat.mul_one, Nat.add_zero, Int.toNat_natCast]] at hx hz
    rw [HNR.out] at hx hE2
    have HE2 := Aside0.mk hE2
    have HH := Aside0.mk hH
    have HOK := Aside0.mk hoki
    have HG := Aside0.mk hg
    have HG2 := Aside0.mk hg2
    have hny2 : ny ≤ 9223372036854775807 := by
      have := (Kd.S_reads' hS0).2.2.2.1
      have := HNY.out
      omega
    rw [HNY.out]
    have hi1n : i < ny := by omega
    clear hS0 hg hlt hh hcc hfr hoki hH hE hg2 hcl hE2
    go_wp2_with fail
    ((with_reducible refine (entry_Delete.calls g2 c2 q nr w.heap.size oki row _ HE2.out (by omega)).mono ?_); rintro e w4 ⟨rfl, hE4, hg4⟩)
    have hin2 : oki g2 := HE2.out.1 g2 (by simp [Value.ownBlock])
    have hH4 := Kd.H_grown HH.out hg4 (fun k_ e_ => by injection e_ with e_; rw [← e_]; exact hin2)
    obtain ⟨hc4, hf4⟩ := Kd.H_at hH4 (by omega) (by have := HNY.out; omega)
    have hx4 := hc4 0 _ rfl
    have hz4 := hf4 0
    rw [show (i : Int).toNat * (Kd.slice 41 k41).sz + 0 = i from by rw [show (Kd.slice 41 k41).sz = 1 from rfl, Nat.mul_one, Nat.add_zero, Int.toNat_natCast]] at hx4 hz4
    obtain ⟨hP, hgP⟩ := Kd.S_seg0 hH4 (by omega) (by have := HNY.out; omega) (seg := [.slice (some ⟨g2, 0, none⟩) (nr - 1) c2]) (j := 0) (show 1 ≤ 1 from Nat.le_refl _) (x' := row.eraseIdx q) (Kd.M_row (by have h_ := hE4; rwa [show nr - 1 = (row.eraseIdx q).length from by rw [List.length_eraseIdx_of_lt (by have := HNR.out; omega), HNR.out]] at h_ ⊢)) (fun _ hk => hk)
    have HB4 : Aside0 (Below w.heap.size w w4) := ⟨HB3.out.grown hg4 HB3.out.size (fun k_ e_ => by injection e_ with e_; rw [← e_]; exact HG2.out)⟩
    have hset : w4.setCells g ((i : Int).toNat * (Kd.slice 41 k41).sz + 0) [.slice (some ⟨g2, 0, none⟩) (nr - 1) c2] = w4.setCell ⟨g, i, none⟩ (.slice (some ⟨g2, 0, none⟩) (nr - 1) c2) := by
      rw [show (i : Int).toNat * (Kd.slice 41 k41).sz + 0 = i from by rw [show (Kd.slice 41 k41).sz = 1 from rfl, Nat.mul_one, Nat.add_zero, Int.toNat_natCast]]
      rfl
    rw [hset, Int.toNat_natCast] at hP
    rw [hset] at hgP
    have HP := Aside0.mk hP
    have HBP : Aside0 (Below w.heap.size w (w4.setCell ⟨g, i, none⟩ (.slice (some ⟨g2, 0, none⟩) (nr - 1) c2))) := ⟨HB4.out.grown hgP HB4.out.size (fun k_ e_ => by injection e_ with e_; rw [← e_]; exact HG.out)⟩
    clear hE4 hg4 hin2 hH4 hc4 hf4 hP hgP hset hx hz
    go_wp2
    go_ret3
    refine ⟨_, rfl, ?_, HBP.out⟩
    have hp_ := HP.out
    rw [HNY.out] at hp_
    rw [← HE1.out, HRW.out]
    exact hp_

end Go.Proofs.Ytnccbebjligpdaa.PAll
