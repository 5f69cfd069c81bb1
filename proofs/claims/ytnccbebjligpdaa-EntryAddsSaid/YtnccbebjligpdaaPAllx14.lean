-- Printed out of the translation by a program; functions that were proved by hand stand among them. Lean checks it.
import Derived.Test.YtnccbebjligpdaaPAllx0
import Derived.Test.YtnccbebjligpdaaPAllx12
import Derived.Test.YtnccbebjligpdaaPAllx13
namespace Go.Proofs.Ytnccbebjligpdaa.PAll
open Go.RowKit Go.Proofs.YtnccbebjligpdaaW.PrintWords Go.Proofs.YtnccbebjligpdaaW.PrintLast Go.Proofs.YtnccbebjligpdaaW.PrintMore
open Go.Proofs.YtnccbebjligpdaaW.PrintWords renaming blk_drewN → zN, blk_drew → zD, blk_alloc → zA, below_alloc → zB, pw_below_drewN → zP, below_drew1 → zE, below_set → zS
attribute [local go_sem] max2_int min2_int max_two min_two max_three min_three max_four min_four   -- for this text's walks alone
set_option linter.unusedVariables false
set_option linter.unusedSimpArgs false

/-! ### drydockref10_Add: function 23 -/
def drydockref10_Add.l0 : Nat → List (List (S41)) → Int → Int → ByteArray → Option ((List (List (S41))) × Int × Int)
  | 0, _, _, _, _ => none
  | k + 1, x8, x9, x223000, x223001 => if x9 < (x8.length : Int) then (if 0 ≤ x9 then (if ((rd_L4 x8 x9).length : Int) < 3 then (if (rd_L4 x8 x9).length < 5864062014805 then (some ((x8.set (x9 : Int).toNat ((rd_L4 x8 x9) ++ [(⟨x223000, x223001⟩ : S41)])), x9, 0)) else (none)) else (drydockref10_Add.l0 k x8 (wrap64 (x9 + 1)) x223000 x223001)) else (none)) else (if (x8.length : Int) = 96 then (some (([] : List (List (S41))), 0, 11)) else (if x8.length < 5864062014805 then (some ((x8 ++ [(([(⟨x223000, x223001⟩ : S41)] : List (S41)))]), (x8.length : Int), 0)) else (none)))
def drydockref10_Add.f (k : Nat) (l0 : List (List (S41))) (a1_0 : Int) (a1_1 : ByteArray) : Option ((List (List (S41))) × Int × Int) := (drydockref10_check.f k l0 a1_0 a1_1).bind fun t223 => (if t223 = 0 then ((drydockref10_Find.f k l0 a1_1).bind fun bt224 => (if bt224.2.2 = 0 then (some (([] : List (List (S41))), 0, 5)) else ((drydockref10_Copy.f k l0).bind fun t227 => (drydockref10_Add.l0 k t227 0 a1_0 a1_1)))) else (some (([] : List (List (S41))), 0, t223)))
theorem drydockref10_Add.mono_l : ∀ k, (∀ y0 y1 y2 y3, LeO (drydockref10_Add.l0 k y0 y1 y2 y3) (drydockref10_Add.l0 (k + 1) y0 y1 y2 y3))
  | 0 => fun _ _ _ _ r h => by simp [drydockref10_Add.l0] at h
  | k + 1 => by
    have ih0 := drydockref10_Add.mono_l k
    · intro y0 y1 y2 y3
      unfold drydockref10_Add.l0
      repeat' first
      | (with_reducible exact ih0 _ _ _ _)
      | (with_reducible exact drydockref10_Copy.mono _ _)
      | (with_reducible exact drydockref10_Find.mono _ _ _)
      | (with_reducible exact drydockref10_check.mono _ _ _ _)
      | (with_reducible exact LeO.refl _)
      | (with_reducible exact LeO.none _)
      | (with_reducible refine LeO.ite ?_ ?_)
      | (with_reducible refine LeO.bind ?_ (fun _ => ?_))
      | exact ih0 _ _ _ _
      | exact drydockref10_Copy.mono _ _
      | exact drydockref10_Find.mono _ _ _
      | exact drydockref10_check.mono _ _ _ _
      | exact LeO.none _
      | refine LeO.ite ?_ ?_
      | refine LeO.bind ?_ (fun _ => ?_)
theorem drydockref10_Add.mono : ∀ a0 a1 a2 k, LeO (drydockref10_Add.f k a0 a1 a2) (drydockref10_Add.f (k + 1) a0 a1 a2) := by
  intro a0 a1 a2 k
  have ih0 := drydockref10_Add.mono_l k
  unfold drydockref10_Add.f
  repeat' first
      | (with_reducible exact ih0 _ _ _ _)
      | (with_reducible exact drydockref10_Copy.mono _ _)
      | (with_reducible exact drydockref10_Find.mono _ _ _)
      | (with_reducible exact drydockref10_check.mono _ _ _ _)
      | (with_reducible exact LeO.refl _)
      | (with_reducible exact LeO.none _)
      | (with_reducible refine LeO.ite ?_ ?_)
      | (with_reducible refine LeO.bind ?_ (fun _ => ?_))
      | exact ih0 _ _ _ _
      | exact drydockref10_Copy.mono _ _
      | exact drydockref10_Find.mono _ _ _
      | exact drydockref10_check.mono _ _ _ _
      | exact LeO.none _
      | refine LeO.ite ?_ ?_
      | refine LeO.bind ?_ (fun _ => ?_)
def drydockref10_Add.T12 : Bool × List (List Nat × List Nat) := (true, [([], []), ([], []), ([], []), ([], []), ([2, 3], [2, 3]), ([4], [4]), ([], []), ([6], [6]), ([5, 7], [5, 7]), ([0, 1, 0, 1, 2, 3, 4, 5, 6, 7, 8], [0, 1]), ([9, 8, 8, 0, 1, 2, 3, 4, 5, 6, 7, 8], [8, 9])])
def drydockref10_Add.B12 : List Nat := [0, 0, 0, 0, 12, 28, 0, 64, 252, 511, 1023]
theorem drydockref10_Add.tab12 : rtab .any (opsOf Try.f23 12) = drydockref10_Add.T12 := by kernel_rfl
theorem drydockref10_Add.bits12 : waitsOk drydockref10_Add.T12.2 drydockref10_Add.B12 = true := by kernel_rfl
set_option maxHeartbeats 8000000 in
set_option maxRecDepth 100000 in
theorem drydockref10_Add.calls (k : Nat) (A0 : Option Addr) (c0 : Nat) (l0 : List (List (S41))) (a1_0 : Int) (a1_1 : ByteArray) (r1 : List (List (S41))) (r2 : Int) (r3 : Int) (w : World) (hr0 : Kd.C (Kd.slice 41 k41) w A0 l0.length l0) (hc0 : l0.length ≤ c0) (h : drydockref10_Add.f k l0 a1_0 a1_1 = some (r1, r2, r3)) :
    Calls Try.prog 23 #[.slice A0 l0.length c0, .agg #[.int .i64 a1_0, .string a1_1]] w fun e w' => ∃ v0_ : Value, e = .returned (.tuple #[v0_, .int .i64 r2, .int .i64 r3]) ∧ Kd.S (Kd.slice 41 k41) 22 w' w.heap.size (fun _ => True) v0_ r1 ∧ Below w.heap.size w w' := by
  have hu41 := Try.underlying41
  have HR0 := Aside0.mk hr0
  have HC0 := Aside0.mk hc0
  clear hr0 hc0
  have HB := Aside0.mk (Below.refl w.heap.size w)
  have H : ((drydockref10_check.f k l0 a1_0 a1_1).bind fun t223 => (if t223 = 0 then ((drydockref10_Find.f k l0 a1_1).bind fun bt224 => (if bt224.2.2 = 0 then (some (([] : List (List (S41))), 0, 5)) else ((drydockref10_Copy.f k l0).bind fun t227 => (drydockref10_Add.l0 k t227 0 a1_0 a1_1)))) else (some (([] : List (List (S41))), 0, t223)))) = some (r1, r2, r3) := h
  clear h
  replace H := Option.bind_eq_some_iff.mp H
  obtain ⟨t223, A30, H⟩ := H
  replace H : (if t223 = 0 then ((drydockref10_Find.f k l0 a1_1).bind fun bt224 => (if bt224.2.2 = 0 then (some (([] : List (List (S41))), 0, 5)) else ((drydockref10_Copy.f k l0).bind fun t227 => (drydockref10_Add.l0 k t227 0 a1_0 a1_1)))) else (some (([] : List (List (S41))), 0, t223))) = some (r1, r2, r3) := H
  have A3 := Aside0.mk A30
  clear A30
  by_cases c4 : t223 = 0
  · rw [if_pos c4] at H
    have c4b0 : (t223 == 0) = true := beq_iff_eq.mpr c4
    have c4b1 : (t223 != 0) = false := bne_eq_false_iff_eq.mpr c4
    clear c4
    replace H := Option.bind_eq_some_iff.mp H
    obtain ⟨⟨t224, t225, t226⟩, A50, H⟩ := H
    replace H : (if t226 = 0 then (some (([] : List (List (S41))), 0, 5)) else ((drydockref10_Copy.f k l0).bind fun t227 => (drydockref10_Add.l0 k t227 0 a1_0 a1_1))) = some (r1, r2, r3) := H
    have A5 := Aside0.mk A50
    clear A50
    by_cases c6 : t226 = 0
    · rw [if_pos c6] at H
      have c6b0 : (t226 == 0) = true := beq_iff_eq.mpr c6
      have c6b1 : (t226 != 0) = false := bne_eq_false_iff_eq.mpr c6
      clear c6
      simp only [Option.some.injEq, Prod.mk.injEq] at H
      obtain ⟨rfl, rfl, rfl⟩ := H
      go_enter Try.func23, Try.ntmps23
      go_wp2_with (first | ((with_reducible refine gate_dst (N := 3) rfl ?_); refine box_event ?hg (N := 3) ?hd (cs := #[.int .i64 a1_0, .string a1_1]) (t := 41) ?hr ?_; (case hd => rfl); (case hg => rfl); (case hr => first | (go_simp; done) | (go_simp; rfl)); intro gb222 hg w7 hbox hb; have n0_ := Aside0.mk (below_step (by repeat (first | (with_reducible first | exact HB.out | apply zB | apply zP | apply zE) | exact HB.out)) hb); have n1_ := Aside0.mk (hbox); have n2_ := Aside0.mk ((by rw [hg]; exact (below_size (by repeat (first | (with_reducible first | exact HB.out | apply zB | apply zP | apply zE) | exact HB.out))) : w.heap.size ≤ gb222)); have n3_ := Aside0.mk ((by rw [hg]; exact (below_size (by repeat (first | (with_reducible first | exact HB.out | apply zB | apply zP | apply zE) | exact HB.out))) : w.heap.size ≤ gb222)); clear HB; have HB := n0_; have BK222 := n1_; have GW222 := n2_; have GE222 := n3_; clear n0_ n1_ n2_ n3_; clear hb hbox hg; have hcz8_0 : w7.cell? ⟨gb222, 0, none⟩ = some (.int .i64 a1_0) := (blk_cell BK222.out 0).trans rfl; have hcz8_1 : w7.cell? ⟨gb222, 1, none⟩ = some (.string a1_1) := (blk_cell BK222.out 1).trans rfl; have hfz8_0 := blk_frozen BK222.out 0; have hfz8_1 := blk_frozen BK222.out 1) | ((with_reducible refine gate_callee (f := 38) rfl ?_); refine goesL_ (some 12) rfl rfl Try.func38 (by kernel_rfl) rfl #[.slice A0 l0.length c0, .agg #[.int .i64 a1_0, .string a1_1]] rfl (by (try simp only [List.map_toArray, List.map_cons, List.map_nil]); first | done | rfl | (simp only [List.length_drop, List.length_take]; rfl)) ?_; (with_reducible refine (drydockref10_check.calls k _ _ l0 a1_0 a1_1 t223 _ ?side1 ?side2 A3.out).mono ?_); (case side1 => repeat (first | exact (Kd.C_below HR0.out HB.out) | (with_reducible refine Kd.C_alloc ?_ _) | (with_reducible refine Kd.C_drewN ?_ _) | (with_reducible refine Kd.C_drew ?_))); (case side2 => exact HC0.out); rintro e w9 ⟨rfl, hb⟩; refine ⟨_, rfl, ?_⟩; have n0_ := Aside0.mk (blk_below (g := gb222) (o := .cells #[.int .i64 a1_0, .string a1_1] 41 (0, 0)) (by (with_reducible repeat (first | refine zN ?_ _ | refine zD ?_ | refine zA ?_ _)); exact BK222.out) hb); have n1_ := Aside0.mk (below_step (by repeat (first | (with_reducible first | exact HB.out | apply zB | apply zP | apply zE | refine zS ?_ GE222.out) | exact HB.out)) hb); clear BK222; clear HB; have BK222 := n0_; have HB := n1_; clear n0_ n1_; (try clear hb); (try clear hb2); (try clear hk); (try clear hi); have hcz10_0 : w9.cell? ⟨gb222, 0, none⟩ = some (.int .i64 a1_0) := (blk_cell BK222.out 0).trans rfl; have hcz10_1 : w9.cell? ⟨gb222, 1, none⟩ = some (.string a1_1) := (blk_cell BK222.out 1).trans rfl; have hfz10_0 := blk_frozen BK222.out 0; have hfz10_1 := blk_frozen BK222.out 1) | ((with_reducible refine gate_callee (f := 21) rfl ?_); refine goesL_ (some 20) rfl rfl Try.func21 (by kernel_rfl) rfl #[.slice A0 l0.length c0, .string a1_1] rfl (by (try simp only [List.map_toArray, List.map_cons, List.map_nil]); first | done | rfl | (simp only [List.length_drop, List.length_take]; rfl)) ?_; (with_reducible refine (drydockref10_Find.calls k _ _ l0 a1_1 t224 t225 t226 _ ?side1 ?side2 A5.out).mono ?_); (case side1 => repeat (first | exact (Kd.C_below HR0.out HB.out) | (with_reducible refine Kd.C_alloc ?_ _) | (with_reducible refine Kd.C_drewN ?_ _) | (with_reducible refine Kd.C_drew ?_))); (case side2 => exact HC0.out); rintro e w11 ⟨rfl, hb⟩; refine ⟨_, rfl, ?_⟩; have n0_ := Aside0.mk (blk_below (g := gb222) (o := .cells #[.int .i64 a1_0, .string a1_1] 41 (0, 0)) (by (with_reducible repeat (first | refine zN ?_ _ | refine zD ?_ | refine zA ?_ _)); exact BK222.out) hb); have n1_ := Aside0.mk (below_step (by repeat (first | (with_reducible first | exact HB.out | apply zB | apply zP | apply zE | refine zS ?_ GE222.out) | exact HB.out)) hb); clear BK222; clear HB; have BK222 := n0_; have HB := n1_; clear n0_ n1_; (try clear hb); (try clear hb2); (try clear hk); (try clear hi)))
      go_ret3
      exact ⟨_, by first | rfl | (simp [errW_none, errW_some] <;> rfl) | (simp [*, errW_none, errW_some] <;> rfl), by first | exact Kd.S_nil _ _ _ _ _ | exact Kd.N_nil _ _ _ _ _ | exact Kd.V_nil _ _ _ _ _ | exact Kd.Q_nil _ _ _ _ _ | exact Kd.R_nil _ _ _ _ _, by repeat (first | (with_reducible first | exact HB.out | apply zB | apply zP | apply zE | refine zS ?_ GE222.out) | exact HB.out)⟩
    · rw [if_neg c6] at H
      have c6b0 : (t226 == 0) = false := beq_eq_false_iff_ne.mpr c6
      have c6b1 : (t226 != 0) = true := bne_iff_ne.mpr c6
      replace H := Option.bind_eq_some_iff.mp H
      obtain ⟨t227, A120, H⟩ := H
      replace H : (drydockref10_Add.l0 k t227 0 a1_0 a1_1) = some (r1, r2, r3) := H
      have A12 := Aside0.mk A120
      clear A120
      have H' := Aside0.mk H
      clear H
      go_enter Try.func23, Try.ntmps23
      go_wp2_with (first | ((with_reducible refine gate_dst (N := 3) rfl ?_); refine box_event ?hg (N := 3) ?hd (cs := #[.int .i64 a1_0, .string a1_1]) (t := 41) ?hr ?_; (case hd => rfl); (case hg => rfl); (case hr => first | (go_simp; done) | (go_simp; rfl)); intro gb222 hg w13 hbox hb; have n0_ := Aside0.mk (below_step (by repeat (first | (with_reducible first | exact HB.out | apply zB | apply zP | apply zE) | exact HB.out)) hb); have n1_ := Aside0.mk (hbox); have n2_ := Aside0.mk ((by rw [hg]; exact (below_size (by repeat (first | (with_reducible first | exact HB.out | apply zB | apply zP | apply zE) | exact HB.out))) : w.heap.size ≤ gb222)); have n3_ := Aside0.mk ((by rw [hg]; exact (below_size (by repeat (first | (with_reducible first | exact HB.out | apply zB | apply zP | apply zE) | exact HB.out))) : w.heap.size ≤ gb222)); clear HB; have HB := n0_; have BK222 := n1_; have GW222 := n2_; have GE222 := n3_; clear n0_ n1_ n2_ n3_; clear hb hbox hg; have hcz14_0 : w13.cell? ⟨gb222, 0, none⟩ = some (.int .i64 a1_0) := (blk_cell BK222.out 0).trans rfl; have hcz14_1 : w13.cell? ⟨gb222, 1, none⟩ = some (.string a1_1) := (blk_cell BK222.out 1).trans rfl; have hfz14_0 := blk_frozen BK222.out 0; have hfz14_1 := blk_frozen BK222.out 1) | ((with_reducible refine gate_callee (f := 38) rfl ?_); refine goesL_ (some 12) rfl rfl Try.func38 (by kernel_rfl) rfl #[.slice A0 l0.length c0, .agg #[.int .i64 a1_0, .string a1_1]] rfl (by (try simp only [List.map_toArray, List.map_cons, List.map_nil]); first | done | rfl | (simp only [List.length_drop, List.length_take]; rfl)) ?_; (with_reducible refine (drydockref10_check.calls k _ _ l0 a1_0 a1_1 t223 _ ?side1 ?side2 A3.out).mono ?_); (case side1 => repeat (first | exact (Kd.C_below HR0.out HB.out) | (with_reducible refine Kd.C_alloc ?_ _) | (with_reducible refine Kd.C_drewN ?_ _) | (with_reducible refine Kd.C_drew ?_))); (case side2 => exact HC0.out); rintro e w15 ⟨rfl, hb⟩; refine ⟨_, rfl, ?_⟩; have n0_ := Aside0.mk (blk_below (g := gb222) (o := .cells #[.int .i64 a1_0, .string a1_1] 41 (0, 0)) (by (with_reducible repeat (first | refine zN ?_ _ | refine zD ?_ | refine zA ?_ _)); exact BK222.out) hb); have n1_ := Aside0.mk (below_step (by repeat (first | (with_reducible first | exact HB.out | apply zB | apply zP | apply zE | refine zS ?_ GE222.out) | exact HB.out)) hb); clear BK222; clear HB; have BK222 := n0_; have HB := n1_; clear n0_ n1_; (try clear hb); (try clear hb2); (try clear hk); (try clear hi); have hcz16_0 : w15.cell? ⟨gb222, 0, none⟩ = some (.int .i64 a1_0) := (blk_cell BK222.out 0).trans rfl; have hcz16_1 : w15.cell? ⟨gb222, 1, none⟩ = some (.string a1_1) := (blk_cell BK222.out 1).trans rfl; have hfz16_0 := blk_frozen BK222.out 0; have hfz16_1 := blk_frozen BK222.out 1) | ((with_reducible refine gate_callee (f := 21) rfl ?_); refine goesL_ (some 20) rfl rfl Try.func21 (by kernel_rfl) rfl #[.slice A0 l0.length c0, .string a1_1] rfl (by (try simp only [List.map_toArray, List.map_cons, List.map_nil]); first | done | rfl | (simp only [List.length_drop, List.length_take]; rfl)) ?_; (with_reducible refine (drydockref10_Find.calls k _ _ l0 a1_1 t224 t225 t226 _ ?side1 ?side2 A5.out).mono ?_); (case side1 => repeat (first | exact (Kd.C_below HR0.out HB.out) | (with_reducible refine Kd.C_alloc ?_ _) | (with_reducible refine Kd.C_drewN ?_ _) | (with_reducible refine Kd.C_drew ?_))); (case side2 => exact HC0.out); rintro e w17 ⟨rfl, hb⟩; refine ⟨_, rfl, ?_⟩; have n0_ := Aside0.mk (blk_below (g := gb222) (o := .cells #[.int .i64 a1_0, .string a1_1] 41 (0, 0)) (by (with_reducible repeat (first | refine zN ?_ _ | refine zD ?_ | refine zA ?_ _)); exact BK222.out) hb); have n1_ := Aside0.mk (below_step (by repeat (first | (with_reducible first | exact HB.out | apply zB | apply zP | apply zE | refine zS ?_ GE222.out) | exact HB.out)) hb); clear BK222; clear HB; have BK222 := n0_; have HB := n1_; clear n0_ n1_; (try clear hb); (try clear hb2); (try clear hk); (try clear hi)) | ((with_reducible refine gate_callee (f := 42) rfl ?_); refine goesL_ (some 27) rfl rfl Try.func42 (by kernel_rfl) rfl #[.slice A0 l0.length c0] rfl (by (try simp only [List.map_toArray, List.map_cons, List.map_nil]); first | done | rfl | (simp only [List.length_drop, List.length_take]; rfl)) ?_; (with_reducible refine (drydockref10_Copy.calls k _ _ l0 t227 _ ?side1 ?side2 A12.out).mono ?_); (case side1 => repeat (first | exact (Kd.C_below HR0.out HB.out) | (with_reducible refine Kd.C_alloc ?_ _) | (with_reducible refine Kd.C_drewN ?_ _) | (with_reducible refine Kd.C_drew ?_))); (case side2 => exact HC0.out); rintro e w18 ⟨v228, rfl, ho0, hb⟩; refine ⟨_, rfl, ?_⟩; have n0_ := Aside0.mk (Kd.S_lower (Kd.S_newB ho0 (g := gb222) (o := .cells #[.int .i64 a1_0, .string a1_1] 41 (0, 0)) (by (with_reducible repeat (first | refine zN ?_ _ | refine zD ?_ | refine zA ?_ _)); exact BK222.out)) (below_size (by repeat (first | (with_reducible first | exact HB.out | apply zB | apply zP | apply zE | refine zS ?_ GE222.out) | exact HB.out)))); have n1_ := Aside0.mk (blk_below (g := gb222) (o := .cells #[.int .i64 a1_0, .string a1_1] 41 (0, 0)) (by (with_reducible repeat (first | refine zN ?_ _ | refine zD ?_ | refine zA ?_ _)); exact BK222.out) hb); have n2_ := Aside0.mk (below_step (by repeat (first | (with_reducible first | exact HB.out | apply zB | apply zP | apply zE | refine zS ?_ GE222.out) | exact HB.out)) hb); clear BK222; clear HB; have HO229 := n0_; have BK222 := n1_; have HB := n2_; clear n0_ n1_ n2_; (try clear hb); (try clear hb2); (try clear hk); (try clear hi); (try clear ho0)))
      go_loopg [9] k (fun kq v9 w' => ∃ (x8_1 : List (List (S41))) (x9_1 : Int), v9 = .int .i64 x9_1 ∧ Aside0 (drydockref10_Add.l0 kq x8_1 x9_1 a1_0 a1_1 = some (r1, r2, r3)) ∧ Aside0 (kq ≤ k) ∧ Aside0 (Kd.S (Kd.slice 41 k41) 22 w' w.heap.size (fun k_ => k_ ≠ gb222) v228 x8_1) ∧ Aside0 (w'.heap[gb222]? = some (.cells #[.int .i64 a1_0, .string a1_1] 41 (0, 0))) ∧ Aside0 (Below w.heap.size w w'))
      case atStart => exact ⟨(t227), (0), (by first | rfl | (simp; done) | (simp [*]; done)), H', ⟨Nat.le_refl _⟩, ⟨by (with_reducible repeat (first | apply Kd.S_alloc | apply Kd.S_drewN | apply Kd.S_drew)); exact Kd.S_mono HO229.out (fun _ hk => hk.2)⟩, ⟨by (with_reducible repeat (first | refine zN ?_ _ | refine zD ?_ | refine zA ?_ _)); exact BK222.out⟩, ⟨by repeat (first | (with_reducible first | exact HB.out | apply zB | apply zP | apply zE | refine zS ?_ GE222.out) | exact HB.out)⟩⟩
      case round =>
        clear H'
        try clear c2
        try clear p2
        try clear c3
        try clear c4
        try clear c4b0
        try clear c4b1
        try clear c6
        try clear c6b0
        try clear c6b1
        try clear hcz10_0
        try clear hcz10_1
        try clear hcz14_0
        try clear hcz14_1
        try clear hcz16_0
        try clear hcz16_1
        try clear hcz8_0
        try clear hcz8_1
        try clear hfz10_0
        try clear hfz10_1
        try clear hfz14_0
        try clear hfz14_1
        try clear hfz16_0
        try clear hfz16_1
        try clear hfz8_0
        try clear hfz8_1
        obtain ⟨x8_1, x9_1, rfl, HA, HK1, HO_8, BK222, HB⟩ := hrel
        cases gk with
        | zero => exact absurd HA.out (by simp [drydockref10_Add.l0])
        | succ k1 =>
          have H := HA.out
          clear HA
          simp only [drydockref10_Add.l0] at H
          by_cases c19 : x9_1 < (x8_1.length : Int)
          · rw [if_pos c19] at H
            have c19b0 : decide (x9_1 < (x8_1.length : Int)) = true := decide_eq_true c19
            clear c19
            by_cases c20 : 0 ≤ x9_1
            · rw [if_pos c20] at H
              have c20b0 : decide (0 ≤ x9_1) = true := decide_eq_true c20
              clear c20
              by_cases c21 : ((rd_L4 x8_1 x9_1).length : Int) < 3
              · rw [if_pos c21] at H
                have c21b0 : decide (((rd_L4 x8_1 x9_1).length : Int) < 3) = true := decide_eq_true c21
                have c21b1 : decide ((rd_L4 x8_1 x9_1).length < 3) = true := decide_eq_true (by omega)
                clear c21
                by_cases c22 : (rd_L4 x8_1 x9_1).length < 5864062014805
                · rw [if_pos c22] at H
                  have LMc22 := Aside0.mk c22
                  clear c22
                  obtain ⟨y232, hy232⟩ : ∃ y_ : List (S41), y_ = ((rd_L4 x8_1 x9_1) ++ [(⟨a1_0, a1_1⟩ : S41)]) := ⟨_, rfl⟩
                  replace H : (some ((x8_1.set (x9_1 : Int).toNat y232), x9_1, 0)) = some (r1, r2, r3) := by first | (rw [hy232]; with_reducible exact H) | (have H2_ := (Option.bind_some _ _).symm.trans H; rw [hy232]; with_reducible exact H2_) | (have H2_ := (Option.bind_some _ _).symm.trans H; with_reducible exact H2_) | with_reducible exact H | (rw [hy232]; exact H) | exact H
                  have Ny232 := Aside0.mk hy232
                  clear hy232
                  obtain ⟨y235, hy235⟩ : ∃ y_ : List (List (S41)), y_ = (x8_1.set (x9_1 : Int).toNat y232) := ⟨_, rfl⟩
                  replace H : (some (y235, x9_1, 0)) = some (r1, r2, r3) := by first | (rw [hy235]; with_reducible exact H) | (have H2_ := (Option.bind_some _ _).symm.trans H; rw [hy235]; with_reducible exact H2_) | (have H2_ := (Option.bind_some _ _).symm.trans H; with_reducible exact H2_) | with_reducible exact H | (rw [hy235]; exact H) | exact H
                  have Ny235 := Aside0.mk hy235
                  clear hy235
                  simp only [Option.some.injEq, Prod.mk.injEq] at H
                  obtain ⟨rfl, rfl, rfl⟩ := H
                  obtain ⟨Ao24, co24, eo24⟩ := Kd.S_slice HO_8.out
                  subst eo24
                  have p230 : 0 ≤ (x9_1 : Int) := of_decide_eq_true (by first | (with_reducible assumption) | assumption)
                  have q230 : x9_1 < (x8_1.length : Int) := of_decide_eq_true (by first | (with_reducible assumption) | assumption)
                  obtain ⟨ad230, A230_0, c230_0, e230, hx230_0, hl230_0, hi230_0⟩ := at_L4 (Kd.S_reads' HO_8.out).2.2 x9_1 p230 q230
                  cases e230
                  obtain ⟨ce230, hce230, hMe230, hcc230⟩ := Kd.S_get HO_8.out [] x9_1 p230 (by first | exact q230 | exact of_decide_eq_true (by first | (with_reducible assumption) | assumption) | (have e_ := (Kd.S_reads' HO_8.out).1; omega))
                  obtain ⟨ve230_0, rfl, ge230_0⟩ := hMe230
                  have hv230_0 := hcc230 0 _ rfl
                  rw [Nat.add_zero, show ((Kd.slice 41 k41)).sz = 1 from rfl, Nat.mul_one] at hv230_0
                  replace hv230_0 := Option.some.inj (hv230_0.symm.trans hx230_0)
                  rw [hv230_0] at ge230_0
                  have HL230_0 := Aside0.mk (show Kd.R k41 41 _ _ _ _ (rd_L4 x8_1 x9_1) from ge230_0)
                  clear hv230_0 ge230_0
                  have HX230_0 := Aside0.mk hx230_0
                  clear hcc230 hce230
                  have HR230_0 := Aside0.mk hi230_0
                  have HC230_0 := Aside0.mk hl230_0
                  clear hi230_0 hl230_0
                  replace p230 := eq_true p230
                  replace q230 := eq_true q230
                  try go_wp2
                  have n0_ := Aside0.mk (Kd.S_drew HO_8.out)
                  have n1_ := Aside0.mk (Kd.R_drew HL230_0.out)
                  have n2_ := Aside0.mk (zD BK222.out)
                  have n3_ := Aside0.mk (Kd.C_drew HR230_0.out)
                  have n4_ := Aside0.mk (zE HB.out)
                  clear HO_8
                  clear HL230_0
                  clear BK222
                  clear HR230_0
                  clear HB
                  have HO_8 := n0_
                  have HL230_0 := n1_
                  have BK222 := n2_
                  have HR230_0 := n3_
                  have HB := n4_
                  clear n0_ n1_ n2_ n3_ n4_
                  have p231 : 0 ≤ (x9_1 : Int) := of_decide_eq_true (by first | (with_reducible assumption) | assumption)
                  have q231 : x9_1 < (x8_1.length : Int) := of_decide_eq_true (by first | (with_reducible assumption) | assumption)
                  obtain ⟨ad231, A231_0, c231_0, e231, hx231_0, hl231_0, hi231_0⟩ := at_L4 (Kd.S_reads' HO_8.out).2.2 x9_1 p231 q231
                  obtain rfl : ad230 = ad231 := (by injection e231)
                  obtain ⟨ce231, hce231, hMe231, hcc231⟩ := Kd.S_get HO_8.out [] x9_1 p231 (by first | exact q231 | exact of_decide_eq_true (by first | (with_reducible assumption) | assumption) | (have e_ := (Kd.S_reads' HO_8.out).1; omega))
                  obtain ⟨ve231_0, rfl, ge231_0⟩ := hMe231
                  have hv231_0 := hcc231 0 _ rfl
                  rw [Nat.add_zero, show ((Kd.slice 41 k41)).sz = 1 from rfl, Nat.mul_one] at hv231_0
                  replace hv231_0 := Option.some.inj (hv231_0.symm.trans hx231_0)
                  rw [hv231_0] at ge231_0
                  have HL231_0 := Aside0.mk (show Kd.R k41 41 _ _ _ _ (rd_L4 x8_1 x9_1) from ge231_0)
                  clear hv231_0 ge231_0
                  have HX231_0 := Aside0.mk hx231_0
                  clear hcc231 hce231
                  have HR231_0 := Aside0.mk hi231_0
                  have HC231_0 := Aside0.mk hl231_0
                  clear hi231_0 hl231_0
                  replace p231 := eq_true p231
                  replace q231 := eq_true q231
                  obtain ⟨go26, co26, eo26, gb26, gl26, cl26, HG26⟩ := Kd.S_form HO_8.out (by have h_ : (x9_1 : Int) < ((x8_1.length : Int) : Int) := of_decide_eq_true (by first | (with_reducible assumption) | assumption); have h2_ : 0 ≤ (x9_1 : Int) := (of_decide_eq_true (by first | (with_reducible assumption) | assumption)); omega)
                  (first | cases eo26 | (injection eo26 with ea_ en_ ec_; (first | subst ea_ | (injection ea_ with ea_; subst ea_)); subst ec_; clear en_))
                  have GB26 := Aside0.mk gb26
                  have GG26 := Aside0.mk HG26
                  clear gb26 gl26 HG26
                  (first | simp only [add_plain] at hx230_0 | skip)
                  (first | simp only [add_plain] at hx231_0 | skip)
                  obtain ⟨oki26, ce26, hcl26, hM26, hcc26, _, _, hH26⟩ := Kd.S_elem HO_8.out [] (x9_1 : Int) (of_decide_eq_true (by first | (with_reducible assumption) | assumption)) (by have h_ : (x9_1 : Int) < ((x8_1.length : Int) : Int) := of_decide_eq_true (by first | (with_reducible assumption) | assumption); first | exact h_ | (have e_ := (Kd.S_reads' HO_8.out).1; omega) | simpa using h_)
                  obtain ⟨ve26_0, rfl, ge26_0⟩ := hM26
                  have hv26 := hcc26 0 _ rfl
                  have hX26 := HX231_0.out
                  (try simp only [add_plain] at hX26)
                  (try simp only [Nat.add_zero] at hv26)
                  (try rw [show ((Kd.slice 41 k41)).sz = 1 from rfl, Nat.mul_one] at hv26)
                  replace hv26 := Option.some.inj (hv26.symm.trans hX26)
                  subst hv26
                  clear hX26 hcc26 hcl26
                  have UU26 := Aside0.mk (show Kd.R k41 41 _ w.heap.size oki26 (.slice A231_0 (rd_L4 x8_1 x9_1).length c231_0) (rd_L4 x8_1 x9_1) from ge26_0)
                  have HH26 := Aside0.mk hH26
                  have HN26 := Aside0.mk (Kd.S_reads' HO_8.out).1
                  clear hH26 ge26_0
                  refine start_ (n := 11) (S := fun w' => w'.cell? ⟨gb222, 0, none⟩ = some (.int .i64 a1_0) ∧ w'.cell? ⟨gb222, 1, none⟩ = some (.string a1_1) ∧ w'.cell? ⟨go26, (x9_1).toNat, none⟩ = some (.slice A231_0 (rd_L4 x8_1 x9_1).length c231_0)) (ds := [10]) #[false, false, false, false, false, false, false, false, false, false, false] (by kernel_rfl) rfl rfl ⟨(blk_cell BK222.out 0).trans rfl, (blk_cell BK222.out 1).trans rfl, hx231_0⟩ (fun hHeld => ?_); refine with_tabW drydockref10_Add.tab12 drydockref10_Add.bits12 (fun HT_ HW_ => ?_)
                  generalize wr.drew = w25 at HO_8 HL230_0 BK222 HR230_0 HB GG26 HH26 HL231_0 HR231_0 HX231_0 UU26 hx230_0 hx231_0 hHeld ⊢
                  refine pure_ (i := 0) (N := some 40) (v := ?_) (a' := ?_) #[true, false, false, false, false, false, false, false, false, false, false] rfl rfl (any_of HT_.out (by kernel_rfl)) (fun _ _ _ h => h) (Or.inl ⟨by rfl, ?_⟩) ?_ ?_
                  rotate_left
                  · intro w'
                    go_simp
                    with_reducible rfl
                  rotate_left
                  · simp only [Act.put, List.setIfInBounds_toArray, List.set_cons_zero, List.set_cons_succ, i64_w, i32_w]
                    rfl
                  refine pure_ (i := 1) (N := some 41) (v := ?_) (a' := ?_) #[true, true, false, false, false, false, false, false, false, false, false] rfl rfl (any_of HT_.out (by kernel_rfl)) (fun _ _ _ h => h) (Or.inl ⟨by rfl, ?_⟩) ?_ ?_
                  rotate_left
                  · intro w'
                    go_simp
                    with_reducible rfl
                  rotate_left
                  · simp only [Act.put, List.setIfInBounds_toArray, List.set_cons_zero, List.set_cons_succ, i64_w, i32_w]
                    rfl
                  refine pure_ (i := 2) (N := some 42) (v := ?_) (a' := ?_) #[true, true, true, false, false, false, false, false, false, false, false] rfl rfl (any_of HT_.out (by kernel_rfl)) (fun _ _ _ h => h) (Or.inl ⟨by rfl, ?_⟩) ?_ ?_
                  rotate_left
                  · intro w'
                    go_simp
                    with_reducible rfl
                  rotate_left
                  · simp only [Act.put, List.setIfInBounds_toArray, List.set_cons_zero, List.set_cons_succ, i64_w, i32_w]
                    rfl
                  refine pure_ (i := 3) (N := some 43) (v := ?_) (a' := ?_) #[true, true, true, true, false, false, false, false, false, false, false] rfl rfl (any_of HT_.out (by kernel_rfl)) (fun _ _ _ h => h) (Or.inl ⟨by rfl, ?_⟩) ?_ ?_
                  rotate_left
                  · intro w'
                    go_simp
                    with_reducible rfl
                  rotate_left
                  · simp only [Act.put, List.setIfInBounds_toArray, List.set_cons_zero, List.set_cons_succ, i64_w, i32_w]
                    rfl
                  refine pure_ (i := 4) (N := some 44) (v := ?_) (a' := ?_) #[true, true, true, true, true, false, false, false, false, false, false] rfl rfl (any_of HT_.out (by kernel_rfl)) (fun _ _ _ h => h) (Or.inl ⟨by rfl, ?_⟩) ?_ ?_
                  rotate_left
                  · intro w'
                    go_simp
                    with_reducible rfl
                  rotate_left
                  · simp only [Act.put, List.setIfInBounds_toArray, List.set_cons_zero, List.set_cons_succ, i64_w, i32_w]
                    rfl
                  refine take_ (i := 5) (N := some 45) (v := ?_) (a' := ?_) #[true, true, true, true, true, true, false, false, false, false, false] rfl rfl (take_ofW HT_.out HW_.out (by kernel_rfl)) (fun _ _ _ h => h) (Or.inl ⟨by rfl, ?_⟩) hHeld ?_ ?_
                  rotate_left
                  · rintro w' ⟨s0, s1, s2⟩
                    go_simp
                    with_reducible rfl
                  rotate_left
                  · simp only [Act.put, List.setIfInBounds_toArray, List.set_cons_zero, List.set_cons_succ, i64_w, i32_w]
                    rfl
                  refine take_ (i := 6) (N := some 46) (v := ?_) (a' := ?_) #[true, true, true, true, true, true, true, false, false, false, false] rfl rfl (take_ofW HT_.out HW_.out (by kernel_rfl)) (fun _ _ _ h => h) (Or.inl ⟨by rfl, ?_⟩) hHeld ?_ ?_
                  rotate_left
                  · rintro w' ⟨s0, s1, s2⟩
                    go_simp
                    with_reducible rfl
                  rotate_left
                  · simp only [Act.put, List.setIfInBounds_toArray, List.set_cons_zero, List.set_cons_succ, i64_w, i32_w]
                    rfl
                  refine one_ (i := 7) (N := some 47) #[true, true, true, true, true, true, true, true, false, false, false] rfl rfl (one_of HT_.out (by kernel_rfl)) (by decide) (fun K hK => ?_)
                  refine value_ (w1 := ?_) (v := ?_) (by rfl) rfl ?_ ?_
                  rotate_left 2
                  · go_simp
                    constructor
                    · rfl
                    · rfl
                  refine hK.out _ _ ⟨(blk_cell (zA BK222.out _) 0).trans rfl, (blk_cell (zA BK222.out _) 1).trans rfl, (World.cell?_alloc_lt _ _ _ (World.block_lt_of_cell? _ _ (hHeld.2.2))).trans (hHeld.2.2)⟩ (fun hHeld => ?_)
                  clear hK K
                  refine norm_ (a' := ?_) ?_ ?_
                  rotate_left
                  · show Act.put _ (some 47) _ = _
                    simp only [Act.put, List.setIfInBounds_toArray, List.set_cons_zero, List.set_cons_succ, i64_w, i32_w]
                    rfl
                  refine one_ (i := 8) (N := some 48) #[true, true, true, true, true, true, true, true, true, false, false] rfl rfl (one_of HT_.out (by kernel_rfl)) (by decide) (fun K hK => ?_)
                  refine Kd.R_append_step k41 (w0 := w) w.heap.size (by rfl) (.tmp 45) (.tmp 47) 22 41 (.agg #[(.int .i64 0), (.string ⟨#[]⟩)]) 24 rfl Try.underlying22 info41 rfl (by decide) (by omega) (.slice A231_0 (rd_L4 x8_1 x9_1).length c231_0) (rd_L4 x8_1 x9_1) (⟨a1_0, a1_1⟩ : S41) [.int .i64 a1_0, .string a1_1] (fun k_ => oki26 k_ ∨ ((fun k_ => k_ ≠ gb222)) k_ ∧ w25.heap.size ≤ k_) (fun _ => False) rfl rfl ?aP (fun _ hk => hk.elim) ?aF ?aO ?aB ?aS ?aL ?_
                  (case aP => exact k41_mkM _ _ _ (⟨a1_0, a1_1⟩ : S41))
                  (case aB => exact (by repeat (first | (with_reducible first | exact HB.out | apply zB | apply zP | apply zE | refine zS ?_ GE222.out) | exact HB.out)))
                  (case aF => exact (fun k_ hk => .inr ⟨Kd.freshB (g := gb222) (o := .cells #[.int .i64 a1_0, .string a1_1] 41 (0, 0)) (by (with_reducible repeat (first | refine zN ?_ _ | refine zD ?_ | refine zA ?_ _)); exact BK222.out) k_ hk, hk⟩))
                  (case aO => exact (by (with_reducible repeat (first | apply Kd.R_alloc | apply Kd.R_drewN | apply Kd.R_drew)); exact Kd.R_mono UU26.out (fun _ hk => .inl hk)))
                  (case aS => exact (below_size (by repeat (first | (with_reducible first | exact HB.out | apply zB | apply zP | apply zE | refine zS ?_ GE222.out) | exact HB.out))))
                  (case aL => have hL_ := LMc22.out; first | omega | exact Nat.le_of_lt hL_)
                  intro v233 w27 ho hb hg hat
                  (first | have HS2_ := cell_grown hg (hHeld.2.2) (by first | (rw [add_block]; exact (fun e_ => ((HL231_0.out.1 _ e_.symm).2) rfl)) | (show some (Addr.add _ _).block ≠ _; rw [add_block]; exact (fun e_ => ((HL231_0.out.1 _ e_.symm).2) rfl)) | exact (fun e_ => ((HL231_0.out.1 _ e_.symm).2) rfl)) | have HS2_ := cell_grown hg (cell_unalloc (hHeld.2.2) (by first | (rw [add_block]; exact Kd.S_lt HO_8.out _ rfl) | (show (Addr.add _ _).block < _; rw [add_block]; exact Kd.S_lt HO_8.out _ rfl) | exact Kd.S_lt HO_8.out _ rfl)) (by first | (rw [add_block]; exact (fun e_ => ((HL231_0.out.1 _ e_.symm).2) rfl)) | (show some (Addr.add _ _).block ≠ _; rw [add_block]; exact (fun e_ => ((HL231_0.out.1 _ e_.symm).2) rfl)) | exact (fun e_ => ((HL231_0.out.1 _ e_.symm).2) rfl)))
                  rw [← Ny232.out] at ho
                  have n0_ := Aside0.mk (blk_grown (g := gb222) (o := .cells #[.int .i64 a1_0, .string a1_1] 41 (0, 0)) (by (with_reducible repeat (first | refine zN ?_ _ | refine zD ?_ | refine zA ?_ _)); exact BK222.out) hg (Kd.R_away HL231_0.out (fun _ hk => hk.1)))
                  have n1_ := Aside0.mk (hb)
                  have n2_ := Aside0.mk (Kd.H_grown (Kd.H_widen (by repeat (first | exact HH26.out | refine Kd.H_alloc ?_ _ | refine Kd.H_drewN ?_ _ | refine Kd.H_drew ?_))) hg (fun k_ e_ => .inl (UU26.out.1 k_ e_)))
                  have n3_ := Aside0.mk (ho)
                  clear BK222
                  clear HB
                  clear HH26
                  clear HO_8
                  clear UU26
                  clear HL230_0
                  clear HL231_0
                  have BK222 := n0_
                  have HB := n1_
                  have HH26 := n2_
                  have HO234 := n3_
                  clear n0_ n1_ n2_ n3_
                  clear ho hb hg hat
                  have p23 : 0 ≤ (x9_1 : Int) := of_decide_eq_true (by first | (with_reducible assumption) | assumption)
                  have q23 : (x9_1 : Int) < ((x8_1.length : Int) : Int) := of_decide_eq_true (by first | (with_reducible assumption) | assumption)
                  replace p23 := eq_true p23
                  replace q23 := eq_true q23
                  obtain ⟨Ao30, co30, eo30⟩ := Kd.R_slice HO234.out
                  (first | subst eo30 | (injection eo30 with f1_ f2_ f3_; have f4_ := f1_.symm; have f5_ := f3_.symm; clear f1_ f2_ f3_; subst f4_; subst f5_))
                  obtain ⟨_, _, hraw28, _, _, hcc28, _⟩ := Kd.H_raw HH26.out (of_decide_eq_true (by first | (with_reducible assumption) | assumption)) (by have h_ : (x9_1 : Int) < ((x8_1.length : Int) : Int) := of_decide_eq_true (by first | (with_reducible assumption) | assumption); first | exact h_ | (have e_ := (HN26.out); omega) | simpa using h_)
                  obtain ⟨_, hfr28⟩ := Kd.H_at HH26.out (of_decide_eq_true (by first | (with_reducible assumption) | assumption)) (by have h_ : (x9_1 : Int) < ((x8_1.length : Int) : Int) := of_decide_eq_true (by first | (with_reducible assumption) | assumption); first | exact h_ | (have e_ := (HN26.out); omega) | simpa using h_)
                  have hx28_0 := hcc28 0 _ rfl
                  have hf28_0 := hfr28 0
                  (try simp only [Nat.add_zero] at hx28_0 hf28_0)
                  (try rw [show ((Kd.slice 41 k41)).sz = 1 from rfl, Nat.mul_one] at hx28_0)
                  (try rw [show ((Kd.slice 41 k41)).sz = 1 from rfl, Nat.mul_one] at hf28_0)
                  have HP28 := Kd.S_seg0 HH26.out (of_decide_eq_true (by first | (with_reducible assumption) | assumption)) (by have h_ : (x9_1 : Int) < ((x8_1.length : Int) : Int) := of_decide_eq_true (by first | (with_reducible assumption) | assumption); first | exact h_ | (have e_ := (HN26.out); omega) | simpa using h_) (seg := [.slice Ao30 y232.length co30]) (j := 0) (show 1 ≤ 1 from by decide) (x' := y232) (Kd.M_row HO234.out) (fun _ hk => hk)
                  (try simp only [show ((Kd.slice 41 k41)).sz = 1 from rfl, Nat.mul_one, Nat.add_zero] at HP28)
                  clear hcc28 hfr28
                  have HNB222_go26 := Aside0.mk (show gb222 ≠ go26 from by have h_ := Kd.R_ne hraw28 BK222.out (by decide); intro e_; exact h_ (by rw [e_]; rfl))
                  have HS28 := HP28.1
                  rw [← Ny235.out] at HS28
                  have HQ28 := Aside0.mk HS28
                  obtain ⟨_, hgg28⟩ := Kd.R_typed hraw28 go26 rfl
                  have GG28_ := Aside0.mk hgg28
                  clear HP28 HS28 hgg28
                  refine hK.out _ _ ⟨(blk_cell BK222.out 0).trans rfl, (blk_cell BK222.out 1).trans rfl, HS2_⟩ (fun hHeld => ?_)
                  clear hK K
                  refine norm_ (a' := ?_) ?_ ?_
                  rotate_left
                  · show Act.put _ (some 48) _ = _
                    simp only [Act.put, List.setIfInBounds_toArray, List.set_cons_zero, List.set_cons_succ, i64_w, i32_w]
                    rfl
                  refine pure_ (i := 9) (N := some 49) (v := ?_) (a' := ?_) #[true, true, true, true, true, true, true, true, true, true, false] rfl rfl (any_of HT_.out (by kernel_rfl)) (fun _ _ _ h => h) (Or.inl ⟨by rfl, ?_⟩) ?_ ?_
                  rotate_left
                  · intro w'
                    go_simp
                    with_reducible rfl
                  rotate_left
                  · simp only [Act.put, List.setIfInBounds_toArray, List.set_cons_zero, List.set_cons_succ, i64_w, i32_w]
                    rfl
                  refine last_ (i := 10) (N := none) #[true, true, true, true, true, true, true, true, true, true, true] rfl rfl (one_of HT_.out (by kernel_rfl)) (by decide) (fun K hK => ?_)
                  refine skip_ (w1 := ?_) (by rfl) rfl ?_ ?_
                  rotate_left
                  · go_simp
                    rfl
                  refine hK.out _ _ ?_
                  clear hK K
                  refine done_ (done_of HT_.out (by kernel_rfl)) ?_
                  try go_wp2
                  go_ret3
                  exact ⟨_, by first | rfl | (simp [errW_none, errW_some] <;> rfl) | (simp [*, errW_none, errW_some] <;> rfl), by (with_reducible repeat (first | apply Kd.S_alloc | apply Kd.S_drewN | apply Kd.S_drew)); exact Kd.S_mono HQ28.out (fun _ hk => trivial), by repeat (first | (with_reducible first | exact HB.out | apply zB | apply zP | apply zE | refine zS ?_ GB26.out | refine zS ?_ GE222.out) | exact HB.out)⟩
                · rw [if_neg c22] at H
                  exact absurd H (by simp)
              · rw [if_neg c21] at H
                have c21b0 : decide (((rd_L4 x8_1 x9_1).length : Int) < 3) = false := decide_eq_false c21
                have c21b1 : decide ((rd_L4 x8_1 x9_1).length < 3) = false := decide_eq_false (by omega)
                clear c21
                have H' := Aside0.mk H
                clear H
                obtain ⟨Ao31, co31, eo31⟩ := Kd.S_slice HO_8.out
                subst eo31
                have p230 : 0 ≤ (x9_1 : Int) := of_decide_eq_true (by first | (with_reducible assumption) | assumption)
                have q230 : x9_1 < (x8_1.length : Int) := of_decide_eq_true (by first | (with_reducible assumption) | assumption)
                obtain ⟨ad230, A230_0, c230_0, e230, hx230_0, hl230_0, hi230_0⟩ := at_L4 (Kd.S_reads' HO_8.out).2.2 x9_1 p230 q230
                cases e230
                obtain ⟨ce230, hce230, hMe230, hcc230⟩ := Kd.S_get HO_8.out [] x9_1 p230 (by first | exact q230 | exact of_decide_eq_true (by first | (with_reducible assumption) | assumption) | (have e_ := (Kd.S_reads' HO_8.out).1; omega))
                obtain ⟨ve230_0, rfl, ge230_0⟩ := hMe230
                have hv230_0 := hcc230 0 _ rfl
                rw [Nat.add_zero, show ((Kd.slice 41 k41)).sz = 1 from rfl, Nat.mul_one] at hv230_0
                replace hv230_0 := Option.some.inj (hv230_0.symm.trans hx230_0)
                rw [hv230_0] at ge230_0
                have HL230_0 := Aside0.mk (show Kd.R k41 41 _ _ _ _ (rd_L4 x8_1 x9_1) from ge230_0)
                clear hv230_0 ge230_0
                have HX230_0 := Aside0.mk hx230_0
                clear hcc230 hce230
                have HR230_0 := Aside0.mk hi230_0
                have HC230_0 := Aside0.mk hl230_0
                clear hi230_0 hl230_0
                replace p230 := eq_true p230
                replace q230 := eq_true q230
                go_wp2
                go_roundg k1
                case measure => have := HK1.out; omega
                case rel => exact ⟨(x8_1), (wrap64 (x9_1 + 1)), (by first | rfl | (simp; done) | (simp [*]; done)), H', ⟨by have := HK1.out; omega⟩, ⟨by (with_reducible repeat (first | apply Kd.S_alloc | apply Kd.S_drewN | apply Kd.S_drew)); exact HO_8.out⟩, ⟨by (with_reducible repeat (first | refine zN ?_ _ | refine zD ?_ | refine zA ?_ _)); exact BK222.out⟩, ⟨by repeat (first | (with_reducible first | exact HB.out | apply zB | apply zP | apply zE | refine zS ?_ GE222.out) | exact HB.out)⟩⟩
            · rw [if_neg c20] at H
              exact absurd H (by simp)
          · rw [if_neg c19] at H
            have c19b0 : decide (x9_1 < (x8_1.length : Int)) = false := decide_eq_false c19
            clear c19
            by_cases c32 : (x8_1.length : Int) = 96
            · rw [if_pos c32] at H
              have c32b0 : ((x8_1.length : Int) == 96) = true := beq_iff_eq.mpr c32
              have c32b1 : ((x8_1.length : Int) != 96) = false := bne_eq_false_iff_eq.mpr c32
              clear c32
              simp only [Option.some.injEq, Prod.mk.injEq] at H
              obtain ⟨rfl, rfl, rfl⟩ := H
              obtain ⟨Ao33, co33, eo33⟩ := Kd.S_slice HO_8.out
              subst eo33
              go_wp2
              go_ret3
              exact ⟨_, by first | rfl | (simp [errW_none, errW_some] <;> rfl) | (simp [*, errW_none, errW_some] <;> rfl), by first | exact Kd.S_nil _ _ _ _ _ | exact Kd.N_nil _ _ _ _ _ | exact Kd.V_nil _ _ _ _ _ | exact Kd.Q_nil _ _ _ _ _ | exact Kd.R_nil _ _ _ _ _, by repeat (first | (with_reducible first | exact HB.out | apply zB | apply zP | apply zE | refine zS ?_ GE222.out) | exact HB.out)⟩
            · rw [if_neg c32] at H
              have c32b0 : ((x8_1.length : Int) == 96) = false := beq_eq_false_iff_ne.mpr c32
              have c32b1 : ((x8_1.length : Int) != 96) = true := bne_iff_ne.mpr c32
              obtain ⟨y236, hy236⟩ : ∃ y_ : List (S41), y_ = (([(⟨a1_0, a1_1⟩ : S41)] : List (S41))) := ⟨_, rfl⟩
              replace H : (if x8_1.length < 5864062014805 then (some ((x8_1 ++ [y236]), (x8_1.length : Int), 0)) else (none)) = some (r1, r2, r3) := by first | (rw [hy236]; with_reducible exact H) | (have H2_ := (Option.bind_some _ _).symm.trans H; rw [hy236]; with_reducible exact H2_) | (have H2_ := (Option.bind_some _ _).symm.trans H; with_reducible exact H2_) | with_reducible exact H | (rw [hy236]; exact H) | exact H
              have Ny236 := Aside0.mk hy236
              clear hy236
              by_cases c34 : x8_1.length < 5864062014805
              · rw [if_pos c34] at H
                have LMc34 := Aside0.mk c34
                clear c34
                obtain ⟨y239, hy239⟩ : ∃ y_ : List (List (S41)), y_ = (x8_1 ++ [y236]) := ⟨_, rfl⟩
                replace H : (some (y239, (x8_1.length : Int), 0)) = some (r1, r2, r3) := by first | (rw [hy239]; with_reducible exact H) | (have H2_ := (Option.bind_some _ _).symm.trans H; rw [hy239]; with_reducible exact H2_) | (have H2_ := (Option.bind_some _ _).symm.trans H; with_reducible exact H2_) | with_reducible exact H | (rw [hy239]; exact H) | exact H
                have Ny239 := Aside0.mk hy239
                clear hy239
                simp only [Option.some.injEq, Prod.mk.injEq] at H
                obtain ⟨rfl, rfl, rfl⟩ := H
                obtain ⟨Ao35, co35, eo35⟩ := Kd.S_slice HO_8.out
                subst eo35
                have hcz36_0 : wr.cell? ⟨gb222, 0, none⟩ = some (.int .i64 a1_0) := (blk_cell BK222.out 0).trans rfl
                have hcz36_1 : wr.cell? ⟨gb222, 1, none⟩ = some (.string a1_1) := (blk_cell BK222.out 1).trans rfl
                have hfz36_0 := blk_frozen BK222.out 0
                have hfz36_1 := blk_frozen BK222.out 1
                go_wp2_with (first | ((with_reducible refine gate_dst (N := 57) rfl ?_); refine Kd.R_lit k41 _ 41 ?hg (N := 57) ?hd (xs := ([(⟨a1_0, a1_1⟩ : S41)] : List (S41))) (inner := [.int .i64 a1_0, .string a1_1]) (ok := fun _ => True) (okp := fun _ => True) ?hr ?hp (fun _ hk => hk) trivial (Below.refl _ _) (Nat.le_refl _) (by simp) ?_; (case hd => rfl); (case hg => rfl); (case hr => first | (go_simp; done) | (go_simp; rfl)); (case hp => exact (Reps.c2 (show Kd.M k41 _ _ _ (⟨a1_0, a1_1⟩ : S41) [.int .i64 a1_0, .string a1_1] from (k41_mkM _ _ _ (⟨a1_0, a1_1⟩ : S41) )) (Reps.none _ _))); intro v237 w37 ho38 hb hg_ hnew_; clear hg_ hnew_; (first | rw [← Ny236.out] at ho38 | (simp only [Int.reduceToNat] at ho38; rw [← Ny236.out] at ho38)); have n0_ := Aside0.mk (Kd.S_elder' (by (with_reducible repeat (first | apply Kd.S_alloc | apply Kd.S_drewN | apply Kd.S_drew)); exact HO_8.out) (Kd.R_base ho38) hb); have n1_ := Aside0.mk (Kd.R_lower (Kd.R_newB ho38 (g := gb222) (o := .cells #[.int .i64 a1_0, .string a1_1] 41 (0, 0)) (by (with_reducible repeat (first | refine zN ?_ _ | refine zD ?_ | refine zA ?_ _)); exact BK222.out)) (below_size (by repeat (first | (with_reducible first | exact HB.out | apply zB | apply zP | apply zE | refine zS ?_ GE222.out) | exact HB.out)))); have n2_ := Aside0.mk (blk_below (g := gb222) (o := .cells #[.int .i64 a1_0, .string a1_1] 41 (0, 0)) (by (with_reducible repeat (first | refine zN ?_ _ | refine zD ?_ | refine zA ?_ _)); exact BK222.out) hb); have n3_ := Aside0.mk (below_step (by repeat (first | (with_reducible first | exact HB.out | apply zB | apply zP | apply zE | refine zS ?_ GE222.out) | exact HB.out)) hb); clear HO_8; clear BK222; clear HB; have HO_8 := n0_; have HO238 := n1_; have BK222 := n2_; have HB := n3_; clear n0_ n1_ n2_ n3_; clear hb ho38; obtain ⟨Ao40, co40, eo40⟩ := Kd.R_slice HO238.out; subst eo40) | ((with_reducible refine gate_builtin (b := .append) (xs := #[.tmp 55, .tmp 58]) rfl ?_); at_builtin; refine Kd.S_append (Kd.slice 41 k41) (w0 := w) w.heap.size rfl (.tmp 55) (.tmp 58) 33 22 (.slice none 0 0) 24 rfl Try.underlying33 info22 rfl (by decide) (by omega) (.slice Ao35 x8_1.length co35) x8_1 y236 [.slice Ao40 y236.length co40] (fun k_ => k_ ≠ gb222) (fun k_ => some k_ = (.slice Ao40 y236.length co40 : Value).ownBlock) rfl rfl ?aP (fun k_ hk_ => ((Kd.R_mono (ok' := fun k_ => ((fun k_ => k_ ≠ gb222)) k_ ∧ some k_ ≠ (.slice Ao35 x8_1.length co35 : Value).ownBlock) (Kd.R_apart' (HO238.out) (Kd.S_typed HO_8.out) (by decide)) (fun k_ hk => ⟨hk.1.2, hk.2⟩))).1 k_ hk_.symm) ?aF ?aO ?aB ?aS ?aL ?_; (case aP => exact Kd.M_row (Kd.R_mono (Kd.R_tight rfl (Kd.R_mono (ok' := fun k_ => ((fun k_ => k_ ≠ gb222)) k_ ∧ some k_ ≠ (.slice Ao35 x8_1.length co35 : Value).ownBlock) (Kd.R_apart' (HO238.out) (Kd.S_typed HO_8.out) (by decide)) (fun k_ hk => ⟨hk.1.2, hk.2⟩))) (fun _ h_ => h_))); (case aB => exact (by repeat (first | (with_reducible first | exact HB.out | apply zB | apply zP | apply zE | refine zS ?_ GE222.out) | exact HB.out))); (case aF => exact (fun k_ hk => Kd.freshB (g := gb222) (o := .cells #[.int .i64 a1_0, .string a1_1] 41 (0, 0)) (by (with_reducible repeat (first | refine zN ?_ _ | refine zD ?_ | refine zA ?_ _)); exact BK222.out) k_ hk)); (case aO => exact (by (with_reducible repeat (first | apply Kd.S_alloc | apply Kd.S_drewN | apply Kd.S_drew)); exact Kd.S_mono HO_8.out (fun k_ hk => ⟨hk.1, fun e_ => hk.2 e_⟩))); (case aS => exact (below_size (by repeat (first | (with_reducible first | exact HB.out | apply zB | apply zP | apply zE | refine zS ?_ GE222.out) | exact HB.out)))); (case aL => have hL_ := LMc34.out; first | omega | exact Nat.le_of_lt hL_); intro v240 w39 ho hb hg hat; rw [← Ny239.out] at ho; have n0_ := Aside0.mk (blk_grown (g := gb222) (o := .cells #[.int .i64 a1_0, .string a1_1] 41 (0, 0)) (by (with_reducible repeat (first | refine zN ?_ _ | refine zD ?_ | refine zA ?_ _)); exact BK222.out) hg (Kd.S_ne HO_8.out BK222.out (by decide))); have n1_ := Aside0.mk (hb); have n2_ := Aside0.mk (ho); clear BK222; clear HB; clear HO_8; clear HO238; have BK222 := n0_; have HB := n1_; have HO241 := n2_; clear n0_ n1_ n2_; clear ho hb hg hat))
                go_ret3
                exact ⟨_, by first | rfl | (simp [errW_none, errW_some] <;> rfl) | (simp [*, errW_none, errW_some] <;> rfl), by (with_reducible repeat (first | apply Kd.S_alloc | apply Kd.S_drewN | apply Kd.S_drew)); exact Kd.S_mono HO241.out (fun _ hk => trivial), by repeat (first | (with_reducible first | exact HB.out | apply zB | apply zP | apply zE | refine zS ?_ GE222.out) | exact HB.out)⟩
              · rw [if_neg c34] at H
                exact absurd H (by simp)
  · rw [if_neg c4] at H
    have c4b0 : (t223 == 0) = false := beq_eq_false_iff_ne.mpr c4
    have c4b1 : (t223 != 0) = true := bne_iff_ne.mpr c4
    simp only [Option.some.injEq, Prod.mk.injEq] at H
    obtain ⟨rfl, rfl, rfl⟩ := H
    go_enter Try.func23, Try.ntmps23
    go_wp2_with (first | ((with_reducible refine gate_dst (N := 3) rfl ?_); refine box_event ?hg (N := 3) ?hd (cs := #[.int .i64 a1_0, .string a1_1]) (t := 41) ?hr ?_; (case hd => rfl); (case hg => rfl); (case hr => first | (go_simp; done) | (go_simp; rfl)); intro gb222 hg w41 hbox hb; have n0_ := Aside0.mk (below_step (by repeat (first | (with_reducible first | exact HB.out | apply zB | apply zP | apply zE) | exact HB.out)) hb); have n1_ := Aside0.mk (hbox); have n2_ := Aside0.mk ((by rw [hg]; exact (below_size (by repeat (first | (with_reducible first | exact HB.out | apply zB | apply zP | apply zE) | exact HB.out))) : w.heap.size ≤ gb222)); have n3_ := Aside0.mk ((by rw [hg]; exact (below_size (by repeat (first | (with_reducible first | exact HB.out | apply zB | apply zP | apply zE) | exact HB.out))) : w.heap.size ≤ gb222)); clear HB; have HB := n0_; have BK222 := n1_; have GW222 := n2_; have GE222 := n3_; clear n0_ n1_ n2_ n3_; clear hb hbox hg; have hcz42_0 : w41.cell? ⟨gb222, 0, none⟩ = some (.int .i64 a1_0) := (blk_cell BK222.out 0).trans rfl; have hcz42_1 : w41.cell? ⟨gb222, 1, none⟩ = some (.string a1_1) := (blk_cell BK222.out 1).trans rfl; have hfz42_0 := blk_frozen BK222.out 0; have hfz42_1 := blk_frozen BK222.out 1) | ((with_reducible refine gate_callee (f := 38) rfl ?_); refine goesL_ (some 12) rfl rfl Try.func38 (by kernel_rfl) rfl #[.slice A0 l0.length c0, .agg #[.int .i64 a1_0, .string a1_1]] rfl (by (try simp only [List.map_toArray, List.map_cons, List.map_nil]); first | done | rfl | (simp only [List.length_drop, List.length_take]; rfl)) ?_; (with_reducible refine (drydockref10_check.calls k _ _ l0 a1_0 a1_1 t223 _ ?side1 ?side2 A3.out).mono ?_); (case side1 => repeat (first | exact (Kd.C_below HR0.out HB.out) | (with_reducible refine Kd.C_alloc ?_ _) | (with_reducible refine Kd.C_drewN ?_ _) | (with_reducible refine Kd.C_drew ?_))); (case side2 => exact HC0.out); rintro e w43 ⟨rfl, hb⟩; refine ⟨_, rfl, ?_⟩; have n0_ := Aside0.mk (blk_below (g := gb222) (o := .cells #[.int .i64 a1_0, .string a1_1] 41 (0, 0)) (by (with_reducible repeat (first | refine zN ?_ _ | refine zD ?_ | refine zA ?_ _)); exact BK222.out) hb); have n1_ := Aside0.mk (below_step (by repeat (first | (with_reducible first | exact HB.out | apply zB | apply zP | apply zE | refine zS ?_ GE222.out) | exact HB.out)) hb); clear BK222; clear HB; have BK222 := n0_; have HB := n1_; clear n0_ n1_; (try clear hb); (try clear hb2); (try clear hk); (try clear hi)))
    go_ret3
    exact ⟨_, by first | rfl | (simp [errW_none, errW_some] <;> rfl) | (simp [*, errW_none, errW_some] <;> rfl), by first | exact Kd.S_nil _ _ _ _ _ | exact Kd.N_nil _ _ _ _ _ | exact Kd.V_nil _ _ _ _ _ | exact Kd.Q_nil _ _ _ _ _ | exact Kd.R_nil _ _ _ _ _, by repeat (first | (with_reducible first | exact HB.out | apply zB | apply zP | apply zE | refine zS ?_ GE222.out) | exact HB.out)⟩

end Go.Proofs.Ytnccbebjligpdaa.PAll
