-- Printed out of the translation by a program; functions that were proved by hand stand among them. Lean checks it.
import Derived.Test.YtnccbebjligpdaaPAllx0
import Derived.Test.YtnccbebjligpdaaPAllx4
import Derived.Test.YtnccbebjligpdaaPAllx5
namespace Go.Proofs.Ytnccbebjligpdaa.PAll
open Go.RowKit Go.Proofs.YtnccbebjligpdaaW.PrintWords Go.Proofs.YtnccbebjligpdaaW.PrintLast Go.Proofs.YtnccbebjligpdaaW.PrintMore
open Go.Proofs.YtnccbebjligpdaaW.PrintWords renaming blk_drewN → zN, blk_drew → zD, blk_alloc → zA, below_alloc → zB, pw_below_drewN → zP, below_drew1 → zE, below_set → zS
attribute [local go_sem] max2_int min2_int max_two min_two max_three min_three max_four min_four   -- for this text's walks alone
set_option linter.unusedVariables false
set_option linter.unusedSimpArgs false

/-! ### entry_Add: function 22 -/
def entry_Add.j0 : Nat → List (List (S41)) → Int → Bool → Int → ByteArray → Option ((List (List (S41))) × Int × Int)
  | 0, _, _, _, _, _ => none
  | k + 1, x11, x12, x32, x155000, x155001 => if x32 = true then (some (([] : List (List (S41))), 0, 11)) else (if x12 < 0 then (if x11.length < 5864062014805 then ((some (x11 ++ [[]] : List (List (S41)))).bind fun y163 => (if 0 ≤ (x11.length : Int) then (if (x11.length : Int) < (y163.length : Int) then (if (rd_L4 y163 (x11.length : Int)).length < 5864062014805 then (some ((y163.set ((x11.length : Int) : Int).toNat ((rd_L4 y163 (x11.length : Int)) ++ [(⟨x155000, x155001⟩ : S41)])), (x11.length : Int), 0)) else (none)) else (none)) else (none))) else (none)) else (if 0 ≤ x12 then (if x12 < (x11.length : Int) then (if (rd_L4 x11 x12).length < 5864062014805 then (some ((x11.set (x12 : Int).toNat ((rd_L4 x11 x12) ++ [(⟨x155000, x155001⟩ : S41)])), x12, 0)) else (none)) else (none)) else (none)))
def entry_Add.f (k : Nat) (l0 : List (List (S41))) (a1_0 : Int) (a1_1 : ByteArray) : Option ((List (List (S41))) × Int × Int) := (entry_check.f l0 a1_0 a1_1).bind fun t155 => (if t155 = 0 then ((entry_find.f l0 a1_1).bind fun bt156 => (if bt156.2.2 = true then (some (([] : List (List (S41))), 0, 5)) else ((entry_clone.f k l0).bind fun t159 => ((api_Entry_40.f t159).bind fun t162 => (if t162 < 0 then (entry_Add.j0 k t159 t162 ((t159.length : Int) == 96) a1_0 a1_1) else (entry_Add.j0 k t159 t162 false a1_0 a1_1)))))) else (some (([] : List (List (S41))), 0, t155)))
theorem entry_Add.mono_l : ∀ k, (∀ y0 y1 y2 y3 y4, LeO (entry_Add.j0 k y0 y1 y2 y3 y4) (entry_Add.j0 (k + 1) y0 y1 y2 y3 y4))
  | 0 => fun _ _ _ _ _ r h => by simp [entry_Add.j0] at h
  | k + 1 => by
    have ih0 := entry_Add.mono_l k
    · intro y0 y1 y2 y3 y4
      unfold entry_Add.j0
      repeat' first
      | (with_reducible exact ih0 _ _ _ _ _)
      | (with_reducible exact entry_clone.mono _ _)
      | (with_reducible exact LeO.refl _)
      | (with_reducible exact LeO.none _)
      | (with_reducible refine LeO.ite ?_ ?_)
      | (with_reducible refine LeO.bind ?_ (fun _ => ?_))
      | exact ih0 _ _ _ _ _
      | exact entry_clone.mono _ _
      | exact LeO.none _
      | refine LeO.ite ?_ ?_
      | refine LeO.bind ?_ (fun _ => ?_)
theorem entry_Add.mono : ∀ a0 a1 a2 k, LeO (entry_Add.f k a0 a1 a2) (entry_Add.f (k + 1) a0 a1 a2) := by
  intro a0 a1 a2 k
  have ih0 := entry_Add.mono_l k
  unfold entry_Add.f
  repeat' first
      | (with_reducible exact ih0 _ _ _ _ _)
      | (with_reducible exact entry_clone.mono _ _)
      | (with_reducible exact LeO.refl _)
      | (with_reducible exact LeO.none _)
      | (with_reducible refine LeO.ite ?_ ?_)
      | (with_reducible refine LeO.bind ?_ (fun _ => ?_))
      | exact ih0 _ _ _ _ _
      | exact entry_clone.mono _ _
      | exact LeO.none _
      | refine LeO.ite ?_ ?_
      | refine LeO.bind ?_ (fun _ => ?_)
def entry_Add.T14 : Bool × List (List Nat × List Nat) := (true, [([], []), ([], []), ([], []), ([], []), ([2, 3], [2, 3]), ([4], [4]), ([], []), ([6], [6]), ([5, 7], [5, 7]), ([0, 1, 0, 1, 2, 3, 4, 5, 6, 7, 8], [0, 1]), ([9, 8, 8, 0, 1, 2, 3, 4, 5, 6, 7, 8], [8, 9])])
def entry_Add.B14 : List Nat := [0, 0, 0, 0, 12, 28, 0, 64, 252, 511, 1023]
theorem entry_Add.tab14 : rtab .any (opsOf Try.f22 14) = entry_Add.T14 := by kernel_rfl
theorem entry_Add.bits14 : waitsOk entry_Add.T14.2 entry_Add.B14 = true := by kernel_rfl
set_option maxHeartbeats 8000000 in
set_option maxRecDepth 100000 in
theorem entry_Add.calls (k : Nat) (A0 : Option Addr) (c0 : Nat) (l0 : List (List (S41))) (a1_0 : Int) (a1_1 : ByteArray) (r1 : List (List (S41))) (r2 : Int) (r3 : Int) (w : World) (hr0 : Kd.C (Kd.slice 41 k41) w A0 l0.length l0) (hc0 : l0.length ≤ c0) (h : entry_Add.f k l0 a1_0 a1_1 = some (r1, r2, r3)) :
    Calls Try.prog 22 #[.slice A0 l0.length c0, .agg #[.int .i64 a1_0, .string a1_1]] w fun e w' => ∃ v0_ : Value, e = .returned (.tuple #[v0_, .int .i64 r2, .int .i64 r3]) ∧ Kd.S (Kd.slice 41 k41) 22 w' w.heap.size (fun _ => True) v0_ r1 ∧ Below w.heap.size w w' := by
  have hu41 := Try.underlying41
  have HR0 := Aside0.mk hr0
  have HC0 := Aside0.mk hc0
  clear hr0 hc0
  have HB := Aside0.mk (Below.refl w.heap.size w)
  have H : ((entry_check.f l0 a1_0 a1_1).bind fun t155 => (if t155 = 0 then ((entry_find.f l0 a1_1).bind fun bt156 => (if bt156.2.2 = true then (some (([] : List (List (S41))), 0, 5)) else ((entry_clone.f k l0).bind fun t159 => ((api_Entry_40.f t159).bind fun t162 => (if t162 < 0 then (entry_Add.j0 k t159 t162 ((t159.length : Int) == 96) a1_0 a1_1) else (entry_Add.j0 k t159 t162 false a1_0 a1_1)))))) else (some (([] : List (List (S41))), 0, t155)))) = some (r1, r2, r3) := h
  clear h
  replace H := Option.bind_eq_some_iff.mp H
  obtain ⟨t155, A30, H⟩ := H
  replace H : (if t155 = 0 then ((entry_find.f l0 a1_1).bind fun bt156 => (if bt156.2.2 = true then (some (([] : List (List (S41))), 0, 5)) else ((entry_clone.f k l0).bind fun t159 => ((api_Entry_40.f t159).bind fun t162 => (if t162 < 0 then (entry_Add.j0 k t159 t162 ((t159.length : Int) == 96) a1_0 a1_1) else (entry_Add.j0 k t159 t162 false a1_0 a1_1)))))) else (some (([] : List (List (S41))), 0, t155))) = some (r1, r2, r3) := H
  have A3 := Aside0.mk A30
  clear A30
  by_cases c4 : t155 = 0
  · rw [if_pos c4] at H
    have c4b0 : (t155 == 0) = true := beq_iff_eq.mpr c4
    have c4b1 : (t155 != 0) = false := bne_eq_false_iff_eq.mpr c4
    clear c4
    replace H := Option.bind_eq_some_iff.mp H
    obtain ⟨⟨t156, t157, t158⟩, A50, H⟩ := H
    replace H : (if t158 = true then (some (([] : List (List (S41))), 0, 5)) else ((entry_clone.f k l0).bind fun t159 => ((api_Entry_40.f t159).bind fun t162 => (if t162 < 0 then (entry_Add.j0 k t159 t162 ((t159.length : Int) == 96) a1_0 a1_1) else (entry_Add.j0 k t159 t162 false a1_0 a1_1))))) = some (r1, r2, r3) := H
    have A5 := Aside0.mk A50
    clear A50
    by_cases c6 : t158 = true
    · subst c6
      have H1 : (some (([] : List (List (S41))), 0, 5)) = some (r1, r2, r3) := by rw [if_pos rfl] at H; exact H
      clear H
      have H := H1
      clear H1
      simp only [Option.some.injEq, Prod.mk.injEq] at H
      obtain ⟨rfl, rfl, rfl⟩ := H
      go_enter Try.func22, Try.ntmps22
      go_wp2_with (first | ((with_reducible refine gate_dst (N := 3) rfl ?_); (try (refine gate_guard (by rfl) ?_; dsimp only)); refine box_event ?hg (N := 3) ?hd (cs := #[.int .i64 a1_0, .string a1_1]) (t := 41) ?hr ?_; (case hd => rfl); (case hg => rfl); (case hr => first | (go_simp; done) | (go_simp; rfl)); intro gb154 hg w7 hbox hb; have n0_ := Aside0.mk (below_step (by repeat (first | (with_reducible first | exact HB.out | apply zB | apply zP | apply zE) | exact HB.out)) hb); have n1_ := Aside0.mk (hbox); have n2_ := Aside0.mk ((by rw [hg]; exact (below_size (by repeat (first | (with_reducible first | exact HB.out | apply zB | apply zP | apply zE) | exact HB.out))) : w.heap.size ≤ gb154)); have n3_ := Aside0.mk ((by rw [hg]; exact (below_size (by repeat (first | (with_reducible first | exact HB.out | apply zB | apply zP | apply zE) | exact HB.out))) : w.heap.size ≤ gb154)); clear HB; have HB := n0_; have BK154 := n1_; have GW154 := n2_; have GE154 := n3_; clear n0_ n1_ n2_ n3_; clear hb hbox hg; have hcz8_0 : w7.cell? ⟨gb154, 0, none⟩ = some (.int .i64 a1_0) := (blk_cell BK154.out 0).trans rfl; have hcz8_1 : w7.cell? ⟨gb154, 1, none⟩ = some (.string a1_1) := (blk_cell BK154.out 1).trans rfl; have hfz8_0 := blk_frozen BK154.out 0; have hfz8_1 := blk_frozen BK154.out 1) | ((with_reducible refine gate_callee (f := 36) rfl ?_); refine goesL_ (some 15) rfl rfl Try.func36 (by kernel_rfl) rfl #[.slice A0 l0.length c0, .agg #[.int .i64 a1_0, .string a1_1]] rfl (by (try simp only [List.map_toArray, List.map_cons, List.map_nil]); first | done | rfl | (simp only [List.length_drop, List.length_take]; rfl)) ?_; (with_reducible refine (entry_check.calls _ _ l0 a1_0 a1_1 t155 _ ?side1 ?side2 A3.out).mono ?_); (case side1 => repeat (first | exact (Kd.C_below HR0.out HB.out) | (with_reducible refine Kd.C_alloc ?_ _) | (with_reducible refine Kd.C_drewN ?_ _) | (with_reducible refine Kd.C_drew ?_))); (case side2 => exact HC0.out); rintro e w9 ⟨rfl, hb⟩; refine ⟨_, rfl, ?_⟩; have n0_ := Aside0.mk (blk_below (g := gb154) (o := .cells #[.int .i64 a1_0, .string a1_1] 41 (0, 0)) (by (with_reducible repeat (first | refine zN ?_ _ | refine zD ?_ | refine zA ?_ _)); exact BK154.out) hb); have n1_ := Aside0.mk (below_step (by repeat (first | (with_reducible first | exact HB.out | apply zB | apply zP | apply zE | refine zS ?_ GE154.out) | exact HB.out)) hb); clear BK154; clear HB; have BK154 := n0_; have HB := n1_; clear n0_ n1_; (try clear hb); (try clear hb2); (try clear hk); (try clear hi); have hcz10_0 : w9.cell? ⟨gb154, 0, none⟩ = some (.int .i64 a1_0) := (blk_cell BK154.out 0).trans rfl; have hcz10_1 : w9.cell? ⟨gb154, 1, none⟩ = some (.string a1_1) := (blk_cell BK154.out 1).trans rfl; have hfz10_0 := blk_frozen BK154.out 0; have hfz10_1 := blk_frozen BK154.out 1) | ((with_reducible refine gate_callee (f := 37) rfl ?_); refine goesL_ (some 23) rfl rfl Try.func37 (by kernel_rfl) rfl #[.slice A0 l0.length c0, .string a1_1] rfl (by (try simp only [List.map_toArray, List.map_cons, List.map_nil]); first | done | rfl | (simp only [List.length_drop, List.length_take]; rfl)) ?_; (with_reducible refine (entry_find.calls _ _ l0 a1_1 t156 t157 true _ ?side1 ?side2 A5.out).mono ?_); (case side1 => repeat (first | exact (Kd.C_below HR0.out HB.out) | (with_reducible refine Kd.C_alloc ?_ _) | (with_reducible refine Kd.C_drewN ?_ _) | (with_reducible refine Kd.C_drew ?_))); (case side2 => exact HC0.out); rintro e w11 ⟨rfl, hb⟩; refine ⟨_, rfl, ?_⟩; have n0_ := Aside0.mk (blk_below (g := gb154) (o := .cells #[.int .i64 a1_0, .string a1_1] 41 (0, 0)) (by (with_reducible repeat (first | refine zN ?_ _ | refine zD ?_ | refine zA ?_ _)); exact BK154.out) hb); have n1_ := Aside0.mk (below_step (by repeat (first | (with_reducible first | exact HB.out | apply zB | apply zP | apply zE | refine zS ?_ GE154.out) | exact HB.out)) hb); clear BK154; clear HB; have BK154 := n0_; have HB := n1_; clear n0_ n1_; (try clear hb); (try clear hb2); (try clear hk); (try clear hi)))
      go_ret3
      exact ⟨_, by first | rfl | (simp [errW_none, errW_some] <;> rfl) | (simp [*, errW_none, errW_some] <;> rfl), by first | exact Kd.S_nil _ _ _ _ _ | exact Kd.N_nil _ _ _ _ _ | exact Kd.V_nil _ _ _ _ _ | exact Kd.Q_nil _ _ _ _ _ | exact Kd.R_nil _ _ _ _ _, by repeat (first | (with_reducible first | exact HB.out | apply zB | apply zP | apply zE | refine zS ?_ GE154.out) | exact HB.out)⟩
    · replace c6 := Bool.eq_false_iff.mpr c6
      subst c6
      have H1 : ((entry_clone.f k l0).bind fun t159 => ((api_Entry_40.f t159).bind fun t162 => (if t162 < 0 then (entry_Add.j0 k t159 t162 ((t159.length : Int) == 96) a1_0 a1_1) else (entry_Add.j0 k t159 t162 false a1_0 a1_1)))) = some (r1, r2, r3) := by rw [if_neg (show ¬ (false = true) by decide)] at H; exact H
      clear H
      have H := H1
      clear H1
      replace H := Option.bind_eq_some_iff.mp H
      obtain ⟨t159, A120, H⟩ := H
      replace H : ((api_Entry_40.f t159).bind fun t162 => (if t162 < 0 then (entry_Add.j0 k t159 t162 ((t159.length : Int) == 96) a1_0 a1_1) else (entry_Add.j0 k t159 t162 false a1_0 a1_1))) = some (r1, r2, r3) := H
      have A12 := Aside0.mk A120
      clear A120
      replace H := Option.bind_eq_some_iff.mp H
      obtain ⟨t162, A130, H⟩ := H
      replace H : (if t162 < 0 then (entry_Add.j0 k t159 t162 ((t159.length : Int) == 96) a1_0 a1_1) else (entry_Add.j0 k t159 t162 false a1_0 a1_1)) = some (r1, r2, r3) := H
      have A13 := Aside0.mk A130
      clear A130
      have HC14 := Aside0.mk H
      clear H
      go_enter Try.func22, Try.ntmps22
      go_upto_region 9 with (first | ((with_reducible refine gate_dst (N := 3) rfl ?_); (try (refine gate_guard (by rfl) ?_; dsimp only)); refine box_event ?hg (N := 3) ?hd (cs := #[.int .i64 a1_0, .string a1_1]) (t := 41) ?hr ?_; (case hd => rfl); (case hg => rfl); (case hr => first | (go_simp; done) | (go_simp; rfl)); intro gb154 hg w15 hbox hb; have n0_ := Aside0.mk (below_step (by repeat (first | (with_reducible first | exact HB.out | apply zB | apply zP | apply zE) | exact HB.out)) hb); have n1_ := Aside0.mk (hbox); have n2_ := Aside0.mk ((by rw [hg]; exact (below_size (by repeat (first | (with_reducible first | exact HB.out | apply zB | apply zP | apply zE) | exact HB.out))) : w.heap.size ≤ gb154)); have n3_ := Aside0.mk ((by rw [hg]; exact (below_size (by repeat (first | (with_reducible first | exact HB.out | apply zB | apply zP | apply zE) | exact HB.out))) : w.heap.size ≤ gb154)); clear HB; have HB := n0_; have BK154 := n1_; have GW154 := n2_; have GE154 := n3_; clear n0_ n1_ n2_ n3_; clear hb hbox hg; have hcz16_0 : w15.cell? ⟨gb154, 0, none⟩ = some (.int .i64 a1_0) := (blk_cell BK154.out 0).trans rfl; have hcz16_1 : w15.cell? ⟨gb154, 1, none⟩ = some (.string a1_1) := (blk_cell BK154.out 1).trans rfl; have hfz16_0 := blk_frozen BK154.out 0; have hfz16_1 := blk_frozen BK154.out 1) | ((with_reducible refine gate_callee (f := 36) rfl ?_); refine goesL_ (some 15) rfl rfl Try.func36 (by kernel_rfl) rfl #[.slice A0 l0.length c0, .agg #[.int .i64 a1_0, .string a1_1]] rfl (by (try simp only [List.map_toArray, List.map_cons, List.map_nil]); first | done | rfl | (simp only [List.length_drop, List.length_take]; rfl)) ?_; (with_reducible refine (entry_check.calls _ _ l0 a1_0 a1_1 t155 _ ?side1 ?side2 A3.out).mono ?_); (case side1 => repeat (first | exact (Kd.C_below HR0.out HB.out) | (with_reducible refine Kd.C_alloc ?_ _) | (with_reducible refine Kd.C_drewN ?_ _) | (with_reducible refine Kd.C_drew ?_))); (case side2 => exact HC0.out); rintro e w17 ⟨rfl, hb⟩; refine ⟨_, rfl, ?_⟩; have n0_ := Aside0.mk (blk_below (g := gb154) (o := .cells #[.int .i64 a1_0, .string a1_1] 41 (0, 0)) (by (with_reducible repeat (first | refine zN ?_ _ | refine zD ?_ | refine zA ?_ _)); exact BK154.out) hb); have n1_ := Aside0.mk (below_step (by repeat (first | (with_reducible first | exact HB.out | apply zB | apply zP | apply zE | refine zS ?_ GE154.out) | exact HB.out)) hb); clear BK154; clear HB; have BK154 := n0_; have HB := n1_; clear n0_ n1_; (try clear hb); (try clear hb2); (try clear hk); (try clear hi); have hcz18_0 : w17.cell? ⟨gb154, 0, none⟩ = some (.int .i64 a1_0) := (blk_cell BK154.out 0).trans rfl; have hcz18_1 : w17.cell? ⟨gb154, 1, none⟩ = some (.string a1_1) := (blk_cell BK154.out 1).trans rfl; have hfz18_0 := blk_frozen BK154.out 0; have hfz18_1 := blk_frozen BK154.out 1) | ((with_reducible refine gate_callee (f := 37) rfl ?_); refine goesL_ (some 23) rfl rfl Try.func37 (by kernel_rfl) rfl #[.slice A0 l0.length c0, .string a1_1] rfl (by (try simp only [List.map_toArray, List.map_cons, List.map_nil]); first | done | rfl | (simp only [List.length_drop, List.length_take]; rfl)) ?_; (with_reducible refine (entry_find.calls _ _ l0 a1_1 t156 t157 false _ ?side1 ?side2 A5.out).mono ?_); (case side1 => repeat (first | exact (Kd.C_below HR0.out HB.out) | (with_reducible refine Kd.C_alloc ?_ _) | (with_reducible refine Kd.C_drewN ?_ _) | (with_reducible refine Kd.C_drew ?_))); (case side2 => exact HC0.out); rintro e w19 ⟨rfl, hb⟩; refine ⟨_, rfl, ?_⟩; have n0_ := Aside0.mk (blk_below (g := gb154) (o := .cells #[.int .i64 a1_0, .string a1_1] 41 (0, 0)) (by (with_reducible repeat (first | refine zN ?_ _ | refine zD ?_ | refine zA ?_ _)); exact BK154.out) hb); have n1_ := Aside0.mk (below_step (by repeat (first | (with_reducible first | exact HB.out | apply zB | apply zP | apply zE | refine zS ?_ GE154.out) | exact HB.out)) hb); clear BK154; clear HB; have BK154 := n0_; have HB := n1_; clear n0_ n1_; (try clear hb); (try clear hb2); (try clear hk); (try clear hi)) | ((with_reducible refine gate_callee (f := 39) rfl ?_); refine goesL_ (some 29) rfl rfl Try.func39 (by kernel_rfl) rfl #[.slice A0 l0.length c0] rfl (by (try simp only [List.map_toArray, List.map_cons, List.map_nil]); first | done | rfl | (simp only [List.length_drop, List.length_take]; rfl)) ?_; (with_reducible refine (entry_clone.calls k _ _ l0 t159 _ ?side1 ?side2 A12.out).mono ?_); (case side1 => repeat (first | exact (Kd.C_below HR0.out HB.out) | (with_reducible refine Kd.C_alloc ?_ _) | (with_reducible refine Kd.C_drewN ?_ _) | (with_reducible refine Kd.C_drew ?_))); (case side2 => exact HC0.out); rintro e w20 ⟨v160, rfl, ho0, hb⟩; refine ⟨_, rfl, ?_⟩; have n0_ := Aside0.mk (Kd.S_lower (Kd.S_newB ho0 (g := gb154) (o := .cells #[.int .i64 a1_0, .string a1_1] 41 (0, 0)) (by (with_reducible repeat (first | refine zN ?_ _ | refine zD ?_ | refine zA ?_ _)); exact BK154.out)) (below_size (by repeat (first | (with_reducible first | exact HB.out | apply zB | apply zP | apply zE | refine zS ?_ GE154.out) | exact HB.out)))); have n1_ := Aside0.mk (blk_below (g := gb154) (o := .cells #[.int .i64 a1_0, .string a1_1] 41 (0, 0)) (by (with_reducible repeat (first | refine zN ?_ _ | refine zD ?_ | refine zA ?_ _)); exact BK154.out) hb); have n2_ := Aside0.mk (below_step (by repeat (first | (with_reducible first | exact HB.out | apply zB | apply zP | apply zE | refine zS ?_ GE154.out) | exact HB.out)) hb); clear BK154; clear HB; have HO161 := n0_; have BK154 := n1_; have HB := n2_; clear n0_ n1_ n2_; (try clear hb); (try clear hb2); (try clear hk); (try clear hi); (try clear ho0); obtain ⟨Ao21, co21, eo21⟩ := Kd.S_slice HO161.out; subst eo21) | ((with_reducible refine gate_callee (f := 40) rfl ?_); refine goesL_ (some 31) rfl rfl Try.func40 (by kernel_rfl) rfl #[.slice Ao21 t159.length co21, .func (.func 41) #[] #[]] rfl (by (try simp only [List.map_toArray, List.map_cons, List.map_nil]); first | done | rfl | (simp only [List.length_drop, List.length_take]; rfl)) ?_; (with_reducible refine (api_Entry_40.calls _ _ t159 t162 _ ?side1 ?side2 A13.out).mono ?_); (case side1 => repeat (first | exact (Kd.S_reads' HO161.out).2.2 | (with_reducible refine Kd.C_alloc ?_ _) | (with_reducible refine Kd.C_drewN ?_ _) | (with_reducible refine Kd.C_drew ?_))); (case side2 => exact (Kd.S_reads' HO161.out).2.1); rintro e w' ⟨rfl, ⟨nd, rfl⟩⟩; refine ⟨_, rfl, ?_⟩))
      (try simp only [Act.put, List.setIfInBounds_toArray, List.set_cons_zero, List.set_cons_succ])
      go_cut [32] (fun v32 wc => ∃ (kq : Nat) (x32_13 : Bool), v32 = .bool x32_13 ∧ Aside0 (entry_Add.j0 kq t159 t162 x32_13 a1_0 a1_1 = some (r1, r2, r3)) ∧ Aside0 (kq ≤ k) ∧ Aside0 (Kd.S (Kd.slice 41 k41) 22 wc w.heap.size (fun k_ => k_ ≠ gb154) (.slice Ao21 t159.length co21) t159) ∧ Aside0 (wc.heap[gb154]? = some (.cells #[.int .i64 a1_0, .string a1_1] 41 (0, 0))) ∧ Aside0 (Below w.heap.size w wc))
      case first =>
        have H := HC14.out
        clear HC14
        by_cases c22 : t162 < 0
        · rw [if_pos c22] at H
          have c22b0 : decide (t162 < 0) = true := decide_eq_true c22
          clear c22
          (first | rw [c22b0] | (simp only [i64_w, i32_w]; rw [c22b0]) | skip)
          have H' := Aside0.mk H
          clear H
          go_wp2
          go_meet
          case rel => exact ⟨_, (((t159.length : Int) == 96)), (by first | rfl | (simp; done) | (simp [*]; done)), H', ⟨by first | omega | exact Nat.le_refl _⟩, ⟨by (with_reducible repeat (first | apply Kd.S_alloc | apply Kd.S_drewN | apply Kd.S_drew)); exact Kd.S_mono HO161.out (fun _ hk => hk.2)⟩, ⟨by (with_reducible repeat (first | refine zN ?_ _ | refine zD ?_ | refine zA ?_ _)); exact BK154.out⟩, ⟨by repeat (first | (with_reducible first | exact HB.out | apply zB | apply zP | apply zE | refine zS ?_ GE154.out) | exact HB.out)⟩⟩
        · rw [if_neg c22] at H
          have c22b0 : decide (t162 < 0) = false := decide_eq_false c22
          clear c22
          (first | rw [c22b0] | (simp only [i64_w, i32_w]; rw [c22b0]) | skip)
          have H' := Aside0.mk H
          clear H
          go_wp2
          go_meet
          case rel => exact ⟨_, (false), (by first | rfl | (simp; done) | (simp [*]; done)), H', ⟨by first | omega | exact Nat.le_refl _⟩, ⟨by (with_reducible repeat (first | apply Kd.S_alloc | apply Kd.S_drewN | apply Kd.S_drew)); exact Kd.S_mono HO161.out (fun _ hk => hk.2)⟩, ⟨by (with_reducible repeat (first | refine zN ?_ _ | refine zD ?_ | refine zA ?_ _)); exact BK154.out⟩, ⟨by repeat (first | (with_reducible first | exact HB.out | apply zB | apply zP | apply zE | refine zS ?_ GE154.out) | exact HB.out)⟩⟩
      case rest =>
        clear HC14
        try clear c2
        try clear p2
        try clear c3
        try clear c4
        try clear c4b0
        try clear c4b1
        try clear c6
        try clear c22
        try clear c22b0
        try clear hcz10_0
        try clear hcz10_1
        try clear hcz16_0
        try clear hcz16_1
        try clear hcz18_0
        try clear hcz18_1
        try clear hcz8_0
        try clear hcz8_1
        try clear hfz10_0
        try clear hfz10_1
        try clear hfz16_0
        try clear hfz16_1
        try clear hfz18_0
        try clear hfz18_1
        try clear hfz8_0
        try clear hfz8_1
        obtain ⟨kq, x32_13, rfl, HA, HJ13, HO_11, BK154, HB⟩ := hcut
        cases kq with
        | zero => exact absurd HA.out (by simp [entry_Add.j0])
        | succ kj13 =>
          have H := HA.out
          clear HA
          simp only [entry_Add.j0] at H
          by_cases c23 : x32_13 = true
          · subst c23
            have H1 : (some (([] : List (List (S41))), 0, 11)) = some (r1, r2, r3) := by rw [if_pos rfl] at H; exact H
            clear H
            have H := H1
            clear H1
            simp only [Option.some.injEq, Prod.mk.injEq] at H
            obtain ⟨rfl, rfl, rfl⟩ := H
            go_wp2
            go_ret3
            exact ⟨_, by first | rfl | (simp [errW_none, errW_some] <;> rfl) | (simp [*, errW_none, errW_some] <;> rfl), by first | exact Kd.S_nil _ _ _ _ _ | exact Kd.N_nil _ _ _ _ _ | exact Kd.V_nil _ _ _ _ _ | exact Kd.Q_nil _ _ _ _ _ | exact Kd.R_nil _ _ _ _ _, by repeat (first | (with_reducible first | exact HB.out | apply zB | apply zP | apply zE | refine zS ?_ GE154.out) | exact HB.out)⟩
          · replace c23 := Bool.eq_false_iff.mpr c23
            subst c23
            have H1 : (if t162 < 0 then (if t159.length < 5864062014805 then ((some (t159 ++ [[]] : List (List (S41)))).bind fun y163 => (if 0 ≤ (t159.length : Int) then (if (t159.length : Int) < (y163.length : Int) then (if (rd_L4 y163 (t159.length : Int)).length < 5864062014805 then (some ((y163.set ((t159.length : Int) : Int).toNat ((rd_L4 y163 (t159.length : Int)) ++ [(⟨a1_0, a1_1⟩ : S41)])), (t159.length : Int), 0)) else (none)) else (none)) else (none))) else (none)) else (if 0 ≤ t162 then (if t162 < (t159.length : Int) then (if (rd_L4 t159 t162).length < 5864062014805 then (some ((t159.set (t162 : Int).toNat ((rd_L4 t159 t162) ++ [(⟨a1_0, a1_1⟩ : S41)])), t162, 0)) else (none)) else (none)) else (none))) = some (r1, r2, r3) := by rw [if_neg (show ¬ (false = true) by decide)] at H; exact H
            clear H
            have H := H1
            clear H1
            by_cases c24 : t162 < 0
            · rw [if_pos c24] at H
              have c24b0 : decide (t162 < 0) = true := decide_eq_true c24
              clear c24
              by_cases c25 : t159.length < 5864062014805
              · rw [if_pos c25] at H
                have LMc25 := Aside0.mk c25
                clear c25
                obtain ⟨y163, hy163⟩ : ∃ y_ : List (List (S41)), y_ = (t159 ++ [[]]) := ⟨_, rfl⟩
                replace H : (if 0 ≤ (t159.length : Int) then (if (t159.length : Int) < (y163.length : Int) then (if (rd_L4 y163 (t159.length : Int)).length < 5864062014805 then (some ((y163.set ((t159.length : Int) : Int).toNat ((rd_L4 y163 (t159.length : Int)) ++ [(⟨a1_0, a1_1⟩ : S41)])), (t159.length : Int), 0)) else (none)) else (none)) else (none)) = some (r1, r2, r3) := by first | (rw [hy163]; with_reducible exact H) | (have H2_ := (Option.bind_some _ _).symm.trans H; rw [hy163]; with_reducible exact H2_) | (have H2_ := (Option.bind_some _ _).symm.trans H; with_reducible exact H2_) | with_reducible exact H | (rw [hy163]; exact H) | exact H
                have Ny163 := Aside0.mk hy163
                clear hy163
                by_cases c26 : 0 ≤ (t159.length : Int)
                · rw [if_pos c26] at H
                  have c26b0 : decide (0 ≤ (t159.length : Int)) = true := decide_eq_true c26
                  have c26b1 : decide (0 ≤ t159.length) = true := decide_eq_true (by omega)
                  clear c26
                  by_cases c27 : (t159.length : Int) < (y163.length : Int)
                  · rw [if_pos c27] at H
                    have c27b0 : decide ((t159.length : Int) < (y163.length : Int)) = true := decide_eq_true c27
                    have c27b1 : decide (t159.length < y163.length) = true := decide_eq_true (Int.ofNat_lt.mp c27)
                    clear c27
                    by_cases c28 : (rd_L4 y163 (t159.length : Int)).length < 5864062014805
                    · rw [if_pos c28] at H
                      have LMc28 := Aside0.mk c28
                      clear c28
                      obtain ⟨y167, hy167⟩ : ∃ y_ : List (S41), y_ = ((rd_L4 y163 (t159.length : Int)) ++ [(⟨a1_0, a1_1⟩ : S41)]) := ⟨_, rfl⟩
                      replace H : (some ((y163.set ((t159.length : Int) : Int).toNat y167), (t159.length : Int), 0)) = some (r1, r2, r3) := by first | (rw [hy167]; with_reducible exact H) | (have H2_ := (Option.bind_some _ _).symm.trans H; rw [hy167]; with_reducible exact H2_) | (have H2_ := (Option.bind_some _ _).symm.trans H; with_reducible exact H2_) | with_reducible exact H | (rw [hy167]; exact H) | exact H
                      have Ny167 := Aside0.mk hy167
                      clear hy167
                      obtain ⟨y170, hy170⟩ : ∃ y_ : List (List (S41)), y_ = (y163.set ((t159.length : Int) : Int).toNat y167) := ⟨_, rfl⟩
                      replace H : (some (y170, (t159.length : Int), 0)) = some (r1, r2, r3) := by first | (rw [hy170]; with_reducible exact H) | (have H2_ := (Option.bind_some _ _).symm.trans H; rw [hy170]; with_reducible exact H2_) | (have H2_ := (Option.bind_some _ _).symm.trans H; with_reducible exact H2_) | with_reducible exact H | (rw [hy170]; exact H) | exact H
                      have Ny170 := Aside0.mk hy170
                      clear hy170
                      simp only [Option.some.injEq, Prod.mk.injEq] at H
                      obtain ⟨rfl, rfl, rfl⟩ := H
                      try go_wp2_with (first | ((with_reducible refine gate_builtin (b := .append) (xs := #[.tmp 45, .tmp 46]) rfl ?_); (try (refine gate_guard (by rfl) ?_; dsimp only)); at_builtin; refine Kd.S_append (Kd.slice 41 k41) (w0 := w) w.heap.size rfl (.tmp 45) (.tmp 46) 33 22 (.slice none 0 0) 24 rfl Try.underlying33 info22 rfl (by decide) (by omega) (.slice Ao21 t159.length co21) t159 ([] : List S41) [.slice none 0 0] (fun k_ => k_ ≠ gb154) (fun _ => False) rfl rfl ?aP (fun _ hk => hk.elim) ?aF ?aO ?aB ?aS ?aL ?_; (case aP => exact Kd.M_row (Kd.R_nil _ _ _ _ _)); (case aB => exact (by repeat (first | (with_reducible first | exact HB.out | apply zB | apply zP | apply zE | refine zS ?_ GE154.out) | exact HB.out))); (case aF => exact (fun k_ hk => Kd.freshB (g := gb154) (o := .cells #[.int .i64 a1_0, .string a1_1] 41 (0, 0)) (by (with_reducible repeat (first | refine zN ?_ _ | refine zD ?_ | refine zA ?_ _)); exact BK154.out) k_ hk)); (case aO => exact (by (with_reducible repeat (first | apply Kd.S_alloc | apply Kd.S_drewN | apply Kd.S_drew)); exact Kd.S_mono HO_11.out (fun k_ hk => ⟨hk, fun e_ => e_⟩))); (case aS => exact (below_size (by repeat (first | (with_reducible first | exact HB.out | apply zB | apply zP | apply zE | refine zS ?_ GE154.out) | exact HB.out)))); (case aL => have hL_ := LMc25.out; first | omega | exact Nat.le_of_lt hL_); intro v164 w30 ho hb hg hat; rw [← Ny163.out] at ho; have n0_ := Aside0.mk (blk_grown (g := gb154) (o := .cells #[.int .i64 a1_0, .string a1_1] 41 (0, 0)) (by (with_reducible repeat (first | refine zN ?_ _ | refine zD ?_ | refine zA ?_ _)); exact BK154.out) hg (Kd.S_ne HO_11.out BK154.out (by decide))); have n1_ := Aside0.mk (hb); have n2_ := Aside0.mk (ho); clear BK154; clear HB; clear HO_11; have BK154 := n0_; have HB := n1_; have HO165 := n2_; clear n0_ n1_ n2_; clear ho hb hg hat))
                      have n0_ := Aside0.mk (Kd.S_drew HO165.out)
                      have n1_ := Aside0.mk (zD BK154.out)
                      have n2_ := Aside0.mk (zE HB.out)
                      clear HO165
                      clear BK154
                      clear HB
                      have HO165 := n0_
                      have BK154 := n1_
                      have HB := n2_
                      clear n0_ n1_ n2_
                      obtain ⟨Ao32, co32, eo32⟩ := Kd.S_slice HO165.out
                      (first | subst eo32 | (injection eo32 with f1_ f2_ f3_; have f4_ := f1_.symm; have f5_ := f3_.symm; clear f1_ f2_ f3_; subst f4_; subst f5_))
                      have p166 : 0 ≤ ((t159.length : Int) : Int) := of_decide_eq_true (by first | (with_reducible assumption) | assumption)
                      have q166 : (t159.length : Int) < (y163.length : Int) := of_decide_eq_true (by first | (with_reducible assumption) | assumption)
                      obtain ⟨ad166, A166_0, c166_0, e166, hx166_0, hl166_0, hi166_0⟩ := at_L4 (Kd.S_reads' HO165.out).2.2 (t159.length : Int) p166 q166
                      cases e166
                      obtain ⟨ce166, hce166, hMe166, hcc166⟩ := Kd.S_get HO165.out [] (t159.length : Int) p166 (by first | exact q166 | exact of_decide_eq_true (by first | (with_reducible assumption) | assumption) | (have e_ := (Kd.S_reads' HO165.out).1; omega))
                      obtain ⟨ve166_0, rfl, ge166_0⟩ := hMe166
                      have hv166_0 := hcc166 0 _ rfl
                      rw [Nat.add_zero, show ((Kd.slice 41 k41)).sz = 1 from rfl, Nat.mul_one] at hv166_0
                      replace hv166_0 := Option.some.inj (hv166_0.symm.trans hx166_0)
                      rw [hv166_0] at ge166_0
                      have HL166_0 := Aside0.mk (show Kd.R k41 41 _ _ _ _ (rd_L4 y163 (t159.length : Int)) from ge166_0)
                      clear hv166_0 ge166_0
                      have HX166_0 := Aside0.mk hx166_0
                      clear hcc166 hce166
                      have HR166_0 := Aside0.mk hi166_0
                      have HC166_0 := Aside0.mk hl166_0
                      clear hi166_0 hl166_0
                      (try simp only [Go.IntWalk.toNatUp] at hx166_0)
                      replace p166 := eq_true p166
                      replace q166 := eq_true q166
                      obtain ⟨go33, co33, eo33, gb33, gl33, cl33, HG33⟩ := Kd.S_form HO165.out (by have h_ : ((t159.length : Int) : Int) < ((y163.length : Int) : Int) := of_decide_eq_true (by first | (with_reducible assumption) | assumption); have h2_ : 0 ≤ ((t159.length : Int) : Int) := (of_decide_eq_true (by first | (with_reducible assumption) | assumption)); omega)
                      (first | cases eo33 | (injection eo33 with ea_ en_ ec_; (first | subst ea_ | (injection ea_ with ea_; subst ea_)); subst ec_; clear en_))
                      have GB33 := Aside0.mk gb33
                      have GG33 := Aside0.mk HG33
                      clear gb33 gl33 HG33
                      (first | simp only [add_plain] at hx166_0 | skip)
                      obtain ⟨oki33, ce33, hcl33, hM33, hcc33, _, _, hH33⟩ := Kd.S_elem HO165.out [] ((t159.length : Int) : Int) (of_decide_eq_true (by first | (with_reducible assumption) | assumption)) (by have h_ : ((t159.length : Int) : Int) < ((y163.length : Int) : Int) := of_decide_eq_true (by first | (with_reducible assumption) | assumption); first | exact h_ | (have e_ := (Kd.S_reads' HO165.out).1; omega) | simpa using h_)
                      obtain ⟨ve33_0, rfl, ge33_0⟩ := hM33
                      have hv33 := hcc33 0 _ rfl
                      have hX33 := HX166_0.out
                      (try simp only [add_plain] at hX33)
                      (try simp only [Nat.add_zero] at hv33)
                      (try rw [show ((Kd.slice 41 k41)).sz = 1 from rfl, Nat.mul_one] at hv33)
                      replace hv33 := Option.some.inj (hv33.symm.trans hX33)
                      subst hv33
                      clear hX33 hcc33 hcl33
                      have UU33 := Aside0.mk (show Kd.R k41 41 _ w.heap.size oki33 (.slice A166_0 (rd_L4 y163 (t159.length : Int)).length c166_0) (rd_L4 y163 (t159.length : Int)) from ge33_0)
                      have HH33 := Aside0.mk hH33
                      have HN33 := Aside0.mk (Kd.S_reads' HO165.out).1
                      clear hH33 ge33_0
                      refine start_ (n := 11) (S := fun w' => w'.cell? ⟨gb154, 0, none⟩ = some (.int .i64 a1_0) ∧ w'.cell? ⟨gb154, 1, none⟩ = some (.string a1_1) ∧ w'.cell? ⟨go33, ((t159.length : Int)).toNat, none⟩ = some (.slice A166_0 (rd_L4 y163 (t159.length : Int)).length c166_0)) (ds := [10]) #[false, false, false, false, false, false, false, false, false, false, false] (by kernel_rfl) rfl rfl ⟨(blk_cell BK154.out 0).trans rfl, (blk_cell BK154.out 1).trans rfl, hx166_0⟩ (fun hHeld => ?_); refine with_tabW entry_Add.tab14 entry_Add.bits14 (fun HT_ HW_ => ?_)
                      generalize w30.drew = w31 at HO165 BK154 HB GG33 HH33 HL166_0 HR166_0 HX166_0 UU33 hx166_0 hHeld ⊢
                      refine pure_ (i := 0) (N := some 48) (v := ?_) (a' := ?_) #[true, false, false, false, false, false, false, false, false, false, false] rfl rfl (any_of HT_.out (by kernel_rfl)) (fun _ _ _ h => h) (Or.inl ⟨by rfl, ?_⟩) ?_ ?_
                      rotate_left
                      · intro w'
                        go_simp
                        with_reducible rfl
                      rotate_left
                      · simp only [Act.put, List.setIfInBounds_toArray, List.set_cons_zero, List.set_cons_succ, i64_w, i32_w]
                        rfl
                      refine pure_ (i := 1) (N := some 49) (v := ?_) (a' := ?_) #[true, true, false, false, false, false, false, false, false, false, false] rfl rfl (any_of HT_.out (by kernel_rfl)) (fun _ _ _ h => h) (Or.inl ⟨by rfl, ?_⟩) ?_ ?_
                      rotate_left
                      · intro w'
                        go_simp
                        with_reducible rfl
                      rotate_left
                      · simp only [Act.put, List.setIfInBounds_toArray, List.set_cons_zero, List.set_cons_succ, i64_w, i32_w]
                        rfl
                      refine pure_ (i := 2) (N := some 50) (v := ?_) (a' := ?_) #[true, true, true, false, false, false, false, false, false, false, false] rfl rfl (any_of HT_.out (by kernel_rfl)) (fun _ _ _ h => h) (Or.inl ⟨by rfl, ?_⟩) ?_ ?_
                      rotate_left
                      · intro w'
                        go_simp
                        with_reducible rfl
                      rotate_left
                      · simp only [Act.put, List.setIfInBounds_toArray, List.set_cons_zero, List.set_cons_succ, i64_w, i32_w]
                        rfl
                      refine pure_ (i := 3) (N := some 51) (v := ?_) (a' := ?_) #[true, true, true, true, false, false, false, false, false, false, false] rfl rfl (any_of HT_.out (by kernel_rfl)) (fun _ _ _ h => h) (Or.inl ⟨by rfl, ?_⟩) ?_ ?_
                      rotate_left
                      · intro w'
                        go_simp
                        with_reducible rfl
                      rotate_left
                      · simp only [Act.put, List.setIfInBounds_toArray, List.set_cons_zero, List.set_cons_succ, i64_w, i32_w]
                        rfl
                      refine pure_ (i := 4) (N := some 52) (v := ?_) (a' := ?_) #[true, true, true, true, true, false, false, false, false, false, false] rfl rfl (any_of HT_.out (by kernel_rfl)) (fun _ _ _ h => h) (Or.inl ⟨by rfl, ?_⟩) ?_ ?_
                      rotate_left
                      · intro w'
                        go_simp
                        with_reducible rfl
                      rotate_left
                      · simp only [Act.put, List.setIfInBounds_toArray, List.set_cons_zero, List.set_cons_succ, i64_w, i32_w]
                        rfl
                      refine take_ (i := 5) (N := some 53) (v := ?_) (a' := ?_) #[true, true, true, true, true, true, false, false, false, false, false] rfl rfl (take_ofW HT_.out HW_.out (by kernel_rfl)) (fun _ _ _ h => h) (Or.inl ⟨by rfl, ?_⟩) hHeld ?_ ?_
                      rotate_left
                      · rintro w' ⟨s0, s1, s2⟩
                        (try simp only [Int.toNat_natCast] at s0 s1 s2)
                        go_simp
                        with_reducible rfl
                      rotate_left
                      · simp only [Act.put, List.setIfInBounds_toArray, List.set_cons_zero, List.set_cons_succ, i64_w, i32_w]
                        rfl
                      refine take_ (i := 6) (N := some 54) (v := ?_) (a' := ?_) #[true, true, true, true, true, true, true, false, false, false, false] rfl rfl (take_ofW HT_.out HW_.out (by kernel_rfl)) (fun _ _ _ h => h) (Or.inl ⟨by rfl, ?_⟩) hHeld ?_ ?_
                      rotate_left
                      · rintro w' ⟨s0, s1, s2⟩
                        (try simp only [Int.toNat_natCast] at s0 s1 s2)
                        go_simp
                        with_reducible rfl
                      rotate_left
                      · simp only [Act.put, List.setIfInBounds_toArray, List.set_cons_zero, List.set_cons_succ, i64_w, i32_w]
                        rfl
                      refine one_ (i := 7) (N := some 55) #[true, true, true, true, true, true, true, true, false, false, false] rfl rfl (one_of HT_.out (by kernel_rfl)) (by decide) (fun K hK => ?_)
                      refine value_ (w1 := ?_) (v := ?_) (by rfl) rfl ?_ ?_
                      rotate_left 2
                      · go_simp
                        constructor
                        · rfl
                        · rfl
                      refine hK.out _ _ ⟨(blk_cell (zA BK154.out _) 0).trans rfl, (blk_cell (zA BK154.out _) 1).trans rfl, (World.cell?_alloc_lt _ _ _ (World.block_lt_of_cell? _ _ (hHeld.2.2))).trans (hHeld.2.2)⟩ (fun hHeld => ?_)
                      clear hK K
                      refine norm_ (a' := ?_) ?_ ?_
                      rotate_left
                      · show Act.put _ (some 55) _ = _
                        simp only [Act.put, List.setIfInBounds_toArray, List.set_cons_zero, List.set_cons_succ, i64_w, i32_w]
                        rfl
                      refine one_ (i := 8) (N := some 56) #[true, true, true, true, true, true, true, true, true, false, false] rfl rfl (one_of HT_.out (by kernel_rfl)) (by decide) (fun K hK => ?_)
                      refine Kd.R_append_step k41 (w0 := w) w.heap.size (by rfl) (.tmp 53) (.tmp 55) 22 41 (.agg #[(.int .i64 0), (.string ⟨#[]⟩)]) 24 rfl Try.underlying22 info41 rfl (by decide) (by omega) (.slice A166_0 (rd_L4 y163 (t159.length : Int)).length c166_0) (rd_L4 y163 (t159.length : Int)) (⟨a1_0, a1_1⟩ : S41) [.int .i64 a1_0, .string a1_1] (fun k_ => oki33 k_ ∨ ((fun k_ => k_ ≠ gb154)) k_ ∧ w31.heap.size ≤ k_) (fun _ => False) rfl rfl ?aP (fun _ hk => hk.elim) ?aF ?aO ?aB ?aS ?aL ?_
                      (case aP => exact k41_mkM _ _ _ (⟨a1_0, a1_1⟩ : S41))
                      (case aB => exact (by repeat (first | (with_reducible first | exact HB.out | apply zB | apply zP | apply zE | refine zS ?_ GE154.out) | exact HB.out)))
                      (case aF => exact (fun k_ hk => .inr ⟨Kd.freshB (g := gb154) (o := .cells #[.int .i64 a1_0, .string a1_1] 41 (0, 0)) (by (with_reducible repeat (first | refine zN ?_ _ | refine zD ?_ | refine zA ?_ _)); exact BK154.out) k_ hk, hk⟩))
                      (case aO => exact (by (with_reducible repeat (first | apply Kd.R_alloc | apply Kd.R_drewN | apply Kd.R_drew)); exact Kd.R_mono UU33.out (fun _ hk => .inl hk)))
                      (case aS => exact (below_size (by repeat (first | (with_reducible first | exact HB.out | apply zB | apply zP | apply zE | refine zS ?_ GE154.out) | exact HB.out))))
                      (case aL => have hL_ := LMc28.out; first | omega | exact Nat.le_of_lt hL_)
                      intro v168 w34 ho hb hg hat
                      (first | have HS2_ := cell_grown hg (hHeld.2.2) (by first | (rw [add_block]; exact (fun e_ => ((HL166_0.out.1 _ e_.symm).2) rfl)) | (show some (Addr.add _ _).block ≠ _; rw [add_block]; exact (fun e_ => ((HL166_0.out.1 _ e_.symm).2) rfl)) | exact (fun e_ => ((HL166_0.out.1 _ e_.symm).2) rfl)) | have HS2_ := cell_grown hg (cell_unalloc (hHeld.2.2) (by first | (rw [add_block]; exact Kd.S_lt HO165.out _ rfl) | (show (Addr.add _ _).block < _; rw [add_block]; exact Kd.S_lt HO165.out _ rfl) | exact Kd.S_lt HO165.out _ rfl)) (by first | (rw [add_block]; exact (fun e_ => ((HL166_0.out.1 _ e_.symm).2) rfl)) | (show some (Addr.add _ _).block ≠ _; rw [add_block]; exact (fun e_ => ((HL166_0.out.1 _ e_.symm).2) rfl)) | exact (fun e_ => ((HL166_0.out.1 _ e_.symm).2) rfl)))
                      rw [← Ny167.out] at ho
                      have n0_ := Aside0.mk (blk_grown (g := gb154) (o := .cells #[.int .i64 a1_0, .string a1_1] 41 (0, 0)) (by (with_reducible repeat (first | refine zN ?_ _ | refine zD ?_ | refine zA ?_ _)); exact BK154.out) hg (Kd.R_away HL166_0.out (fun _ hk => hk.1)))
                      have n1_ := Aside0.mk (hb)
                      have n2_ := Aside0.mk (Kd.H_grown (Kd.H_widen (by repeat (first | exact HH33.out | refine Kd.H_alloc ?_ _ | refine Kd.H_drewN ?_ _ | refine Kd.H_drew ?_))) hg (fun k_ e_ => .inl (UU33.out.1 k_ e_)))
                      have n3_ := Aside0.mk (ho)
                      clear BK154
                      clear HB
                      clear HH33
                      clear HO165
                      clear UU33
                      clear HL166_0
                      have BK154 := n0_
                      have HB := n1_
                      have HH33 := n2_
                      have HO169 := n3_
                      clear n0_ n1_ n2_ n3_
                      clear ho hb hg hat
                      have p29 : 0 ≤ ((t159.length : Int) : Int) := of_decide_eq_true (by first | (with_reducible assumption) | assumption)
                      have q29 : ((t159.length : Int) : Int) < ((y163.length : Int) : Int) := of_decide_eq_true (by first | (with_reducible assumption) | assumption)
                      replace p29 := eq_true p29
                      replace q29 := eq_true q29
                      obtain ⟨Ao37, co37, eo37⟩ := Kd.R_slice HO169.out
                      (first | subst eo37 | (injection eo37 with f1_ f2_ f3_; have f4_ := f1_.symm; have f5_ := f3_.symm; clear f1_ f2_ f3_; subst f4_; subst f5_))
                      obtain ⟨_, _, hraw35, _, _, hcc35, _⟩ := Kd.H_raw HH33.out (of_decide_eq_true (by first | (with_reducible assumption) | assumption)) (by have h_ : ((t159.length : Int) : Int) < ((y163.length : Int) : Int) := of_decide_eq_true (by first | (with_reducible assumption) | assumption); first | exact h_ | (have e_ := (HN33.out); omega) | simpa using h_)
                      obtain ⟨_, hfr35⟩ := Kd.H_at HH33.out (of_decide_eq_true (by first | (with_reducible assumption) | assumption)) (by have h_ : ((t159.length : Int) : Int) < ((y163.length : Int) : Int) := of_decide_eq_true (by first | (with_reducible assumption) | assumption); first | exact h_ | (have e_ := (HN33.out); omega) | simpa using h_)
                      have hx35_0 := hcc35 0 _ rfl
                      have hf35_0 := hfr35 0
                      (try simp only [Nat.add_zero] at hx35_0 hf35_0)
                      (try rw [show ((Kd.slice 41 k41)).sz = 1 from rfl, Nat.mul_one] at hx35_0)
                      (try rw [show ((Kd.slice 41 k41)).sz = 1 from rfl, Nat.mul_one] at hf35_0)
                      (try simp only [Int.toNat_natCast] at hf35_0 hx35_0)
                      have HP35 := Kd.S_seg0 HH33.out (of_decide_eq_true (by first | (with_reducible assumption) | assumption)) (by have h_ : ((t159.length : Int) : Int) < ((y163.length : Int) : Int) := of_decide_eq_true (by first | (with_reducible assumption) | assumption); first | exact h_ | (have e_ := (HN33.out); omega) | simpa using h_) (seg := [.slice Ao37 y167.length co37]) (j := 0) (show 1 ≤ 1 from by decide) (x' := y167) (Kd.M_row HO169.out) (fun _ hk => hk)
                      (try simp only [show ((Kd.slice 41 k41)).sz = 1 from rfl, Nat.mul_one, Nat.add_zero] at HP35)
                      clear hcc35 hfr35
                      have HNB154_go33 := Aside0.mk (show gb154 ≠ go33 from by have h_ := Kd.R_ne hraw35 BK154.out (by decide); intro e_; exact h_ (by rw [e_]; rfl))
                      have HS35 := HP35.1
                      rw [← Ny170.out] at HS35
                      have HQ35 := Aside0.mk HS35
                      obtain ⟨_, hgg35⟩ := Kd.R_typed hraw35 go33 rfl
                      have GG35_ := Aside0.mk hgg35
                      clear HP35 HS35 hgg35
                      refine hK.out _ _ ⟨(blk_cell BK154.out 0).trans rfl, (blk_cell BK154.out 1).trans rfl, HS2_⟩ (fun hHeld => ?_)
                      clear hK K
                      refine norm_ (a' := ?_) ?_ ?_
                      rotate_left
                      · show Act.put _ (some 56) _ = _
                        simp only [Act.put, List.setIfInBounds_toArray, List.set_cons_zero, List.set_cons_succ, i64_w, i32_w]
                        rfl
                      refine pure_ (i := 9) (N := some 57) (v := ?_) (a' := ?_) #[true, true, true, true, true, true, true, true, true, true, false] rfl rfl (any_of HT_.out (by kernel_rfl)) (fun _ _ _ h => h) (Or.inl ⟨by rfl, ?_⟩) ?_ ?_
                      rotate_left
                      · intro w'
                        go_simp
                        with_reducible rfl
                      rotate_left
                      · simp only [Act.put, List.setIfInBounds_toArray, List.set_cons_zero, List.set_cons_succ, i64_w, i32_w]
                        rfl
                      refine last_ (i := 10) (N := none) #[true, true, true, true, true, true, true, true, true, true, true] rfl rfl (one_of HT_.out (by kernel_rfl)) (by decide) (fun K hK => ?_)
                      refine skip_ (w1 := ?_) (by rfl) rfl ?_ ?_
                      rotate_left
                      · go_simp
                        rfl
                      refine hK.out _ _ ?_
                      clear hK K
                      refine done_ (done_of HT_.out (by kernel_rfl)) ?_
                      try go_wp2
                      go_ret3
                      exact ⟨_, by first | rfl | (simp [errW_none, errW_some] <;> rfl) | (simp [*, errW_none, errW_some] <;> rfl), by (with_reducible repeat (first | apply Kd.S_alloc | apply Kd.S_drewN | apply Kd.S_drew)); exact Kd.S_mono HQ35.out (fun _ hk => trivial), by repeat (first | (with_reducible first | exact HB.out | apply zB | apply zP | apply zE | refine zS ?_ GB33.out | refine zS ?_ GE154.out) | exact HB.out)⟩
                    · rw [if_neg c28] at H
                      exact absurd H (by simp)
                  · rw [if_neg c27] at H
                    exact absurd H (by simp)
                · rw [if_neg c26] at H
                  exact absurd H (by simp)
              · rw [if_neg c25] at H
                exact absurd H (by simp)
            · rw [if_neg c24] at H
              have c24b0 : decide (t162 < 0) = false := decide_eq_false c24
              clear c24
              by_cases c38 : 0 ≤ t162
              · rw [if_pos c38] at H
                have c38b0 : decide (0 ≤ t162) = true := decide_eq_true c38
                clear c38
                by_cases c39 : t162 < (t159.length : Int)
                · rw [if_pos c39] at H
                  have c39b0 : decide (t162 < (t159.length : Int)) = true := decide_eq_true c39
                  clear c39
                  by_cases c40 : (rd_L4 t159 t162).length < 5864062014805
                  · rw [if_pos c40] at H
                    have LMc40 := Aside0.mk c40
                    clear c40
                    obtain ⟨y172, hy172⟩ : ∃ y_ : List (S41), y_ = ((rd_L4 t159 t162) ++ [(⟨a1_0, a1_1⟩ : S41)]) := ⟨_, rfl⟩
                    replace H : (some ((t159.set (t162 : Int).toNat y172), t162, 0)) = some (r1, r2, r3) := by first | (rw [hy172]; with_reducible exact H) | (have H2_ := (Option.bind_some _ _).symm.trans H; rw [hy172]; with_reducible exact H2_) | (have H2_ := (Option.bind_some _ _).symm.trans H; with_reducible exact H2_) | with_reducible exact H | (rw [hy172]; exact H) | exact H
                    have Ny172 := Aside0.mk hy172
                    clear hy172
                    obtain ⟨y175, hy175⟩ : ∃ y_ : List (List (S41)), y_ = (t159.set (t162 : Int).toNat y172) := ⟨_, rfl⟩
                    replace H : (some (y175, t162, 0)) = some (r1, r2, r3) := by first | (rw [hy175]; with_reducible exact H) | (have H2_ := (Option.bind_some _ _).symm.trans H; rw [hy175]; with_reducible exact H2_) | (have H2_ := (Option.bind_some _ _).symm.trans H; with_reducible exact H2_) | with_reducible exact H | (rw [hy175]; exact H) | exact H
                    have Ny175 := Aside0.mk hy175
                    clear hy175
                    simp only [Option.some.injEq, Prod.mk.injEq] at H
                    obtain ⟨rfl, rfl, rfl⟩ := H
                    try go_wp2
                    have n0_ := Aside0.mk (Kd.S_drew HO_11.out)
                    have n1_ := Aside0.mk (zD BK154.out)
                    have n2_ := Aside0.mk (zE HB.out)
                    clear HO_11
                    clear BK154
                    clear HB
                    have HO_11 := n0_
                    have BK154 := n1_
                    have HB := n2_
                    clear n0_ n1_ n2_
                    have p171 : 0 ≤ (t162 : Int) := of_decide_eq_true (by first | (with_reducible assumption) | assumption)
                    have q171 : t162 < (t159.length : Int) := of_decide_eq_true (by first | (with_reducible assumption) | assumption)
                    obtain ⟨ad171, A171_0, c171_0, e171, hx171_0, hl171_0, hi171_0⟩ := at_L4 (Kd.S_reads' HO_11.out).2.2 t162 p171 q171
                    cases e171
                    obtain ⟨ce171, hce171, hMe171, hcc171⟩ := Kd.S_get HO_11.out [] t162 p171 (by first | exact q171 | exact of_decide_eq_true (by first | (with_reducible assumption) | assumption) | (have e_ := (Kd.S_reads' HO_11.out).1; omega))
                    obtain ⟨ve171_0, rfl, ge171_0⟩ := hMe171
                    have hv171_0 := hcc171 0 _ rfl
                    rw [Nat.add_zero, show ((Kd.slice 41 k41)).sz = 1 from rfl, Nat.mul_one] at hv171_0
                    replace hv171_0 := Option.some.inj (hv171_0.symm.trans hx171_0)
                    rw [hv171_0] at ge171_0
                    have HL171_0 := Aside0.mk (show Kd.R k41 41 _ _ _ _ (rd_L4 t159 t162) from ge171_0)
                    clear hv171_0 ge171_0
                    have HX171_0 := Aside0.mk hx171_0
                    clear hcc171 hce171
                    have HR171_0 := Aside0.mk hi171_0
                    have HC171_0 := Aside0.mk hl171_0
                    clear hi171_0 hl171_0
                    replace p171 := eq_true p171
                    replace q171 := eq_true q171
                    obtain ⟨go43, co43, eo43, gb43, gl43, cl43, HG43⟩ := Kd.S_form HO_11.out (by have h_ : (t162 : Int) < ((t159.length : Int) : Int) := of_decide_eq_true (by first | (with_reducible assumption) | assumption); have h2_ : 0 ≤ (t162 : Int) := (of_decide_eq_true (by first | (with_reducible assumption) | assumption)); omega)
                    (first | cases eo43 | (injection eo43 with ea_ en_ ec_; (first | subst ea_ | (injection ea_ with ea_; subst ea_)); subst ec_; clear en_))
                    have GB43 := Aside0.mk gb43
                    have GG43 := Aside0.mk HG43
                    clear gb43 gl43 HG43
                    (first | simp only [add_plain] at hx171_0 | skip)
                    obtain ⟨oki43, ce43, hcl43, hM43, hcc43, _, _, hH43⟩ := Kd.S_elem HO_11.out [] (t162 : Int) (of_decide_eq_true (by first | (with_reducible assumption) | assumption)) (by have h_ : (t162 : Int) < ((t159.length : Int) : Int) := of_decide_eq_true (by first | (with_reducible assumption) | assumption); first | exact h_ | (have e_ := (Kd.S_reads' HO_11.out).1; omega) | simpa using h_)
                    obtain ⟨ve43_0, rfl, ge43_0⟩ := hM43
                    have hv43 := hcc43 0 _ rfl
                    have hX43 := HX171_0.out
                    (try simp only [add_plain] at hX43)
                    (try simp only [Nat.add_zero] at hv43)
                    (try rw [show ((Kd.slice 41 k41)).sz = 1 from rfl, Nat.mul_one] at hv43)
                    replace hv43 := Option.some.inj (hv43.symm.trans hX43)
                    subst hv43
                    clear hX43 hcc43 hcl43
                    have UU43 := Aside0.mk (show Kd.R k41 41 _ w.heap.size oki43 (.slice A171_0 (rd_L4 t159 t162).length c171_0) (rd_L4 t159 t162) from ge43_0)
                    have HH43 := Aside0.mk hH43
                    have HN43 := Aside0.mk (Kd.S_reads' HO_11.out).1
                    clear hH43 ge43_0
                    refine start_ (n := 11) (S := fun w' => w'.cell? ⟨gb154, 0, none⟩ = some (.int .i64 a1_0) ∧ w'.cell? ⟨gb154, 1, none⟩ = some (.string a1_1) ∧ w'.cell? ⟨go43, (t162).toNat, none⟩ = some (.slice A171_0 (rd_L4 t159 t162).length c171_0)) (ds := [10]) #[false, false, false, false, false, false, false, false, false, false, false] (by kernel_rfl) rfl rfl ⟨(blk_cell BK154.out 0).trans rfl, (blk_cell BK154.out 1).trans rfl, hx171_0⟩ (fun hHeld => ?_); refine with_tabW entry_Add.tab14 entry_Add.bits14 (fun HT_ HW_ => ?_)
                    generalize wc.drew = w42 at HO_11 BK154 HB GG43 HH43 HL171_0 HR171_0 HX171_0 UU43 hx171_0 hHeld ⊢
                    refine pure_ (i := 0) (N := some 48) (v := ?_) (a' := ?_) #[true, false, false, false, false, false, false, false, false, false, false] rfl rfl (any_of HT_.out (by kernel_rfl)) (fun _ _ _ h => h) (Or.inl ⟨by rfl, ?_⟩) ?_ ?_
                    rotate_left
                    · intro w'
                      go_simp
                      with_reducible rfl
                    rotate_left
                    · simp only [Act.put, List.setIfInBounds_toArray, List.set_cons_zero, List.set_cons_succ, i64_w, i32_w]
                      rfl
                    refine pure_ (i := 1) (N := some 49) (v := ?_) (a' := ?_) #[true, true, false, false, false, false, false, false, false, false, false] rfl rfl (any_of HT_.out (by kernel_rfl)) (fun _ _ _ h => h) (Or.inl ⟨by rfl, ?_⟩) ?_ ?_
                    rotate_left
                    · intro w'
                      go_simp
                      with_reducible rfl
                    rotate_left
                    · simp only [Act.put, List.setIfInBounds_toArray, List.set_cons_zero, List.set_cons_succ, i64_w, i32_w]
                      rfl
                    refine pure_ (i := 2) (N := some 50) (v := ?_) (a' := ?_) #[true, true, true, false, false, false, false, false, false, false, false] rfl rfl (any_of HT_.out (by kernel_rfl)) (fun _ _ _ h => h) (Or.inl ⟨by rfl, ?_⟩) ?_ ?_
                    rotate_left
                    · intro w'
                      go_simp
                      with_reducible rfl
                    rotate_left
                    · simp only [Act.put, List.setIfInBounds_toArray, List.set_cons_zero, List.set_cons_succ, i64_w, i32_w]
                      rfl
                    refine pure_ (i := 3) (N := some 51) (v := ?_) (a' := ?_) #[true, true, true, true, false, false, false, false, false, false, false] rfl rfl (any_of HT_.out (by kernel_rfl)) (fun _ _ _ h => h) (Or.inl ⟨by rfl, ?_⟩) ?_ ?_
                    rotate_left
                    · intro w'
                      go_simp
                      with_reducible rfl
                    rotate_left
                    · simp only [Act.put, List.setIfInBounds_toArray, List.set_cons_zero, List.set_cons_succ, i64_w, i32_w]
                      rfl
                    refine pure_ (i := 4) (N := some 52) (v := ?_) (a' := ?_) #[true, true, true, true, true, false, false, false, false, false, false] rfl rfl (any_of HT_.out (by kernel_rfl)) (fun _ _ _ h => h) (Or.inl ⟨by rfl, ?_⟩) ?_ ?_
                    rotate_left
                    · intro w'
                      go_simp
                      with_reducible rfl
                    rotate_left
                    · simp only [Act.put, List.setIfInBounds_toArray, List.set_cons_zero, List.set_cons_succ, i64_w, i32_w]
                      rfl
                    refine take_ (i := 5) (N := some 53) (v := ?_) (a' := ?_) #[true, true, true, true, true, true, false, false, false, false, false] rfl rfl (take_ofW HT_.out HW_.out (by kernel_rfl)) (fun _ _ _ h => h) (Or.inl ⟨by rfl, ?_⟩) hHeld ?_ ?_
                    rotate_left
                    · rintro w' ⟨s0, s1, s2⟩
                      (try simp only [Int.toNat_natCast] at s0 s1 s2)
                      go_simp
                      with_reducible rfl
                    rotate_left
                    · simp only [Act.put, List.setIfInBounds_toArray, List.set_cons_zero, List.set_cons_succ, i64_w, i32_w]
                      rfl
                    refine take_ (i := 6) (N := some 54) (v := ?_) (a' := ?_) #[true, true, true, true, true, true, true, false, false, false, false] rfl rfl (take_ofW HT_.out HW_.out (by kernel_rfl)) (fun _ _ _ h => h) (Or.inl ⟨by rfl, ?_⟩) hHeld ?_ ?_
                    rotate_left
                    · rintro w' ⟨s0, s1, s2⟩
                      (try simp only [Int.toNat_natCast] at s0 s1 s2)
                      go_simp
                      with_reducible rfl
                    rotate_left
                    · simp only [Act.put, List.setIfInBounds_toArray, List.set_cons_zero, List.set_cons_succ, i64_w, i32_w]
                      rfl
                    refine one_ (i := 7) (N := some 55) #[true, true, true, true, true, true, true, true, false, false, false] rfl rfl (one_of HT_.out (by kernel_rfl)) (by decide) (fun K hK => ?_)
                    refine value_ (w1 := ?_) (v := ?_) (by rfl) rfl ?_ ?_
                    rotate_left 2
                    · go_simp
                      constructor
                      · rfl
                      · rfl
                    refine hK.out _ _ ⟨(blk_cell (zA BK154.out _) 0).trans rfl, (blk_cell (zA BK154.out _) 1).trans rfl, (World.cell?_alloc_lt _ _ _ (World.block_lt_of_cell? _ _ (hHeld.2.2))).trans (hHeld.2.2)⟩ (fun hHeld => ?_)
                    clear hK K
                    refine norm_ (a' := ?_) ?_ ?_
                    rotate_left
                    · show Act.put _ (some 55) _ = _
                      simp only [Act.put, List.setIfInBounds_toArray, List.set_cons_zero, List.set_cons_succ, i64_w, i32_w]
                      rfl
                    refine one_ (i := 8) (N := some 56) #[true, true, true, true, true, true, true, true, true, false, false] rfl rfl (one_of HT_.out (by kernel_rfl)) (by decide) (fun K hK => ?_)
                    refine Kd.R_append_step k41 (w0 := w) w.heap.size (by rfl) (.tmp 53) (.tmp 55) 22 41 (.agg #[(.int .i64 0), (.string ⟨#[]⟩)]) 24 rfl Try.underlying22 info41 rfl (by decide) (by omega) (.slice A171_0 (rd_L4 t159 t162).length c171_0) (rd_L4 t159 t162) (⟨a1_0, a1_1⟩ : S41) [.int .i64 a1_0, .string a1_1] (fun k_ => oki43 k_ ∨ ((fun k_ => k_ ≠ gb154)) k_ ∧ w42.heap.size ≤ k_) (fun _ => False) rfl rfl ?aP (fun _ hk => hk.elim) ?aF ?aO ?aB ?aS ?aL ?_
                    (case aP => exact k41_mkM _ _ _ (⟨a1_0, a1_1⟩ : S41))
                    (case aB => exact (by repeat (first | (with_reducible first | exact HB.out | apply zB | apply zP | apply zE | refine zS ?_ GE154.out) | exact HB.out)))
                    (case aF => exact (fun k_ hk => .inr ⟨Kd.freshB (g := gb154) (o := .cells #[.int .i64 a1_0, .string a1_1] 41 (0, 0)) (by (with_reducible repeat (first | refine zN ?_ _ | refine zD ?_ | refine zA ?_ _)); exact BK154.out) k_ hk, hk⟩))
                    (case aO => exact (by (with_reducible repeat (first | apply Kd.R_alloc | apply Kd.R_drewN | apply Kd.R_drew)); exact Kd.R_mono UU43.out (fun _ hk => .inl hk)))
                    (case aS => exact (below_size (by repeat (first | (with_reducible first | exact HB.out | apply zB | apply zP | apply zE | refine zS ?_ GE154.out) | exact HB.out))))
                    (case aL => have hL_ := LMc40.out; first | omega | exact Nat.le_of_lt hL_)
                    intro v173 w44 ho hb hg hat
                    (first | have HS2_ := cell_grown hg (hHeld.2.2) (by first | (rw [add_block]; exact (fun e_ => ((HL171_0.out.1 _ e_.symm).2) rfl)) | (show some (Addr.add _ _).block ≠ _; rw [add_block]; exact (fun e_ => ((HL171_0.out.1 _ e_.symm).2) rfl)) | exact (fun e_ => ((HL171_0.out.1 _ e_.symm).2) rfl)) | have HS2_ := cell_grown hg (cell_unalloc (hHeld.2.2) (by first | (rw [add_block]; exact Kd.S_lt HO_11.out _ rfl) | (show (Addr.add _ _).block < _; rw [add_block]; exact Kd.S_lt HO_11.out _ rfl) | exact Kd.S_lt HO_11.out _ rfl)) (by first | (rw [add_block]; exact (fun e_ => ((HL171_0.out.1 _ e_.symm).2) rfl)) | (show some (Addr.add _ _).block ≠ _; rw [add_block]; exact (fun e_ => ((HL171_0.out.1 _ e_.symm).2) rfl)) | exact (fun e_ => ((HL171_0.out.1 _ e_.symm).2) rfl)))
                    rw [← Ny172.out] at ho
                    have n0_ := Aside0.mk (blk_grown (g := gb154) (o := .cells #[.int .i64 a1_0, .string a1_1] 41 (0, 0)) (by (with_reducible repeat (first | refine zN ?_ _ | refine zD ?_ | refine zA ?_ _)); exact BK154.out) hg (Kd.R_away HL171_0.out (fun _ hk => hk.1)))
                    have n1_ := Aside0.mk (hb)
                    have n2_ := Aside0.mk (Kd.H_grown (Kd.H_widen (by repeat (first | exact HH43.out | refine Kd.H_alloc ?_ _ | refine Kd.H_drewN ?_ _ | refine Kd.H_drew ?_))) hg (fun k_ e_ => .inl (UU43.out.1 k_ e_)))
                    have n3_ := Aside0.mk (ho)
                    clear BK154
                    clear HB
                    clear HH43
                    clear HO_11
                    clear UU43
                    clear HL171_0
                    have BK154 := n0_
                    have HB := n1_
                    have HH43 := n2_
                    have HO174 := n3_
                    clear n0_ n1_ n2_ n3_
                    clear ho hb hg hat
                    have p41 : 0 ≤ (t162 : Int) := of_decide_eq_true (by first | (with_reducible assumption) | assumption)
                    have q41 : (t162 : Int) < ((t159.length : Int) : Int) := of_decide_eq_true (by first | (with_reducible assumption) | assumption)
                    replace p41 := eq_true p41
                    replace q41 := eq_true q41
                    obtain ⟨Ao47, co47, eo47⟩ := Kd.R_slice HO174.out
                    (first | subst eo47 | (injection eo47 with f1_ f2_ f3_; have f4_ := f1_.symm; have f5_ := f3_.symm; clear f1_ f2_ f3_; subst f4_; subst f5_))
                    obtain ⟨_, _, hraw45, _, _, hcc45, _⟩ := Kd.H_raw HH43.out (of_decide_eq_true (by first | (with_reducible assumption) | assumption)) (by have h_ : (t162 : Int) < ((t159.length : Int) : Int) := of_decide_eq_true (by first | (with_reducible assumption) | assumption); first | exact h_ | (have e_ := (HN43.out); omega) | simpa using h_)
                    obtain ⟨_, hfr45⟩ := Kd.H_at HH43.out (of_decide_eq_true (by first | (with_reducible assumption) | assumption)) (by have h_ : (t162 : Int) < ((t159.length : Int) : Int) := of_decide_eq_true (by first | (with_reducible assumption) | assumption); first | exact h_ | (have e_ := (HN43.out); omega) | simpa using h_)
                    have hx45_0 := hcc45 0 _ rfl
                    have hf45_0 := hfr45 0
                    (try simp only [Nat.add_zero] at hx45_0 hf45_0)
                    (try rw [show ((Kd.slice 41 k41)).sz = 1 from rfl, Nat.mul_one] at hx45_0)
                    (try rw [show ((Kd.slice 41 k41)).sz = 1 from rfl, Nat.mul_one] at hf45_0)
                    (try simp only [Int.toNat_natCast] at hf45_0 hx45_0)
                    have HP45 := Kd.S_seg0 HH43.out (of_decide_eq_true (by first | (with_reducible assumption) | assumption)) (by have h_ : (t162 : Int) < ((t159.length : Int) : Int) := of_decide_eq_true (by first | (with_reducible assumption) | assumption); first | exact h_ | (have e_ := (HN43.out); omega) | simpa using h_) (seg := [.slice Ao47 y172.length co47]) (j := 0) (show 1 ≤ 1 from by decide) (x' := y172) (Kd.M_row HO174.out) (fun _ hk => hk)
                    (try simp only [show ((Kd.slice 41 k41)).sz = 1 from rfl, Nat.mul_one, Nat.add_zero] at HP45)
                    clear hcc45 hfr45
                    have HNB154_go43 := Aside0.mk (show gb154 ≠ go43 from by have h_ := Kd.R_ne hraw45 BK154.out (by decide); intro e_; exact h_ (by rw [e_]; rfl))
                    have HS45 := HP45.1
                    rw [← Ny175.out] at HS45
                    have HQ45 := Aside0.mk HS45
                    obtain ⟨_, hgg45⟩ := Kd.R_typed hraw45 go43 rfl
                    have GG45_ := Aside0.mk hgg45
                    clear HP45 HS45 hgg45
                    refine hK.out _ _ ⟨(blk_cell BK154.out 0).trans rfl, (blk_cell BK154.out 1).trans rfl, HS2_⟩ (fun hHeld => ?_)
                    clear hK K
                    refine norm_ (a' := ?_) ?_ ?_
                    rotate_left
                    · show Act.put _ (some 56) _ = _
                      simp only [Act.put, List.setIfInBounds_toArray, List.set_cons_zero, List.set_cons_succ, i64_w, i32_w]
                      rfl
                    refine pure_ (i := 9) (N := some 57) (v := ?_) (a' := ?_) #[true, true, true, true, true, true, true, true, true, true, false] rfl rfl (any_of HT_.out (by kernel_rfl)) (fun _ _ _ h => h) (Or.inl ⟨by rfl, ?_⟩) ?_ ?_
                    rotate_left
                    · intro w'
                      go_simp
                      with_reducible rfl
                    rotate_left
                    · simp only [Act.put, List.setIfInBounds_toArray, List.set_cons_zero, List.set_cons_succ, i64_w, i32_w]
                      rfl
                    refine last_ (i := 10) (N := none) #[true, true, true, true, true, true, true, true, true, true, true] rfl rfl (one_of HT_.out (by kernel_rfl)) (by decide) (fun K hK => ?_)
                    refine skip_ (w1 := ?_) (by rfl) rfl ?_ ?_
                    rotate_left
                    · go_simp
                      rfl
                    refine hK.out _ _ ?_
                    clear hK K
                    refine done_ (done_of HT_.out (by kernel_rfl)) ?_
                    try go_wp2
                    go_ret3
                    exact ⟨_, by first | rfl | (simp [errW_none, errW_some] <;> rfl) | (simp [*, errW_none, errW_some] <;> rfl), by (with_reducible repeat (first | apply Kd.S_alloc | apply Kd.S_drewN | apply Kd.S_drew)); exact Kd.S_mono HQ45.out (fun _ hk => trivial), by repeat (first | (with_reducible first | exact HB.out | apply zB | apply zP | apply zE | refine zS ?_ GB43.out | refine zS ?_ GE154.out) | exact HB.out)⟩
                  · rw [if_neg c40] at H
                    exact absurd H (by simp)
                · rw [if_neg c39] at H
                  exact absurd H (by simp)
              · rw [if_neg c38] at H
                exact absurd H (by simp)
  · rw [if_neg c4] at H
    have c4b0 : (t155 == 0) = false := beq_eq_false_iff_ne.mpr c4
    have c4b1 : (t155 != 0) = true := bne_iff_ne.mpr c4
    simp only [Option.some.injEq, Prod.mk.injEq] at H
    obtain ⟨rfl, rfl, rfl⟩ := H
    go_enter Try.func22, Try.ntmps22
    go_wp2_with (first | ((with_reducible refine gate_dst (N := 3) rfl ?_); (try (refine gate_guard (by rfl) ?_; dsimp only)); refine box_event ?hg (N := 3) ?hd (cs := #[.int .i64 a1_0, .string a1_1]) (t := 41) ?hr ?_; (case hd => rfl); (case hg => rfl); (case hr => first | (go_simp; done) | (go_simp; rfl)); intro gb154 hg w48 hbox hb; have n0_ := Aside0.mk (below_step (by repeat (first | (with_reducible first | exact HB.out | apply zB | apply zP | apply zE) | exact HB.out)) hb); have n1_ := Aside0.mk (hbox); have n2_ := Aside0.mk ((by rw [hg]; exact (below_size (by repeat (first | (with_reducible first | exact HB.out | apply zB | apply zP | apply zE) | exact HB.out))) : w.heap.size ≤ gb154)); have n3_ := Aside0.mk ((by rw [hg]; exact (below_size (by repeat (first | (with_reducible first | exact HB.out | apply zB | apply zP | apply zE) | exact HB.out))) : w.heap.size ≤ gb154)); clear HB; have HB := n0_; have BK154 := n1_; have GW154 := n2_; have GE154 := n3_; clear n0_ n1_ n2_ n3_; clear hb hbox hg; have hcz49_0 : w48.cell? ⟨gb154, 0, none⟩ = some (.int .i64 a1_0) := (blk_cell BK154.out 0).trans rfl; have hcz49_1 : w48.cell? ⟨gb154, 1, none⟩ = some (.string a1_1) := (blk_cell BK154.out 1).trans rfl; have hfz49_0 := blk_frozen BK154.out 0; have hfz49_1 := blk_frozen BK154.out 1) | ((with_reducible refine gate_callee (f := 36) rfl ?_); refine goesL_ (some 15) rfl rfl Try.func36 (by kernel_rfl) rfl #[.slice A0 l0.length c0, .agg #[.int .i64 a1_0, .string a1_1]] rfl (by (try simp only [List.map_toArray, List.map_cons, List.map_nil]); first | done | rfl | (simp only [List.length_drop, List.length_take]; rfl)) ?_; (with_reducible refine (entry_check.calls _ _ l0 a1_0 a1_1 t155 _ ?side1 ?side2 A3.out).mono ?_); (case side1 => repeat (first | exact (Kd.C_below HR0.out HB.out) | (with_reducible refine Kd.C_alloc ?_ _) | (with_reducible refine Kd.C_drewN ?_ _) | (with_reducible refine Kd.C_drew ?_))); (case side2 => exact HC0.out); rintro e w50 ⟨rfl, hb⟩; refine ⟨_, rfl, ?_⟩; have n0_ := Aside0.mk (blk_below (g := gb154) (o := .cells #[.int .i64 a1_0, .string a1_1] 41 (0, 0)) (by (with_reducible repeat (first | refine zN ?_ _ | refine zD ?_ | refine zA ?_ _)); exact BK154.out) hb); have n1_ := Aside0.mk (below_step (by repeat (first | (with_reducible first | exact HB.out | apply zB | apply zP | apply zE | refine zS ?_ GE154.out) | exact HB.out)) hb); clear BK154; clear HB; have BK154 := n0_; have HB := n1_; clear n0_ n1_; (try clear hb); (try clear hb2); (try clear hk); (try clear hi)))
    go_ret3
    exact ⟨_, by first | rfl | (simp [errW_none, errW_some] <;> rfl) | (simp [*, errW_none, errW_some] <;> rfl), by first | exact Kd.S_nil _ _ _ _ _ | exact Kd.N_nil _ _ _ _ _ | exact Kd.V_nil _ _ _ _ _ | exact Kd.Q_nil _ _ _ _ _ | exact Kd.R_nil _ _ _ _ _, by repeat (first | (with_reducible first | exact HB.out | apply zB | apply zP | apply zE | refine zS ?_ GE154.out) | exact HB.out)⟩

end Go.Proofs.Ytnccbebjligpdaa.PAll
