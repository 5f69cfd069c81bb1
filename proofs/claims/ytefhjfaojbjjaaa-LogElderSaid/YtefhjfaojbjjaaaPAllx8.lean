-- Printed out of the translation by a program; functions that were proved by hand stand among them. Lean checks it.
import Derived.Test.YtefhjfaojbjjaaaPAllx0
import Derived.Test.YtefhjfaojbjjaaaPAllx1
import Derived.Test.YtefhjfaojbjjaaaPAllx6
import Derived.Test.YtefhjfaojbjjaaaPAllx7
namespace Go.Proofs.Ytefhjfaojbjjaaa.PAll
open Go.RowKit Go.Proofs.YtefhjfaojbjjaaaW.PrintWords Go.Proofs.YtefhjfaojbjjaaaW.PrintLast Go.Proofs.YtefhjfaojbjjaaaW.PrintMore
attribute [local go_sem] max2_int min2_int max_two min_two max_three min_three max_four min_four   -- for this text's walks alone
set_option linter.unusedVariables false
set_option linter.unusedSimpArgs false

attribute [local go_sem high] eqA41
/-! ### drydocklaw15_LogElder: function 8 -/
mutual
def drydocklaw15_LogElder.j0 : Nat → List (List Int) → List (List (S50)) → Bool → Int → Int → Int → Int → Option (Bool)
  | 0, _, _, _, _, _, _, _ => none
  | k + 1, x0, x5, x31, x157000, x157001, x164000, x164001 => if x31 = true then ((drydocklaw15_awake.f k).bind fun t165 => (some t165)) else ((log_Find.f k x0 x157000 (wrap64 (x157001 + 1))).bind fun bt167 => (drydocklaw15_LogElder.l0 k x5 bt167.1 bt167.2.2.2 0 0 x157000 x157001 x164000 x164001 x157000 (wrap64 (x157001 + 1)) bt167.2.1 bt167.2.2.1))
def drydocklaw15_LogElder.l0 : Nat → List (List (S50)) → List (List (S50)) → Int → Int → Int → Int → Int → Int → Int → Int → Int → Int → Int → Option (Bool)
  | 0, _, _, _, _, _, _, _, _, _, _, _, _, _ => none
  | k + 1, x5, x9, x11, x12, x13, x157000, x157001, x164000, x164001, x167000, x167001, x174000, x174001 => if x13 < (x5.length : Int) then (if 0 ≤ x13 then (drydocklaw15_LogElder.l0 k x5 x9 x11 (wrap64 (x12 + (wrap64 (((rd_L4 x5 x13).length : Int) + 2)))) (wrap64 (x13 + 1)) x157000 x157001 x164000 x164001 x167000 x167001 x174000 x174001) else (none)) else (if x11 = 0 then (if (x9.length : Int) = 0 then (if (x174000 == x167000 && (x174001 == x167001)) = true then (if x164001 = (wrap64 (x157001 + (x5.length : Int))) then (some (x164000 == (Int.tmod (wrap64 (x157000 + x12)) 40))) else (some false)) else (some false)) else (some false)) else (if x164001 = (wrap64 (x157001 + (x5.length : Int))) then (some (x164000 == (Int.tmod (wrap64 (x157000 + x12)) 40))) else (some false)))
end
def drydocklaw15_LogElder.f (k : Nat) (l0 : List (List Int)) (a1_0 : Int) (a1_1 : Int) : Option (Bool) := (log_Find.f k l0 a1_0 a1_1).bind fun bt157 => ((drydocklaw15_awake.f k).bind fun t164 => (if t164 = true then (if bt157.2.2.2 = 0 then (drydocklaw15_LogElder.j0 k l0 bt157.1 ((bt157.1.length : Int) == 0) a1_0 a1_1 bt157.2.1 bt157.2.2.1) else (drydocklaw15_LogElder.j0 k l0 bt157.1 true a1_0 a1_1 bt157.2.1 bt157.2.2.1)) else (drydocklaw15_LogElder.j0 k l0 bt157.1 true a1_0 a1_1 bt157.2.1 bt157.2.2.1)))
theorem drydocklaw15_LogElder.mono_l : ∀ k, (∀ y0 y1 y2 y3 y4 y5 y6, LeO (drydocklaw15_LogElder.j0 k y0 y1 y2 y3 y4 y5 y6) (drydocklaw15_LogElder.j0 (k + 1) y0 y1 y2 y3 y4 y5 y6)) ∧ (∀ y0 y1 y2 y3 y4 y5 y6 y7 y8 y9 y10 y11 y12, LeO (drydocklaw15_LogElder.l0 k y0 y1 y2 y3 y4 y5 y6 y7 y8 y9 y10 y11 y12) (drydocklaw15_LogElder.l0 (k + 1) y0 y1 y2 y3 y4 y5 y6 y7 y8 y9 y10 y11 y12))
  | 0 => ⟨fun _ _ _ _ _ _ _ r h => by simp [drydocklaw15_LogElder.j0] at h, fun _ _ _ _ _ _ _ _ _ _ _ _ _ r h => by simp [drydocklaw15_LogElder.l0] at h⟩
  | k + 1 => by
    obtain ⟨ih0, ih1⟩ := drydocklaw15_LogElder.mono_l k
    refine ⟨?_, ?_⟩
    · intro y0 y1 y2 y3 y4 y5 y6
      unfold drydocklaw15_LogElder.j0
      repeat' first
      | (with_reducible exact ih0 _ _ _ _ _ _ _)
      | (with_reducible exact ih1 _ _ _ _ _ _ _ _ _ _ _ _ _)
      | (with_reducible exact drydocklaw15_awake.mono _)
      | (with_reducible exact log_Find.mono _ _ _ _)
      | (with_reducible exact LeO.refl _)
      | (with_reducible exact LeO.none _)
      | (with_reducible refine LeO.ite ?_ ?_)
      | (with_reducible refine LeO.bind ?_ (fun _ => ?_))
      | exact ih0 _ _ _ _ _ _ _
      | exact ih1 _ _ _ _ _ _ _ _ _ _ _ _ _
      | exact drydocklaw15_awake.mono _
      | exact log_Find.mono _ _ _ _
      | exact LeO.none _
      | refine LeO.ite ?_ ?_
      | refine LeO.bind ?_ (fun _ => ?_)
    · intro y0 y1 y2 y3 y4 y5 y6 y7 y8 y9 y10 y11 y12
      unfold drydocklaw15_LogElder.l0
      repeat' first
      | (with_reducible exact ih0 _ _ _ _ _ _ _)
      | (with_reducible exact ih1 _ _ _ _ _ _ _ _ _ _ _ _ _)
      | (with_reducible exact drydocklaw15_awake.mono _)
      | (with_reducible exact log_Find.mono _ _ _ _)
      | (with_reducible exact LeO.refl _)
      | (with_reducible exact LeO.none _)
      | (with_reducible refine LeO.ite ?_ ?_)
      | (with_reducible refine LeO.bind ?_ (fun _ => ?_))
      | exact ih0 _ _ _ _ _ _ _
      | exact ih1 _ _ _ _ _ _ _ _ _ _ _ _ _
      | exact drydocklaw15_awake.mono _
      | exact log_Find.mono _ _ _ _
      | exact LeO.none _
      | refine LeO.ite ?_ ?_
      | refine LeO.bind ?_ (fun _ => ?_)
theorem drydocklaw15_LogElder.mono : ∀ a0 a1 a2 k, LeO (drydocklaw15_LogElder.f k a0 a1 a2) (drydocklaw15_LogElder.f (k + 1) a0 a1 a2) := by
  intro a0 a1 a2 k
  obtain ⟨ih0, ih1⟩ := drydocklaw15_LogElder.mono_l k
  unfold drydocklaw15_LogElder.f
  repeat' first
      | (with_reducible exact ih0 _ _ _ _ _ _ _)
      | (with_reducible exact ih1 _ _ _ _ _ _ _ _ _ _ _ _ _)
      | (with_reducible exact drydocklaw15_awake.mono _)
      | (with_reducible exact log_Find.mono _ _ _ _)
      | (with_reducible exact LeO.refl _)
      | (with_reducible exact LeO.none _)
      | (with_reducible refine LeO.ite ?_ ?_)
      | (with_reducible refine LeO.bind ?_ (fun _ => ?_))
      | exact ih0 _ _ _ _ _ _ _
      | exact ih1 _ _ _ _ _ _ _ _ _ _ _ _ _
      | exact drydocklaw15_awake.mono _
      | exact log_Find.mono _ _ _ _
      | exact LeO.none _
      | refine LeO.ite ?_ ?_
      | refine LeO.bind ?_ (fun _ => ?_)
set_option maxHeartbeats 8000000 in
set_option maxRecDepth 100000 in
theorem drydocklaw15_LogElder.calls (k : Nat) (A0 : Option Addr) (c0 : Nat) (l0 : List (List Int)) (a1_0 : Int) (a1_1 : Int) (r : Bool) (w : World) (hr0 : Kd.C (Kd.slice 5 (Kd.int .u8)) w A0 l0.length l0) (hc0 : l0.length ≤ c0) (h : drydocklaw15_LogElder.f k l0 a1_0 a1_1 = some r) :
    Calls Try.prog 8 #[.slice A0 l0.length c0, .agg #[.int .i64 a1_0, .int .i64 a1_1]] w fun e w' => e = .returned (.bool r) ∧ Below w.heap.size w w' := by
  have hu41 := Try.underlying41
  have HR0 := Aside0.mk hr0
  have HC0 := Aside0.mk hc0
  clear hr0 hc0
  have HB := Aside0.mk (Below.refl w.heap.size w)
  have H : ((log_Find.f k l0 a1_0 a1_1).bind fun bt157 => ((drydocklaw15_awake.f k).bind fun t164 => (if t164 = true then (if bt157.2.2.2 = 0 then (drydocklaw15_LogElder.j0 k l0 bt157.1 ((bt157.1.length : Int) == 0) a1_0 a1_1 bt157.2.1 bt157.2.2.1) else (drydocklaw15_LogElder.j0 k l0 bt157.1 true a1_0 a1_1 bt157.2.1 bt157.2.2.1)) else (drydocklaw15_LogElder.j0 k l0 bt157.1 true a1_0 a1_1 bt157.2.1 bt157.2.2.1)))) = some r := h
  clear h
  replace H := Option.bind_eq_some_iff.mp H
  obtain ⟨⟨t157, t160, t161, t162⟩, A30, H⟩ := H
  replace H : ((drydocklaw15_awake.f k).bind fun t164 => (if t164 = true then (if t162 = 0 then (drydocklaw15_LogElder.j0 k l0 t157 ((t157.length : Int) == 0) a1_0 a1_1 t160 t161) else (drydocklaw15_LogElder.j0 k l0 t157 true a1_0 a1_1 t160 t161)) else (drydocklaw15_LogElder.j0 k l0 t157 true a1_0 a1_1 t160 t161))) = some r := H
  have A3 := Aside0.mk A30
  clear A30
  have HC4 := Aside0.mk H
  clear H
  go_enter Try.func8, Try.ntmps8
  go_upto_region 2 with (first | ((with_reducible refine gate_dst (N := 3) rfl ?_); (try (refine gate_guard (by rfl) ?_; dsimp only)); refine box_event ?hg (N := 3) ?hd (cs := #[.int .i64 a1_0, .int .i64 a1_1]) (t := 41) ?hr ?_; (case hd => rfl); (case hg => rfl); (case hr => first | (go_simp; done) | (go_simp; rfl)); intro gb156 hg w5 hbox hb; have n0_ := Aside0.mk (below_step (by repeat (first | (with_reducible first | exact HB.out | apply below_alloc | apply pw_below_drewN | apply below_drew1) | exact HB.out)) hb); have n1_ := Aside0.mk (hbox); have n2_ := Aside0.mk ((by rw [hg]; exact (below_size (by repeat (first | (with_reducible first | exact HB.out | apply below_alloc | apply pw_below_drewN | apply below_drew1) | exact HB.out))) : w.heap.size ≤ gb156)); have n3_ := Aside0.mk ((by rw [hg]; exact (below_size (by repeat (first | (with_reducible first | exact HB.out | apply below_alloc | apply pw_below_drewN | apply below_drew1) | exact HB.out))) : w.heap.size ≤ gb156)); clear HB; have HB := n0_; have BK156 := n1_; have GW156 := n2_; have GE156 := n3_; clear n0_ n1_ n2_ n3_; clear hb hbox hg; have hcz6_0 : w5.cell? ⟨gb156, 0, none⟩ = some (.int .i64 a1_0) := (blk_cell BK156.out 0).trans rfl; have hcz6_1 : w5.cell? ⟨gb156, 1, none⟩ = some (.int .i64 a1_1) := (blk_cell BK156.out 1).trans rfl; have hfz6_0 := blk_frozen BK156.out 0; have hfz6_1 := blk_frozen BK156.out 1) | ((with_reducible refine gate_callee (f := 19) rfl ?_); refine goesL_ (some 17) rfl rfl Try.func19 (by kernel_rfl) rfl #[.slice A0 l0.length c0, .agg #[.int .i64 a1_0, .int .i64 a1_1]] rfl (by (try simp only [List.map_toArray, List.map_cons, List.map_nil]); first | done | rfl | (simp only [List.length_drop, List.length_take]; rfl)) ?_; (with_reducible refine (log_Find.calls k _ _ l0 a1_0 a1_1 t157 t160 t161 t162 _ ?side1 ?side2 A3.out).mono ?_); (case side1 => repeat (first | exact (Kd.C_below HR0.out HB.out) | (with_reducible refine Kd.C_alloc ?_ _) | (with_reducible refine Kd.C_drewN ?_ _) | (with_reducible refine Kd.C_drew ?_))); (case side2 => exact HC0.out); rintro e w7 ⟨v158, rfl, ho0, hb⟩; refine ⟨_, rfl, ?_⟩; have n0_ := Aside0.mk (Kd.R_lower ho0 (below_size (by repeat (first | (with_reducible first | exact HB.out | apply below_alloc | apply pw_below_drewN | apply below_drew1 | refine below_set ?_ GE156.out) | exact HB.out)))); have n1_ := Aside0.mk (blk_below (g := gb156) (o := .cells #[.int .i64 a1_0, .int .i64 a1_1] 41 (0, 0)) (by (with_reducible repeat (first | refine blk_drewN ?_ _ | refine blk_drew ?_ | refine blk_alloc ?_ _)); exact BK156.out) hb); have n2_ := Aside0.mk (below_step (by repeat (first | (with_reducible first | exact HB.out | apply below_alloc | apply pw_below_drewN | apply below_drew1 | refine below_set ?_ GE156.out) | exact HB.out)) hb); clear BK156; clear HB; have HO159 := n0_; have BK156 := n1_; have HB := n2_; clear n0_ n1_ n2_; (try clear hb); (try clear hb2); (try clear hk); (try clear hi); (try clear ho0)) | ((with_reducible refine gate_dst (N := 6) rfl ?_); (try (refine gate_guard (by rfl) ?_; dsimp only)); refine box_event ?hg (N := 6) ?hd (cs := #[.int .i64 0, .int .i64 0]) (t := 41) ?hr ?_; (case hd => rfl); (case hg => rfl); (case hr => first | (go_simp; done) | (go_simp; rfl)); intro gb163 hg w8 hbox hb; have n0_ := Aside0.mk (Kd.R_below (by (with_reducible repeat (first | apply Kd.R_alloc | apply Kd.R_drewN | apply Kd.R_drew)); exact HO159.out) hb); have n1_ := Aside0.mk (blk_below (g := gb156) (o := .cells #[.int .i64 a1_0, .int .i64 a1_1] 41 (0, 0)) (by (with_reducible repeat (first | refine blk_drewN ?_ _ | refine blk_drew ?_ | refine blk_alloc ?_ _)); exact BK156.out) hb); have n2_ := Aside0.mk (below_step (by repeat (first | (with_reducible first | exact HB.out | apply below_alloc | apply pw_below_drewN | apply below_drew1 | refine below_set ?_ GE156.out) | exact HB.out)) hb); have n3_ := Aside0.mk (hbox); have n4_ := Aside0.mk ((by rw [hg]; exact (below_size (by repeat (first | (with_reducible first | exact HB.out | apply below_alloc | apply pw_below_drewN | apply below_drew1 | refine below_set ?_ GE156.out) | exact HB.out))) : w.heap.size ≤ gb163)); have n5_ := Aside0.mk ((by rw [hg]; exact (below_size (by repeat (first | (with_reducible first | exact HB.out | apply below_alloc | apply pw_below_drewN | apply below_drew1 | refine below_set ?_ GE156.out) | exact HB.out))) : w.heap.size ≤ gb163)); have n6_ := Aside0.mk ((by rw [hg]; exact Nat.ne_of_lt (blk_lt (g := gb156) (o := .cells #[.int .i64 a1_0, .int .i64 a1_1] 41 (0, 0)) (by (with_reducible repeat (first | refine blk_drewN ?_ _ | refine blk_drew ?_ | refine blk_alloc ?_ _)); exact BK156.out)) : gb156 ≠ gb163)); have n7_ := Aside0.mk ((by rw [hg]; exact Nat.ne_of_gt (blk_lt (g := gb156) (o := .cells #[.int .i64 a1_0, .int .i64 a1_1] 41 (0, 0)) (by (with_reducible repeat (first | refine blk_drewN ?_ _ | refine blk_drew ?_ | refine blk_alloc ?_ _)); exact BK156.out)) : gb163 ≠ gb156)); clear HO159; clear BK156; clear HB; have HO159 := n0_; have BK156 := n1_; have HB := n2_; have BK163 := n3_; have GW163 := n4_; have GE163 := n5_; have NB156_163 := n6_; have NB163_156 := n7_; clear n0_ n1_ n2_ n3_ n4_ n5_ n6_ n7_; clear hb hbox hg; have hnb9 := NB163_156.out; have hnc9 := NB156_163.out; have hcz10_0 : w8.cell? ⟨gb163, 0, none⟩ = some (.int .i64 0) := (blk_cell BK163.out 0).trans rfl; have hcz10_1 : w8.cell? ⟨gb163, 1, none⟩ = some (.int .i64 0) := (blk_cell BK163.out 1).trans rfl; have hfz10_0 := blk_frozen BK163.out 0; have hfz10_1 := blk_frozen BK163.out 1))
  (try simp only [Act.put, List.setIfInBounds_toArray, List.set_cons_zero, List.set_cons_succ])
  go_cut [31] (fun v31 wc => ∃ (kq : Nat) (x31_3 : Bool), v31 = .bool x31_3 ∧ Aside0 (drydocklaw15_LogElder.j0 kq l0 t157 x31_3 a1_0 a1_1 t160 t161 = some r) ∧ Aside0 (kq ≤ k) ∧ Aside0 (Kd.R (Kd.slice 50 k50) 46 wc w.heap.size (fun _ => True) v158 t157) ∧ Aside0 (wc.heap[gb156]? = some (.cells #[.int .i64 a1_0, .int .i64 a1_1] 41 (0, 0))) ∧ Aside0 (wc.heap[gb163]? = some (.cells #[.int .i64 t160, .int .i64 t161] 41 (0, 0))) ∧ Aside0 (Below w.heap.size w wc))
  case first =>
    have H := HC4.out
    clear HC4
    replace H := Option.bind_eq_some_iff.mp H
    obtain ⟨t164, A110, H⟩ := H
    replace H : (if t164 = true then (if t162 = 0 then (drydocklaw15_LogElder.j0 k l0 t157 ((t157.length : Int) == 0) a1_0 a1_1 t160 t161) else (drydocklaw15_LogElder.j0 k l0 t157 true a1_0 a1_1 t160 t161)) else (drydocklaw15_LogElder.j0 k l0 t157 true a1_0 a1_1 t160 t161)) = some r := H
    have A11 := Aside0.mk A110
    clear A110
    by_cases c12 : t164 = true
    · subst c12
      have H1 : (if t162 = 0 then (drydocklaw15_LogElder.j0 k l0 t157 ((t157.length : Int) == 0) a1_0 a1_1 t160 t161) else (drydocklaw15_LogElder.j0 k l0 t157 true a1_0 a1_1 t160 t161)) = some r := by rw [if_pos rfl] at H; exact H
      clear H
      have H := H1
      clear H1
      by_cases c13 : t162 = 0
      · rw [if_pos c13] at H
        have c13b0 : (t162 == 0) = true := beq_iff_eq.mpr c13
        have c13b1 : (t162 != 0) = false := bne_eq_false_iff_eq.mpr c13
        clear c13
        (first | rw [c13b0] | (simp only [i64_w, i32_w]; rw [c13b0]) | skip)
        have H' := Aside0.mk H
        clear H
        go_wp2_with (first | ((with_reducible refine gate_callee (f := 13) rfl ?_); refine goesL_ (some 21) rfl rfl Try.func13 (by kernel_rfl) rfl #[] rfl (by (try simp only [List.map_toArray, List.map_cons, List.map_nil]); first | done | rfl | (simp only [List.length_drop, List.length_take]; rfl)) ?_; (with_reducible refine (drydocklaw15_awake.calls k  true _ A11.out).mono ?_); rintro e w14 ⟨rfl, hb⟩; refine ⟨_, rfl, ?_⟩; have n0_ := Aside0.mk (Kd.R_below (by (with_reducible repeat (first | apply Kd.R_alloc | apply Kd.R_drewN | apply Kd.R_drew)); exact (Kd.R_mono (Kd.R_far (p := ⟨gb163, 1, none⟩) (Kd.R_far (p := ⟨gb163, 0, none⟩) (Kd.R_types HO159.out BK163.out (by decide)) (fun _ hk => hk.2) (.int .i64 t160)) (fun _ hk => hk.2) (.int .i64 t161)) (fun _ h_ => h_.1))) hb); have n1_ := Aside0.mk (blk_below (g := gb156) (o := .cells #[.int .i64 a1_0, .int .i64 a1_1] 41 (0, 0)) (by (with_reducible repeat (first | refine blk_drewN ?_ _ | refine blk_drew ?_ | refine blk_alloc ?_ _)); refine blk_far ?_ NB156_163.out _; (with_reducible repeat (first | refine blk_drewN ?_ _ | refine blk_drew ?_ | refine blk_alloc ?_ _)); refine blk_far ?_ NB156_163.out _; (with_reducible repeat (first | refine blk_drewN ?_ _ | refine blk_drew ?_ | refine blk_alloc ?_ _)); exact BK156.out) hb); have n2_ := Aside0.mk (blk_below (g := gb163) (o := .cells #[.int .i64 t160, .int .i64 t161] 41 (0, 0)) (by (with_reducible repeat (first | refine blk_drewN ?_ _ | refine blk_drew ?_ | refine blk_alloc ?_ _)); refine blk_put (cs := #[.int .i64 t160, .int .i64 0]) ?_ 1 _ rfl; (with_reducible repeat (first | refine blk_drewN ?_ _ | refine blk_drew ?_ | refine blk_alloc ?_ _)); refine blk_put (cs := #[.int .i64 0, .int .i64 0]) ?_ 0 _ rfl; (with_reducible repeat (first | refine blk_drewN ?_ _ | refine blk_drew ?_ | refine blk_alloc ?_ _)); exact BK163.out) hb); have n3_ := Aside0.mk (below_step (by repeat (first | (with_reducible first | exact HB.out | apply below_alloc | apply pw_below_drewN | apply below_drew1 | refine below_set ?_ GE156.out | refine below_set ?_ GE163.out) | exact HB.out)) hb); clear HO159; clear BK156; clear BK163; clear HB; have HO159 := n0_; have BK156 := n1_; have BK163 := n2_; have HB := n3_; clear n0_ n1_ n2_ n3_; (try clear hb); (try clear hb2); (try clear hk); (try clear hi); obtain ⟨Ao15, co15, eo15⟩ := Kd.R_slice HO159.out; subst eo15))
        go_meet
        case rel => exact ⟨_, (((t157.length : Int) == 0)), (by first | rfl | (simp; done) | (simp [*]; done)), H', ⟨by first | omega | exact Nat.le_refl _⟩, ⟨by (with_reducible repeat (first | apply Kd.R_alloc | apply Kd.R_drewN | apply Kd.R_drew)); exact HO159.out⟩, ⟨by (with_reducible repeat (first | refine blk_drewN ?_ _ | refine blk_drew ?_ | refine blk_alloc ?_ _)); exact BK156.out⟩, ⟨by (with_reducible repeat (first | refine blk_drewN ?_ _ | refine blk_drew ?_ | refine blk_alloc ?_ _)); exact BK163.out⟩, ⟨by repeat (first | (with_reducible first | exact HB.out | apply below_alloc | apply pw_below_drewN | apply below_drew1 | refine below_set ?_ GE156.out | refine below_set ?_ GE163.out) | exact HB.out)⟩⟩
      · rw [if_neg c13] at H
        have c13b0 : (t162 == 0) = false := beq_eq_false_iff_ne.mpr c13
        have c13b1 : (t162 != 0) = true := bne_iff_ne.mpr c13
        (first | rw [c13b0] | (simp only [i64_w, i32_w]; rw [c13b0]) | skip)
        have H' := Aside0.mk H
        clear H
        go_wp2_with (first | ((with_reducible refine gate_callee (f := 13) rfl ?_); refine goesL_ (some 21) rfl rfl Try.func13 (by kernel_rfl) rfl #[] rfl (by (try simp only [List.map_toArray, List.map_cons, List.map_nil]); first | done | rfl | (simp only [List.length_drop, List.length_take]; rfl)) ?_; (with_reducible refine (drydocklaw15_awake.calls k  true _ A11.out).mono ?_); rintro e w16 ⟨rfl, hb⟩; refine ⟨_, rfl, ?_⟩; have n0_ := Aside0.mk (Kd.R_below (by (with_reducible repeat (first | apply Kd.R_alloc | apply Kd.R_drewN | apply Kd.R_drew)); exact (Kd.R_mono (Kd.R_far (p := ⟨gb163, 1, none⟩) (Kd.R_far (p := ⟨gb163, 0, none⟩) (Kd.R_types HO159.out BK163.out (by decide)) (fun _ hk => hk.2) (.int .i64 t160)) (fun _ hk => hk.2) (.int .i64 t161)) (fun _ h_ => h_.1))) hb); have n1_ := Aside0.mk (blk_below (g := gb156) (o := .cells #[.int .i64 a1_0, .int .i64 a1_1] 41 (0, 0)) (by (with_reducible repeat (first | refine blk_drewN ?_ _ | refine blk_drew ?_ | refine blk_alloc ?_ _)); refine blk_far ?_ NB156_163.out _; (with_reducible repeat (first | refine blk_drewN ?_ _ | refine blk_drew ?_ | refine blk_alloc ?_ _)); refine blk_far ?_ NB156_163.out _; (with_reducible repeat (first | refine blk_drewN ?_ _ | refine blk_drew ?_ | refine blk_alloc ?_ _)); exact BK156.out) hb); have n2_ := Aside0.mk (blk_below (g := gb163) (o := .cells #[.int .i64 t160, .int .i64 t161] 41 (0, 0)) (by (with_reducible repeat (first | refine blk_drewN ?_ _ | refine blk_drew ?_ | refine blk_alloc ?_ _)); refine blk_put (cs := #[.int .i64 t160, .int .i64 0]) ?_ 1 _ rfl; (with_reducible repeat (first | refine blk_drewN ?_ _ | refine blk_drew ?_ | refine blk_alloc ?_ _)); refine blk_put (cs := #[.int .i64 0, .int .i64 0]) ?_ 0 _ rfl; (with_reducible repeat (first | refine blk_drewN ?_ _ | refine blk_drew ?_ | refine blk_alloc ?_ _)); exact BK163.out) hb); have n3_ := Aside0.mk (below_step (by repeat (first | (with_reducible first | exact HB.out | apply below_alloc | apply pw_below_drewN | apply below_drew1 | refine below_set ?_ GE156.out | refine below_set ?_ GE163.out) | exact HB.out)) hb); clear HO159; clear BK156; clear BK163; clear HB; have HO159 := n0_; have BK156 := n1_; have BK163 := n2_; have HB := n3_; clear n0_ n1_ n2_ n3_; (try clear hb); (try clear hb2); (try clear hk); (try clear hi)))
        go_meet
        case rel => exact ⟨_, (true), (by first | rfl | (simp; done) | (simp [*]; done)), H', ⟨by first | omega | exact Nat.le_refl _⟩, ⟨by (with_reducible repeat (first | apply Kd.R_alloc | apply Kd.R_drewN | apply Kd.R_drew)); exact HO159.out⟩, ⟨by (with_reducible repeat (first | refine blk_drewN ?_ _ | refine blk_drew ?_ | refine blk_alloc ?_ _)); exact BK156.out⟩, ⟨by (with_reducible repeat (first | refine blk_drewN ?_ _ | refine blk_drew ?_ | refine blk_alloc ?_ _)); exact BK163.out⟩, ⟨by repeat (first | (with_reducible first | exact HB.out | apply below_alloc | apply pw_below_drewN | apply below_drew1 | refine below_set ?_ GE156.out | refine below_set ?_ GE163.out) | exact HB.out)⟩⟩
    · replace c12 := Bool.eq_false_iff.mpr c12
      subst c12
      have H1 : (drydocklaw15_LogElder.j0 k l0 t157 true a1_0 a1_1 t160 t161) = some r := by rw [if_neg (show ¬ (false = true) by decide)] at H; exact H
      clear H
      have H := H1
      clear H1
      have H' := Aside0.mk H
      clear H
      go_wp2_with (first | ((with_reducible refine gate_callee (f := 13) rfl ?_); refine goesL_ (some 21) rfl rfl Try.func13 (by kernel_rfl) rfl #[] rfl (by (try simp only [List.map_toArray, List.map_cons, List.map_nil]); first | done | rfl | (simp only [List.length_drop, List.length_take]; rfl)) ?_; (with_reducible refine (drydocklaw15_awake.calls k  false _ A11.out).mono ?_); rintro e w17 ⟨rfl, hb⟩; refine ⟨_, rfl, ?_⟩; have n0_ := Aside0.mk (Kd.R_below (by (with_reducible repeat (first | apply Kd.R_alloc | apply Kd.R_drewN | apply Kd.R_drew)); exact (Kd.R_mono (Kd.R_far (p := ⟨gb163, 1, none⟩) (Kd.R_far (p := ⟨gb163, 0, none⟩) (Kd.R_types HO159.out BK163.out (by decide)) (fun _ hk => hk.2) (.int .i64 t160)) (fun _ hk => hk.2) (.int .i64 t161)) (fun _ h_ => h_.1))) hb); have n1_ := Aside0.mk (blk_below (g := gb156) (o := .cells #[.int .i64 a1_0, .int .i64 a1_1] 41 (0, 0)) (by (with_reducible repeat (first | refine blk_drewN ?_ _ | refine blk_drew ?_ | refine blk_alloc ?_ _)); refine blk_far ?_ NB156_163.out _; (with_reducible repeat (first | refine blk_drewN ?_ _ | refine blk_drew ?_ | refine blk_alloc ?_ _)); refine blk_far ?_ NB156_163.out _; (with_reducible repeat (first | refine blk_drewN ?_ _ | refine blk_drew ?_ | refine blk_alloc ?_ _)); exact BK156.out) hb); have n2_ := Aside0.mk (blk_below (g := gb163) (o := .cells #[.int .i64 t160, .int .i64 t161] 41 (0, 0)) (by (with_reducible repeat (first | refine blk_drewN ?_ _ | refine blk_drew ?_ | refine blk_alloc ?_ _)); refine blk_put (cs := #[.int .i64 t160, .int .i64 0]) ?_ 1 _ rfl; (with_reducible repeat (first | refine blk_drewN ?_ _ | refine blk_drew ?_ | refine blk_alloc ?_ _)); refine blk_put (cs := #[.int .i64 0, .int .i64 0]) ?_ 0 _ rfl; (with_reducible repeat (first | refine blk_drewN ?_ _ | refine blk_drew ?_ | refine blk_alloc ?_ _)); exact BK163.out) hb); have n3_ := Aside0.mk (below_step (by repeat (first | (with_reducible first | exact HB.out | apply below_alloc | apply pw_below_drewN | apply below_drew1 | refine below_set ?_ GE156.out | refine below_set ?_ GE163.out) | exact HB.out)) hb); clear HO159; clear BK156; clear BK163; clear HB; have HO159 := n0_; have BK156 := n1_; have BK163 := n2_; have HB := n3_; clear n0_ n1_ n2_ n3_; (try clear hb); (try clear hb2); (try clear hk); (try clear hi)))
      go_meet
      case rel => exact ⟨_, (true), (by first | rfl | (simp; done) | (simp [*]; done)), H', ⟨by first | omega | exact Nat.le_refl _⟩, ⟨by (with_reducible repeat (first | apply Kd.R_alloc | apply Kd.R_drewN | apply Kd.R_drew)); exact HO159.out⟩, ⟨by (with_reducible repeat (first | refine blk_drewN ?_ _ | refine blk_drew ?_ | refine blk_alloc ?_ _)); exact BK156.out⟩, ⟨by (with_reducible repeat (first | refine blk_drewN ?_ _ | refine blk_drew ?_ | refine blk_alloc ?_ _)); exact BK163.out⟩, ⟨by repeat (first | (with_reducible first | exact HB.out | apply below_alloc | apply pw_below_drewN | apply below_drew1 | refine below_set ?_ GE156.out | refine below_set ?_ GE163.out) | exact HB.out)⟩⟩
  case rest =>
    clear HC4
    try clear c1
    try clear p2
    try clear c8
    try clear c9
    try clear c12
    try clear c13
    try clear c13b0
    try clear c13b1
    try clear hcz10_0
    try clear hcz10_1
    try clear hcz6_0
    try clear hcz6_1
    try clear hfz10_0
    try clear hfz10_1
    try clear hfz6_0
    try clear hfz6_1
    obtain ⟨kq, x31_3, rfl, HA, HJ3, HO_5, BK156, BK163, HB⟩ := hcut
    cases kq with
    | zero => exact absurd HA.out (by simp [drydocklaw15_LogElder.j0])
    | succ kj3 =>
      have H := HA.out
      clear HA
      simp only [drydocklaw15_LogElder.j0] at H
      by_cases c18 : x31_3 = true
      · subst c18
        have H1 : ((drydocklaw15_awake.f kj3).bind fun t165 => (some t165)) = some r := by rw [if_pos rfl] at H; exact H
        clear H
        have H := H1
        clear H1
        replace H := Option.bind_eq_some_iff.mp H
        obtain ⟨t165, A190, H⟩ := H
        replace H : (some t165) = some r := H
        have A19 := Aside0.mk A190
        clear A190
        obtain rfl := Option.some.inj H
        go_wp2_with (first | ((with_reducible refine gate_callee (f := 13) rfl ?_); refine goesL_ (some 32) rfl rfl Try.func13 (by kernel_rfl) rfl #[] rfl (by (try simp only [List.map_toArray, List.map_cons, List.map_nil]); first | done | rfl | (simp only [List.length_drop, List.length_take]; rfl)) ?_; (with_reducible refine (drydocklaw15_awake.calls kj3  t165 _ A19.out).mono ?_); rintro e w20 ⟨rfl, hb⟩; refine ⟨_, rfl, ?_⟩; have n0_ := Aside0.mk (Kd.R_below (by (with_reducible repeat (first | apply Kd.R_alloc | apply Kd.R_drewN | apply Kd.R_drew)); exact HO_5.out) hb); have n1_ := Aside0.mk (blk_below (g := gb156) (o := .cells #[.int .i64 a1_0, .int .i64 a1_1] 41 (0, 0)) (by (with_reducible repeat (first | refine blk_drewN ?_ _ | refine blk_drew ?_ | refine blk_alloc ?_ _)); exact BK156.out) hb); have n2_ := Aside0.mk (blk_below (g := gb163) (o := .cells #[.int .i64 t160, .int .i64 t161] 41 (0, 0)) (by (with_reducible repeat (first | refine blk_drewN ?_ _ | refine blk_drew ?_ | refine blk_alloc ?_ _)); exact BK163.out) hb); have n3_ := Aside0.mk (below_step (by repeat (first | (with_reducible first | exact HB.out | apply below_alloc | apply pw_below_drewN | apply below_drew1 | refine below_set ?_ GE156.out | refine below_set ?_ GE163.out) | exact HB.out)) hb); clear HO_5; clear BK156; clear BK163; clear HB; have HO_5 := n0_; have BK156 := n1_; have BK163 := n2_; have HB := n3_; clear n0_ n1_ n2_ n3_; (try clear hb); (try clear hb2); (try clear hk); (try clear hi)))
        go_ret
        exact ⟨by first | rfl | (simp [errW_none, errW_some] <;> rfl) | (simp [*, errW_none, errW_some] <;> rfl), by repeat (first | (with_reducible first | exact HB.out | apply below_alloc | apply pw_below_drewN | apply below_drew1 | refine below_set ?_ GE156.out | refine below_set ?_ GE163.out) | exact HB.out)⟩
      · replace c18 := Bool.eq_false_iff.mpr c18
        subst c18
        have H1 : ((log_Find.f kj3 l0 a1_0 (wrap64 (a1_1 + 1))).bind fun bt167 => (drydocklaw15_LogElder.l0 kj3 t157 bt167.1 bt167.2.2.2 0 0 a1_0 a1_1 t160 t161 a1_0 (wrap64 (a1_1 + 1)) bt167.2.1 bt167.2.2.1)) = some r := by rw [if_neg (show ¬ (false = true) by decide)] at H; exact H
        clear H
        have H := H1
        clear H1
        replace H := Option.bind_eq_some_iff.mp H
        obtain ⟨⟨t167, t170, t171, t172⟩, A210, H⟩ := H
        replace H : (drydocklaw15_LogElder.l0 kj3 t157 t167 t172 0 0 a1_0 a1_1 t160 t161 a1_0 (wrap64 (a1_1 + 1)) t170 t171) = some r := H
        have A21 := Aside0.mk A210
        clear A210
        have H' := Aside0.mk H
        clear H
        have hnb22 := NB156_163.out
        have hnc22 := NB163_156.out
        have hcz23_0 : wc.cell? ⟨gb156, 0, none⟩ = some (.int .i64 a1_0) := (blk_cell BK156.out 0).trans rfl
        have hcz23_1 : wc.cell? ⟨gb156, 1, none⟩ = some (.int .i64 a1_1) := (blk_cell BK156.out 1).trans rfl
        have hfz23_0 := blk_frozen BK156.out 0
        have hfz23_1 := blk_frozen BK156.out 1
        go_wp2_with (first | ((with_reducible refine gate_dst (N := 8) rfl ?_); (try (refine gate_guard (by rfl) ?_; dsimp only)); refine box_event ?hg (N := 8) ?hd (cs := #[.int .i64 0, .int .i64 0]) (t := 41) ?hr ?_; (case hd => rfl); (case hg => rfl); (case hr => first | (go_simp; done) | (go_simp; rfl)); intro gb166 hg w24 hbox hb; have n0_ := Aside0.mk (Kd.R_below (by (with_reducible repeat (first | apply Kd.R_alloc | apply Kd.R_drewN | apply Kd.R_drew)); exact HO_5.out) hb); have n1_ := Aside0.mk (blk_below (g := gb156) (o := .cells #[.int .i64 a1_0, .int .i64 a1_1] 41 (0, 0)) (by (with_reducible repeat (first | refine blk_drewN ?_ _ | refine blk_drew ?_ | refine blk_alloc ?_ _)); exact BK156.out) hb); have n2_ := Aside0.mk (blk_below (g := gb163) (o := .cells #[.int .i64 t160, .int .i64 t161] 41 (0, 0)) (by (with_reducible repeat (first | refine blk_drewN ?_ _ | refine blk_drew ?_ | refine blk_alloc ?_ _)); exact BK163.out) hb); have n3_ := Aside0.mk (below_step (by repeat (first | (with_reducible first | exact HB.out | apply below_alloc | apply pw_below_drewN | apply below_drew1 | refine below_set ?_ GE156.out | refine below_set ?_ GE163.out) | exact HB.out)) hb); have n4_ := Aside0.mk (hbox); have n5_ := Aside0.mk ((by rw [hg]; exact (below_size (by repeat (first | (with_reducible first | exact HB.out | apply below_alloc | apply pw_below_drewN | apply below_drew1 | refine below_set ?_ GE156.out | refine below_set ?_ GE163.out) | exact HB.out))) : w.heap.size ≤ gb166)); have n6_ := Aside0.mk ((by rw [hg]; exact (below_size (by repeat (first | (with_reducible first | exact HB.out | apply below_alloc | apply pw_below_drewN | apply below_drew1 | refine below_set ?_ GE156.out | refine below_set ?_ GE163.out) | exact HB.out))) : w.heap.size ≤ gb166)); have n7_ := Aside0.mk ((by rw [hg]; exact Nat.ne_of_lt (blk_lt (g := gb156) (o := .cells #[.int .i64 a1_0, .int .i64 a1_1] 41 (0, 0)) (by (with_reducible repeat (first | refine blk_drewN ?_ _ | refine blk_drew ?_ | refine blk_alloc ?_ _)); exact BK156.out)) : gb156 ≠ gb166)); have n8_ := Aside0.mk ((by rw [hg]; exact Nat.ne_of_gt (blk_lt (g := gb156) (o := .cells #[.int .i64 a1_0, .int .i64 a1_1] 41 (0, 0)) (by (with_reducible repeat (first | refine blk_drewN ?_ _ | refine blk_drew ?_ | refine blk_alloc ?_ _)); exact BK156.out)) : gb166 ≠ gb156)); have n9_ := Aside0.mk ((by rw [hg]; exact Nat.ne_of_lt (blk_lt (g := gb163) (o := .cells #[.int .i64 t160, .int .i64 t161] 41 (0, 0)) (by (with_reducible repeat (first | refine blk_drewN ?_ _ | refine blk_drew ?_ | refine blk_alloc ?_ _)); exact BK163.out)) : gb163 ≠ gb166)); have n10_ := Aside0.mk ((by rw [hg]; exact Nat.ne_of_gt (blk_lt (g := gb163) (o := .cells #[.int .i64 t160, .int .i64 t161] 41 (0, 0)) (by (with_reducible repeat (first | refine blk_drewN ?_ _ | refine blk_drew ?_ | refine blk_alloc ?_ _)); exact BK163.out)) : gb166 ≠ gb163)); clear HO_5; clear BK156; clear BK163; clear HB; have HO_5 := n0_; have BK156 := n1_; have BK163 := n2_; have HB := n3_; have BK166 := n4_; have GW166 := n5_; have GE166 := n6_; have NB156_166 := n7_; have NB166_156 := n8_; have NB163_166 := n9_; have NB166_163 := n10_; clear n0_ n1_ n2_ n3_ n4_ n5_ n6_ n7_ n8_ n9_ n10_; clear hb hbox hg; have hnb25 := NB166_156.out; have hnc25 := NB156_166.out; have hnb26 := NB166_163.out; have hnc26 := NB163_166.out; have hcz27_0 : w24.cell? ⟨gb166, 0, none⟩ = some (.int .i64 0) := (blk_cell BK166.out 0).trans rfl; have hcz27_1 : w24.cell? ⟨gb166, 1, none⟩ = some (.int .i64 0) := (blk_cell BK166.out 1).trans rfl; have hfz27_0 := blk_frozen BK166.out 0; have hfz27_1 := blk_frozen BK166.out 1; have hcx := (blk_cell (blk_set (blk_set BK166.out 0 (.int .i64 a1_0)) 1 (.int .i64 a1_1)) 1); have hcy := hcx.trans (show _ = some (.int .i64 a1_1 : Value) from rfl); clear hcx; have hcz28_0 : w24.cell? ⟨gb156, 0, none⟩ = some (.int .i64 a1_0) := (blk_cell BK156.out 0).trans rfl; have hcz28_1 : w24.cell? ⟨gb156, 1, none⟩ = some (.int .i64 a1_1) := (blk_cell BK156.out 1).trans rfl; have hfz28_0 := blk_frozen BK156.out 0; have hfz28_1 := blk_frozen BK156.out 1) | ((with_reducible refine gate_callee (f := 19) rfl ?_); refine goesL_ (some 41) rfl rfl Try.func19 (by kernel_rfl) rfl #[.slice A0 l0.length c0, .agg #[.int .i64 a1_0, .int .i64 (wrap64 (a1_1 + 1))]] rfl (by (try simp only [List.map_toArray, List.map_cons, List.map_nil]); first | done | rfl | (simp only [List.length_drop, List.length_take]; rfl)) ?_; (with_reducible refine (log_Find.calls kj3 _ _ l0 a1_0 (wrap64 (a1_1 + 1)) t167 t170 t171 t172 _ ?side1 ?side2 A21.out).mono ?_); (case side1 => exact Kd.C_below HR0.out (by repeat (first | (with_reducible first | exact HB.out | apply below_alloc | apply pw_below_drewN | apply below_drew1 | refine below_set ?_ GE156.out | refine below_set ?_ GE163.out | refine below_set ?_ GE166.out) | exact HB.out))); (case side2 => exact HC0.out); rintro e w29 ⟨v168, rfl, ho0, hb⟩; refine ⟨_, rfl, ?_⟩; have n0_ := Aside0.mk (Kd.R_elder' (by (with_reducible repeat (first | apply Kd.R_alloc | apply Kd.R_drewN | apply Kd.R_drew)); exact (Kd.R_mono (Kd.R_far (p := ⟨gb166, 1, none⟩) (Kd.R_far (p := ⟨gb166, 1, none⟩) (Kd.R_far (p := ⟨gb166, 0, none⟩) (Kd.R_types HO_5.out BK166.out (by decide)) (fun _ hk => hk.2) (.int .i64 a1_0)) (fun _ hk => hk.2) (.int .i64 a1_1)) (fun _ hk => hk.2) (.int .i64 (wrap64 (a1_1 + 1)))) (fun _ h_ => h_.1))) (Kd.R_base ho0) hb); have n1_ := Aside0.mk (Kd.R_lower (Kd.R_new' ho0 (Kd.R_lt (by (with_reducible repeat (first | apply Kd.R_alloc | apply Kd.R_drewN | apply Kd.R_drew)); exact (Kd.R_mono (Kd.R_far (p := ⟨gb166, 1, none⟩) (Kd.R_far (p := ⟨gb166, 1, none⟩) (Kd.R_far (p := ⟨gb166, 0, none⟩) (Kd.R_types HO_5.out BK166.out (by decide)) (fun _ hk => hk.2) (.int .i64 a1_0)) (fun _ hk => hk.2) (.int .i64 a1_1)) (fun _ hk => hk.2) (.int .i64 (wrap64 (a1_1 + 1)))) (fun _ h_ => h_.1))))) (below_size (by repeat (first | (with_reducible first | exact HB.out | apply below_alloc | apply pw_below_drewN | apply below_drew1 | refine below_set ?_ GE156.out | refine below_set ?_ GE163.out | refine below_set ?_ GE166.out) | exact HB.out)))); have n2_ := Aside0.mk (blk_below (g := gb156) (o := .cells #[.int .i64 a1_0, .int .i64 a1_1] 41 (0, 0)) (by (with_reducible repeat (first | refine blk_drewN ?_ _ | refine blk_drew ?_ | refine blk_alloc ?_ _)); refine blk_far ?_ NB156_166.out _; (with_reducible repeat (first | refine blk_drewN ?_ _ | refine blk_drew ?_ | refine blk_alloc ?_ _)); refine blk_far ?_ NB156_166.out _; (with_reducible repeat (first | refine blk_drewN ?_ _ | refine blk_drew ?_ | refine blk_alloc ?_ _)); refine blk_far ?_ NB156_166.out _; (with_reducible repeat (first | refine blk_drewN ?_ _ | refine blk_drew ?_ | refine blk_alloc ?_ _)); exact BK156.out) hb); have n3_ := Aside0.mk (blk_below (g := gb163) (o := .cells #[.int .i64 t160, .int .i64 t161] 41 (0, 0)) (by (with_reducible repeat (first | refine blk_drewN ?_ _ | refine blk_drew ?_ | refine blk_alloc ?_ _)); refine blk_far ?_ NB163_166.out _; (with_reducible repeat (first | refine blk_drewN ?_ _ | refine blk_drew ?_ | refine blk_alloc ?_ _)); refine blk_far ?_ NB163_166.out _; (with_reducible repeat (first | refine blk_drewN ?_ _ | refine blk_drew ?_ | refine blk_alloc ?_ _)); refine blk_far ?_ NB163_166.out _; (with_reducible repeat (first | refine blk_drewN ?_ _ | refine blk_drew ?_ | refine blk_alloc ?_ _)); exact BK163.out) hb); have n4_ := Aside0.mk (blk_below (g := gb166) (o := .cells #[.int .i64 a1_0, .int .i64 (wrap64 (a1_1 + 1))] 41 (0, 0)) (by (with_reducible repeat (first | refine blk_drewN ?_ _ | refine blk_drew ?_ | refine blk_alloc ?_ _)); refine blk_put (cs := #[.int .i64 a1_0, .int .i64 a1_1]) ?_ 1 _ rfl; (with_reducible repeat (first | refine blk_drewN ?_ _ | refine blk_drew ?_ | refine blk_alloc ?_ _)); refine blk_put (cs := #[.int .i64 a1_0, .int .i64 0]) ?_ 1 _ rfl; (with_reducible repeat (first | refine blk_drewN ?_ _ | refine blk_drew ?_ | refine blk_alloc ?_ _)); refine blk_put (cs := #[.int .i64 0, .int .i64 0]) ?_ 0 _ rfl; (with_reducible repeat (first | refine blk_drewN ?_ _ | refine blk_drew ?_ | refine blk_alloc ?_ _)); exact BK166.out) hb); have n5_ := Aside0.mk (below_step (by repeat (first | (with_reducible first | exact HB.out | apply below_alloc | apply pw_below_drewN | apply below_drew1 | refine below_set ?_ GE156.out | refine below_set ?_ GE163.out | refine below_set ?_ GE166.out) | exact HB.out)) hb); clear HO_5; clear BK156; clear BK163; clear BK166; clear HB; have HO_5 := n0_; have HO169 := n1_; have BK156 := n2_; have BK163 := n3_; have BK166 := n4_; have HB := n5_; clear n0_ n1_ n2_ n3_ n4_ n5_; (try clear hb); (try clear hb2); (try clear hk); (try clear hi); (try clear ho0)) | ((with_reducible refine gate_dst (N := 10) rfl ?_); (try (refine gate_guard (by rfl) ?_; dsimp only)); refine box_event ?hg (N := 10) ?hd (cs := #[.int .i64 0, .int .i64 0]) (t := 41) ?hr ?_; (case hd => rfl); (case hg => rfl); (case hr => first | (go_simp; done) | (go_simp; rfl)); intro gb173 hg w30 hbox hb; have n0_ := Aside0.mk (Kd.R_below (by (with_reducible repeat (first | apply Kd.R_alloc | apply Kd.R_drewN | apply Kd.R_drew)); exact HO_5.out) hb); have n1_ := Aside0.mk (Kd.R_below (by (with_reducible repeat (first | apply Kd.R_alloc | apply Kd.R_drewN | apply Kd.R_drew)); exact HO169.out) hb); have n2_ := Aside0.mk (blk_below (g := gb156) (o := .cells #[.int .i64 a1_0, .int .i64 a1_1] 41 (0, 0)) (by (with_reducible repeat (first | refine blk_drewN ?_ _ | refine blk_drew ?_ | refine blk_alloc ?_ _)); exact BK156.out) hb); have n3_ := Aside0.mk (blk_below (g := gb163) (o := .cells #[.int .i64 t160, .int .i64 t161] 41 (0, 0)) (by (with_reducible repeat (first | refine blk_drewN ?_ _ | refine blk_drew ?_ | refine blk_alloc ?_ _)); exact BK163.out) hb); have n4_ := Aside0.mk (blk_below (g := gb166) (o := .cells #[.int .i64 a1_0, .int .i64 (wrap64 (a1_1 + 1))] 41 (0, 0)) (by (with_reducible repeat (first | refine blk_drewN ?_ _ | refine blk_drew ?_ | refine blk_alloc ?_ _)); exact BK166.out) hb); have n5_ := Aside0.mk (below_step (by repeat (first | (with_reducible first | exact HB.out | apply below_alloc | apply pw_below_drewN | apply below_drew1 | refine below_set ?_ GE156.out | refine below_set ?_ GE163.out | refine below_set ?_ GE166.out) | exact HB.out)) hb); have n6_ := Aside0.mk (hbox); have n7_ := Aside0.mk ((by rw [hg]; exact (below_size (by repeat (first | (with_reducible first | exact HB.out | apply below_alloc | apply pw_below_drewN | apply below_drew1 | refine below_set ?_ GE156.out | refine below_set ?_ GE163.out | refine below_set ?_ GE166.out) | exact HB.out))) : w.heap.size ≤ gb173)); have n8_ := Aside0.mk ((by rw [hg]; exact (below_size (by repeat (first | (with_reducible first | exact HB.out | apply below_alloc | apply pw_below_drewN | apply below_drew1 | refine below_set ?_ GE156.out | refine below_set ?_ GE163.out | refine below_set ?_ GE166.out) | exact HB.out))) : w.heap.size ≤ gb173)); have n9_ := Aside0.mk ((by rw [hg]; exact Nat.ne_of_lt (blk_lt (g := gb156) (o := .cells #[.int .i64 a1_0, .int .i64 a1_1] 41 (0, 0)) (by (with_reducible repeat (first | refine blk_drewN ?_ _ | refine blk_drew ?_ | refine blk_alloc ?_ _)); exact BK156.out)) : gb156 ≠ gb173)); have n10_ := Aside0.mk ((by rw [hg]; exact Nat.ne_of_gt (blk_lt (g := gb156) (o := .cells #[.int .i64 a1_0, .int .i64 a1_1] 41 (0, 0)) (by (with_reducible repeat (first | refine blk_drewN ?_ _ | refine blk_drew ?_ | refine blk_alloc ?_ _)); exact BK156.out)) : gb173 ≠ gb156)); have n11_ := Aside0.mk ((by rw [hg]; exact Nat.ne_of_lt (blk_lt (g := gb163) (o := .cells #[.int .i64 t160, .int .i64 t161] 41 (0, 0)) (by (with_reducible repeat (first | refine blk_drewN ?_ _ | refine blk_drew ?_ | refine blk_alloc ?_ _)); exact BK163.out)) : gb163 ≠ gb173)); have n12_ := Aside0.mk ((by rw [hg]; exact Nat.ne_of_gt (blk_lt (g := gb163) (o := .cells #[.int .i64 t160, .int .i64 t161] 41 (0, 0)) (by (with_reducible repeat (first | refine blk_drewN ?_ _ | refine blk_drew ?_ | refine blk_alloc ?_ _)); exact BK163.out)) : gb173 ≠ gb163)); have n13_ := Aside0.mk ((by rw [hg]; exact Nat.ne_of_lt (blk_lt (g := gb166) (o := .cells #[.int .i64 a1_0, .int .i64 (wrap64 (a1_1 + 1))] 41 (0, 0)) (by (with_reducible repeat (first | refine blk_drewN ?_ _ | refine blk_drew ?_ | refine blk_alloc ?_ _)); exact BK166.out)) : gb166 ≠ gb173)); have n14_ := Aside0.mk ((by rw [hg]; exact Nat.ne_of_gt (blk_lt (g := gb166) (o := .cells #[.int .i64 a1_0, .int .i64 (wrap64 (a1_1 + 1))] 41 (0, 0)) (by (with_reducible repeat (first | refine blk_drewN ?_ _ | refine blk_drew ?_ | refine blk_alloc ?_ _)); exact BK166.out)) : gb173 ≠ gb166)); clear HO_5; clear HO169; clear BK156; clear BK163; clear BK166; clear HB; have HO_5 := n0_; have HO169 := n1_; have BK156 := n2_; have BK163 := n3_; have BK166 := n4_; have HB := n5_; have BK173 := n6_; have GW173 := n7_; have GE173 := n8_; have NB156_173 := n9_; have NB173_156 := n10_; have NB163_173 := n11_; have NB173_163 := n12_; have NB166_173 := n13_; have NB173_166 := n14_; clear n0_ n1_ n2_ n3_ n4_ n5_ n6_ n7_ n8_ n9_ n10_ n11_ n12_ n13_ n14_; clear hb hbox hg; have hnb31 := NB173_156.out; have hnc31 := NB156_173.out; have hnb32 := NB173_163.out; have hnc32 := NB163_173.out; have hnb33 := NB173_166.out; have hnc33 := NB166_173.out; have hcz34_0 : w30.cell? ⟨gb173, 0, none⟩ = some (.int .i64 0) := (blk_cell BK173.out 0).trans rfl; have hcz34_1 : w30.cell? ⟨gb173, 1, none⟩ = some (.int .i64 0) := (blk_cell BK173.out 1).trans rfl; have hfz34_0 := blk_frozen BK173.out 0; have hfz34_1 := blk_frozen BK173.out 1))
        go_loopg [12, 13] kj3 (fun kq v12 v13 w' => ∃ (x12_2 : Int) (x13_2 : Int), v12 = .int .i64 x12_2 ∧ v13 = .int .i64 x13_2 ∧ Aside0 (drydocklaw15_LogElder.l0 kq t157 t167 t172 x12_2 x13_2 a1_0 a1_1 t160 t161 a1_0 (wrap64 (a1_1 + 1)) t170 t171 = some r) ∧ Aside0 (kq ≤ kj3) ∧ Aside0 (Kd.R (Kd.slice 50 k50) 46 w' w.heap.size (fun k_ => some k_ ≠ (v168 : Value).ownBlock) v158 t157) ∧ Aside0 (Kd.R (Kd.slice 50 k50) 46 w' w.heap.size (fun k_ => some k_ ≠ (v158 : Value).ownBlock) v168 t167) ∧ Aside0 (w'.heap[gb156]? = some (.cells #[.int .i64 a1_0, .int .i64 a1_1] 41 (0, 0))) ∧ Aside0 (w'.heap[gb163]? = some (.cells #[.int .i64 t160, .int .i64 t161] 41 (0, 0))) ∧ Aside0 (w'.heap[gb166]? = some (.cells #[.int .i64 a1_0, .int .i64 (wrap64 (a1_1 + 1))] 41 (0, 0))) ∧ Aside0 (w'.heap[gb173]? = some (.cells #[.int .i64 t170, .int .i64 t171] 41 (0, 0))) ∧ Aside0 (Below w.heap.size w w'))
        case atStart => exact ⟨(0), (0), (by first | rfl | (simp; done) | (simp [*]; done)), (by first | rfl | (simp; done) | (simp [*]; done)), H', ⟨Nat.le_refl _⟩, ⟨by (with_reducible repeat (first | apply Kd.R_alloc | apply Kd.R_drewN | apply Kd.R_drew)); exact Kd.R_mono (Kd.R_far (p := ⟨gb173, 1, none⟩) (Kd.R_far (p := ⟨gb173, 0, none⟩) (Kd.R_types HO_5.out BK173.out (by decide)) (fun _ hk => hk.2) (.int .i64 t170)) (fun _ hk => hk.2) (.int .i64 t171)) (fun _ hk => hk.1.2)⟩, ⟨by (with_reducible repeat (first | apply Kd.R_alloc | apply Kd.R_drewN | apply Kd.R_drew)); exact Kd.R_mono (Kd.R_far (p := ⟨gb173, 1, none⟩) (Kd.R_far (p := ⟨gb173, 0, none⟩) (Kd.R_types HO169.out BK173.out (by decide)) (fun _ hk => hk.2) (.int .i64 t170)) (fun _ hk => hk.2) (.int .i64 t171)) (fun _ hk => hk.1.2)⟩, ⟨by (with_reducible repeat (first | refine blk_drewN ?_ _ | refine blk_drew ?_ | refine blk_alloc ?_ _)); refine blk_far ?_ NB156_173.out _; (with_reducible repeat (first | refine blk_drewN ?_ _ | refine blk_drew ?_ | refine blk_alloc ?_ _)); refine blk_far ?_ NB156_173.out _; (with_reducible repeat (first | refine blk_drewN ?_ _ | refine blk_drew ?_ | refine blk_alloc ?_ _)); exact BK156.out⟩, ⟨by (with_reducible repeat (first | refine blk_drewN ?_ _ | refine blk_drew ?_ | refine blk_alloc ?_ _)); refine blk_far ?_ NB163_173.out _; (with_reducible repeat (first | refine blk_drewN ?_ _ | refine blk_drew ?_ | refine blk_alloc ?_ _)); refine blk_far ?_ NB163_173.out _; (with_reducible repeat (first | refine blk_drewN ?_ _ | refine blk_drew ?_ | refine blk_alloc ?_ _)); exact BK163.out⟩, ⟨by (with_reducible repeat (first | refine blk_drewN ?_ _ | refine blk_drew ?_ | refine blk_alloc ?_ _)); refine blk_far ?_ NB166_173.out _; (with_reducible repeat (first | refine blk_drewN ?_ _ | refine blk_drew ?_ | refine blk_alloc ?_ _)); refine blk_far ?_ NB166_173.out _; (with_reducible repeat (first | refine blk_drewN ?_ _ | refine blk_drew ?_ | refine blk_alloc ?_ _)); exact BK166.out⟩, ⟨by (with_reducible repeat (first | refine blk_drewN ?_ _ | refine blk_drew ?_ | refine blk_alloc ?_ _)); refine blk_put (cs := #[.int .i64 t170, .int .i64 0]) ?_ 1 _ rfl; (with_reducible repeat (first | refine blk_drewN ?_ _ | refine blk_drew ?_ | refine blk_alloc ?_ _)); refine blk_put (cs := #[.int .i64 0, .int .i64 0]) ?_ 0 _ rfl; (with_reducible repeat (first | refine blk_drewN ?_ _ | refine blk_drew ?_ | refine blk_alloc ?_ _)); exact BK173.out⟩, ⟨by repeat (first | (with_reducible first | exact HB.out | apply below_alloc | apply pw_below_drewN | apply below_drew1 | refine below_set ?_ GE156.out | refine below_set ?_ GE163.out | refine below_set ?_ GE166.out | refine below_set ?_ GE173.out) | exact HB.out)⟩⟩
        case round =>
          clear H'
          try clear c1
          try clear c2
          try clear p2
          try clear c3
          try clear p6
          try clear c8
          try clear c9
          try clear c12
          try clear c13
          try clear c13b0
          try clear c13b1
          try clear c18
          try clear c19
          try clear c22
          try clear c25
          try clear c26
          try clear c31
          try clear c32
          try clear c33
          try clear hcz10_0
          try clear hcz10_1
          try clear hcz23_0
          try clear hcz23_1
          try clear hcz27_0
          try clear hcz27_1
          try clear hcz28_0
          try clear hcz28_1
          try clear hcz34_0
          try clear hcz34_1
          try clear hcz6_0
          try clear hcz6_1
          try clear hfz10_0
          try clear hfz10_1
          try clear hfz23_0
          try clear hfz23_1
          try clear hfz27_0
          try clear hfz27_1
          try clear hfz28_0
          try clear hfz28_1
          try clear hfz34_0
          try clear hfz34_1
          try clear hfz6_0
          try clear hfz6_1
          try clear p2
          obtain ⟨x12_2, x13_2, rfl, rfl, HA, HK2, HO_5, HO_9, BK156, BK163, BK166, BK173, HB⟩ := hrel
          cases gk with
          | zero => exact absurd HA.out (by simp [drydocklaw15_LogElder.l0])
          | succ k2 =>
            have H := HA.out
            clear HA
            simp only [drydocklaw15_LogElder.l0] at H
            by_cases c35 : x13_2 < (t157.length : Int)
            · rw [if_pos c35] at H
              have c35b0 : decide (x13_2 < (t157.length : Int)) = true := decide_eq_true c35
              clear c35
              by_cases c36 : 0 ≤ x13_2
              · rw [if_pos c36] at H
                have c36b0 : decide (0 ≤ x13_2) = true := decide_eq_true c36
                clear c36
                have H' := Aside0.mk H
                clear H
                obtain ⟨Ao37, co37, eo37⟩ := Kd.R_slice HO_5.out
                subst eo37
                have p174 : 0 ≤ (x13_2 : Int) := of_decide_eq_true (by first | (with_reducible assumption) | assumption)
                have q174 : x13_2 < (t157.length : Int) := of_decide_eq_true (by first | (with_reducible assumption) | assumption)
                obtain ⟨ad174, A174_0, c174_0, e174, hx174_0, hl174_0, hi174_0⟩ := at_L4 (Kd.R_reads' HO_5.out).2.2 x13_2 p174 q174
                cases e174
                obtain ⟨ce174, hce174, hMe174, hcc174⟩ := Kd.R_get HO_5.out [] x13_2 p174 (by first | exact q174 | exact of_decide_eq_true (by first | (with_reducible assumption) | assumption) | (have e_ := (Kd.R_reads' HO_5.out).1; omega))
                obtain ⟨ve174_0, rfl, ge174_0⟩ := hMe174
                have hv174_0 := hcc174 0 _ rfl
                rw [Nat.add_zero, show ((Kd.slice 50 k50)).sz = 1 from rfl, Nat.mul_one] at hv174_0
                replace hv174_0 := Option.some.inj (hv174_0.symm.trans hx174_0)
                rw [hv174_0] at ge174_0
                have HL174_0 := Aside0.mk (show Kd.R k50 50 _ _ _ _ (rd_L4 t157 x13_2) from ge174_0)
                clear hv174_0 ge174_0
                clear hcc174 hce174
                have HR174_0 := Aside0.mk hi174_0
                have HC174_0 := Aside0.mk hl174_0
                clear hi174_0 hl174_0
                replace p174 := eq_true p174
                replace q174 := eq_true q174
                go_wp2
                go_roundg k2
                case measure => have := HJ3.out; have := HK2.out; omega
                case rel => exact ⟨(wrap64 (x12_2 + (wrap64 (((rd_L4 t157 x13_2).length : Int) + 2)))), (wrap64 (x13_2 + 1)), (by first | rfl | (simp; done) | (simp [*]; done)), (by first | rfl | (simp; done) | (simp [*]; done)), H', ⟨by have := HJ3.out; have := HK2.out; omega⟩, ⟨by (with_reducible repeat (first | apply Kd.R_alloc | apply Kd.R_drewN | apply Kd.R_drew)); exact HO_5.out⟩, ⟨by (with_reducible repeat (first | apply Kd.R_alloc | apply Kd.R_drewN | apply Kd.R_drew)); exact HO_9.out⟩, ⟨by (with_reducible repeat (first | refine blk_drewN ?_ _ | refine blk_drew ?_ | refine blk_alloc ?_ _)); exact BK156.out⟩, ⟨by (with_reducible repeat (first | refine blk_drewN ?_ _ | refine blk_drew ?_ | refine blk_alloc ?_ _)); exact BK163.out⟩, ⟨by (with_reducible repeat (first | refine blk_drewN ?_ _ | refine blk_drew ?_ | refine blk_alloc ?_ _)); exact BK166.out⟩, ⟨by (with_reducible repeat (first | refine blk_drewN ?_ _ | refine blk_drew ?_ | refine blk_alloc ?_ _)); exact BK173.out⟩, ⟨by repeat (first | (with_reducible first | exact HB.out | apply below_alloc | apply pw_below_drewN | apply below_drew1 | refine below_set ?_ GE156.out | refine below_set ?_ GE163.out | refine below_set ?_ GE166.out | refine below_set ?_ GE173.out) | exact HB.out)⟩⟩
              · rw [if_neg c36] at H
                exact absurd H (by simp)
            · rw [if_neg c35] at H
              have c35b0 : decide (x13_2 < (t157.length : Int)) = false := decide_eq_false c35
              clear c35
              by_cases c38 : t172 = 0
              · rw [if_pos c38] at H
                have c38b0 : (t172 == 0) = true := beq_iff_eq.mpr c38
                have c38b1 : (t172 != 0) = false := bne_eq_false_iff_eq.mpr c38
                clear c38
                by_cases c39 : (t167.length : Int) = 0
                · rw [if_pos c39] at H
                  have c39b0 : ((t167.length : Int) == 0) = true := beq_iff_eq.mpr c39
                  have c39b1 : ((t167.length : Int) != 0) = false := bne_eq_false_iff_eq.mpr c39
                  clear c39
                  by_cases c40 : (t170 == a1_0 && (t171 == (wrap64 (a1_1 + 1)))) = true
                  · rw [if_pos c40] at H
                    have c40b0 : (t170 == a1_0 && (t171 == (wrap64 (a1_1 + 1)))) = true := c40
                    (try (have c40b1 : decide (t170 = a1_0 && (t171 == (wrap64 (a1_1 + 1)))) = true := by simpa using c40))
                    (try (have c40b2 : (t170 == a1_0 && (t171 == (wrap64 (a1_1 + 1)))) = true := by simpa using c40))
                    clear c40
                    by_cases c41 : t161 = (wrap64 (a1_1 + (t157.length : Int)))
                    · rw [if_pos c41] at H
                      have c41b0 : (t161 == (wrap64 (a1_1 + (t157.length : Int)))) = true := beq_iff_eq.mpr c41
                      have c41b1 : (t161 != (wrap64 (a1_1 + (t157.length : Int)))) = false := bne_eq_false_iff_eq.mpr c41
                      clear c41
                      obtain rfl := Option.some.inj H
                      obtain ⟨Ao42, co42, eo42⟩ := Kd.R_slice HO_5.out
                      subst eo42
                      obtain ⟨Ao43, co43, eo43⟩ := Kd.R_slice HO_9.out
                      subst eo43
                      have hnb44 := NB173_156.out
                      have hnc44 := NB156_173.out
                      have hnb45 := NB173_163.out
                      have hnc45 := NB163_173.out
                      have hnb46 := NB173_166.out
                      have hnc46 := NB166_173.out
                      have hcz47_0 : wr.cell? ⟨gb173, 0, none⟩ = some (.int .i64 t170) := (blk_cell BK173.out 0).trans rfl
                      have hcz47_1 : wr.cell? ⟨gb173, 1, none⟩ = some (.int .i64 t171) := (blk_cell BK173.out 1).trans rfl
                      have hfz47_0 := blk_frozen BK173.out 0
                      have hfz47_1 := blk_frozen BK173.out 1
                      have hnb48 := NB166_156.out
                      have hnc48 := NB156_166.out
                      have hnb49 := NB166_163.out
                      have hnc49 := NB163_166.out
                      have hcz50_0 : wr.cell? ⟨gb166, 0, none⟩ = some (.int .i64 a1_0) := (blk_cell BK166.out 0).trans rfl
                      have hcz50_1 : wr.cell? ⟨gb166, 1, none⟩ = some (.int .i64 (wrap64 (a1_1 + 1))) := (blk_cell BK166.out 1).trans rfl
                      have hfz50_0 := blk_frozen BK166.out 0
                      have hfz50_1 := blk_frozen BK166.out 1
                      have hnb51 := NB163_156.out
                      have hnc51 := NB156_163.out
                      have hcz52_0 : wr.cell? ⟨gb163, 0, none⟩ = some (.int .i64 t160) := (blk_cell BK163.out 0).trans rfl
                      have hcz52_1 : wr.cell? ⟨gb163, 1, none⟩ = some (.int .i64 t161) := (blk_cell BK163.out 1).trans rfl
                      have hfz52_0 := blk_frozen BK163.out 0
                      have hfz52_1 := blk_frozen BK163.out 1
                      have hcz53_0 : wr.cell? ⟨gb156, 0, none⟩ = some (.int .i64 a1_0) := (blk_cell BK156.out 0).trans rfl
                      have hcz53_1 : wr.cell? ⟨gb156, 1, none⟩ = some (.int .i64 a1_1) := (blk_cell BK156.out 1).trans rfl
                      have hfz53_0 := blk_frozen BK156.out 0
                      have hfz53_1 := blk_frozen BK156.out 1
                      go_wp2
                      go_ret
                      exact ⟨by first | rfl | (simp [errW_none, errW_some] <;> rfl) | (simp [*, errW_none, errW_some] <;> rfl), by repeat (first | (with_reducible first | exact HB.out | apply below_alloc | apply pw_below_drewN | apply below_drew1 | refine below_set ?_ GE156.out | refine below_set ?_ GE163.out | refine below_set ?_ GE166.out | refine below_set ?_ GE173.out) | exact HB.out)⟩
                    · rw [if_neg c41] at H
                      have c41b0 : (t161 == (wrap64 (a1_1 + (t157.length : Int)))) = false := beq_eq_false_iff_ne.mpr c41
                      have c41b1 : (t161 != (wrap64 (a1_1 + (t157.length : Int)))) = true := bne_iff_ne.mpr c41
                      obtain rfl := Option.some.inj H
                      obtain ⟨Ao54, co54, eo54⟩ := Kd.R_slice HO_5.out
                      subst eo54
                      obtain ⟨Ao55, co55, eo55⟩ := Kd.R_slice HO_9.out
                      subst eo55
                      have hnb56 := NB173_156.out
                      have hnc56 := NB156_173.out
                      have hnb57 := NB173_163.out
                      have hnc57 := NB163_173.out
                      have hnb58 := NB173_166.out
                      have hnc58 := NB166_173.out
                      have hcz59_0 : wr.cell? ⟨gb173, 0, none⟩ = some (.int .i64 t170) := (blk_cell BK173.out 0).trans rfl
                      have hcz59_1 : wr.cell? ⟨gb173, 1, none⟩ = some (.int .i64 t171) := (blk_cell BK173.out 1).trans rfl
                      have hfz59_0 := blk_frozen BK173.out 0
                      have hfz59_1 := blk_frozen BK173.out 1
                      have hnb60 := NB166_156.out
                      have hnc60 := NB156_166.out
                      have hnb61 := NB166_163.out
                      have hnc61 := NB163_166.out
                      have hcz62_0 : wr.cell? ⟨gb166, 0, none⟩ = some (.int .i64 a1_0) := (blk_cell BK166.out 0).trans rfl
                      have hcz62_1 : wr.cell? ⟨gb166, 1, none⟩ = some (.int .i64 (wrap64 (a1_1 + 1))) := (blk_cell BK166.out 1).trans rfl
                      have hfz62_0 := blk_frozen BK166.out 0
                      have hfz62_1 := blk_frozen BK166.out 1
                      have hnb63 := NB163_156.out
                      have hnc63 := NB156_163.out
                      have hcz64_0 : wr.cell? ⟨gb163, 0, none⟩ = some (.int .i64 t160) := (blk_cell BK163.out 0).trans rfl
                      have hcz64_1 : wr.cell? ⟨gb163, 1, none⟩ = some (.int .i64 t161) := (blk_cell BK163.out 1).trans rfl
                      have hfz64_0 := blk_frozen BK163.out 0
                      have hfz64_1 := blk_frozen BK163.out 1
                      have hcz65_0 : wr.cell? ⟨gb156, 0, none⟩ = some (.int .i64 a1_0) := (blk_cell BK156.out 0).trans rfl
                      have hcz65_1 : wr.cell? ⟨gb156, 1, none⟩ = some (.int .i64 a1_1) := (blk_cell BK156.out 1).trans rfl
                      have hfz65_0 := blk_frozen BK156.out 0
                      have hfz65_1 := blk_frozen BK156.out 1
                      go_wp2
                      go_ret
                      exact ⟨by first | rfl | (simp [errW_none, errW_some] <;> rfl) | (simp [*, errW_none, errW_some] <;> rfl), by repeat (first | (with_reducible first | exact HB.out | apply below_alloc | apply pw_below_drewN | apply below_drew1 | refine below_set ?_ GE156.out | refine below_set ?_ GE163.out | refine below_set ?_ GE166.out | refine below_set ?_ GE173.out) | exact HB.out)⟩
                  · rw [if_neg c40] at H
                    have c40b0 : (t170 == a1_0 && (t171 == (wrap64 (a1_1 + 1)))) = false := by simpa using c40
                    (try (have c40b1 : decide (t170 = a1_0 && (t171 == (wrap64 (a1_1 + 1)))) = false := by simpa using c40))
                    (try (have c40b2 : (t170 == a1_0 && (t171 == (wrap64 (a1_1 + 1)))) = false := by simpa using c40))
                    (try (have c40b3 : ¬ (t170 = a1_0 && (t171 == (wrap64 (a1_1 + 1)))) := by simpa using c40))
                    clear c40
                    obtain rfl := Option.some.inj H
                    obtain ⟨Ao66, co66, eo66⟩ := Kd.R_slice HO_5.out
                    subst eo66
                    obtain ⟨Ao67, co67, eo67⟩ := Kd.R_slice HO_9.out
                    subst eo67
                    have hnb68 := NB173_156.out
                    have hnc68 := NB156_173.out
                    have hnb69 := NB173_163.out
                    have hnc69 := NB163_173.out
                    have hnb70 := NB173_166.out
                    have hnc70 := NB166_173.out
                    have hcz71_0 : wr.cell? ⟨gb173, 0, none⟩ = some (.int .i64 t170) := (blk_cell BK173.out 0).trans rfl
                    have hcz71_1 : wr.cell? ⟨gb173, 1, none⟩ = some (.int .i64 t171) := (blk_cell BK173.out 1).trans rfl
                    have hfz71_0 := blk_frozen BK173.out 0
                    have hfz71_1 := blk_frozen BK173.out 1
                    have hnb72 := NB166_156.out
                    have hnc72 := NB156_166.out
                    have hnb73 := NB166_163.out
                    have hnc73 := NB163_166.out
                    have hcz74_0 : wr.cell? ⟨gb166, 0, none⟩ = some (.int .i64 a1_0) := (blk_cell BK166.out 0).trans rfl
                    have hcz74_1 : wr.cell? ⟨gb166, 1, none⟩ = some (.int .i64 (wrap64 (a1_1 + 1))) := (blk_cell BK166.out 1).trans rfl
                    have hfz74_0 := blk_frozen BK166.out 0
                    have hfz74_1 := blk_frozen BK166.out 1
                    go_wp2
                    go_ret
                    exact ⟨by first | rfl | (simp [errW_none, errW_some] <;> rfl) | (simp [*, errW_none, errW_some] <;> rfl), by repeat (first | (with_reducible first | exact HB.out | apply below_alloc | apply pw_below_drewN | apply below_drew1 | refine below_set ?_ GE156.out | refine below_set ?_ GE163.out | refine below_set ?_ GE166.out | refine below_set ?_ GE173.out) | exact HB.out)⟩
                · rw [if_neg c39] at H
                  have c39b0 : ((t167.length : Int) == 0) = false := beq_eq_false_iff_ne.mpr c39
                  have c39b1 : ((t167.length : Int) != 0) = true := bne_iff_ne.mpr c39
                  have c39b2 : ¬ (t167 = []) := fun h_ => c39 (by rw [h_]; rfl)
                  obtain rfl := Option.some.inj H
                  obtain ⟨Ao75, co75, eo75⟩ := Kd.R_slice HO_5.out
                  subst eo75
                  obtain ⟨Ao76, co76, eo76⟩ := Kd.R_slice HO_9.out
                  subst eo76
                  go_wp2
                  go_ret
                  exact ⟨by first | rfl | (simp [errW_none, errW_some] <;> rfl) | (simp [*, errW_none, errW_some] <;> rfl), by repeat (first | (with_reducible first | exact HB.out | apply below_alloc | apply pw_below_drewN | apply below_drew1 | refine below_set ?_ GE156.out | refine below_set ?_ GE163.out | refine below_set ?_ GE166.out | refine below_set ?_ GE173.out) | exact HB.out)⟩
              · rw [if_neg c38] at H
                have c38b0 : (t172 == 0) = false := beq_eq_false_iff_ne.mpr c38
                have c38b1 : (t172 != 0) = true := bne_iff_ne.mpr c38
                by_cases c77 : t161 = (wrap64 (a1_1 + (t157.length : Int)))
                · rw [if_pos c77] at H
                  have c77b0 : (t161 == (wrap64 (a1_1 + (t157.length : Int)))) = true := beq_iff_eq.mpr c77
                  have c77b1 : (t161 != (wrap64 (a1_1 + (t157.length : Int)))) = false := bne_eq_false_iff_eq.mpr c77
                  clear c77
                  obtain rfl := Option.some.inj H
                  obtain ⟨Ao78, co78, eo78⟩ := Kd.R_slice HO_5.out
                  subst eo78
                  have hnb79 := NB163_156.out
                  have hnc79 := NB156_163.out
                  have hnb80 := NB163_166.out
                  have hnc80 := NB166_163.out
                  have hnb81 := NB163_173.out
                  have hnc81 := NB173_163.out
                  have hcz82_0 : wr.cell? ⟨gb163, 0, none⟩ = some (.int .i64 t160) := (blk_cell BK163.out 0).trans rfl
                  have hcz82_1 : wr.cell? ⟨gb163, 1, none⟩ = some (.int .i64 t161) := (blk_cell BK163.out 1).trans rfl
                  have hfz82_0 := blk_frozen BK163.out 0
                  have hfz82_1 := blk_frozen BK163.out 1
                  have hnb83 := NB156_166.out
                  have hnc83 := NB166_156.out
                  have hnb84 := NB156_173.out
                  have hnc84 := NB173_156.out
                  have hcz85_0 : wr.cell? ⟨gb156, 0, none⟩ = some (.int .i64 a1_0) := (blk_cell BK156.out 0).trans rfl
                  have hcz85_1 : wr.cell? ⟨gb156, 1, none⟩ = some (.int .i64 a1_1) := (blk_cell BK156.out 1).trans rfl
                  have hfz85_0 := blk_frozen BK156.out 0
                  have hfz85_1 := blk_frozen BK156.out 1
                  go_wp2
                  go_ret
                  exact ⟨by first | rfl | (simp [errW_none, errW_some] <;> rfl) | (simp [*, errW_none, errW_some] <;> rfl), by repeat (first | (with_reducible first | exact HB.out | apply below_alloc | apply pw_below_drewN | apply below_drew1 | refine below_set ?_ GE156.out | refine below_set ?_ GE163.out | refine below_set ?_ GE166.out | refine below_set ?_ GE173.out) | exact HB.out)⟩
                · rw [if_neg c77] at H
                  have c77b0 : (t161 == (wrap64 (a1_1 + (t157.length : Int)))) = false := beq_eq_false_iff_ne.mpr c77
                  have c77b1 : (t161 != (wrap64 (a1_1 + (t157.length : Int)))) = true := bne_iff_ne.mpr c77
                  obtain rfl := Option.some.inj H
                  obtain ⟨Ao86, co86, eo86⟩ := Kd.R_slice HO_5.out
                  subst eo86
                  have hnb87 := NB163_156.out
                  have hnc87 := NB156_163.out
                  have hnb88 := NB163_166.out
                  have hnc88 := NB166_163.out
                  have hnb89 := NB163_173.out
                  have hnc89 := NB173_163.out
                  have hcz90_0 : wr.cell? ⟨gb163, 0, none⟩ = some (.int .i64 t160) := (blk_cell BK163.out 0).trans rfl
                  have hcz90_1 : wr.cell? ⟨gb163, 1, none⟩ = some (.int .i64 t161) := (blk_cell BK163.out 1).trans rfl
                  have hfz90_0 := blk_frozen BK163.out 0
                  have hfz90_1 := blk_frozen BK163.out 1
                  have hnb91 := NB156_166.out
                  have hnc91 := NB166_156.out
                  have hnb92 := NB156_173.out
                  have hnc92 := NB173_156.out
                  have hcz93_0 : wr.cell? ⟨gb156, 0, none⟩ = some (.int .i64 a1_0) := (blk_cell BK156.out 0).trans rfl
                  have hcz93_1 : wr.cell? ⟨gb156, 1, none⟩ = some (.int .i64 a1_1) := (blk_cell BK156.out 1).trans rfl
                  have hfz93_0 := blk_frozen BK156.out 0
                  have hfz93_1 := blk_frozen BK156.out 1
                  go_wp2
                  go_ret
                  exact ⟨by first | rfl | (simp [errW_none, errW_some] <;> rfl) | (simp [*, errW_none, errW_some] <;> rfl), by repeat (first | (with_reducible first | exact HB.out | apply below_alloc | apply pw_below_drewN | apply below_drew1 | refine below_set ?_ GE156.out | refine below_set ?_ GE163.out | refine below_set ?_ GE166.out | refine below_set ?_ GE173.out) | exact HB.out)⟩

end Go.Proofs.Ytefhjfaojbjjaaa.PAll
