-- Printed out of the translation by a program; functions that were proved by hand stand among them. Lean checks it.
import Derived.Test.YtnccbebjligpdaaPAllx0
import Derived.Test.YtnccbebjligpdaaPAllx1
import Derived.Test.YtnccbebjligpdaaPAllx5
import Derived.Test.YtnccbebjligpdaaPAllx6
import Derived.Test.YtnccbebjligpdaaPAllx7
import Derived.Test.YtnccbebjligpdaaPAllx8
namespace Go.Proofs.Ytnccbebjligpdaa.PAll
open Go.RowKit Go.Proofs.YtnccbebjligpdaaW.PrintWords Go.Proofs.YtnccbebjligpdaaW.PrintLast Go.Proofs.YtnccbebjligpdaaW.PrintMore
open Go.Proofs.YtnccbebjligpdaaW.PrintWords renaming blk_drewN → zN, blk_drew → zD, blk_alloc → zA, below_alloc → zB, pw_below_drewN → zP, below_drew1 → zE, below_set → zS
attribute [local go_sem] max2_int min2_int max_two min_two max_three min_three max_four min_four   -- for this text's walks alone
set_option linter.unusedVariables false
set_option linter.unusedSimpArgs false

attribute [local go_sem high] eqA41
/-! ### drydocklaw10_EntryBack: function 10 -/
mutual
def drydocklaw10_EntryBack.j0 : Nat → List (List (S41)) → ByteArray → List (List (S41)) → Int → Bool → Int → ByteArray → Option (Bool)
  | 0, _, _, _, _, _, _, _ => none
  | k + 1, x0, x2, x7, x8, x47, x177000, x177001 => if x47 = true then ((drydocklaw10_awake.f k).bind fun t183 => (some t183)) else ((entry_Find.f x7 x177001).bind fun bt184 => (if bt184.2.2 = 0 then (if bt184.1 = x8 then (if 0 ≤ x8 then (if x8 < (x7.length : Int) then (if bt184.2.1 = (wrap64 (((rd_L4 x7 x8).length : Int) - 1)) then (if 0 ≤ bt184.1 then (if bt184.1 < (x7.length : Int) then (if 0 ≤ bt184.2.1 then (if bt184.2.1 < ((rd_L4 x7 bt184.1).length : Int) then (drydocklaw10_EntryBack.j1 k x0 x2 x7 x8 (!(((rd_T41 (rd_L4 x7 bt184.1) bt184.2.1).f0) == x177000) || (!((((rd_T41 (rd_L4 x7 bt184.1) bt184.2.1).f1).toList) == x177001.toList))) x177000 x177001) else (none)) else (none)) else (none)) else (none)) else (drydocklaw10_EntryBack.j1 k x0 x2 x7 x8 true x177000 x177001)) else (none)) else (none)) else (drydocklaw10_EntryBack.j1 k x0 x2 x7 x8 true x177000 x177001)) else (drydocklaw10_EntryBack.j1 k x0 x2 x7 x8 true x177000 x177001)))
def drydocklaw10_EntryBack.j1 : Nat → List (List (S41)) → ByteArray → List (List (S41)) → Int → Bool → Int → ByteArray → Option (Bool)
  | 0, _, _, _, _, _, _, _ => none
  | k + 1, x0, x2, x7, x8, x84, x177000, x177001 => if x84 = true then (some false) else ((entry_Remove.f k x7 x177001).bind fun bt190 => (if bt190.2.2 = 0 then (drydocklaw10_EntryBack.j2 k x0 x2 bt190.1 (bt190.2.1 != x8) x177000 x177001) else (drydocklaw10_EntryBack.j2 k x0 x2 bt190.1 true x177000 x177001)))
def drydocklaw10_EntryBack.j2 : Nat → List (List (S41)) → ByteArray → List (List (S41)) → Bool → Int → ByteArray → Option (Bool)
  | 0, _, _, _, _, _, _ => none
  | k + 1, x0, x2, x13, x99, x177000, x177001 => if x99 = true then (some false) else ((entry_Find.f x13 x177001).bind fun bt195 => ((entry_Find.f x0 x2).bind fun bt198 => ((entry_Find.f x13 x2).bind fun bt201 => (if bt195.2.2 = 4 then (if bt198.2.2 = bt201.2.2 then (some true) else (some (x2.toList == x177001.toList))) else (some false)))))
end
def drydocklaw10_EntryBack.f (k : Nat) (l0 : List (List (S41))) (a1_0 : Int) (a1_1 : ByteArray) (a2 : ByteArray) : Option (Bool) := (entry_Add.f k l0 a1_0 a1_1).bind fun bt177 => ((drydocklaw10_awake.f k).bind fun t182 => (if t182 = true then (if bt177.2.2 = 0 then (if bt177.2.1 < 0 then (drydocklaw10_EntryBack.j0 k l0 a2 bt177.1 bt177.2.1 true a1_0 a1_1) else (drydocklaw10_EntryBack.j0 k l0 a2 bt177.1 bt177.2.1 (decide (bt177.2.1 ≥ (bt177.1.length : Int))) a1_0 a1_1)) else (drydocklaw10_EntryBack.j0 k l0 a2 bt177.1 bt177.2.1 true a1_0 a1_1)) else (drydocklaw10_EntryBack.j0 k l0 a2 bt177.1 bt177.2.1 true a1_0 a1_1)))
theorem drydocklaw10_EntryBack.mono_l : ∀ k, (∀ y0 y1 y2 y3 y4 y5 y6, LeO (drydocklaw10_EntryBack.j0 k y0 y1 y2 y3 y4 y5 y6) (drydocklaw10_EntryBack.j0 (k + 1) y0 y1 y2 y3 y4 y5 y6)) ∧ (∀ y0 y1 y2 y3 y4 y5 y6, LeO (drydocklaw10_EntryBack.j1 k y0 y1 y2 y3 y4 y5 y6) (drydocklaw10_EntryBack.j1 (k + 1) y0 y1 y2 y3 y4 y5 y6)) ∧ (∀ y0 y1 y2 y3 y4 y5, LeO (drydocklaw10_EntryBack.j2 k y0 y1 y2 y3 y4 y5) (drydocklaw10_EntryBack.j2 (k + 1) y0 y1 y2 y3 y4 y5))
  | 0 => ⟨fun _ _ _ _ _ _ _ r h => by simp [drydocklaw10_EntryBack.j0] at h, fun _ _ _ _ _ _ _ r h => by simp [drydocklaw10_EntryBack.j1] at h, fun _ _ _ _ _ _ r h => by simp [drydocklaw10_EntryBack.j2] at h⟩
  | k + 1 => by
    obtain ⟨ih0, ih1, ih2⟩ := drydocklaw10_EntryBack.mono_l k
    refine ⟨?_, ?_, ?_⟩
    · intro y0 y1 y2 y3 y4 y5 y6
      unfold drydocklaw10_EntryBack.j0
      repeat' first
      | (with_reducible exact ih0 _ _ _ _ _ _ _)
      | (with_reducible exact ih1 _ _ _ _ _ _ _)
      | (with_reducible exact ih2 _ _ _ _ _ _)
      | (with_reducible exact drydocklaw10_awake.mono _)
      | (with_reducible exact entry_Add.mono _ _ _ _)
      | (with_reducible exact entry_Remove.mono _ _ _)
      | (with_reducible exact LeO.refl _)
      | (with_reducible exact LeO.none _)
      | (with_reducible refine LeO.ite ?_ ?_)
      | (with_reducible refine LeO.bind ?_ (fun _ => ?_))
      | exact ih0 _ _ _ _ _ _ _
      | exact ih1 _ _ _ _ _ _ _
      | exact ih2 _ _ _ _ _ _
      | exact drydocklaw10_awake.mono _
      | exact entry_Add.mono _ _ _ _
      | exact entry_Remove.mono _ _ _
      | exact LeO.none _
      | refine LeO.ite ?_ ?_
      | refine LeO.bind ?_ (fun _ => ?_)
    · intro y0 y1 y2 y3 y4 y5 y6
      unfold drydocklaw10_EntryBack.j1
      repeat' first
      | (with_reducible exact ih0 _ _ _ _ _ _ _)
      | (with_reducible exact ih1 _ _ _ _ _ _ _)
      | (with_reducible exact ih2 _ _ _ _ _ _)
      | (with_reducible exact drydocklaw10_awake.mono _)
      | (with_reducible exact entry_Add.mono _ _ _ _)
      | (with_reducible exact entry_Remove.mono _ _ _)
      | (with_reducible exact LeO.refl _)
      | (with_reducible exact LeO.none _)
      | (with_reducible refine LeO.ite ?_ ?_)
      | (with_reducible refine LeO.bind ?_ (fun _ => ?_))
      | exact ih0 _ _ _ _ _ _ _
      | exact ih1 _ _ _ _ _ _ _
      | exact ih2 _ _ _ _ _ _
      | exact drydocklaw10_awake.mono _
      | exact entry_Add.mono _ _ _ _
      | exact entry_Remove.mono _ _ _
      | exact LeO.none _
      | refine LeO.ite ?_ ?_
      | refine LeO.bind ?_ (fun _ => ?_)
    · intro y0 y1 y2 y3 y4 y5
      unfold drydocklaw10_EntryBack.j2
      repeat' first
      | (with_reducible exact ih0 _ _ _ _ _ _ _)
      | (with_reducible exact ih1 _ _ _ _ _ _ _)
      | (with_reducible exact ih2 _ _ _ _ _ _)
      | (with_reducible exact drydocklaw10_awake.mono _)
      | (with_reducible exact entry_Add.mono _ _ _ _)
      | (with_reducible exact entry_Remove.mono _ _ _)
      | (with_reducible exact LeO.refl _)
      | (with_reducible exact LeO.none _)
      | (with_reducible refine LeO.ite ?_ ?_)
      | (with_reducible refine LeO.bind ?_ (fun _ => ?_))
      | exact ih0 _ _ _ _ _ _ _
      | exact ih1 _ _ _ _ _ _ _
      | exact ih2 _ _ _ _ _ _
      | exact drydocklaw10_awake.mono _
      | exact entry_Add.mono _ _ _ _
      | exact entry_Remove.mono _ _ _
      | exact LeO.none _
      | refine LeO.ite ?_ ?_
      | refine LeO.bind ?_ (fun _ => ?_)
theorem drydocklaw10_EntryBack.mono : ∀ a0 a1 a2 a3 k, LeO (drydocklaw10_EntryBack.f k a0 a1 a2 a3) (drydocklaw10_EntryBack.f (k + 1) a0 a1 a2 a3) := by
  intro a0 a1 a2 a3 k
  obtain ⟨ih0, ih1, ih2⟩ := drydocklaw10_EntryBack.mono_l k
  unfold drydocklaw10_EntryBack.f
  repeat' first
      | (with_reducible exact ih0 _ _ _ _ _ _ _)
      | (with_reducible exact ih1 _ _ _ _ _ _ _)
      | (with_reducible exact ih2 _ _ _ _ _ _)
      | (with_reducible exact drydocklaw10_awake.mono _)
      | (with_reducible exact entry_Add.mono _ _ _ _)
      | (with_reducible exact entry_Remove.mono _ _ _)
      | (with_reducible exact LeO.refl _)
      | (with_reducible exact LeO.none _)
      | (with_reducible refine LeO.ite ?_ ?_)
      | (with_reducible refine LeO.bind ?_ (fun _ => ?_))
      | exact ih0 _ _ _ _ _ _ _
      | exact ih1 _ _ _ _ _ _ _
      | exact ih2 _ _ _ _ _ _
      | exact drydocklaw10_awake.mono _
      | exact entry_Add.mono _ _ _ _
      | exact entry_Remove.mono _ _ _
      | exact LeO.none _
      | refine LeO.ite ?_ ?_
      | refine LeO.bind ?_ (fun _ => ?_)
set_option maxHeartbeats 8000000 in
set_option maxRecDepth 100000 in
theorem drydocklaw10_EntryBack.calls (k : Nat) (A0 : Option Addr) (c0 : Nat) (l0 : List (List (S41))) (a1_0 : Int) (a1_1 : ByteArray) (a2 : ByteArray) (r : Bool) (w : World) (hr0 : Kd.C (Kd.slice 41 k41) w A0 l0.length l0) (hc0 : l0.length ≤ c0) (h : drydocklaw10_EntryBack.f k l0 a1_0 a1_1 a2 = some r) :
    Calls Try.prog 10 #[.slice A0 l0.length c0, .agg #[.int .i64 a1_0, .string a1_1], .string a2] w fun e w' => e = .returned (.bool r) ∧ Below w.heap.size w w' := by
  have hu41 := Try.underlying41
  have HR0 := Aside0.mk hr0
  have HC0 := Aside0.mk hc0
  clear hr0 hc0
  have HB := Aside0.mk (Below.refl w.heap.size w)
  have H : ((entry_Add.f k l0 a1_0 a1_1).bind fun bt177 => ((drydocklaw10_awake.f k).bind fun t182 => (if t182 = true then (if bt177.2.2 = 0 then (if bt177.2.1 < 0 then (drydocklaw10_EntryBack.j0 k l0 a2 bt177.1 bt177.2.1 true a1_0 a1_1) else (drydocklaw10_EntryBack.j0 k l0 a2 bt177.1 bt177.2.1 (decide (bt177.2.1 ≥ (bt177.1.length : Int))) a1_0 a1_1)) else (drydocklaw10_EntryBack.j0 k l0 a2 bt177.1 bt177.2.1 true a1_0 a1_1)) else (drydocklaw10_EntryBack.j0 k l0 a2 bt177.1 bt177.2.1 true a1_0 a1_1)))) = some r := h
  clear h
  replace H := Option.bind_eq_some_iff.mp H
  obtain ⟨⟨t177, t180, t181⟩, A40, H⟩ := H
  replace H : ((drydocklaw10_awake.f k).bind fun t182 => (if t182 = true then (if t181 = 0 then (if t180 < 0 then (drydocklaw10_EntryBack.j0 k l0 a2 t177 t180 true a1_0 a1_1) else (drydocklaw10_EntryBack.j0 k l0 a2 t177 t180 (decide (t180 ≥ (t177.length : Int))) a1_0 a1_1)) else (drydocklaw10_EntryBack.j0 k l0 a2 t177 t180 true a1_0 a1_1)) else (drydocklaw10_EntryBack.j0 k l0 a2 t177 t180 true a1_0 a1_1))) = some r := H
  have A4 := Aside0.mk A40
  clear A40
  have HC5 := Aside0.mk H
  clear H
  go_enter Try.func10, Try.ntmps10
  go_upto_region 2 with (first | ((with_reducible refine gate_dst (N := 4) rfl ?_); (try (refine gate_guard (by rfl) ?_; dsimp only)); refine box_event ?hg (N := 4) ?hd (cs := #[.int .i64 a1_0, .string a1_1]) (t := 41) ?hr ?_; (case hd => rfl); (case hg => rfl); (case hr => first | (go_simp; done) | (go_simp; rfl)); intro gb176 hg w6 hbox hb; have n0_ := Aside0.mk (below_step (by repeat (first | (with_reducible first | exact HB.out | apply zB | apply zP | apply zE) | exact HB.out)) hb); have n1_ := Aside0.mk (hbox); have n2_ := Aside0.mk ((by rw [hg]; exact (below_size (by repeat (first | (with_reducible first | exact HB.out | apply zB | apply zP | apply zE) | exact HB.out))) : w.heap.size ≤ gb176)); have n3_ := Aside0.mk ((by rw [hg]; exact (below_size (by repeat (first | (with_reducible first | exact HB.out | apply zB | apply zP | apply zE) | exact HB.out))) : w.heap.size ≤ gb176)); clear HB; have HB := n0_; have BK176 := n1_; have GW176 := n2_; have GE176 := n3_; clear n0_ n1_ n2_ n3_; clear hb hbox hg; have hcz7_0 : w6.cell? ⟨gb176, 0, none⟩ = some (.int .i64 a1_0) := (blk_cell BK176.out 0).trans rfl; have hcz7_1 : w6.cell? ⟨gb176, 1, none⟩ = some (.string a1_1) := (blk_cell BK176.out 1).trans rfl; have hfz7_0 := blk_frozen BK176.out 0; have hfz7_1 := blk_frozen BK176.out 1) | (go_at_call 22; (with_reducible refine (entry_Add.calls k _ _ l0 a1_0 a1_1 t177 t180 t181 _ ?side1 ?side2 A4.out).mono ?_); (case side1 => repeat (first | exact (Kd.C_below HR0.out HB.out) | (with_reducible refine Kd.C_alloc ?_ _) | (with_reducible refine Kd.C_drewN ?_ _) | (with_reducible refine Kd.C_drew ?_))); (case side2 => exact HC0.out); rintro e w8 ⟨v178, rfl, ho0, hb⟩; have n0_ := Aside0.mk (Kd.S_lower (Kd.S_newB ho0 (g := gb176) (o := .cells #[.int .i64 a1_0, .string a1_1] 41 (0, 0)) (by (with_reducible repeat (first | refine zN ?_ _ | refine zD ?_ | refine zA ?_ _)); exact BK176.out)) (below_size (by repeat (first | (with_reducible first | exact HB.out | apply zB | apply zP | apply zE | refine zS ?_ GE176.out) | exact HB.out)))); have n1_ := Aside0.mk (blk_below (g := gb176) (o := .cells #[.int .i64 a1_0, .string a1_1] 41 (0, 0)) (by (with_reducible repeat (first | refine zN ?_ _ | refine zD ?_ | refine zA ?_ _)); exact BK176.out) hb); have n2_ := Aside0.mk (below_step (by repeat (first | (with_reducible first | exact HB.out | apply zB | apply zP | apply zE | refine zS ?_ GE176.out) | exact HB.out)) hb); clear BK176; clear HB; have HO179 := n0_; have BK176 := n1_; have HB := n2_; clear n0_ n1_ n2_; (try clear hb); (try clear hb2); (try clear hk); (try clear hi); (try clear ho0)))
  repeat (go_quiet (first | ((with_reducible refine gate_dst (N := 4) rfl ?_); (try (refine gate_guard (by rfl) ?_; dsimp only)); refine box_event ?hg (N := 4) ?hd (cs := #[.int .i64 a1_0, .string a1_1]) (t := 41) ?hr ?_; (case hd => rfl); (case hg => rfl); (case hr => first | (go_simp; done) | (go_simp; rfl)); intro gb176 hg w6 hbox hb; have n0_ := Aside0.mk (below_step (by repeat (first | (with_reducible first | exact HB.out | apply zB | apply zP | apply zE) | exact HB.out)) hb); have n1_ := Aside0.mk (hbox); have n2_ := Aside0.mk ((by rw [hg]; exact (below_size (by repeat (first | (with_reducible first | exact HB.out | apply zB | apply zP | apply zE) | exact HB.out))) : w.heap.size ≤ gb176)); have n3_ := Aside0.mk ((by rw [hg]; exact (below_size (by repeat (first | (with_reducible first | exact HB.out | apply zB | apply zP | apply zE) | exact HB.out))) : w.heap.size ≤ gb176)); clear HB; have HB := n0_; have BK176 := n1_; have GW176 := n2_; have GE176 := n3_; clear n0_ n1_ n2_ n3_; clear hb hbox hg; have hcz7_0 : w6.cell? ⟨gb176, 0, none⟩ = some (.int .i64 a1_0) := (blk_cell BK176.out 0).trans rfl; have hcz7_1 : w6.cell? ⟨gb176, 1, none⟩ = some (.string a1_1) := (blk_cell BK176.out 1).trans rfl; have hfz7_0 := blk_frozen BK176.out 0; have hfz7_1 := blk_frozen BK176.out 1) | (go_at_call 22; (with_reducible refine (entry_Add.calls k _ _ l0 a1_0 a1_1 t177 t180 t181 _ ?side1 ?side2 A4.out).mono ?_); (case side1 => repeat (first | exact (Kd.C_below HR0.out HB.out) | (with_reducible refine Kd.C_alloc ?_ _) | (with_reducible refine Kd.C_drewN ?_ _) | (with_reducible refine Kd.C_drew ?_))); (case side2 => exact HC0.out); rintro e w8 ⟨v178, rfl, ho0, hb⟩; have n0_ := Aside0.mk (Kd.S_lower (Kd.S_newB ho0 (g := gb176) (o := .cells #[.int .i64 a1_0, .string a1_1] 41 (0, 0)) (by (with_reducible repeat (first | refine zN ?_ _ | refine zD ?_ | refine zA ?_ _)); exact BK176.out)) (below_size (by repeat (first | (with_reducible first | exact HB.out | apply zB | apply zP | apply zE | refine zS ?_ GE176.out) | exact HB.out)))); have n1_ := Aside0.mk (blk_below (g := gb176) (o := .cells #[.int .i64 a1_0, .string a1_1] 41 (0, 0)) (by (with_reducible repeat (first | refine zN ?_ _ | refine zD ?_ | refine zA ?_ _)); exact BK176.out) hb); have n2_ := Aside0.mk (below_step (by repeat (first | (with_reducible first | exact HB.out | apply zB | apply zP | apply zE | refine zS ?_ GE176.out) | exact HB.out)) hb); clear BK176; clear HB; have HO179 := n0_; have BK176 := n1_; have HB := n2_; clear n0_ n1_ n2_; (try clear hb); (try clear hb2); (try clear hk); (try clear hi); (try clear ho0))); go_upto_region 2 with (first | ((with_reducible refine gate_dst (N := 4) rfl ?_); (try (refine gate_guard (by rfl) ?_; dsimp only)); refine box_event ?hg (N := 4) ?hd (cs := #[.int .i64 a1_0, .string a1_1]) (t := 41) ?hr ?_; (case hd => rfl); (case hg => rfl); (case hr => first | (go_simp; done) | (go_simp; rfl)); intro gb176 hg w6 hbox hb; have n0_ := Aside0.mk (below_step (by repeat (first | (with_reducible first | exact HB.out | apply zB | apply zP | apply zE) | exact HB.out)) hb); have n1_ := Aside0.mk (hbox); have n2_ := Aside0.mk ((by rw [hg]; exact (below_size (by repeat (first | (with_reducible first | exact HB.out | apply zB | apply zP | apply zE) | exact HB.out))) : w.heap.size ≤ gb176)); have n3_ := Aside0.mk ((by rw [hg]; exact (below_size (by repeat (first | (with_reducible first | exact HB.out | apply zB | apply zP | apply zE) | exact HB.out))) : w.heap.size ≤ gb176)); clear HB; have HB := n0_; have BK176 := n1_; have GW176 := n2_; have GE176 := n3_; clear n0_ n1_ n2_ n3_; clear hb hbox hg; have hcz7_0 : w6.cell? ⟨gb176, 0, none⟩ = some (.int .i64 a1_0) := (blk_cell BK176.out 0).trans rfl; have hcz7_1 : w6.cell? ⟨gb176, 1, none⟩ = some (.string a1_1) := (blk_cell BK176.out 1).trans rfl; have hfz7_0 := blk_frozen BK176.out 0; have hfz7_1 := blk_frozen BK176.out 1) | (go_at_call 22; (with_reducible refine (entry_Add.calls k _ _ l0 a1_0 a1_1 t177 t180 t181 _ ?side1 ?side2 A4.out).mono ?_); (case side1 => repeat (first | exact (Kd.C_below HR0.out HB.out) | (with_reducible refine Kd.C_alloc ?_ _) | (with_reducible refine Kd.C_drewN ?_ _) | (with_reducible refine Kd.C_drew ?_))); (case side2 => exact HC0.out); rintro e w8 ⟨v178, rfl, ho0, hb⟩; have n0_ := Aside0.mk (Kd.S_lower (Kd.S_newB ho0 (g := gb176) (o := .cells #[.int .i64 a1_0, .string a1_1] 41 (0, 0)) (by (with_reducible repeat (first | refine zN ?_ _ | refine zD ?_ | refine zA ?_ _)); exact BK176.out)) (below_size (by repeat (first | (with_reducible first | exact HB.out | apply zB | apply zP | apply zE | refine zS ?_ GE176.out) | exact HB.out)))); have n1_ := Aside0.mk (blk_below (g := gb176) (o := .cells #[.int .i64 a1_0, .string a1_1] 41 (0, 0)) (by (with_reducible repeat (first | refine zN ?_ _ | refine zD ?_ | refine zA ?_ _)); exact BK176.out) hb); have n2_ := Aside0.mk (below_step (by repeat (first | (with_reducible first | exact HB.out | apply zB | apply zP | apply zE | refine zS ?_ GE176.out) | exact HB.out)) hb); clear BK176; clear HB; have HO179 := n0_; have BK176 := n1_; have HB := n2_; clear n0_ n1_ n2_; (try clear hb); (try clear hb2); (try clear hk); (try clear hi); (try clear ho0))))
  (try simp only [Act.put, List.setIfInBounds_toArray, List.set_cons_zero, List.set_cons_succ])
  go_cut [47] (fun v47 wc => ∃ (kq : Nat) (x47_4 : Bool), v47 = .bool x47_4 ∧ Aside0 (drydocklaw10_EntryBack.j0 kq l0 a2 t177 t180 x47_4 a1_0 a1_1 = some r) ∧ Aside0 (kq ≤ k) ∧ Aside0 (Kd.S (Kd.slice 41 k41) 22 wc w.heap.size (fun k_ => k_ ≠ gb176) v178 t177) ∧ Aside0 (wc.heap[gb176]? = some (.cells #[.int .i64 a1_0, .string a1_1] 41 (0, 0))) ∧ Aside0 (Below w.heap.size w wc))
  case first =>
    have H := HC5.out
    clear HC5
    replace H := Option.bind_eq_some_iff.mp H
    obtain ⟨t182, A90, H⟩ := H
    replace H : (if t182 = true then (if t181 = 0 then (if t180 < 0 then (drydocklaw10_EntryBack.j0 k l0 a2 t177 t180 true a1_0 a1_1) else (drydocklaw10_EntryBack.j0 k l0 a2 t177 t180 (decide (t180 ≥ (t177.length : Int))) a1_0 a1_1)) else (drydocklaw10_EntryBack.j0 k l0 a2 t177 t180 true a1_0 a1_1)) else (drydocklaw10_EntryBack.j0 k l0 a2 t177 t180 true a1_0 a1_1)) = some r := H
    have A9 := Aside0.mk A90
    clear A90
    by_cases c10 : t182 = true
    · subst c10
      have H1 : (if t181 = 0 then (if t180 < 0 then (drydocklaw10_EntryBack.j0 k l0 a2 t177 t180 true a1_0 a1_1) else (drydocklaw10_EntryBack.j0 k l0 a2 t177 t180 (decide (t180 ≥ (t177.length : Int))) a1_0 a1_1)) else (drydocklaw10_EntryBack.j0 k l0 a2 t177 t180 true a1_0 a1_1)) = some r := by rw [if_pos rfl] at H; exact H
      clear H
      have H := H1
      clear H1
      by_cases c11 : t181 = 0
      · rw [if_pos c11] at H
        have c11b0 : (t181 == 0) = true := beq_iff_eq.mpr c11
        have c11b1 : (t181 != 0) = false := bne_eq_false_iff_eq.mpr c11
        clear c11
        (first | rw [c11b0] | (simp only [i64_w, i32_w]; rw [c11b0]) | skip)
        by_cases c12 : t180 < 0
        · rw [if_pos c12] at H
          have c12b0 : decide (t180 < 0) = true := decide_eq_true c12
          clear c12
          have H' := Aside0.mk H
          clear H
          go_wp2_with (first | (go_at_call 14; (with_reducible refine (drydocklaw10_awake.calls k  true _ A9.out).mono ?_); rintro e w13 ⟨rfl, hb⟩; have n0_ := Aside0.mk (Kd.S_below (by (with_reducible repeat (first | apply Kd.S_alloc | apply Kd.S_drewN | apply Kd.S_drew)); exact HO179.out) hb); have n1_ := Aside0.mk (blk_below (g := gb176) (o := .cells #[.int .i64 a1_0, .string a1_1] 41 (0, 0)) (by (with_reducible repeat (first | refine zN ?_ _ | refine zD ?_ | refine zA ?_ _)); exact BK176.out) hb); have n2_ := Aside0.mk (below_step (by repeat (first | (with_reducible first | exact HB.out | apply zB | apply zP | apply zE | refine zS ?_ GE176.out) | exact HB.out)) hb); clear HO179; clear BK176; clear HB; have HO179 := n0_; have BK176 := n1_; have HB := n2_; clear n0_ n1_ n2_; (try clear hb); (try clear hb2); (try clear hk); (try clear hi)))
          repeat (go_quiet (first | (go_at_call 14; (with_reducible refine (drydocklaw10_awake.calls k  true _ A9.out).mono ?_); rintro e w13 ⟨rfl, hb⟩; have n0_ := Aside0.mk (Kd.S_below (by (with_reducible repeat (first | apply Kd.S_alloc | apply Kd.S_drewN | apply Kd.S_drew)); exact HO179.out) hb); have n1_ := Aside0.mk (blk_below (g := gb176) (o := .cells #[.int .i64 a1_0, .string a1_1] 41 (0, 0)) (by (with_reducible repeat (first | refine zN ?_ _ | refine zD ?_ | refine zA ?_ _)); exact BK176.out) hb); have n2_ := Aside0.mk (below_step (by repeat (first | (with_reducible first | exact HB.out | apply zB | apply zP | apply zE | refine zS ?_ GE176.out) | exact HB.out)) hb); clear HO179; clear BK176; clear HB; have HO179 := n0_; have BK176 := n1_; have HB := n2_; clear n0_ n1_ n2_; (try clear hb); (try clear hb2); (try clear hk); (try clear hi))); try go_wp2_with (first | (go_at_call 14; (with_reducible refine (drydocklaw10_awake.calls k  true _ A9.out).mono ?_); rintro e w13 ⟨rfl, hb⟩; have n0_ := Aside0.mk (Kd.S_below (by (with_reducible repeat (first | apply Kd.S_alloc | apply Kd.S_drewN | apply Kd.S_drew)); exact HO179.out) hb); have n1_ := Aside0.mk (blk_below (g := gb176) (o := .cells #[.int .i64 a1_0, .string a1_1] 41 (0, 0)) (by (with_reducible repeat (first | refine zN ?_ _ | refine zD ?_ | refine zA ?_ _)); exact BK176.out) hb); have n2_ := Aside0.mk (below_step (by repeat (first | (with_reducible first | exact HB.out | apply zB | apply zP | apply zE | refine zS ?_ GE176.out) | exact HB.out)) hb); clear HO179; clear BK176; clear HB; have HO179 := n0_; have BK176 := n1_; have HB := n2_; clear n0_ n1_ n2_; (try clear hb); (try clear hb2); (try clear hk); (try clear hi))))
          go_meet
          case rel => exact ⟨_, (true), (by first | rfl | (simp; done) | (simp [*]; done)), H', ⟨by first | omega | exact Nat.le_refl _⟩, ⟨by (with_reducible repeat (first | apply Kd.S_alloc | apply Kd.S_drewN | apply Kd.S_drew)); exact Kd.S_mono HO179.out (fun _ hk => hk.2)⟩, ⟨by (with_reducible repeat (first | refine zN ?_ _ | refine zD ?_ | refine zA ?_ _)); exact BK176.out⟩, ⟨by repeat (first | (with_reducible first | exact HB.out | apply zB | apply zP | apply zE | refine zS ?_ GE176.out) | exact HB.out)⟩⟩
        · rw [if_neg c12] at H
          have c12b0 : decide (t180 < 0) = false := decide_eq_false c12
          clear c12
          have H' := Aside0.mk H
          clear H
          go_wp2_with (first | (go_at_call 14; (with_reducible refine (drydocklaw10_awake.calls k  true _ A9.out).mono ?_); rintro e w14 ⟨rfl, hb⟩; have n0_ := Aside0.mk (Kd.S_below (by (with_reducible repeat (first | apply Kd.S_alloc | apply Kd.S_drewN | apply Kd.S_drew)); exact HO179.out) hb); have n1_ := Aside0.mk (blk_below (g := gb176) (o := .cells #[.int .i64 a1_0, .string a1_1] 41 (0, 0)) (by (with_reducible repeat (first | refine zN ?_ _ | refine zD ?_ | refine zA ?_ _)); exact BK176.out) hb); have n2_ := Aside0.mk (below_step (by repeat (first | (with_reducible first | exact HB.out | apply zB | apply zP | apply zE | refine zS ?_ GE176.out) | exact HB.out)) hb); clear HO179; clear BK176; clear HB; have HO179 := n0_; have BK176 := n1_; have HB := n2_; clear n0_ n1_ n2_; (try clear hb); (try clear hb2); (try clear hk); (try clear hi); obtain ⟨Ao15, co15, eo15⟩ := Kd.S_slice HO179.out; subst eo15))
          repeat (go_quiet (first | (go_at_call 14; (with_reducible refine (drydocklaw10_awake.calls k  true _ A9.out).mono ?_); rintro e w14 ⟨rfl, hb⟩; have n0_ := Aside0.mk (Kd.S_below (by (with_reducible repeat (first | apply Kd.S_alloc | apply Kd.S_drewN | apply Kd.S_drew)); exact HO179.out) hb); have n1_ := Aside0.mk (blk_below (g := gb176) (o := .cells #[.int .i64 a1_0, .string a1_1] 41 (0, 0)) (by (with_reducible repeat (first | refine zN ?_ _ | refine zD ?_ | refine zA ?_ _)); exact BK176.out) hb); have n2_ := Aside0.mk (below_step (by repeat (first | (with_reducible first | exact HB.out | apply zB | apply zP | apply zE | refine zS ?_ GE176.out) | exact HB.out)) hb); clear HO179; clear BK176; clear HB; have HO179 := n0_; have BK176 := n1_; have HB := n2_; clear n0_ n1_ n2_; (try clear hb); (try clear hb2); (try clear hk); (try clear hi); obtain ⟨Ao15, co15, eo15⟩ := Kd.S_slice HO179.out; subst eo15)); try go_wp2_with (first | (go_at_call 14; (with_reducible refine (drydocklaw10_awake.calls k  true _ A9.out).mono ?_); rintro e w14 ⟨rfl, hb⟩; have n0_ := Aside0.mk (Kd.S_below (by (with_reducible repeat (first | apply Kd.S_alloc | apply Kd.S_drewN | apply Kd.S_drew)); exact HO179.out) hb); have n1_ := Aside0.mk (blk_below (g := gb176) (o := .cells #[.int .i64 a1_0, .string a1_1] 41 (0, 0)) (by (with_reducible repeat (first | refine zN ?_ _ | refine zD ?_ | refine zA ?_ _)); exact BK176.out) hb); have n2_ := Aside0.mk (below_step (by repeat (first | (with_reducible first | exact HB.out | apply zB | apply zP | apply zE | refine zS ?_ GE176.out) | exact HB.out)) hb); clear HO179; clear BK176; clear HB; have HO179 := n0_; have BK176 := n1_; have HB := n2_; clear n0_ n1_ n2_; (try clear hb); (try clear hb2); (try clear hk); (try clear hi); obtain ⟨Ao15, co15, eo15⟩ := Kd.S_slice HO179.out; subst eo15)))
          go_meet
          case rel => exact ⟨_, (decide (t180 ≥ (t177.length : Int))), (by first | rfl | (simp; done) | (simp [*]; done)), H', ⟨by first | omega | exact Nat.le_refl _⟩, ⟨by (with_reducible repeat (first | apply Kd.S_alloc | apply Kd.S_drewN | apply Kd.S_drew)); exact Kd.S_mono HO179.out (fun _ hk => hk.2)⟩, ⟨by (with_reducible repeat (first | refine zN ?_ _ | refine zD ?_ | refine zA ?_ _)); exact BK176.out⟩, ⟨by repeat (first | (with_reducible first | exact HB.out | apply zB | apply zP | apply zE | refine zS ?_ GE176.out) | exact HB.out)⟩⟩
      · rw [if_neg c11] at H
        have c11b0 : (t181 == 0) = false := beq_eq_false_iff_ne.mpr c11
        have c11b1 : (t181 != 0) = true := bne_iff_ne.mpr c11
        (first | rw [c11b0] | (simp only [i64_w, i32_w]; rw [c11b0]) | skip)
        have H' := Aside0.mk H
        clear H
        go_wp2_with (first | (go_at_call 14; (with_reducible refine (drydocklaw10_awake.calls k  true _ A9.out).mono ?_); rintro e w16 ⟨rfl, hb⟩; have n0_ := Aside0.mk (Kd.S_below (by (with_reducible repeat (first | apply Kd.S_alloc | apply Kd.S_drewN | apply Kd.S_drew)); exact HO179.out) hb); have n1_ := Aside0.mk (blk_below (g := gb176) (o := .cells #[.int .i64 a1_0, .string a1_1] 41 (0, 0)) (by (with_reducible repeat (first | refine zN ?_ _ | refine zD ?_ | refine zA ?_ _)); exact BK176.out) hb); have n2_ := Aside0.mk (below_step (by repeat (first | (with_reducible first | exact HB.out | apply zB | apply zP | apply zE | refine zS ?_ GE176.out) | exact HB.out)) hb); clear HO179; clear BK176; clear HB; have HO179 := n0_; have BK176 := n1_; have HB := n2_; clear n0_ n1_ n2_; (try clear hb); (try clear hb2); (try clear hk); (try clear hi)))
        repeat (go_quiet (first | (go_at_call 14; (with_reducible refine (drydocklaw10_awake.calls k  true _ A9.out).mono ?_); rintro e w16 ⟨rfl, hb⟩; have n0_ := Aside0.mk (Kd.S_below (by (with_reducible repeat (first | apply Kd.S_alloc | apply Kd.S_drewN | apply Kd.S_drew)); exact HO179.out) hb); have n1_ := Aside0.mk (blk_below (g := gb176) (o := .cells #[.int .i64 a1_0, .string a1_1] 41 (0, 0)) (by (with_reducible repeat (first | refine zN ?_ _ | refine zD ?_ | refine zA ?_ _)); exact BK176.out) hb); have n2_ := Aside0.mk (below_step (by repeat (first | (with_reducible first | exact HB.out | apply zB | apply zP | apply zE | refine zS ?_ GE176.out) | exact HB.out)) hb); clear HO179; clear BK176; clear HB; have HO179 := n0_; have BK176 := n1_; have HB := n2_; clear n0_ n1_ n2_; (try clear hb); (try clear hb2); (try clear hk); (try clear hi))); try go_wp2_with (first | (go_at_call 14; (with_reducible refine (drydocklaw10_awake.calls k  true _ A9.out).mono ?_); rintro e w16 ⟨rfl, hb⟩; have n0_ := Aside0.mk (Kd.S_below (by (with_reducible repeat (first | apply Kd.S_alloc | apply Kd.S_drewN | apply Kd.S_drew)); exact HO179.out) hb); have n1_ := Aside0.mk (blk_below (g := gb176) (o := .cells #[.int .i64 a1_0, .string a1_1] 41 (0, 0)) (by (with_reducible repeat (first | refine zN ?_ _ | refine zD ?_ | refine zA ?_ _)); exact BK176.out) hb); have n2_ := Aside0.mk (below_step (by repeat (first | (with_reducible first | exact HB.out | apply zB | apply zP | apply zE | refine zS ?_ GE176.out) | exact HB.out)) hb); clear HO179; clear BK176; clear HB; have HO179 := n0_; have BK176 := n1_; have HB := n2_; clear n0_ n1_ n2_; (try clear hb); (try clear hb2); (try clear hk); (try clear hi))))
        go_meet
        case rel => exact ⟨_, (true), (by first | rfl | (simp; done) | (simp [*]; done)), H', ⟨by first | omega | exact Nat.le_refl _⟩, ⟨by (with_reducible repeat (first | apply Kd.S_alloc | apply Kd.S_drewN | apply Kd.S_drew)); exact Kd.S_mono HO179.out (fun _ hk => hk.2)⟩, ⟨by (with_reducible repeat (first | refine zN ?_ _ | refine zD ?_ | refine zA ?_ _)); exact BK176.out⟩, ⟨by repeat (first | (with_reducible first | exact HB.out | apply zB | apply zP | apply zE | refine zS ?_ GE176.out) | exact HB.out)⟩⟩
    · replace c10 := Bool.eq_false_iff.mpr c10
      subst c10
      have H1 : (drydocklaw10_EntryBack.j0 k l0 a2 t177 t180 true a1_0 a1_1) = some r := by rw [if_neg (show ¬ (false = true) by decide)] at H; exact H
      clear H
      have H := H1
      clear H1
      have H' := Aside0.mk H
      clear H
      go_wp2_with (first | (go_at_call 14; (with_reducible refine (drydocklaw10_awake.calls k  false _ A9.out).mono ?_); rintro e w17 ⟨rfl, hb⟩; have n0_ := Aside0.mk (Kd.S_below (by (with_reducible repeat (first | apply Kd.S_alloc | apply Kd.S_drewN | apply Kd.S_drew)); exact HO179.out) hb); have n1_ := Aside0.mk (blk_below (g := gb176) (o := .cells #[.int .i64 a1_0, .string a1_1] 41 (0, 0)) (by (with_reducible repeat (first | refine zN ?_ _ | refine zD ?_ | refine zA ?_ _)); exact BK176.out) hb); have n2_ := Aside0.mk (below_step (by repeat (first | (with_reducible first | exact HB.out | apply zB | apply zP | apply zE | refine zS ?_ GE176.out) | exact HB.out)) hb); clear HO179; clear BK176; clear HB; have HO179 := n0_; have BK176 := n1_; have HB := n2_; clear n0_ n1_ n2_; (try clear hb); (try clear hb2); (try clear hk); (try clear hi)))
      repeat (go_quiet (first | (go_at_call 14; (with_reducible refine (drydocklaw10_awake.calls k  false _ A9.out).mono ?_); rintro e w17 ⟨rfl, hb⟩; have n0_ := Aside0.mk (Kd.S_below (by (with_reducible repeat (first | apply Kd.S_alloc | apply Kd.S_drewN | apply Kd.S_drew)); exact HO179.out) hb); have n1_ := Aside0.mk (blk_below (g := gb176) (o := .cells #[.int .i64 a1_0, .string a1_1] 41 (0, 0)) (by (with_reducible repeat (first | refine zN ?_ _ | refine zD ?_ | refine zA ?_ _)); exact BK176.out) hb); have n2_ := Aside0.mk (below_step (by repeat (first | (with_reducible first | exact HB.out | apply zB | apply zP | apply zE | refine zS ?_ GE176.out) | exact HB.out)) hb); clear HO179; clear BK176; clear HB; have HO179 := n0_; have BK176 := n1_; have HB := n2_; clear n0_ n1_ n2_; (try clear hb); (try clear hb2); (try clear hk); (try clear hi))); try go_wp2_with (first | (go_at_call 14; (with_reducible refine (drydocklaw10_awake.calls k  false _ A9.out).mono ?_); rintro e w17 ⟨rfl, hb⟩; have n0_ := Aside0.mk (Kd.S_below (by (with_reducible repeat (first | apply Kd.S_alloc | apply Kd.S_drewN | apply Kd.S_drew)); exact HO179.out) hb); have n1_ := Aside0.mk (blk_below (g := gb176) (o := .cells #[.int .i64 a1_0, .string a1_1] 41 (0, 0)) (by (with_reducible repeat (first | refine zN ?_ _ | refine zD ?_ | refine zA ?_ _)); exact BK176.out) hb); have n2_ := Aside0.mk (below_step (by repeat (first | (with_reducible first | exact HB.out | apply zB | apply zP | apply zE | refine zS ?_ GE176.out) | exact HB.out)) hb); clear HO179; clear BK176; clear HB; have HO179 := n0_; have BK176 := n1_; have HB := n2_; clear n0_ n1_ n2_; (try clear hb); (try clear hb2); (try clear hk); (try clear hi))))
      go_meet
      case rel => exact ⟨_, (true), (by first | rfl | (simp; done) | (simp [*]; done)), H', ⟨by first | omega | exact Nat.le_refl _⟩, ⟨by (with_reducible repeat (first | apply Kd.S_alloc | apply Kd.S_drewN | apply Kd.S_drew)); exact Kd.S_mono HO179.out (fun _ hk => hk.2)⟩, ⟨by (with_reducible repeat (first | refine zN ?_ _ | refine zD ?_ | refine zA ?_ _)); exact BK176.out⟩, ⟨by repeat (first | (with_reducible first | exact HB.out | apply zB | apply zP | apply zE | refine zS ?_ GE176.out) | exact HB.out)⟩⟩
  case rest =>
    clear HC5
    try clear c1
    try clear p2
    try clear c10
    try clear c11
    try clear c11b0
    try clear c11b1
    try clear c12
    try clear c12b0
    try clear hcz7_0
    try clear hcz7_1
    try clear hfz7_0
    try clear hfz7_1
    obtain ⟨kq, x47_4, rfl, HA, HJ4, HO_7, BK176, HB⟩ := hcut
    cases kq with
    | zero => exact absurd HA.out (by simp [drydocklaw10_EntryBack.j0])
    | succ kj4 =>
      have H := HA.out
      clear HA
      simp only [drydocklaw10_EntryBack.j0] at H
      by_cases c18 : x47_4 = true
      · subst c18
        have H1 : ((drydocklaw10_awake.f kj4).bind fun t183 => (some t183)) = some r := by rw [if_pos rfl] at H; exact H
        clear H
        have H := H1
        clear H1
        replace H := Option.bind_eq_some_iff.mp H
        obtain ⟨t183, A190, H⟩ := H
        replace H : (some t183) = some r := H
        have A19 := Aside0.mk A190
        clear A190
        obtain rfl := Option.some.inj H
        go_wp2_with (first | (go_at_call 14; (with_reducible refine (drydocklaw10_awake.calls kj4  t183 _ A19.out).mono ?_); rintro e w20 ⟨rfl, hb⟩; have n0_ := Aside0.mk (Kd.S_below (by (with_reducible repeat (first | apply Kd.S_alloc | apply Kd.S_drewN | apply Kd.S_drew)); exact HO_7.out) hb); have n1_ := Aside0.mk (blk_below (g := gb176) (o := .cells #[.int .i64 a1_0, .string a1_1] 41 (0, 0)) (by (with_reducible repeat (first | refine zN ?_ _ | refine zD ?_ | refine zA ?_ _)); exact BK176.out) hb); have n2_ := Aside0.mk (below_step (by repeat (first | (with_reducible first | exact HB.out | apply zB | apply zP | apply zE | refine zS ?_ GE176.out) | exact HB.out)) hb); clear HO_7; clear BK176; clear HB; have HO_7 := n0_; have BK176 := n1_; have HB := n2_; clear n0_ n1_ n2_; (try clear hb); (try clear hb2); (try clear hk); (try clear hi)))
        repeat (go_quiet (first | (go_at_call 14; (with_reducible refine (drydocklaw10_awake.calls kj4  t183 _ A19.out).mono ?_); rintro e w20 ⟨rfl, hb⟩; have n0_ := Aside0.mk (Kd.S_below (by (with_reducible repeat (first | apply Kd.S_alloc | apply Kd.S_drewN | apply Kd.S_drew)); exact HO_7.out) hb); have n1_ := Aside0.mk (blk_below (g := gb176) (o := .cells #[.int .i64 a1_0, .string a1_1] 41 (0, 0)) (by (with_reducible repeat (first | refine zN ?_ _ | refine zD ?_ | refine zA ?_ _)); exact BK176.out) hb); have n2_ := Aside0.mk (below_step (by repeat (first | (with_reducible first | exact HB.out | apply zB | apply zP | apply zE | refine zS ?_ GE176.out) | exact HB.out)) hb); clear HO_7; clear BK176; clear HB; have HO_7 := n0_; have BK176 := n1_; have HB := n2_; clear n0_ n1_ n2_; (try clear hb); (try clear hb2); (try clear hk); (try clear hi))); try go_wp2_with (first | (go_at_call 14; (with_reducible refine (drydocklaw10_awake.calls kj4  t183 _ A19.out).mono ?_); rintro e w20 ⟨rfl, hb⟩; have n0_ := Aside0.mk (Kd.S_below (by (with_reducible repeat (first | apply Kd.S_alloc | apply Kd.S_drewN | apply Kd.S_drew)); exact HO_7.out) hb); have n1_ := Aside0.mk (blk_below (g := gb176) (o := .cells #[.int .i64 a1_0, .string a1_1] 41 (0, 0)) (by (with_reducible repeat (first | refine zN ?_ _ | refine zD ?_ | refine zA ?_ _)); exact BK176.out) hb); have n2_ := Aside0.mk (below_step (by repeat (first | (with_reducible first | exact HB.out | apply zB | apply zP | apply zE | refine zS ?_ GE176.out) | exact HB.out)) hb); clear HO_7; clear BK176; clear HB; have HO_7 := n0_; have BK176 := n1_; have HB := n2_; clear n0_ n1_ n2_; (try clear hb); (try clear hb2); (try clear hk); (try clear hi))))
        go_ret
        exact ⟨by first | rfl | (simp [errW_none, errW_some] <;> rfl) | (simp [*, errW_none, errW_some] <;> rfl), by repeat (first | (with_reducible first | exact HB.out | apply zB | apply zP | apply zE | refine zS ?_ GE176.out) | exact HB.out)⟩
      · replace c18 := Bool.eq_false_iff.mpr c18
        subst c18
        have H1 : ((entry_Find.f t177 a1_1).bind fun bt184 => (if bt184.2.2 = 0 then (if bt184.1 = t180 then (if 0 ≤ t180 then (if t180 < (t177.length : Int) then (if bt184.2.1 = (wrap64 (((rd_L4 t177 t180).length : Int) - 1)) then (if 0 ≤ bt184.1 then (if bt184.1 < (t177.length : Int) then (if 0 ≤ bt184.2.1 then (if bt184.2.1 < ((rd_L4 t177 bt184.1).length : Int) then (drydocklaw10_EntryBack.j1 kj4 l0 a2 t177 t180 (!(((rd_T41 (rd_L4 t177 bt184.1) bt184.2.1).f0) == a1_0) || (!((((rd_T41 (rd_L4 t177 bt184.1) bt184.2.1).f1).toList) == a1_1.toList))) a1_0 a1_1) else (none)) else (none)) else (none)) else (none)) else (drydocklaw10_EntryBack.j1 kj4 l0 a2 t177 t180 true a1_0 a1_1)) else (none)) else (none)) else (drydocklaw10_EntryBack.j1 kj4 l0 a2 t177 t180 true a1_0 a1_1)) else (drydocklaw10_EntryBack.j1 kj4 l0 a2 t177 t180 true a1_0 a1_1))) = some r := by rw [if_neg (show ¬ (false = true) by decide)] at H; exact H
        clear H
        have H := H1
        clear H1
        replace H := Option.bind_eq_some_iff.mp H
        obtain ⟨⟨t184, t185, t186⟩, A210, H⟩ := H
        replace H : (if t186 = 0 then (if t184 = t180 then (if 0 ≤ t180 then (if t180 < (t177.length : Int) then (if t185 = (wrap64 (((rd_L4 t177 t180).length : Int) - 1)) then (if 0 ≤ t184 then (if t184 < (t177.length : Int) then (if 0 ≤ t185 then (if t185 < ((rd_L4 t177 t184).length : Int) then (drydocklaw10_EntryBack.j1 kj4 l0 a2 t177 t180 (!(((rd_T41 (rd_L4 t177 t184) t185).f0) == a1_0) || (!((((rd_T41 (rd_L4 t177 t184) t185).f1).toList) == a1_1.toList))) a1_0 a1_1) else (none)) else (none)) else (none)) else (none)) else (drydocklaw10_EntryBack.j1 kj4 l0 a2 t177 t180 true a1_0 a1_1)) else (none)) else (none)) else (drydocklaw10_EntryBack.j1 kj4 l0 a2 t177 t180 true a1_0 a1_1)) else (drydocklaw10_EntryBack.j1 kj4 l0 a2 t177 t180 true a1_0 a1_1)) = some r := H
        have A21 := Aside0.mk A210
        clear A210
        have HC22 := Aside0.mk H
        clear H
        have hcz23_0 : wc.cell? ⟨gb176, 0, none⟩ = some (.int .i64 a1_0) := (blk_cell BK176.out 0).trans rfl
        have hcz23_1 : wc.cell? ⟨gb176, 1, none⟩ = some (.string a1_1) := (blk_cell BK176.out 1).trans rfl
        have hfz23_0 := blk_frozen BK176.out 0
        have hfz23_1 := blk_frozen BK176.out 1
        obtain ⟨Ao24, co24, eo24⟩ := Kd.S_slice HO_7.out
        subst eo24
        go_upto_region 5 with (first | (go_at_call 20; (with_reducible refine (entry_Find.calls _ _ t177 a1_1 t184 t185 t186 _ ?side1 ?side2 A21.out).mono ?_); (case side1 => repeat (first | exact (Kd.S_reads' HO_7.out).2.2 | (with_reducible refine Kd.C_alloc ?_ _) | (with_reducible refine Kd.C_drewN ?_ _) | (with_reducible refine Kd.C_drew ?_))); (case side2 => exact (Kd.S_reads' HO_7.out).2.1); rintro e w25 ⟨rfl, hb⟩; have n0_ := Aside0.mk (Kd.S_below (by (with_reducible repeat (first | apply Kd.S_alloc | apply Kd.S_drewN | apply Kd.S_drew)); exact HO_7.out) hb); have n1_ := Aside0.mk (blk_below (g := gb176) (o := .cells #[.int .i64 a1_0, .string a1_1] 41 (0, 0)) (by (with_reducible repeat (first | refine zN ?_ _ | refine zD ?_ | refine zA ?_ _)); exact BK176.out) hb); have n2_ := Aside0.mk (below_step (by repeat (first | (with_reducible first | exact HB.out | apply zB | apply zP | apply zE | refine zS ?_ GE176.out) | exact HB.out)) hb); clear HO_7; clear BK176; clear HB; have HO_7 := n0_; have BK176 := n1_; have HB := n2_; clear n0_ n1_ n2_; (try clear hb); (try clear hb2); (try clear hk); (try clear hi)))
        repeat (go_quiet (first | (go_at_call 20; (with_reducible refine (entry_Find.calls _ _ t177 a1_1 t184 t185 t186 _ ?side1 ?side2 A21.out).mono ?_); (case side1 => repeat (first | exact (Kd.S_reads' HO_7.out).2.2 | (with_reducible refine Kd.C_alloc ?_ _) | (with_reducible refine Kd.C_drewN ?_ _) | (with_reducible refine Kd.C_drew ?_))); (case side2 => exact (Kd.S_reads' HO_7.out).2.1); rintro e w25 ⟨rfl, hb⟩; have n0_ := Aside0.mk (Kd.S_below (by (with_reducible repeat (first | apply Kd.S_alloc | apply Kd.S_drewN | apply Kd.S_drew)); exact HO_7.out) hb); have n1_ := Aside0.mk (blk_below (g := gb176) (o := .cells #[.int .i64 a1_0, .string a1_1] 41 (0, 0)) (by (with_reducible repeat (first | refine zN ?_ _ | refine zD ?_ | refine zA ?_ _)); exact BK176.out) hb); have n2_ := Aside0.mk (below_step (by repeat (first | (with_reducible first | exact HB.out | apply zB | apply zP | apply zE | refine zS ?_ GE176.out) | exact HB.out)) hb); clear HO_7; clear BK176; clear HB; have HO_7 := n0_; have BK176 := n1_; have HB := n2_; clear n0_ n1_ n2_; (try clear hb); (try clear hb2); (try clear hk); (try clear hi))); go_upto_region 5 with (first | (go_at_call 20; (with_reducible refine (entry_Find.calls _ _ t177 a1_1 t184 t185 t186 _ ?side1 ?side2 A21.out).mono ?_); (case side1 => repeat (first | exact (Kd.S_reads' HO_7.out).2.2 | (with_reducible refine Kd.C_alloc ?_ _) | (with_reducible refine Kd.C_drewN ?_ _) | (with_reducible refine Kd.C_drew ?_))); (case side2 => exact (Kd.S_reads' HO_7.out).2.1); rintro e w25 ⟨rfl, hb⟩; have n0_ := Aside0.mk (Kd.S_below (by (with_reducible repeat (first | apply Kd.S_alloc | apply Kd.S_drewN | apply Kd.S_drew)); exact HO_7.out) hb); have n1_ := Aside0.mk (blk_below (g := gb176) (o := .cells #[.int .i64 a1_0, .string a1_1] 41 (0, 0)) (by (with_reducible repeat (first | refine zN ?_ _ | refine zD ?_ | refine zA ?_ _)); exact BK176.out) hb); have n2_ := Aside0.mk (below_step (by repeat (first | (with_reducible first | exact HB.out | apply zB | apply zP | apply zE | refine zS ?_ GE176.out) | exact HB.out)) hb); clear HO_7; clear BK176; clear HB; have HO_7 := n0_; have BK176 := n1_; have HB := n2_; clear n0_ n1_ n2_; (try clear hb); (try clear hb2); (try clear hk); (try clear hi))))
        (try simp only [Act.put, List.setIfInBounds_toArray, List.set_cons_zero, List.set_cons_succ])
        go_cut [84] (fun v84 wc => ∃ (kq : Nat) (x84_21 : Bool), v84 = .bool x84_21 ∧ Aside0 (drydocklaw10_EntryBack.j1 kq l0 a2 t177 t180 x84_21 a1_0 a1_1 = some r) ∧ Aside0 (kq ≤ kj4) ∧ Aside0 (Kd.S (Kd.slice 41 k41) 22 wc w.heap.size (fun k_ => k_ ≠ gb176) (.slice Ao24 t177.length co24) t177) ∧ Aside0 (wc.heap[gb176]? = some (.cells #[.int .i64 a1_0, .string a1_1] 41 (0, 0))) ∧ Aside0 (Below w.heap.size w wc))
        case first =>
          have H := HC22.out
          clear HC22
          by_cases c26 : t186 = 0
          · rw [if_pos c26] at H
            have c26b0 : (t186 == 0) = true := beq_iff_eq.mpr c26
            have c26b1 : (t186 != 0) = false := bne_eq_false_iff_eq.mpr c26
            clear c26
            (first | rw [c26b0] | (simp only [i64_w, i32_w]; rw [c26b0]) | skip)
            by_cases c27 : t184 = t180
            · rw [if_pos c27] at H
              have c27b0 : (t184 == t180) = true := beq_iff_eq.mpr c27
              have c27b1 : (t184 != t180) = false := bne_eq_false_iff_eq.mpr c27
              clear c27
              by_cases c28 : 0 ≤ t180
              · rw [if_pos c28] at H
                have c28b0 : decide (0 ≤ t180) = true := decide_eq_true c28
                clear c28
                by_cases c29 : t180 < (t177.length : Int)
                · rw [if_pos c29] at H
                  have c29b0 : decide (t180 < (t177.length : Int)) = true := decide_eq_true c29
                  clear c29
                  by_cases c30 : t185 = (wrap64 (((rd_L4 t177 t180).length : Int) - 1))
                  · rw [if_pos c30] at H
                    have c30b0 : (t185 == (wrap64 (((rd_L4 t177 t180).length : Int) - 1))) = true := beq_iff_eq.mpr c30
                    have c30b1 : (t185 != (wrap64 (((rd_L4 t177 t180).length : Int) - 1))) = false := bne_eq_false_iff_eq.mpr c30
                    clear c30
                    by_cases c31 : 0 ≤ t184
                    · rw [if_pos c31] at H
                      have c31b0 : decide (0 ≤ t184) = true := decide_eq_true c31
                      clear c31
                      by_cases c32 : t184 < (t177.length : Int)
                      · rw [if_pos c32] at H
                        have c32b0 : decide (t184 < (t177.length : Int)) = true := decide_eq_true c32
                        clear c32
                        by_cases c33 : 0 ≤ t185
                        · rw [if_pos c33] at H
                          have c33b0 : decide (0 ≤ t185) = true := decide_eq_true c33
                          clear c33
                          by_cases c34 : t185 < ((rd_L4 t177 t184).length : Int)
                          · rw [if_pos c34] at H
                            have c34b0 : decide (t185 < ((rd_L4 t177 t184).length : Int)) = true := decide_eq_true c34
                            clear c34
                            have H' := Aside0.mk H
                            clear H
                            have p187 : 0 ≤ (t180 : Int) := of_decide_eq_true (by first | (with_reducible assumption) | assumption)
                            have q187 : t180 < (t177.length : Int) := of_decide_eq_true (by first | (with_reducible assumption) | assumption)
                            obtain ⟨ad187, A187_0, c187_0, e187, hx187_0, hl187_0, hi187_0⟩ := at_L4 (Kd.S_reads' HO_7.out).2.2 t180 p187 q187
                            cases e187
                            obtain ⟨ce187, hce187, hMe187, hcc187⟩ := Kd.S_get HO_7.out [] t180 p187 (by first | exact q187 | exact of_decide_eq_true (by first | (with_reducible assumption) | assumption) | (have e_ := (Kd.S_reads' HO_7.out).1; omega))
                            obtain ⟨ve187_0, rfl, ge187_0⟩ := hMe187
                            have hv187_0 := hcc187 0 _ rfl
                            rw [Nat.add_zero, show ((Kd.slice 41 k41)).sz = 1 from rfl, Nat.mul_one] at hv187_0
                            replace hv187_0 := Option.some.inj (hv187_0.symm.trans hx187_0)
                            rw [hv187_0] at ge187_0
                            have HL187_0 := Aside0.mk (show Kd.R k41 41 _ _ _ _ (rd_L4 t177 t180) from ge187_0)
                            clear hv187_0 ge187_0
                            clear hcc187 hce187
                            have HR187_0 := Aside0.mk hi187_0
                            have HC187_0 := Aside0.mk hl187_0
                            clear hi187_0 hl187_0
                            replace p187 := eq_true p187
                            replace q187 := eq_true q187
                            have p188 : 0 ≤ (t184 : Int) := of_decide_eq_true (by first | (with_reducible assumption) | assumption)
                            have q188 : t184 < (t177.length : Int) := of_decide_eq_true (by first | (with_reducible assumption) | assumption)
                            obtain ⟨ad188, A188_0, c188_0, e188, hx188_0, hl188_0, hi188_0⟩ := at_L4 (Kd.S_reads' HO_7.out).2.2 t184 p188 q188
                            obtain rfl : ad187 = ad188 := (by injection e188)
                            obtain ⟨ce188, hce188, hMe188, hcc188⟩ := Kd.S_get HO_7.out [] t184 p188 (by first | exact q188 | exact of_decide_eq_true (by first | (with_reducible assumption) | assumption) | (have e_ := (Kd.S_reads' HO_7.out).1; omega))
                            obtain ⟨ve188_0, rfl, ge188_0⟩ := hMe188
                            have hv188_0 := hcc188 0 _ rfl
                            rw [Nat.add_zero, show ((Kd.slice 41 k41)).sz = 1 from rfl, Nat.mul_one] at hv188_0
                            replace hv188_0 := Option.some.inj (hv188_0.symm.trans hx188_0)
                            rw [hv188_0] at ge188_0
                            have HL188_0 := Aside0.mk (show Kd.R k41 41 _ _ _ _ (rd_L4 t177 t184) from ge188_0)
                            clear hv188_0 ge188_0
                            clear hcc188 hce188
                            have HR188_0 := Aside0.mk hi188_0
                            have HC188_0 := Aside0.mk hl188_0
                            clear hi188_0 hl188_0
                            replace p188 := eq_true p188
                            replace q188 := eq_true q188
                            have p189 : 0 ≤ (t185 : Int) := of_decide_eq_true (by first | (with_reducible assumption) | assumption)
                            have q189 : t185 < ((rd_L4 t177 t184).length : Int) := of_decide_eq_true (by first | (with_reducible assumption) | assumption)
                            obtain ⟨ad189, e189, hx189_0, hx189_1⟩ := at_T41 (by repeat (first | (with_reducible exact HR188_0.out) | (with_reducible refine Kd.C_alloc ?_ _) | (with_reducible refine Kd.C_drewN ?_ _) | (with_reducible refine Kd.C_drew ?_) | exact HR188_0.out)) t185 p189 q189
                            cases e189
                            replace p189 := eq_true p189
                            replace q189 := eq_true q189
                            have hcz35_0 : w25.cell? ⟨gb176, 0, none⟩ = some (.int .i64 a1_0) := (blk_cell BK176.out 0).trans rfl
                            have hcz35_1 : w25.cell? ⟨gb176, 1, none⟩ = some (.string a1_1) := (blk_cell BK176.out 1).trans rfl
                            have hfz35_0 := blk_frozen BK176.out 0
                            have hfz35_1 := blk_frozen BK176.out 1
                            go_wp2
                            repeat (go_quiet (fail); try go_wp2)
                            go_meet
                            case rel => exact ⟨_, ((!(((rd_T41 (rd_L4 t177 t184) t185).f0) == a1_0) || (!((((rd_T41 (rd_L4 t177 t184) t185).f1).toList) == a1_1.toList)))), (by first | rfl | (simp; done) | (simp [*]; done)), H', ⟨by have := HJ4.out; first | omega | exact Nat.le_refl _⟩, ⟨by (with_reducible repeat (first | apply Kd.S_alloc | apply Kd.S_drewN | apply Kd.S_drew)); exact HO_7.out⟩, ⟨by (with_reducible repeat (first | refine zN ?_ _ | refine zD ?_ | refine zA ?_ _)); exact BK176.out⟩, ⟨by repeat (first | (with_reducible first | exact HB.out | apply zB | apply zP | apply zE | refine zS ?_ GE176.out) | exact HB.out)⟩⟩
                          · rw [if_neg c34] at H
                            exact absurd H (by simp)
                        · rw [if_neg c33] at H
                          exact absurd H (by simp)
                      · rw [if_neg c32] at H
                        exact absurd H (by simp)
                    · rw [if_neg c31] at H
                      exact absurd H (by simp)
                  · rw [if_neg c30] at H
                    have c30b0 : (t185 == (wrap64 (((rd_L4 t177 t180).length : Int) - 1))) = false := beq_eq_false_iff_ne.mpr c30
                    have c30b1 : (t185 != (wrap64 (((rd_L4 t177 t180).length : Int) - 1))) = true := bne_iff_ne.mpr c30
                    have H' := Aside0.mk H
                    clear H
                    have p187 : 0 ≤ (t180 : Int) := of_decide_eq_true (by first | (with_reducible assumption) | assumption)
                    have q187 : t180 < (t177.length : Int) := of_decide_eq_true (by first | (with_reducible assumption) | assumption)
                    obtain ⟨ad187, A187_0, c187_0, e187, hx187_0, hl187_0, hi187_0⟩ := at_L4 (Kd.S_reads' HO_7.out).2.2 t180 p187 q187
                    cases e187
                    obtain ⟨ce187, hce187, hMe187, hcc187⟩ := Kd.S_get HO_7.out [] t180 p187 (by first | exact q187 | exact of_decide_eq_true (by first | (with_reducible assumption) | assumption) | (have e_ := (Kd.S_reads' HO_7.out).1; omega))
                    obtain ⟨ve187_0, rfl, ge187_0⟩ := hMe187
                    have hv187_0 := hcc187 0 _ rfl
                    rw [Nat.add_zero, show ((Kd.slice 41 k41)).sz = 1 from rfl, Nat.mul_one] at hv187_0
                    replace hv187_0 := Option.some.inj (hv187_0.symm.trans hx187_0)
                    rw [hv187_0] at ge187_0
                    have HL187_0 := Aside0.mk (show Kd.R k41 41 _ _ _ _ (rd_L4 t177 t180) from ge187_0)
                    clear hv187_0 ge187_0
                    clear hcc187 hce187
                    have HR187_0 := Aside0.mk hi187_0
                    have HC187_0 := Aside0.mk hl187_0
                    clear hi187_0 hl187_0
                    replace p187 := eq_true p187
                    replace q187 := eq_true q187
                    go_wp2
                    repeat (go_quiet (fail); try go_wp2)
                    go_meet
                    case rel => exact ⟨_, (true), (by first | rfl | (simp; done) | (simp [*]; done)), H', ⟨by have := HJ4.out; first | omega | exact Nat.le_refl _⟩, ⟨by (with_reducible repeat (first | apply Kd.S_alloc | apply Kd.S_drewN | apply Kd.S_drew)); exact HO_7.out⟩, ⟨by (with_reducible repeat (first | refine zN ?_ _ | refine zD ?_ | refine zA ?_ _)); exact BK176.out⟩, ⟨by repeat (first | (with_reducible first | exact HB.out | apply zB | apply zP | apply zE | refine zS ?_ GE176.out) | exact HB.out)⟩⟩
                · rw [if_neg c29] at H
                  exact absurd H (by simp)
              · rw [if_neg c28] at H
                exact absurd H (by simp)
            · rw [if_neg c27] at H
              have c27b0 : (t184 == t180) = false := beq_eq_false_iff_ne.mpr c27
              have c27b1 : (t184 != t180) = true := bne_iff_ne.mpr c27
              have H' := Aside0.mk H
              clear H
              go_wp2
              repeat (go_quiet (fail); try go_wp2)
              go_meet
              case rel => exact ⟨_, (true), (by first | rfl | (simp; done) | (simp [*]; done)), H', ⟨by have := HJ4.out; first | omega | exact Nat.le_refl _⟩, ⟨by (with_reducible repeat (first | apply Kd.S_alloc | apply Kd.S_drewN | apply Kd.S_drew)); exact HO_7.out⟩, ⟨by (with_reducible repeat (first | refine zN ?_ _ | refine zD ?_ | refine zA ?_ _)); exact BK176.out⟩, ⟨by repeat (first | (with_reducible first | exact HB.out | apply zB | apply zP | apply zE | refine zS ?_ GE176.out) | exact HB.out)⟩⟩
          · rw [if_neg c26] at H
            have c26b0 : (t186 == 0) = false := beq_eq_false_iff_ne.mpr c26
            have c26b1 : (t186 != 0) = true := bne_iff_ne.mpr c26
            (first | rw [c26b0] | (simp only [i64_w, i32_w]; rw [c26b0]) | skip)
            have H' := Aside0.mk H
            clear H
            go_wp2
            repeat (go_quiet (fail); try go_wp2)
            go_meet
            case rel => exact ⟨_, (true), (by first | rfl | (simp; done) | (simp [*]; done)), H', ⟨by have := HJ4.out; first | omega | exact Nat.le_refl _⟩, ⟨by (with_reducible repeat (first | apply Kd.S_alloc | apply Kd.S_drewN | apply Kd.S_drew)); exact HO_7.out⟩, ⟨by (with_reducible repeat (first | refine zN ?_ _ | refine zD ?_ | refine zA ?_ _)); exact BK176.out⟩, ⟨by repeat (first | (with_reducible first | exact HB.out | apply zB | apply zP | apply zE | refine zS ?_ GE176.out) | exact HB.out)⟩⟩
        case rest =>
          clear HC22
          try clear c1
          try clear p1
          try clear q1
          try clear hx1
          try clear c2
          try clear p2
          try clear c3
          try clear p6
          try clear c10
          try clear c11
          try clear c11b0
          try clear c11b1
          try clear c12
          try clear c12b0
          try clear c18
          try clear p18
          try clear q18
          try clear hx18
          try clear c26
          try clear c26b0
          try clear c26b1
          try clear c27
          try clear c27b0
          try clear c27b1
          try clear c28
          try clear c28b0
          try clear c29
          try clear c29b0
          try clear c30
          try clear c30b0
          try clear c30b1
          try clear c31
          try clear c31b0
          try clear c32
          try clear c32b0
          try clear c33
          try clear c33b0
          try clear c34
          try clear c34b0
          try clear hcz23_0
          try clear hcz23_1
          try clear hcz35_0
          try clear hcz35_1
          try clear hcz7_0
          try clear hcz7_1
          try clear hfz23_0
          try clear hfz23_1
          try clear hfz35_0
          try clear hfz35_1
          try clear hfz7_0
          try clear hfz7_1
          try clear hx187_0
          try clear hx188_0
          try clear hx189_0
          try clear hx189_1
          try clear p187
          try clear p188
          try clear p189
          try clear p2
          try clear q187
          try clear q188
          try clear q189
          obtain ⟨kq, x84_21, rfl, HA, HJ21, HO_7, BK176, HB⟩ := hcut
          cases kq with
          | zero => exact absurd HA.out (by simp [drydocklaw10_EntryBack.j1])
          | succ kj21 =>
            have H := HA.out
            clear HA
            simp only [drydocklaw10_EntryBack.j1] at H
            by_cases c36 : x84_21 = true
            · subst c36
              have H1 : (some false) = some r := by rw [if_pos rfl] at H; exact H
              clear H
              have H := H1
              clear H1
              obtain rfl := Option.some.inj H
              go_wp2
              repeat (go_quiet (fail); try go_wp2)
              go_ret
              exact ⟨by first | rfl | (simp [errW_none, errW_some] <;> rfl) | (simp [*, errW_none, errW_some] <;> rfl), by repeat (first | (with_reducible first | exact HB.out | apply zB | apply zP | apply zE | refine zS ?_ GE176.out) | exact HB.out)⟩
            · replace c36 := Bool.eq_false_iff.mpr c36
              subst c36
              have H1 : ((entry_Remove.f kj21 t177 a1_1).bind fun bt190 => (if bt190.2.2 = 0 then (drydocklaw10_EntryBack.j2 kj21 l0 a2 bt190.1 (bt190.2.1 != t180) a1_0 a1_1) else (drydocklaw10_EntryBack.j2 kj21 l0 a2 bt190.1 true a1_0 a1_1))) = some r := by rw [if_neg (show ¬ (false = true) by decide)] at H; exact H
              clear H
              have H := H1
              clear H1
              replace H := Option.bind_eq_some_iff.mp H
              obtain ⟨⟨t190, t191, t192⟩, A370, H⟩ := H
              replace H : (if t192 = 0 then (drydocklaw10_EntryBack.j2 kj21 l0 a2 t190 (t191 != t180) a1_0 a1_1) else (drydocklaw10_EntryBack.j2 kj21 l0 a2 t190 true a1_0 a1_1)) = some r := H
              have A37 := Aside0.mk A370
              clear A370
              have HC38 := Aside0.mk H
              clear H
              have hcz39_0 : wc.cell? ⟨gb176, 0, none⟩ = some (.int .i64 a1_0) := (blk_cell BK176.out 0).trans rfl
              have hcz39_1 : wc.cell? ⟨gb176, 1, none⟩ = some (.string a1_1) := (blk_cell BK176.out 1).trans rfl
              have hfz39_0 := blk_frozen BK176.out 0
              have hfz39_1 := blk_frozen BK176.out 1
              go_upto_region 8 with (first | (go_at_call 24; (with_reducible refine (entry_Remove.calls kj21 _ _ t177 a1_1 t190 t191 t192 _ ?side1 ?side2 A37.out).mono ?_); (case side1 => repeat (first | exact (Kd.S_reads' HO_7.out).2.2 | (with_reducible refine Kd.C_alloc ?_ _) | (with_reducible refine Kd.C_drewN ?_ _) | (with_reducible refine Kd.C_drew ?_))); (case side2 => exact (Kd.S_reads' HO_7.out).2.1); rintro e w40 ⟨v193, rfl, ho0, hb⟩; have n0_ := Aside0.mk (Kd.S_elder' (by (with_reducible repeat (first | apply Kd.S_alloc | apply Kd.S_drewN | apply Kd.S_drew)); exact HO_7.out) (Kd.S_base ho0) hb); have n1_ := Aside0.mk (Kd.S_lower (Kd.S_newB (Kd.S_new' ho0 (Kd.S_lt (by (with_reducible repeat (first | apply Kd.S_alloc | apply Kd.S_drewN | apply Kd.S_drew)); exact HO_7.out))) (g := gb176) (o := .cells #[.int .i64 a1_0, .string a1_1] 41 (0, 0)) (by (with_reducible repeat (first | refine zN ?_ _ | refine zD ?_ | refine zA ?_ _)); exact BK176.out)) (below_size (by repeat (first | (with_reducible first | exact HB.out | apply zB | apply zP | apply zE | refine zS ?_ GE176.out) | exact HB.out)))); have n2_ := Aside0.mk (blk_below (g := gb176) (o := .cells #[.int .i64 a1_0, .string a1_1] 41 (0, 0)) (by (with_reducible repeat (first | refine zN ?_ _ | refine zD ?_ | refine zA ?_ _)); exact BK176.out) hb); have n3_ := Aside0.mk (below_step (by repeat (first | (with_reducible first | exact HB.out | apply zB | apply zP | apply zE | refine zS ?_ GE176.out) | exact HB.out)) hb); clear HO_7; clear BK176; clear HB; have HO_7 := n0_; have HO194 := n1_; have BK176 := n2_; have HB := n3_; clear n0_ n1_ n2_ n3_; (try clear hb); (try clear hb2); (try clear hk); (try clear hi); (try clear ho0)))
              repeat (go_quiet (first | (go_at_call 24; (with_reducible refine (entry_Remove.calls kj21 _ _ t177 a1_1 t190 t191 t192 _ ?side1 ?side2 A37.out).mono ?_); (case side1 => repeat (first | exact (Kd.S_reads' HO_7.out).2.2 | (with_reducible refine Kd.C_alloc ?_ _) | (with_reducible refine Kd.C_drewN ?_ _) | (with_reducible refine Kd.C_drew ?_))); (case side2 => exact (Kd.S_reads' HO_7.out).2.1); rintro e w40 ⟨v193, rfl, ho0, hb⟩; have n0_ := Aside0.mk (Kd.S_elder' (by (with_reducible repeat (first | apply Kd.S_alloc | apply Kd.S_drewN | apply Kd.S_drew)); exact HO_7.out) (Kd.S_base ho0) hb); have n1_ := Aside0.mk (Kd.S_lower (Kd.S_newB (Kd.S_new' ho0 (Kd.S_lt (by (with_reducible repeat (first | apply Kd.S_alloc | apply Kd.S_drewN | apply Kd.S_drew)); exact HO_7.out))) (g := gb176) (o := .cells #[.int .i64 a1_0, .string a1_1] 41 (0, 0)) (by (with_reducible repeat (first | refine zN ?_ _ | refine zD ?_ | refine zA ?_ _)); exact BK176.out)) (below_size (by repeat (first | (with_reducible first | exact HB.out | apply zB | apply zP | apply zE | refine zS ?_ GE176.out) | exact HB.out)))); have n2_ := Aside0.mk (blk_below (g := gb176) (o := .cells #[.int .i64 a1_0, .string a1_1] 41 (0, 0)) (by (with_reducible repeat (first | refine zN ?_ _ | refine zD ?_ | refine zA ?_ _)); exact BK176.out) hb); have n3_ := Aside0.mk (below_step (by repeat (first | (with_reducible first | exact HB.out | apply zB | apply zP | apply zE | refine zS ?_ GE176.out) | exact HB.out)) hb); clear HO_7; clear BK176; clear HB; have HO_7 := n0_; have HO194 := n1_; have BK176 := n2_; have HB := n3_; clear n0_ n1_ n2_ n3_; (try clear hb); (try clear hb2); (try clear hk); (try clear hi); (try clear ho0))); go_upto_region 8 with (first | (go_at_call 24; (with_reducible refine (entry_Remove.calls kj21 _ _ t177 a1_1 t190 t191 t192 _ ?side1 ?side2 A37.out).mono ?_); (case side1 => repeat (first | exact (Kd.S_reads' HO_7.out).2.2 | (with_reducible refine Kd.C_alloc ?_ _) | (with_reducible refine Kd.C_drewN ?_ _) | (with_reducible refine Kd.C_drew ?_))); (case side2 => exact (Kd.S_reads' HO_7.out).2.1); rintro e w40 ⟨v193, rfl, ho0, hb⟩; have n0_ := Aside0.mk (Kd.S_elder' (by (with_reducible repeat (first | apply Kd.S_alloc | apply Kd.S_drewN | apply Kd.S_drew)); exact HO_7.out) (Kd.S_base ho0) hb); have n1_ := Aside0.mk (Kd.S_lower (Kd.S_newB (Kd.S_new' ho0 (Kd.S_lt (by (with_reducible repeat (first | apply Kd.S_alloc | apply Kd.S_drewN | apply Kd.S_drew)); exact HO_7.out))) (g := gb176) (o := .cells #[.int .i64 a1_0, .string a1_1] 41 (0, 0)) (by (with_reducible repeat (first | refine zN ?_ _ | refine zD ?_ | refine zA ?_ _)); exact BK176.out)) (below_size (by repeat (first | (with_reducible first | exact HB.out | apply zB | apply zP | apply zE | refine zS ?_ GE176.out) | exact HB.out)))); have n2_ := Aside0.mk (blk_below (g := gb176) (o := .cells #[.int .i64 a1_0, .string a1_1] 41 (0, 0)) (by (with_reducible repeat (first | refine zN ?_ _ | refine zD ?_ | refine zA ?_ _)); exact BK176.out) hb); have n3_ := Aside0.mk (below_step (by repeat (first | (with_reducible first | exact HB.out | apply zB | apply zP | apply zE | refine zS ?_ GE176.out) | exact HB.out)) hb); clear HO_7; clear BK176; clear HB; have HO_7 := n0_; have HO194 := n1_; have BK176 := n2_; have HB := n3_; clear n0_ n1_ n2_ n3_; (try clear hb); (try clear hb2); (try clear hk); (try clear hi); (try clear ho0))))
              (try simp only [Act.put, List.setIfInBounds_toArray, List.set_cons_zero, List.set_cons_succ])
              go_cut [99] (fun v99 wc => ∃ (kq : Nat) (x99_37 : Bool), v99 = .bool x99_37 ∧ Aside0 (drydocklaw10_EntryBack.j2 kq l0 a2 t190 x99_37 a1_0 a1_1 = some r) ∧ Aside0 (kq ≤ kj21) ∧ Aside0 (Kd.S (Kd.slice 41 k41) 22 wc w.heap.size (fun k_ => k_ ≠ gb176) v193 t190) ∧ Aside0 (wc.heap[gb176]? = some (.cells #[.int .i64 a1_0, .string a1_1] 41 (0, 0))) ∧ Aside0 (Below w.heap.size w wc))
              case first =>
                have H := HC38.out
                clear HC38
                by_cases c41 : t192 = 0
                · rw [if_pos c41] at H
                  have c41b0 : (t192 == 0) = true := beq_iff_eq.mpr c41
                  have c41b1 : (t192 != 0) = false := bne_eq_false_iff_eq.mpr c41
                  clear c41
                  (first | rw [c41b0] | (simp only [i64_w, i32_w]; rw [c41b0]) | skip)
                  have H' := Aside0.mk H
                  clear H
                  go_wp2
                  repeat (go_quiet (fail); try go_wp2)
                  go_meet
                  case rel => exact ⟨_, ((t191 != t180)), (by first | rfl | (simp; done) | (simp [*]; done)), H', ⟨by have := HJ4.out; have := HJ21.out; first | omega | exact Nat.le_refl _⟩, ⟨by (with_reducible repeat (first | apply Kd.S_alloc | apply Kd.S_drewN | apply Kd.S_drew)); exact Kd.S_mono HO194.out (fun _ hk => hk.2)⟩, ⟨by (with_reducible repeat (first | refine zN ?_ _ | refine zD ?_ | refine zA ?_ _)); exact BK176.out⟩, ⟨by repeat (first | (with_reducible first | exact HB.out | apply zB | apply zP | apply zE | refine zS ?_ GE176.out) | exact HB.out)⟩⟩
                · rw [if_neg c41] at H
                  have c41b0 : (t192 == 0) = false := beq_eq_false_iff_ne.mpr c41
                  have c41b1 : (t192 != 0) = true := bne_iff_ne.mpr c41
                  (first | rw [c41b0] | (simp only [i64_w, i32_w]; rw [c41b0]) | skip)
                  have H' := Aside0.mk H
                  clear H
                  go_wp2
                  repeat (go_quiet (fail); try go_wp2)
                  go_meet
                  case rel => exact ⟨_, (true), (by first | rfl | (simp; done) | (simp [*]; done)), H', ⟨by have := HJ4.out; have := HJ21.out; first | omega | exact Nat.le_refl _⟩, ⟨by (with_reducible repeat (first | apply Kd.S_alloc | apply Kd.S_drewN | apply Kd.S_drew)); exact Kd.S_mono HO194.out (fun _ hk => hk.2)⟩, ⟨by (with_reducible repeat (first | refine zN ?_ _ | refine zD ?_ | refine zA ?_ _)); exact BK176.out⟩, ⟨by repeat (first | (with_reducible first | exact HB.out | apply zB | apply zP | apply zE | refine zS ?_ GE176.out) | exact HB.out)⟩⟩
              case rest =>
                clear HC38
                try clear c1
                try clear p1
                try clear q1
                try clear hx1
                try clear c2
                try clear p2
                try clear c3
                try clear c4
                try clear p6
                try clear c10
                try clear c11
                try clear c11b0
                try clear c11b1
                try clear c12
                try clear c12b0
                try clear c18
                try clear p18
                try clear q18
                try clear hx18
                try clear c26
                try clear c26b0
                try clear c26b1
                try clear c27
                try clear c27b0
                try clear c27b1
                try clear c28
                try clear c28b0
                try clear c29
                try clear c29b0
                try clear c30
                try clear c30b0
                try clear c30b1
                try clear c31
                try clear c31b0
                try clear c32
                try clear c32b0
                try clear c33
                try clear c33b0
                try clear c34
                try clear c34b0
                try clear c36
                try clear c41
                try clear c41b0
                try clear c41b1
                try clear hcz23_0
                try clear hcz23_1
                try clear hcz35_0
                try clear hcz35_1
                try clear hcz39_0
                try clear hcz39_1
                try clear hcz7_0
                try clear hcz7_1
                try clear hfz23_0
                try clear hfz23_1
                try clear hfz35_0
                try clear hfz35_1
                try clear hfz39_0
                try clear hfz39_1
                try clear hfz7_0
                try clear hfz7_1
                try clear hx187_0
                try clear hx188_0
                try clear hx189_0
                try clear hx189_1
                try clear p1
                try clear p18
                try clear p187
                try clear p188
                try clear p189
                try clear p2
                try clear p6
                try clear q1
                try clear q18
                try clear q187
                try clear q188
                try clear q189
                obtain ⟨kq, x99_37, rfl, HA, HJ37, HO_13, BK176, HB⟩ := hcut
                cases kq with
                | zero => exact absurd HA.out (by simp [drydocklaw10_EntryBack.j2])
                | succ kj37 =>
                  have H := HA.out
                  clear HA
                  simp only [drydocklaw10_EntryBack.j2] at H
                  by_cases c42 : x99_37 = true
                  · subst c42
                    have H1 : (some false) = some r := by rw [if_pos rfl] at H; exact H
                    clear H
                    have H := H1
                    clear H1
                    obtain rfl := Option.some.inj H
                    go_wp2
                    repeat (go_quiet (fail); try go_wp2)
                    go_ret
                    exact ⟨by first | rfl | (simp [errW_none, errW_some] <;> rfl) | (simp [*, errW_none, errW_some] <;> rfl), by repeat (first | (with_reducible first | exact HB.out | apply zB | apply zP | apply zE | refine zS ?_ GE176.out) | exact HB.out)⟩
                  · replace c42 := Bool.eq_false_iff.mpr c42
                    subst c42
                    have H1 : ((entry_Find.f t190 a1_1).bind fun bt195 => ((entry_Find.f l0 a2).bind fun bt198 => ((entry_Find.f t190 a2).bind fun bt201 => (if bt195.2.2 = 4 then (if bt198.2.2 = bt201.2.2 then (some true) else (some (a2.toList == a1_1.toList))) else (some false))))) = some r := by rw [if_neg (show ¬ (false = true) by decide)] at H; exact H
                    clear H
                    have H := H1
                    clear H1
                    replace H := Option.bind_eq_some_iff.mp H
                    obtain ⟨⟨t195, t196, t197⟩, A430, H⟩ := H
                    replace H : ((entry_Find.f l0 a2).bind fun bt198 => ((entry_Find.f t190 a2).bind fun bt201 => (if t197 = 4 then (if bt198.2.2 = bt201.2.2 then (some true) else (some (a2.toList == a1_1.toList))) else (some false)))) = some r := H
                    have A43 := Aside0.mk A430
                    clear A430
                    replace H := Option.bind_eq_some_iff.mp H
                    obtain ⟨⟨t198, t199, t200⟩, A440, H⟩ := H
                    replace H : ((entry_Find.f t190 a2).bind fun bt201 => (if t197 = 4 then (if t200 = bt201.2.2 then (some true) else (some (a2.toList == a1_1.toList))) else (some false))) = some r := H
                    have A44 := Aside0.mk A440
                    clear A440
                    replace H := Option.bind_eq_some_iff.mp H
                    obtain ⟨⟨t201, t202, t203⟩, A450, H⟩ := H
                    replace H : (if t197 = 4 then (if t200 = t203 then (some true) else (some (a2.toList == a1_1.toList))) else (some false)) = some r := H
                    have A45 := Aside0.mk A450
                    clear A450
                    by_cases c46 : t197 = 4
                    · rw [if_pos c46] at H
                      have c46b0 : (t197 == 4) = true := beq_iff_eq.mpr c46
                      have c46b1 : (t197 != 4) = false := bne_eq_false_iff_eq.mpr c46
                      clear c46
                      by_cases c47 : t200 = t203
                      · rw [if_pos c47] at H
                        have c47b0 : (t200 == t203) = true := beq_iff_eq.mpr c47
                        have c47b1 : (t200 != t203) = false := bne_eq_false_iff_eq.mpr c47
                        clear c47
                        obtain rfl := Option.some.inj H
                        have hcz48_0 : wc.cell? ⟨gb176, 0, none⟩ = some (.int .i64 a1_0) := (blk_cell BK176.out 0).trans rfl
                        have hcz48_1 : wc.cell? ⟨gb176, 1, none⟩ = some (.string a1_1) := (blk_cell BK176.out 1).trans rfl
                        have hfz48_0 := blk_frozen BK176.out 0
                        have hfz48_1 := blk_frozen BK176.out 1
                        obtain ⟨Ao49, co49, eo49⟩ := Kd.S_slice HO_13.out
                        subst eo49
                        go_wp2_with (first | (go_at_call 20; (with_reducible refine (entry_Find.calls _ _ t190 a1_1 t195 t196 t197 _ ?side1 ?side2 A43.out).mono ?_); (case side1 => repeat (first | exact (Kd.S_reads' HO_13.out).2.2 | (with_reducible refine Kd.C_alloc ?_ _) | (with_reducible refine Kd.C_drewN ?_ _) | (with_reducible refine Kd.C_drew ?_))); (case side2 => exact (Kd.S_reads' HO_13.out).2.1); rintro e w50 ⟨rfl, hb⟩; have n0_ := Aside0.mk (Kd.S_below (by (with_reducible repeat (first | apply Kd.S_alloc | apply Kd.S_drewN | apply Kd.S_drew)); exact HO_13.out) hb); have n1_ := Aside0.mk (blk_below (g := gb176) (o := .cells #[.int .i64 a1_0, .string a1_1] 41 (0, 0)) (by (with_reducible repeat (first | refine zN ?_ _ | refine zD ?_ | refine zA ?_ _)); exact BK176.out) hb); have n2_ := Aside0.mk (below_step (by repeat (first | (with_reducible first | exact HB.out | apply zB | apply zP | apply zE | refine zS ?_ GE176.out) | exact HB.out)) hb); clear HO_13; clear BK176; clear HB; have HO_13 := n0_; have BK176 := n1_; have HB := n2_; clear n0_ n1_ n2_; (try clear hb); (try clear hb2); (try clear hk); (try clear hi)) | (go_at_call 20; (with_reducible refine (entry_Find.calls _ _ l0 a2 t198 t199 t200 _ ?side1 ?side2 A44.out).mono ?_); (case side1 => repeat (first | exact (Kd.C_below HR0.out HB.out) | (with_reducible refine Kd.C_alloc ?_ _) | (with_reducible refine Kd.C_drewN ?_ _) | (with_reducible refine Kd.C_drew ?_))); (case side2 => exact HC0.out); rintro e w51 ⟨rfl, hb⟩; have n0_ := Aside0.mk (Kd.S_below (by (with_reducible repeat (first | apply Kd.S_alloc | apply Kd.S_drewN | apply Kd.S_drew)); exact HO_13.out) hb); have n1_ := Aside0.mk (blk_below (g := gb176) (o := .cells #[.int .i64 a1_0, .string a1_1] 41 (0, 0)) (by (with_reducible repeat (first | refine zN ?_ _ | refine zD ?_ | refine zA ?_ _)); exact BK176.out) hb); have n2_ := Aside0.mk (below_step (by repeat (first | (with_reducible first | exact HB.out | apply zB | apply zP | apply zE | refine zS ?_ GE176.out) | exact HB.out)) hb); clear HO_13; clear BK176; clear HB; have HO_13 := n0_; have BK176 := n1_; have HB := n2_; clear n0_ n1_ n2_; (try clear hb); (try clear hb2); (try clear hk); (try clear hi)) | (go_at_call 20; (with_reducible refine (entry_Find.calls _ _ t190 a2 t201 t202 t203 _ ?side1 ?side2 A45.out).mono ?_); (case side1 => repeat (first | exact (Kd.S_reads' HO_13.out).2.2 | (with_reducible refine Kd.C_alloc ?_ _) | (with_reducible refine Kd.C_drewN ?_ _) | (with_reducible refine Kd.C_drew ?_))); (case side2 => exact (Kd.S_reads' HO_13.out).2.1); rintro e w52 ⟨rfl, hb⟩; have n0_ := Aside0.mk (Kd.S_below (by (with_reducible repeat (first | apply Kd.S_alloc | apply Kd.S_drewN | apply Kd.S_drew)); exact HO_13.out) hb); have n1_ := Aside0.mk (blk_below (g := gb176) (o := .cells #[.int .i64 a1_0, .string a1_1] 41 (0, 0)) (by (with_reducible repeat (first | refine zN ?_ _ | refine zD ?_ | refine zA ?_ _)); exact BK176.out) hb); have n2_ := Aside0.mk (below_step (by repeat (first | (with_reducible first | exact HB.out | apply zB | apply zP | apply zE | refine zS ?_ GE176.out) | exact HB.out)) hb); clear HO_13; clear BK176; clear HB; have HO_13 := n0_; have BK176 := n1_; have HB := n2_; clear n0_ n1_ n2_; (try clear hb); (try clear hb2); (try clear hk); (try clear hi)))
                        repeat (go_quiet (first | (go_at_call 20; (with_reducible refine (entry_Find.calls _ _ t190 a1_1 t195 t196 t197 _ ?side1 ?side2 A43.out).mono ?_); (case side1 => repeat (first | exact (Kd.S_reads' HO_13.out).2.2 | (with_reducible refine Kd.C_alloc ?_ _) | (with_reducible refine Kd.C_drewN ?_ _) | (with_reducible refine Kd.C_drew ?_))); (case side2 => exact (Kd.S_reads' HO_13.out).2.1); rintro e w50 ⟨rfl, hb⟩; have n0_ := Aside0.mk (Kd.S_below (by (with_reducible repeat (first | apply Kd.S_alloc | apply Kd.S_drewN | apply Kd.S_drew)); exact HO_13.out) hb); have n1_ := Aside0.mk (blk_below (g := gb176) (o := .cells #[.int .i64 a1_0, .string a1_1] 41 (0, 0)) (by (with_reducible repeat (first | refine zN ?_ _ | refine zD ?_ | refine zA ?_ _)); exact BK176.out) hb); have n2_ := Aside0.mk (below_step (by repeat (first | (with_reducible first | exact HB.out | apply zB | apply zP | apply zE | refine zS ?_ GE176.out) | exact HB.out)) hb); clear HO_13; clear BK176; clear HB; have HO_13 := n0_; have BK176 := n1_; have HB := n2_; clear n0_ n1_ n2_; (try clear hb); (try clear hb2); (try clear hk); (try clear hi)) | (go_at_call 20; (with_reducible refine (entry_Find.calls _ _ l0 a2 t198 t199 t200 _ ?side1 ?side2 A44.out).mono ?_); (case side1 => repeat (first | exact (Kd.C_below HR0.out HB.out) | (with_reducible refine Kd.C_alloc ?_ _) | (with_reducible refine Kd.C_drewN ?_ _) | (with_reducible refine Kd.C_drew ?_))); (case side2 => exact HC0.out); rintro e w51 ⟨rfl, hb⟩; have n0_ := Aside0.mk (Kd.S_below (by (with_reducible repeat (first | apply Kd.S_alloc | apply Kd.S_drewN | apply Kd.S_drew)); exact HO_13.out) hb); have n1_ := Aside0.mk (blk_below (g := gb176) (o := .cells #[.int .i64 a1_0, .string a1_1] 41 (0, 0)) (by (with_reducible repeat (first | refine zN ?_ _ | refine zD ?_ | refine zA ?_ _)); exact BK176.out) hb); have n2_ := Aside0.mk (below_step (by repeat (first | (with_reducible first | exact HB.out | apply zB | apply zP | apply zE | refine zS ?_ GE176.out) | exact HB.out)) hb); clear HO_13; clear BK176; clear HB; have HO_13 := n0_; have BK176 := n1_; have HB := n2_; clear n0_ n1_ n2_; (try clear hb); (try clear hb2); (try clear hk); (try clear hi)) | (go_at_call 20; (with_reducible refine (entry_Find.calls _ _ t190 a2 t201 t202 t203 _ ?side1 ?side2 A45.out).mono ?_); (case side1 => repeat (first | exact (Kd.S_reads' HO_13.out).2.2 | (with_reducible refine Kd.C_alloc ?_ _) | (with_reducible refine Kd.C_drewN ?_ _) | (with_reducible refine Kd.C_drew ?_))); (case side2 => exact (Kd.S_reads' HO_13.out).2.1); rintro e w52 ⟨rfl, hb⟩; have n0_ := Aside0.mk (Kd.S_below (by (with_reducible repeat (first | apply Kd.S_alloc | apply Kd.S_drewN | apply Kd.S_drew)); exact HO_13.out) hb); have n1_ := Aside0.mk (blk_below (g := gb176) (o := .cells #[.int .i64 a1_0, .string a1_1] 41 (0, 0)) (by (with_reducible repeat (first | refine zN ?_ _ | refine zD ?_ | refine zA ?_ _)); exact BK176.out) hb); have n2_ := Aside0.mk (below_step (by repeat (first | (with_reducible first | exact HB.out | apply zB | apply zP | apply zE | refine zS ?_ GE176.out) | exact HB.out)) hb); clear HO_13; clear BK176; clear HB; have HO_13 := n0_; have BK176 := n1_; have HB := n2_; clear n0_ n1_ n2_; (try clear hb); (try clear hb2); (try clear hk); (try clear hi))); try go_wp2_with (first | (go_at_call 20; (with_reducible refine (entry_Find.calls _ _ t190 a1_1 t195 t196 t197 _ ?side1 ?side2 A43.out).mono ?_); (case side1 => repeat (first | exact (Kd.S_reads' HO_13.out).2.2 | (with_reducible refine Kd.C_alloc ?_ _) | (with_reducible refine Kd.C_drewN ?_ _) | (with_reducible refine Kd.C_drew ?_))); (case side2 => exact (Kd.S_reads' HO_13.out).2.1); rintro e w50 ⟨rfl, hb⟩; have n0_ := Aside0.mk (Kd.S_below (by (with_reducible repeat (first | apply Kd.S_alloc | apply Kd.S_drewN | apply Kd.S_drew)); exact HO_13.out) hb); have n1_ := Aside0.mk (blk_below (g := gb176) (o := .cells #[.int .i64 a1_0, .string a1_1] 41 (0, 0)) (by (with_reducible repeat (first | refine zN ?_ _ | refine zD ?_ | refine zA ?_ _)); exact BK176.out) hb); have n2_ := Aside0.mk (below_step (by repeat (first | (with_reducible first | exact HB.out | apply zB | apply zP | apply zE | refine zS ?_ GE176.out) | exact HB.out)) hb); clear HO_13; clear BK176; clear HB; have HO_13 := n0_; have BK176 := n1_; have HB := n2_; clear n0_ n1_ n2_; (try clear hb); (try clear hb2); (try clear hk); (try clear hi)) | (go_at_call 20; (with_reducible refine (entry_Find.calls _ _ l0 a2 t198 t199 t200 _ ?side1 ?side2 A44.out).mono ?_); (case side1 => repeat (first | exact (Kd.C_below HR0.out HB.out) | (with_reducible refine Kd.C_alloc ?_ _) | (with_reducible refine Kd.C_drewN ?_ _) | (with_reducible refine Kd.C_drew ?_))); (case side2 => exact HC0.out); rintro e w51 ⟨rfl, hb⟩; have n0_ := Aside0.mk (Kd.S_below (by (with_reducible repeat (first | apply Kd.S_alloc | apply Kd.S_drewN | apply Kd.S_drew)); exact HO_13.out) hb); have n1_ := Aside0.mk (blk_below (g := gb176) (o := .cells #[.int .i64 a1_0, .string a1_1] 41 (0, 0)) (by (with_reducible repeat (first | refine zN ?_ _ | refine zD ?_ | refine zA ?_ _)); exact BK176.out) hb); have n2_ := Aside0.mk (below_step (by repeat (first | (with_reducible first | exact HB.out | apply zB | apply zP | apply zE | refine zS ?_ GE176.out) | exact HB.out)) hb); clear HO_13; clear BK176; clear HB; have HO_13 := n0_; have BK176 := n1_; have HB := n2_; clear n0_ n1_ n2_; (try clear hb); (try clear hb2); (try clear hk); (try clear hi)) | (go_at_call 20; (with_reducible refine (entry_Find.calls _ _ t190 a2 t201 t202 t203 _ ?side1 ?side2 A45.out).mono ?_); (case side1 => repeat (first | exact (Kd.S_reads' HO_13.out).2.2 | (with_reducible refine Kd.C_alloc ?_ _) | (with_reducible refine Kd.C_drewN ?_ _) | (with_reducible refine Kd.C_drew ?_))); (case side2 => exact (Kd.S_reads' HO_13.out).2.1); rintro e w52 ⟨rfl, hb⟩; have n0_ := Aside0.mk (Kd.S_below (by (with_reducible repeat (first | apply Kd.S_alloc | apply Kd.S_drewN | apply Kd.S_drew)); exact HO_13.out) hb); have n1_ := Aside0.mk (blk_below (g := gb176) (o := .cells #[.int .i64 a1_0, .string a1_1] 41 (0, 0)) (by (with_reducible repeat (first | refine zN ?_ _ | refine zD ?_ | refine zA ?_ _)); exact BK176.out) hb); have n2_ := Aside0.mk (below_step (by repeat (first | (with_reducible first | exact HB.out | apply zB | apply zP | apply zE | refine zS ?_ GE176.out) | exact HB.out)) hb); clear HO_13; clear BK176; clear HB; have HO_13 := n0_; have BK176 := n1_; have HB := n2_; clear n0_ n1_ n2_; (try clear hb); (try clear hb2); (try clear hk); (try clear hi))))
                        go_ret
                        exact ⟨by first | rfl | (simp [errW_none, errW_some] <;> rfl) | (simp [*, errW_none, errW_some] <;> rfl), by repeat (first | (with_reducible first | exact HB.out | apply zB | apply zP | apply zE | refine zS ?_ GE176.out) | exact HB.out)⟩
                      · rw [if_neg c47] at H
                        have c47b0 : (t200 == t203) = false := beq_eq_false_iff_ne.mpr c47
                        have c47b1 : (t200 != t203) = true := bne_iff_ne.mpr c47
                        obtain rfl := Option.some.inj H
                        have hcz53_0 : wc.cell? ⟨gb176, 0, none⟩ = some (.int .i64 a1_0) := (blk_cell BK176.out 0).trans rfl
                        have hcz53_1 : wc.cell? ⟨gb176, 1, none⟩ = some (.string a1_1) := (blk_cell BK176.out 1).trans rfl
                        have hfz53_0 := blk_frozen BK176.out 0
                        have hfz53_1 := blk_frozen BK176.out 1
                        obtain ⟨Ao54, co54, eo54⟩ := Kd.S_slice HO_13.out
                        subst eo54
                        go_wp2_with (first | (go_at_call 20; (with_reducible refine (entry_Find.calls _ _ t190 a1_1 t195 t196 t197 _ ?side1 ?side2 A43.out).mono ?_); (case side1 => repeat (first | exact (Kd.S_reads' HO_13.out).2.2 | (with_reducible refine Kd.C_alloc ?_ _) | (with_reducible refine Kd.C_drewN ?_ _) | (with_reducible refine Kd.C_drew ?_))); (case side2 => exact (Kd.S_reads' HO_13.out).2.1); rintro e w55 ⟨rfl, hb⟩; have n0_ := Aside0.mk (Kd.S_below (by (with_reducible repeat (first | apply Kd.S_alloc | apply Kd.S_drewN | apply Kd.S_drew)); exact HO_13.out) hb); have n1_ := Aside0.mk (blk_below (g := gb176) (o := .cells #[.int .i64 a1_0, .string a1_1] 41 (0, 0)) (by (with_reducible repeat (first | refine zN ?_ _ | refine zD ?_ | refine zA ?_ _)); exact BK176.out) hb); have n2_ := Aside0.mk (below_step (by repeat (first | (with_reducible first | exact HB.out | apply zB | apply zP | apply zE | refine zS ?_ GE176.out) | exact HB.out)) hb); clear HO_13; clear BK176; clear HB; have HO_13 := n0_; have BK176 := n1_; have HB := n2_; clear n0_ n1_ n2_; (try clear hb); (try clear hb2); (try clear hk); (try clear hi)) | (go_at_call 20; (with_reducible refine (entry_Find.calls _ _ l0 a2 t198 t199 t200 _ ?side1 ?side2 A44.out).mono ?_); (case side1 => repeat (first | exact (Kd.C_below HR0.out HB.out) | (with_reducible refine Kd.C_alloc ?_ _) | (with_reducible refine Kd.C_drewN ?_ _) | (with_reducible refine Kd.C_drew ?_))); (case side2 => exact HC0.out); rintro e w56 ⟨rfl, hb⟩; have n0_ := Aside0.mk (Kd.S_below (by (with_reducible repeat (first | apply Kd.S_alloc | apply Kd.S_drewN | apply Kd.S_drew)); exact HO_13.out) hb); have n1_ := Aside0.mk (blk_below (g := gb176) (o := .cells #[.int .i64 a1_0, .string a1_1] 41 (0, 0)) (by (with_reducible repeat (first | refine zN ?_ _ | refine zD ?_ | refine zA ?_ _)); exact BK176.out) hb); have n2_ := Aside0.mk (below_step (by repeat (first | (with_reducible first | exact HB.out | apply zB | apply zP | apply zE | refine zS ?_ GE176.out) | exact HB.out)) hb); clear HO_13; clear BK176; clear HB; have HO_13 := n0_; have BK176 := n1_; have HB := n2_; clear n0_ n1_ n2_; (try clear hb); (try clear hb2); (try clear hk); (try clear hi)) | (go_at_call 20; (with_reducible refine (entry_Find.calls _ _ t190 a2 t201 t202 t203 _ ?side1 ?side2 A45.out).mono ?_); (case side1 => repeat (first | exact (Kd.S_reads' HO_13.out).2.2 | (with_reducible refine Kd.C_alloc ?_ _) | (with_reducible refine Kd.C_drewN ?_ _) | (with_reducible refine Kd.C_drew ?_))); (case side2 => exact (Kd.S_reads' HO_13.out).2.1); rintro e w57 ⟨rfl, hb⟩; have n0_ := Aside0.mk (Kd.S_below (by (with_reducible repeat (first | apply Kd.S_alloc | apply Kd.S_drewN | apply Kd.S_drew)); exact HO_13.out) hb); have n1_ := Aside0.mk (blk_below (g := gb176) (o := .cells #[.int .i64 a1_0, .string a1_1] 41 (0, 0)) (by (with_reducible repeat (first | refine zN ?_ _ | refine zD ?_ | refine zA ?_ _)); exact BK176.out) hb); have n2_ := Aside0.mk (below_step (by repeat (first | (with_reducible first | exact HB.out | apply zB | apply zP | apply zE | refine zS ?_ GE176.out) | exact HB.out)) hb); clear HO_13; clear BK176; clear HB; have HO_13 := n0_; have BK176 := n1_; have HB := n2_; clear n0_ n1_ n2_; (try clear hb); (try clear hb2); (try clear hk); (try clear hi); have hcz58_0 : w57.cell? ⟨gb176, 0, none⟩ = some (.int .i64 a1_0) := (blk_cell BK176.out 0).trans rfl; have hcz58_1 : w57.cell? ⟨gb176, 1, none⟩ = some (.string a1_1) := (blk_cell BK176.out 1).trans rfl; have hfz58_0 := blk_frozen BK176.out 0; have hfz58_1 := blk_frozen BK176.out 1))
                        repeat (go_quiet (first | (go_at_call 20; (with_reducible refine (entry_Find.calls _ _ t190 a1_1 t195 t196 t197 _ ?side1 ?side2 A43.out).mono ?_); (case side1 => repeat (first | exact (Kd.S_reads' HO_13.out).2.2 | (with_reducible refine Kd.C_alloc ?_ _) | (with_reducible refine Kd.C_drewN ?_ _) | (with_reducible refine Kd.C_drew ?_))); (case side2 => exact (Kd.S_reads' HO_13.out).2.1); rintro e w55 ⟨rfl, hb⟩; have n0_ := Aside0.mk (Kd.S_below (by (with_reducible repeat (first | apply Kd.S_alloc | apply Kd.S_drewN | apply Kd.S_drew)); exact HO_13.out) hb); have n1_ := Aside0.mk (blk_below (g := gb176) (o := .cells #[.int .i64 a1_0, .string a1_1] 41 (0, 0)) (by (with_reducible repeat (first | refine zN ?_ _ | refine zD ?_ | refine zA ?_ _)); exact BK176.out) hb); have n2_ := Aside0.mk (below_step (by repeat (first | (with_reducible first | exact HB.out | apply zB | apply zP | apply zE | refine zS ?_ GE176.out) | exact HB.out)) hb); clear HO_13; clear BK176; clear HB; have HO_13 := n0_; have BK176 := n1_; have HB := n2_; clear n0_ n1_ n2_; (try clear hb); (try clear hb2); (try clear hk); (try clear hi)) | (go_at_call 20; (with_reducible refine (entry_Find.calls _ _ l0 a2 t198 t199 t200 _ ?side1 ?side2 A44.out).mono ?_); (case side1 => repeat (first | exact (Kd.C_below HR0.out HB.out) | (with_reducible refine Kd.C_alloc ?_ _) | (with_reducible refine Kd.C_drewN ?_ _) | (with_reducible refine Kd.C_drew ?_))); (case side2 => exact HC0.out); rintro e w56 ⟨rfl, hb⟩; have n0_ := Aside0.mk (Kd.S_below (by (with_reducible repeat (first | apply Kd.S_alloc | apply Kd.S_drewN | apply Kd.S_drew)); exact HO_13.out) hb); have n1_ := Aside0.mk (blk_below (g := gb176) (o := .cells #[.int .i64 a1_0, .string a1_1] 41 (0, 0)) (by (with_reducible repeat (first | refine zN ?_ _ | refine zD ?_ | refine zA ?_ _)); exact BK176.out) hb); have n2_ := Aside0.mk (below_step (by repeat (first | (with_reducible first | exact HB.out | apply zB | apply zP | apply zE | refine zS ?_ GE176.out) | exact HB.out)) hb); clear HO_13; clear BK176; clear HB; have HO_13 := n0_; have BK176 := n1_; have HB := n2_; clear n0_ n1_ n2_; (try clear hb); (try clear hb2); (try clear hk); (try clear hi)) | (go_at_call 20; (with_reducible refine (entry_Find.calls _ _ t190 a2 t201 t202 t203 _ ?side1 ?side2 A45.out).mono ?_); (case side1 => repeat (first | exact (Kd.S_reads' HO_13.out).2.2 | (with_reducible refine Kd.C_alloc ?_ _) | (with_reducible refine Kd.C_drewN ?_ _) | (with_reducible refine Kd.C_drew ?_))); (case side2 => exact (Kd.S_reads' HO_13.out).2.1); rintro e w57 ⟨rfl, hb⟩; have n0_ := Aside0.mk (Kd.S_below (by (with_reducible repeat (first | apply Kd.S_alloc | apply Kd.S_drewN | apply Kd.S_drew)); exact HO_13.out) hb); have n1_ := Aside0.mk (blk_below (g := gb176) (o := .cells #[.int .i64 a1_0, .string a1_1] 41 (0, 0)) (by (with_reducible repeat (first | refine zN ?_ _ | refine zD ?_ | refine zA ?_ _)); exact BK176.out) hb); have n2_ := Aside0.mk (below_step (by repeat (first | (with_reducible first | exact HB.out | apply zB | apply zP | apply zE | refine zS ?_ GE176.out) | exact HB.out)) hb); clear HO_13; clear BK176; clear HB; have HO_13 := n0_; have BK176 := n1_; have HB := n2_; clear n0_ n1_ n2_; (try clear hb); (try clear hb2); (try clear hk); (try clear hi); have hcz58_0 : w57.cell? ⟨gb176, 0, none⟩ = some (.int .i64 a1_0) := (blk_cell BK176.out 0).trans rfl; have hcz58_1 : w57.cell? ⟨gb176, 1, none⟩ = some (.string a1_1) := (blk_cell BK176.out 1).trans rfl; have hfz58_0 := blk_frozen BK176.out 0; have hfz58_1 := blk_frozen BK176.out 1)); try go_wp2_with (first | (go_at_call 20; (with_reducible refine (entry_Find.calls _ _ t190 a1_1 t195 t196 t197 _ ?side1 ?side2 A43.out).mono ?_); (case side1 => repeat (first | exact (Kd.S_reads' HO_13.out).2.2 | (with_reducible refine Kd.C_alloc ?_ _) | (with_reducible refine Kd.C_drewN ?_ _) | (with_reducible refine Kd.C_drew ?_))); (case side2 => exact (Kd.S_reads' HO_13.out).2.1); rintro e w55 ⟨rfl, hb⟩; have n0_ := Aside0.mk (Kd.S_below (by (with_reducible repeat (first | apply Kd.S_alloc | apply Kd.S_drewN | apply Kd.S_drew)); exact HO_13.out) hb); have n1_ := Aside0.mk (blk_below (g := gb176) (o := .cells #[.int .i64 a1_0, .string a1_1] 41 (0, 0)) (by (with_reducible repeat (first | refine zN ?_ _ | refine zD ?_ | refine zA ?_ _)); exact BK176.out) hb); have n2_ := Aside0.mk (below_step (by repeat (first | (with_reducible first | exact HB.out | apply zB | apply zP | apply zE | refine zS ?_ GE176.out) | exact HB.out)) hb); clear HO_13; clear BK176; clear HB; have HO_13 := n0_; have BK176 := n1_; have HB := n2_; clear n0_ n1_ n2_; (try clear hb); (try clear hb2); (try clear hk); (try clear hi)) | (go_at_call 20; (with_reducible refine (entry_Find.calls _ _ l0 a2 t198 t199 t200 _ ?side1 ?side2 A44.out).mono ?_); (case side1 => repeat (first | exact (Kd.C_below HR0.out HB.out) | (with_reducible refine Kd.C_alloc ?_ _) | (with_reducible refine Kd.C_drewN ?_ _) | (with_reducible refine Kd.C_drew ?_))); (case side2 => exact HC0.out); rintro e w56 ⟨rfl, hb⟩; have n0_ := Aside0.mk (Kd.S_below (by (with_reducible repeat (first | apply Kd.S_alloc | apply Kd.S_drewN | apply Kd.S_drew)); exact HO_13.out) hb); have n1_ := Aside0.mk (blk_below (g := gb176) (o := .cells #[.int .i64 a1_0, .string a1_1] 41 (0, 0)) (by (with_reducible repeat (first | refine zN ?_ _ | refine zD ?_ | refine zA ?_ _)); exact BK176.out) hb); have n2_ := Aside0.mk (below_step (by repeat (first | (with_reducible first | exact HB.out | apply zB | apply zP | apply zE | refine zS ?_ GE176.out) | exact HB.out)) hb); clear HO_13; clear BK176; clear HB; have HO_13 := n0_; have BK176 := n1_; have HB := n2_; clear n0_ n1_ n2_; (try clear hb); (try clear hb2); (try clear hk); (try clear hi)) | (go_at_call 20; (with_reducible refine (entry_Find.calls _ _ t190 a2 t201 t202 t203 _ ?side1 ?side2 A45.out).mono ?_); (case side1 => repeat (first | exact (Kd.S_reads' HO_13.out).2.2 | (with_reducible refine Kd.C_alloc ?_ _) | (with_reducible refine Kd.C_drewN ?_ _) | (with_reducible refine Kd.C_drew ?_))); (case side2 => exact (Kd.S_reads' HO_13.out).2.1); rintro e w57 ⟨rfl, hb⟩; have n0_ := Aside0.mk (Kd.S_below (by (with_reducible repeat (first | apply Kd.S_alloc | apply Kd.S_drewN | apply Kd.S_drew)); exact HO_13.out) hb); have n1_ := Aside0.mk (blk_below (g := gb176) (o := .cells #[.int .i64 a1_0, .string a1_1] 41 (0, 0)) (by (with_reducible repeat (first | refine zN ?_ _ | refine zD ?_ | refine zA ?_ _)); exact BK176.out) hb); have n2_ := Aside0.mk (below_step (by repeat (first | (with_reducible first | exact HB.out | apply zB | apply zP | apply zE | refine zS ?_ GE176.out) | exact HB.out)) hb); clear HO_13; clear BK176; clear HB; have HO_13 := n0_; have BK176 := n1_; have HB := n2_; clear n0_ n1_ n2_; (try clear hb); (try clear hb2); (try clear hk); (try clear hi); have hcz58_0 : w57.cell? ⟨gb176, 0, none⟩ = some (.int .i64 a1_0) := (blk_cell BK176.out 0).trans rfl; have hcz58_1 : w57.cell? ⟨gb176, 1, none⟩ = some (.string a1_1) := (blk_cell BK176.out 1).trans rfl; have hfz58_0 := blk_frozen BK176.out 0; have hfz58_1 := blk_frozen BK176.out 1)))
                        go_ret
                        exact ⟨by first | rfl | (simp [errW_none, errW_some] <;> rfl) | (simp [*, errW_none, errW_some] <;> rfl), by repeat (first | (with_reducible first | exact HB.out | apply zB | apply zP | apply zE | refine zS ?_ GE176.out) | exact HB.out)⟩
                    · rw [if_neg c46] at H
                      have c46b0 : (t197 == 4) = false := beq_eq_false_iff_ne.mpr c46
                      have c46b1 : (t197 != 4) = true := bne_iff_ne.mpr c46
                      obtain rfl := Option.some.inj H
                      have hcz59_0 : wc.cell? ⟨gb176, 0, none⟩ = some (.int .i64 a1_0) := (blk_cell BK176.out 0).trans rfl
                      have hcz59_1 : wc.cell? ⟨gb176, 1, none⟩ = some (.string a1_1) := (blk_cell BK176.out 1).trans rfl
                      have hfz59_0 := blk_frozen BK176.out 0
                      have hfz59_1 := blk_frozen BK176.out 1
                      obtain ⟨Ao60, co60, eo60⟩ := Kd.S_slice HO_13.out
                      subst eo60
                      go_wp2_with (first | (go_at_call 20; (with_reducible refine (entry_Find.calls _ _ t190 a1_1 t195 t196 t197 _ ?side1 ?side2 A43.out).mono ?_); (case side1 => repeat (first | exact (Kd.S_reads' HO_13.out).2.2 | (with_reducible refine Kd.C_alloc ?_ _) | (with_reducible refine Kd.C_drewN ?_ _) | (with_reducible refine Kd.C_drew ?_))); (case side2 => exact (Kd.S_reads' HO_13.out).2.1); rintro e w61 ⟨rfl, hb⟩; have n0_ := Aside0.mk (Kd.S_below (by (with_reducible repeat (first | apply Kd.S_alloc | apply Kd.S_drewN | apply Kd.S_drew)); exact HO_13.out) hb); have n1_ := Aside0.mk (blk_below (g := gb176) (o := .cells #[.int .i64 a1_0, .string a1_1] 41 (0, 0)) (by (with_reducible repeat (first | refine zN ?_ _ | refine zD ?_ | refine zA ?_ _)); exact BK176.out) hb); have n2_ := Aside0.mk (below_step (by repeat (first | (with_reducible first | exact HB.out | apply zB | apply zP | apply zE | refine zS ?_ GE176.out) | exact HB.out)) hb); clear HO_13; clear BK176; clear HB; have HO_13 := n0_; have BK176 := n1_; have HB := n2_; clear n0_ n1_ n2_; (try clear hb); (try clear hb2); (try clear hk); (try clear hi)) | (go_at_call 20; (with_reducible refine (entry_Find.calls _ _ l0 a2 t198 t199 t200 _ ?side1 ?side2 A44.out).mono ?_); (case side1 => repeat (first | exact (Kd.C_below HR0.out HB.out) | (with_reducible refine Kd.C_alloc ?_ _) | (with_reducible refine Kd.C_drewN ?_ _) | (with_reducible refine Kd.C_drew ?_))); (case side2 => exact HC0.out); rintro e w62 ⟨rfl, hb⟩; have n0_ := Aside0.mk (Kd.S_below (by (with_reducible repeat (first | apply Kd.S_alloc | apply Kd.S_drewN | apply Kd.S_drew)); exact HO_13.out) hb); have n1_ := Aside0.mk (blk_below (g := gb176) (o := .cells #[.int .i64 a1_0, .string a1_1] 41 (0, 0)) (by (with_reducible repeat (first | refine zN ?_ _ | refine zD ?_ | refine zA ?_ _)); exact BK176.out) hb); have n2_ := Aside0.mk (below_step (by repeat (first | (with_reducible first | exact HB.out | apply zB | apply zP | apply zE | refine zS ?_ GE176.out) | exact HB.out)) hb); clear HO_13; clear BK176; clear HB; have HO_13 := n0_; have BK176 := n1_; have HB := n2_; clear n0_ n1_ n2_; (try clear hb); (try clear hb2); (try clear hk); (try clear hi)) | (go_at_call 20; (with_reducible refine (entry_Find.calls _ _ t190 a2 t201 t202 t203 _ ?side1 ?side2 A45.out).mono ?_); (case side1 => repeat (first | exact (Kd.S_reads' HO_13.out).2.2 | (with_reducible refine Kd.C_alloc ?_ _) | (with_reducible refine Kd.C_drewN ?_ _) | (with_reducible refine Kd.C_drew ?_))); (case side2 => exact (Kd.S_reads' HO_13.out).2.1); rintro e w63 ⟨rfl, hb⟩; have n0_ := Aside0.mk (Kd.S_below (by (with_reducible repeat (first | apply Kd.S_alloc | apply Kd.S_drewN | apply Kd.S_drew)); exact HO_13.out) hb); have n1_ := Aside0.mk (blk_below (g := gb176) (o := .cells #[.int .i64 a1_0, .string a1_1] 41 (0, 0)) (by (with_reducible repeat (first | refine zN ?_ _ | refine zD ?_ | refine zA ?_ _)); exact BK176.out) hb); have n2_ := Aside0.mk (below_step (by repeat (first | (with_reducible first | exact HB.out | apply zB | apply zP | apply zE | refine zS ?_ GE176.out) | exact HB.out)) hb); clear HO_13; clear BK176; clear HB; have HO_13 := n0_; have BK176 := n1_; have HB := n2_; clear n0_ n1_ n2_; (try clear hb); (try clear hb2); (try clear hk); (try clear hi)))
                      repeat (go_quiet (first | (go_at_call 20; (with_reducible refine (entry_Find.calls _ _ t190 a1_1 t195 t196 t197 _ ?side1 ?side2 A43.out).mono ?_); (case side1 => repeat (first | exact (Kd.S_reads' HO_13.out).2.2 | (with_reducible refine Kd.C_alloc ?_ _) | (with_reducible refine Kd.C_drewN ?_ _) | (with_reducible refine Kd.C_drew ?_))); (case side2 => exact (Kd.S_reads' HO_13.out).2.1); rintro e w61 ⟨rfl, hb⟩; have n0_ := Aside0.mk (Kd.S_below (by (with_reducible repeat (first | apply Kd.S_alloc | apply Kd.S_drewN | apply Kd.S_drew)); exact HO_13.out) hb); have n1_ := Aside0.mk (blk_below (g := gb176) (o := .cells #[.int .i64 a1_0, .string a1_1] 41 (0, 0)) (by (with_reducible repeat (first | refine zN ?_ _ | refine zD ?_ | refine zA ?_ _)); exact BK176.out) hb); have n2_ := Aside0.mk (below_step (by repeat (first | (with_reducible first | exact HB.out | apply zB | apply zP | apply zE | refine zS ?_ GE176.out) | exact HB.out)) hb); clear HO_13; clear BK176; clear HB; have HO_13 := n0_; have BK176 := n1_; have HB := n2_; clear n0_ n1_ n2_; (try clear hb); (try clear hb2); (try clear hk); (try clear hi)) | (go_at_call 20; (with_reducible refine (entry_Find.calls _ _ l0 a2 t198 t199 t200 _ ?side1 ?side2 A44.out).mono ?_); (case side1 => repeat (first | exact (Kd.C_below HR0.out HB.out) | (with_reducible refine Kd.C_alloc ?_ _) | (with_reducible refine Kd.C_drewN ?_ _) | (with_reducible refine Kd.C_drew ?_))); (case side2 => exact HC0.out); rintro e w62 ⟨rfl, hb⟩; have n0_ := Aside0.mk (Kd.S_below (by (with_reducible repeat (first | apply Kd.S_alloc | apply Kd.S_drewN | apply Kd.S_drew)); exact HO_13.out) hb); have n1_ := Aside0.mk (blk_below (g := gb176) (o := .cells #[.int .i64 a1_0, .string a1_1] 41 (0, 0)) (by (with_reducible repeat (first | refine zN ?_ _ | refine zD ?_ | refine zA ?_ _)); exact BK176.out) hb); have n2_ := Aside0.mk (below_step (by repeat (first | (with_reducible first | exact HB.out | apply zB | apply zP | apply zE | refine zS ?_ GE176.out) | exact HB.out)) hb); clear HO_13; clear BK176; clear HB; have HO_13 := n0_; have BK176 := n1_; have HB := n2_; clear n0_ n1_ n2_; (try clear hb); (try clear hb2); (try clear hk); (try clear hi)) | (go_at_call 20; (with_reducible refine (entry_Find.calls _ _ t190 a2 t201 t202 t203 _ ?side1 ?side2 A45.out).mono ?_); (case side1 => repeat (first | exact (Kd.S_reads' HO_13.out).2.2 | (with_reducible refine Kd.C_alloc ?_ _) | (with_reducible refine Kd.C_drewN ?_ _) | (with_reducible refine Kd.C_drew ?_))); (case side2 => exact (Kd.S_reads' HO_13.out).2.1); rintro e w63 ⟨rfl, hb⟩; have n0_ := Aside0.mk (Kd.S_below (by (with_reducible repeat (first | apply Kd.S_alloc | apply Kd.S_drewN | apply Kd.S_drew)); exact HO_13.out) hb); have n1_ := Aside0.mk (blk_below (g := gb176) (o := .cells #[.int .i64 a1_0, .string a1_1] 41 (0, 0)) (by (with_reducible repeat (first | refine zN ?_ _ | refine zD ?_ | refine zA ?_ _)); exact BK176.out) hb); have n2_ := Aside0.mk (below_step (by repeat (first | (with_reducible first | exact HB.out | apply zB | apply zP | apply zE | refine zS ?_ GE176.out) | exact HB.out)) hb); clear HO_13; clear BK176; clear HB; have HO_13 := n0_; have BK176 := n1_; have HB := n2_; clear n0_ n1_ n2_; (try clear hb); (try clear hb2); (try clear hk); (try clear hi))); try go_wp2_with (first | (go_at_call 20; (with_reducible refine (entry_Find.calls _ _ t190 a1_1 t195 t196 t197 _ ?side1 ?side2 A43.out).mono ?_); (case side1 => repeat (first | exact (Kd.S_reads' HO_13.out).2.2 | (with_reducible refine Kd.C_alloc ?_ _) | (with_reducible refine Kd.C_drewN ?_ _) | (with_reducible refine Kd.C_drew ?_))); (case side2 => exact (Kd.S_reads' HO_13.out).2.1); rintro e w61 ⟨rfl, hb⟩; have n0_ := Aside0.mk (Kd.S_below (by (with_reducible repeat (first | apply Kd.S_alloc | apply Kd.S_drewN | apply Kd.S_drew)); exact HO_13.out) hb); have n1_ := Aside0.mk (blk_below (g := gb176) (o := .cells #[.int .i64 a1_0, .string a1_1] 41 (0, 0)) (by (with_reducible repeat (first | refine zN ?_ _ | refine zD ?_ | refine zA ?_ _)); exact BK176.out) hb); have n2_ := Aside0.mk (below_step (by repeat (first | (with_reducible first | exact HB.out | apply zB | apply zP | apply zE | refine zS ?_ GE176.out) | exact HB.out)) hb); clear HO_13; clear BK176; clear HB; have HO_13 := n0_; have BK176 := n1_; have HB := n2_; clear n0_ n1_ n2_; (try clear hb); (try clear hb2); (try clear hk); (try clear hi)) | (go_at_call 20; (with_reducible refine (entry_Find.calls _ _ l0 a2 t198 t199 t200 _ ?side1 ?side2 A44.out).mono ?_); (case side1 => repeat (first | exact (Kd.C_below HR0.out HB.out) | (with_reducible refine Kd.C_alloc ?_ _) | (with_reducible refine Kd.C_drewN ?_ _) | (with_reducible refine Kd.C_drew ?_))); (case side2 => exact HC0.out); rintro e w62 ⟨rfl, hb⟩; have n0_ := Aside0.mk (Kd.S_below (by (with_reducible repeat (first | apply Kd.S_alloc | apply Kd.S_drewN | apply Kd.S_drew)); exact HO_13.out) hb); have n1_ := Aside0.mk (blk_below (g := gb176) (o := .cells #[.int .i64 a1_0, .string a1_1] 41 (0, 0)) (by (with_reducible repeat (first | refine zN ?_ _ | refine zD ?_ | refine zA ?_ _)); exact BK176.out) hb); have n2_ := Aside0.mk (below_step (by repeat (first | (with_reducible first | exact HB.out | apply zB | apply zP | apply zE | refine zS ?_ GE176.out) | exact HB.out)) hb); clear HO_13; clear BK176; clear HB; have HO_13 := n0_; have BK176 := n1_; have HB := n2_; clear n0_ n1_ n2_; (try clear hb); (try clear hb2); (try clear hk); (try clear hi)) | (go_at_call 20; (with_reducible refine (entry_Find.calls _ _ t190 a2 t201 t202 t203 _ ?side1 ?side2 A45.out).mono ?_); (case side1 => repeat (first | exact (Kd.S_reads' HO_13.out).2.2 | (with_reducible refine Kd.C_alloc ?_ _) | (with_reducible refine Kd.C_drewN ?_ _) | (with_reducible refine Kd.C_drew ?_))); (case side2 => exact (Kd.S_reads' HO_13.out).2.1); rintro e w63 ⟨rfl, hb⟩; have n0_ := Aside0.mk (Kd.S_below (by (with_reducible repeat (first | apply Kd.S_alloc | apply Kd.S_drewN | apply Kd.S_drew)); exact HO_13.out) hb); have n1_ := Aside0.mk (blk_below (g := gb176) (o := .cells #[.int .i64 a1_0, .string a1_1] 41 (0, 0)) (by (with_reducible repeat (first | refine zN ?_ _ | refine zD ?_ | refine zA ?_ _)); exact BK176.out) hb); have n2_ := Aside0.mk (below_step (by repeat (first | (with_reducible first | exact HB.out | apply zB | apply zP | apply zE | refine zS ?_ GE176.out) | exact HB.out)) hb); clear HO_13; clear BK176; clear HB; have HO_13 := n0_; have BK176 := n1_; have HB := n2_; clear n0_ n1_ n2_; (try clear hb); (try clear hb2); (try clear hk); (try clear hi))))
                      go_ret
                      exact ⟨by first | rfl | (simp [errW_none, errW_some] <;> rfl) | (simp [*, errW_none, errW_some] <;> rfl), by repeat (first | (with_reducible first | exact HB.out | apply zB | apply zP | apply zE | refine zS ?_ GE176.out) | exact HB.out)⟩

end Go.Proofs.Ytnccbebjligpdaa.PAll
