-- Printed out of the translation by a program; functions that were proved by hand stand among them. Lean checks it.
import Derived.Test.YtefhjfaojbjjaaaPAllx0
import Derived.Test.YtefhjfaojbjjaaaPAllx11
import Derived.Test.YtefhjfaojbjjaaaPAllx13
namespace Go.Proofs.Ytefhjfaojbjjaaa.PAll
open Go.RowKit Go.Proofs.YtefhjfaojbjjaaaW.PrintWords Go.Proofs.YtefhjfaojbjjaaaW.PrintLast Go.Proofs.YtefhjfaojbjjaaaW.PrintMore
open Go.Proofs.YtefhjfaojbjjaaaW.PrintWords renaming blk_drewN → zN, blk_drew → zD, blk_alloc → zA, below_alloc → zB, pw_below_drewN → zP, below_drew1 → zE, below_set → zS
attribute [local go_sem] max2_int min2_int max_two min_two max_three min_three max_four min_four   -- for this text's walks alone
set_option linter.unusedVariables false
set_option linter.unusedSimpArgs false

/-! ### drydockref15_Find: function 20 -/
mutual
def drydockref15_Find.j0 : Nat → List (List Int) → Bool → Int → Int → Option ((List (List (S50))) × Int × Int × Int)
  | 0, _, _, _, _ => none
  | k + 1, x0, x38, x223000, x223001 => if x38 = true then (some (([] : List (List (S50))), 0, 0, 2)) else (drydockref15_Find.l0 k x0 0 x223000 x223001)
def drydockref15_Find.l0 : Nat → List (List Int) → Int → Int → Int → Option ((List (List (S50))) × Int × Int × Int)
  | 0, _, _, _, _ => none
  | k + 1, x0, x7, x223000, x223001 => if x7 < 40 then (if 0 ≤ x7 then (if x7 < (x0.length : Int) then (if ((rd_L2 x0 x7).length : Int) = 64 then (drydockref15_Find.l0 k x0 (wrap64 (x7 + 1)) x223000 x223001) else (some (([] : List (List (S50))), 0, 0, 2))) else (none)) else (none)) else (drydockref15_Find.l1 k x0 (([] : List (List (S50)))) x223000 x223001)
def drydockref15_Find.l1 : Nat → List (List Int) → List (List (S50)) → Int → Int → Option ((List (List (S50))) × Int × Int × Int)
  | 0, _, _, _, _ => none
  | k + 1, x0, x8, x223000, x223001 => if x223001 < 1073741824 then (if 0 ≤ x223000 then (if x223000 < (x0.length : Int) then ((drydockref15_Begins.f k (rd_L2 x0 x223000)).bind fun bt229 => (if bt229.2.2 = 0 then (drydockref15_Find.j3 k x0 x8 (wrap64 ((bt229.2.1.length : Int) + 2)) (bt229.1 != x223001) x223000 x223001 bt229.1 bt229.2.1) else (drydockref15_Find.j3 k x0 x8 (wrap64 ((bt229.2.1.length : Int) + 2)) true x223000 x223001 bt229.1 bt229.2.1))) else (none)) else (none)) else (some (x8, x223000, x223001, 0))
def drydockref15_Find.j3 : Nat → List (List Int) → List (List (S50)) → Int → Bool → Int → Int → Int → List Int → Option ((List (List (S50))) × Int × Int × Int)
  | 0, _, _, _, _, _, _, _, _ => none
  | k + 1, x0, x8, x11, x76, x223000, x223001, x235000, x235001 => if x76 = true then (some (x8, x223000, x223001, 0)) else (if 0 ≤ (Int.tmod (wrap64 ((wrap64 (x223000 + x11)) - 1)) 40) then (if (Int.tmod (wrap64 ((wrap64 (x223000 + x11)) - 1)) 40) < (x0.length : Int) then ((drydockref15_Ends.f k (rd_L2 x0 (Int.tmod (wrap64 ((wrap64 (x223000 + x11)) - 1)) 40))).bind fun bt236 => (if bt236.2.2 = 0 then (if bt236.1 = x223001 then (drydockref15_Find.j4 k x0 x8 x11 (bt236.2.1 != (wrap64 (x11 - 2))) x223000 x223001 x235000 x235001) else (drydockref15_Find.j4 k x0 x8 x11 true x223000 x223001 x235000 x235001)) else (drydockref15_Find.j4 k x0 x8 x11 true x223000 x223001 x235000 x235001))) else (none)) else (none))
def drydockref15_Find.j4 : Nat → List (List Int) → List (List (S50)) → Int → Bool → Int → Int → Int → List Int → Option ((List (List (S50))) × Int × Int × Int)
  | 0, _, _, _, _, _, _, _, _ => none
  | k + 1, x0, x8, x11, x104, x223000, x223001, x235000, x235001 => if x104 = true then (some (x8, x223000, x223001, 0)) else (drydockref15_Find.l2 k x0 x8 x11 (([] : List (S50))) 0 x223000 x223001 x235000 x235001)
def drydockref15_Find.l2 : Nat → List (List Int) → List (List (S50)) → Int → List (S50) → Int → Int → Int → Int → List Int → Option ((List (List (S50))) × Int × Int × Int)
  | 0, _, _, _, _, _, _, _, _, _ => none
  | k + 1, x0, x8, x11, x14, x15, x223000, x223001, x235000, x235001 => if x15 < (wrap64 (x11 - 2)) then (if 0 ≤ x15 then (if x15 < (x235001.length : Int) then ((some (([] : List Int) : List Int)).bind fun y243 => (if 0 ≤ (Int.tmod (wrap64 ((wrap64 (x223000 + 1)) + x15)) 40) then (if (Int.tmod (wrap64 ((wrap64 (x223000 + 1)) + x15)) 40) < (x0.length : Int) then (if y243.length + (rd_L2 x0 (Int.tmod (wrap64 ((wrap64 (x223000 + 1)) + x15)) 40)).length < 140737488355328 then (if x14.length < 4398046511104 then (drydockref15_Find.l2 k x0 x8 x11 (x14 ++ [(⟨rd x235001 x15, (y243 ++ (rd_L2 x0 (Int.tmod (wrap64 ((wrap64 (x223000 + 1)) + x15)) 40)))⟩ : S50)]) (wrap64 (x15 + 1)) x223000 x223001 x235000 x235001) else (none)) else (none)) else (none)) else (none))) else (none)) else (none)) else (if x8.length < 5864062014805 then (drydockref15_Find.l1 k x0 (x8 ++ [x14]) (Int.tmod (wrap64 (x223000 + x11)) 40) (wrap64 (x223001 + 1))) else (none))
end
def drydockref15_Find.f (k : Nat) (l0 : List (List Int)) (a1_0 : Int) (a1_1 : Int) : Option ((List (List (S50))) × Int × Int × Int) := if (l0.length : Int) = 40 then (if a1_0 < 0 then (drydockref15_Find.j0 k l0 true a1_0 a1_1) else (if a1_0 > 39 then (drydockref15_Find.j0 k l0 true a1_0 a1_1) else (if a1_1 < 1 then (drydockref15_Find.j0 k l0 true a1_0 a1_1) else (drydockref15_Find.j0 k l0 (decide (a1_1 > 1073741824)) a1_0 a1_1)))) else (drydockref15_Find.j0 k l0 true a1_0 a1_1)
theorem drydockref15_Find.mono_l : ∀ k, (∀ y0 y1 y2 y3, LeO (drydockref15_Find.j0 k y0 y1 y2 y3) (drydockref15_Find.j0 (k + 1) y0 y1 y2 y3)) ∧ (∀ y0 y1 y2 y3, LeO (drydockref15_Find.l0 k y0 y1 y2 y3) (drydockref15_Find.l0 (k + 1) y0 y1 y2 y3)) ∧ (∀ y0 y1 y2 y3, LeO (drydockref15_Find.l1 k y0 y1 y2 y3) (drydockref15_Find.l1 (k + 1) y0 y1 y2 y3)) ∧ (∀ y0 y1 y2 y3 y4 y5 y6 y7, LeO (drydockref15_Find.j3 k y0 y1 y2 y3 y4 y5 y6 y7) (drydockref15_Find.j3 (k + 1) y0 y1 y2 y3 y4 y5 y6 y7)) ∧ (∀ y0 y1 y2 y3 y4 y5 y6 y7, LeO (drydockref15_Find.j4 k y0 y1 y2 y3 y4 y5 y6 y7) (drydockref15_Find.j4 (k + 1) y0 y1 y2 y3 y4 y5 y6 y7)) ∧ (∀ y0 y1 y2 y3 y4 y5 y6 y7 y8, LeO (drydockref15_Find.l2 k y0 y1 y2 y3 y4 y5 y6 y7 y8) (drydockref15_Find.l2 (k + 1) y0 y1 y2 y3 y4 y5 y6 y7 y8))
  | 0 => ⟨fun _ _ _ _ r h => by simp [drydockref15_Find.j0] at h, fun _ _ _ _ r h => by simp [drydockref15_Find.l0] at h, fun _ _ _ _ r h => by simp [drydockref15_Find.l1] at h, fun _ _ _ _ _ _ _ _ r h => by simp [drydockref15_Find.j3] at h, fun _ _ _ _ _ _ _ _ r h => by simp [drydockref15_Find.j4] at h, fun _ _ _ _ _ _ _ _ _ r h => by simp [drydockref15_Find.l2] at h⟩
  | k + 1 => by
    obtain ⟨ih0, ih1, ih2, ih3, ih4, ih5⟩ := drydockref15_Find.mono_l k
    refine ⟨?_, ?_, ?_, ?_, ?_, ?_⟩
    · intro y0 y1 y2 y3
      unfold drydockref15_Find.j0
      repeat' first
      | (with_reducible exact ih0 _ _ _ _)
      | (with_reducible exact ih1 _ _ _ _)
      | (with_reducible exact ih2 _ _ _ _)
      | (with_reducible exact ih3 _ _ _ _ _ _ _ _)
      | (with_reducible exact ih4 _ _ _ _ _ _ _ _)
      | (with_reducible exact ih5 _ _ _ _ _ _ _ _ _)
      | (with_reducible exact drydockref15_Begins.mono _ _)
      | (with_reducible exact drydockref15_Ends.mono _ _)
      | (with_reducible exact LeO.refl _)
      | (with_reducible exact LeO.none _)
      | (with_reducible refine LeO.ite ?_ ?_)
      | (with_reducible refine LeO.bind ?_ (fun _ => ?_))
      | exact ih0 _ _ _ _
      | exact ih1 _ _ _ _
      | exact ih2 _ _ _ _
      | exact ih3 _ _ _ _ _ _ _ _
      | exact ih4 _ _ _ _ _ _ _ _
      | exact ih5 _ _ _ _ _ _ _ _ _
      | exact drydockref15_Begins.mono _ _
      | exact drydockref15_Ends.mono _ _
      | exact LeO.none _
      | refine LeO.ite ?_ ?_
      | refine LeO.bind ?_ (fun _ => ?_)
    · intro y0 y1 y2 y3
      unfold drydockref15_Find.l0
      repeat' first
      | (with_reducible exact ih0 _ _ _ _)
      | (with_reducible exact ih1 _ _ _ _)
      | (with_reducible exact ih2 _ _ _ _)
      | (with_reducible exact ih3 _ _ _ _ _ _ _ _)
      | (with_reducible exact ih4 _ _ _ _ _ _ _ _)
      | (with_reducible exact ih5 _ _ _ _ _ _ _ _ _)
      | (with_reducible exact drydockref15_Begins.mono _ _)
      | (with_reducible exact drydockref15_Ends.mono _ _)
      | (with_reducible exact LeO.refl _)
      | (with_reducible exact LeO.none _)
      | (with_reducible refine LeO.ite ?_ ?_)
      | (with_reducible refine LeO.bind ?_ (fun _ => ?_))
      | exact ih0 _ _ _ _
      | exact ih1 _ _ _ _
      | exact ih2 _ _ _ _
      | exact ih3 _ _ _ _ _ _ _ _
      | exact ih4 _ _ _ _ _ _ _ _
      | exact ih5 _ _ _ _ _ _ _ _ _
      | exact drydockref15_Begins.mono _ _
      | exact drydockref15_Ends.mono _ _
      | exact LeO.none _
      | refine LeO.ite ?_ ?_
      | refine LeO.bind ?_ (fun _ => ?_)
    · intro y0 y1 y2 y3
      unfold drydockref15_Find.l1
      repeat' first
      | (with_reducible exact ih0 _ _ _ _)
      | (with_reducible exact ih1 _ _ _ _)
      | (with_reducible exact ih2 _ _ _ _)
      | (with_reducible exact ih3 _ _ _ _ _ _ _ _)
      | (with_reducible exact ih4 _ _ _ _ _ _ _ _)
      | (with_reducible exact ih5 _ _ _ _ _ _ _ _ _)
      | (with_reducible exact drydockref15_Begins.mono _ _)
      | (with_reducible exact drydockref15_Ends.mono _ _)
      | (with_reducible exact LeO.refl _)
      | (with_reducible exact LeO.none _)
      | (with_reducible refine LeO.ite ?_ ?_)
      | (with_reducible refine LeO.bind ?_ (fun _ => ?_))
      | exact ih0 _ _ _ _
      | exact ih1 _ _ _ _
      | exact ih2 _ _ _ _
      | exact ih3 _ _ _ _ _ _ _ _
      | exact ih4 _ _ _ _ _ _ _ _
      | exact ih5 _ _ _ _ _ _ _ _ _
      | exact drydockref15_Begins.mono _ _
      | exact drydockref15_Ends.mono _ _
      | exact LeO.none _
      | refine LeO.ite ?_ ?_
      | refine LeO.bind ?_ (fun _ => ?_)
    · intro y0 y1 y2 y3 y4 y5 y6 y7
      unfold drydockref15_Find.j3
      repeat' first
      | (with_reducible exact ih0 _ _ _ _)
      | (with_reducible exact ih1 _ _ _ _)
      | (with_reducible exact ih2 _ _ _ _)
      | (with_reducible exact ih3 _ _ _ _ _ _ _ _)
      | (with_reducible exact ih4 _ _ _ _ _ _ _ _)
      | (with_reducible exact ih5 _ _ _ _ _ _ _ _ _)
      | (with_reducible exact drydockref15_Begins.mono _ _)
      | (with_reducible exact drydockref15_Ends.mono _ _)
      | (with_reducible exact LeO.refl _)
      | (with_reducible exact LeO.none _)
      | (with_reducible refine LeO.ite ?_ ?_)
      | (with_reducible refine LeO.bind ?_ (fun _ => ?_))
      | exact ih0 _ _ _ _
      | exact ih1 _ _ _ _
      | exact ih2 _ _ _ _
      | exact ih3 _ _ _ _ _ _ _ _
      | exact ih4 _ _ _ _ _ _ _ _
      | exact ih5 _ _ _ _ _ _ _ _ _
      | exact drydockref15_Begins.mono _ _
      | exact drydockref15_Ends.mono _ _
      | exact LeO.none _
      | refine LeO.ite ?_ ?_
      | refine LeO.bind ?_ (fun _ => ?_)
    · intro y0 y1 y2 y3 y4 y5 y6 y7
      unfold drydockref15_Find.j4
      repeat' first
      | (with_reducible exact ih0 _ _ _ _)
      | (with_reducible exact ih1 _ _ _ _)
      | (with_reducible exact ih2 _ _ _ _)
      | (with_reducible exact ih3 _ _ _ _ _ _ _ _)
      | (with_reducible exact ih4 _ _ _ _ _ _ _ _)
      | (with_reducible exact ih5 _ _ _ _ _ _ _ _ _)
      | (with_reducible exact drydockref15_Begins.mono _ _)
      | (with_reducible exact drydockref15_Ends.mono _ _)
      | (with_reducible exact LeO.refl _)
      | (with_reducible exact LeO.none _)
      | (with_reducible refine LeO.ite ?_ ?_)
      | (with_reducible refine LeO.bind ?_ (fun _ => ?_))
      | exact ih0 _ _ _ _
      | exact ih1 _ _ _ _
      | exact ih2 _ _ _ _
      | exact ih3 _ _ _ _ _ _ _ _
      | exact ih4 _ _ _ _ _ _ _ _
      | exact ih5 _ _ _ _ _ _ _ _ _
      | exact drydockref15_Begins.mono _ _
      | exact drydockref15_Ends.mono _ _
      | exact LeO.none _
      | refine LeO.ite ?_ ?_
      | refine LeO.bind ?_ (fun _ => ?_)
    · intro y0 y1 y2 y3 y4 y5 y6 y7 y8
      unfold drydockref15_Find.l2
      repeat' first
      | (with_reducible exact ih0 _ _ _ _)
      | (with_reducible exact ih1 _ _ _ _)
      | (with_reducible exact ih2 _ _ _ _)
      | (with_reducible exact ih3 _ _ _ _ _ _ _ _)
      | (with_reducible exact ih4 _ _ _ _ _ _ _ _)
      | (with_reducible exact ih5 _ _ _ _ _ _ _ _ _)
      | (with_reducible exact drydockref15_Begins.mono _ _)
      | (with_reducible exact drydockref15_Ends.mono _ _)
      | (with_reducible exact LeO.refl _)
      | (with_reducible exact LeO.none _)
      | (with_reducible refine LeO.ite ?_ ?_)
      | (with_reducible refine LeO.bind ?_ (fun _ => ?_))
      | exact ih0 _ _ _ _
      | exact ih1 _ _ _ _
      | exact ih2 _ _ _ _
      | exact ih3 _ _ _ _ _ _ _ _
      | exact ih4 _ _ _ _ _ _ _ _
      | exact ih5 _ _ _ _ _ _ _ _ _
      | exact drydockref15_Begins.mono _ _
      | exact drydockref15_Ends.mono _ _
      | exact LeO.none _
      | refine LeO.ite ?_ ?_
      | refine LeO.bind ?_ (fun _ => ?_)
theorem drydockref15_Find.mono : ∀ a0 a1 a2 k, LeO (drydockref15_Find.f k a0 a1 a2) (drydockref15_Find.f (k + 1) a0 a1 a2) := by
  intro a0 a1 a2 k
  obtain ⟨ih0, ih1, ih2, ih3, ih4, ih5⟩ := drydockref15_Find.mono_l k
  unfold drydockref15_Find.f
  repeat' first
      | (with_reducible exact ih0 _ _ _ _)
      | (with_reducible exact ih1 _ _ _ _)
      | (with_reducible exact ih2 _ _ _ _)
      | (with_reducible exact ih3 _ _ _ _ _ _ _ _)
      | (with_reducible exact ih4 _ _ _ _ _ _ _ _)
      | (with_reducible exact ih5 _ _ _ _ _ _ _ _ _)
      | (with_reducible exact drydockref15_Begins.mono _ _)
      | (with_reducible exact drydockref15_Ends.mono _ _)
      | (with_reducible exact LeO.refl _)
      | (with_reducible exact LeO.none _)
      | (with_reducible refine LeO.ite ?_ ?_)
      | (with_reducible refine LeO.bind ?_ (fun _ => ?_))
      | exact ih0 _ _ _ _
      | exact ih1 _ _ _ _
      | exact ih2 _ _ _ _
      | exact ih3 _ _ _ _ _ _ _ _
      | exact ih4 _ _ _ _ _ _ _ _
      | exact ih5 _ _ _ _ _ _ _ _ _
      | exact drydockref15_Begins.mono _ _
      | exact drydockref15_Ends.mono _ _
      | exact LeO.none _
      | refine LeO.ite ?_ ?_
      | refine LeO.bind ?_ (fun _ => ?_)
def drydockref15_Find.T19 : Bool × List (List Nat × List Nat) := (true, [([], []), ([], []), ([1], [1]), ([], []), ([2, 3], [2, 3]), ([4], [4]), ([], []), ([], []), ([], []), ([8], [8]), ([9], [9]), ([], []), ([10, 11], [10, 11]), ([12], [12]), ([7, 13], [7, 13]), ([14], [14]), ([6, 15], [6, 15]), ([5, 16], [5, 16]), ([17], [17]), ([0, 18, 16], [0, 18]), ([19, 19, 0, 1, 2, 3, 4, 5, 6, 7, 8, 9, 10, 11, 12, 13, 14, 15, 16, 17, 18, 19], [0, 19])])
def drydockref15_Find.B19 : List Nat := [0, 0, 2, 0, 14, 30, 0, 0, 0, 256, 768, 0, 3840, 7936, 16256, 32640, 65472, 131070, 262142, 524287, 1048575]
theorem drydockref15_Find.tab19 : rtab .any (opsOf Try.f20 19) = drydockref15_Find.T19 := by kernel_rfl
theorem drydockref15_Find.bits19 : waitsOk drydockref15_Find.T19.2 drydockref15_Find.B19 = true := by kernel_rfl
set_option maxHeartbeats 8000000 in
set_option maxRecDepth 100000 in
theorem drydockref15_Find.calls (k : Nat) (A0 : Option Addr) (c0 : Nat) (l0 : List (List Int)) (a1_0 : Int) (a1_1 : Int) (r1 : List (List (S50))) (r2 : Int) (r3 : Int) (r4 : Int) (w : World) (hr0 : Kd.C (Kd.slice 5 (Kd.int .u8)) w A0 l0.length l0) (hc0 : l0.length ≤ c0) (h : drydockref15_Find.f k l0 a1_0 a1_1 = some (r1, r2, r3, r4)) :
    Calls Try.prog 20 #[.slice A0 l0.length c0, .agg #[.int .i64 a1_0, .int .i64 a1_1]] w fun e w' => ∃ v0_ : Value, e = .returned (.tuple #[v0_, .agg #[.int .i64 r2, .int .i64 r3], .int .i64 r4]) ∧ Kd.R (Kd.slice 50 k50) 46 w' w.heap.size (fun _ => True) v0_ r1 ∧ Below w.heap.size w w' := by
  have hu41 := Try.underlying41
  have hu24 := Try.underlying24
  have hu50 := Try.underlying50
  have HR0 := Aside0.mk hr0
  have HC0 := Aside0.mk hc0
  clear hr0 hc0
  have HB := Aside0.mk (Below.refl w.heap.size w)
  have H : (if (l0.length : Int) = 40 then (if a1_0 < 0 then (drydockref15_Find.j0 k l0 true a1_0 a1_1) else (if a1_0 > 39 then (drydockref15_Find.j0 k l0 true a1_0 a1_1) else (if a1_1 < 1 then (drydockref15_Find.j0 k l0 true a1_0 a1_1) else (drydockref15_Find.j0 k l0 (decide (a1_1 > 1073741824)) a1_0 a1_1)))) else (drydockref15_Find.j0 k l0 true a1_0 a1_1)) = some (r1, r2, r3, r4) := h
  clear h
  have HC3 := Aside0.mk H
  clear H
  go_enter Try.func20, Try.ntmps20
  go_upto_region 1 with (first | ((with_reducible refine gate_dst (N := 3) rfl ?_); refine box_event ?hg (N := 3) ?hd (cs := #[.int .i64 a1_0, .int .i64 a1_1]) (t := 41) ?hr ?_; (case hd => rfl); (case hg => rfl); (case hr => first | (go_simp; done) | (go_simp; rfl)); intro gb222 hg w4 hbox hb; have n0_ := Aside0.mk (below_step (by repeat (first | (with_reducible first | exact HB.out | apply zB | apply zP | apply zE) | exact HB.out)) hb); have n1_ := Aside0.mk (hbox); have n2_ := Aside0.mk ((by rw [hg]; exact (below_size (by repeat (first | (with_reducible first | exact HB.out | apply zB | apply zP | apply zE) | exact HB.out))) : w.heap.size ≤ gb222)); have n3_ := Aside0.mk ((by rw [hg]; exact (below_size (by repeat (first | (with_reducible first | exact HB.out | apply zB | apply zP | apply zE) | exact HB.out))) : w.heap.size ≤ gb222)); clear HB; have HB := n0_; have BK222 := n1_; have GW222 := n2_; have GE222 := n3_; clear n0_ n1_ n2_ n3_; clear hb hbox hg) | ((with_reducible refine gate_dst (N := 5) rfl ?_); refine box_event ?hg (N := 5) ?hd (cs := #[.int .i64 0, .int .i64 0]) (t := 41) ?hr ?_; (case hd => rfl); (case hg => rfl); (case hr => first | (go_simp; done) | (go_simp; rfl)); intro gb223 hg w5 hbox hb; have n0_ := Aside0.mk (blk_below (g := gb222) (o := .cells #[.int .i64 a1_0, .int .i64 a1_1] 41 (0, 0)) (by (with_reducible repeat (first | refine zN ?_ _ | refine zD ?_ | refine zA ?_ _)); exact BK222.out) hb); have n1_ := Aside0.mk (below_step (by repeat (first | (with_reducible first | exact HB.out | apply zB | apply zP | apply zE | refine zS ?_ GE222.out) | exact HB.out)) hb); have n2_ := Aside0.mk (hbox); have n3_ := Aside0.mk ((by rw [hg]; exact (below_size (by repeat (first | (with_reducible first | exact HB.out | apply zB | apply zP | apply zE | refine zS ?_ GE222.out) | exact HB.out))) : w.heap.size ≤ gb223)); have n4_ := Aside0.mk ((by rw [hg]; exact (below_size (by repeat (first | (with_reducible first | exact HB.out | apply zB | apply zP | apply zE | refine zS ?_ GE222.out) | exact HB.out))) : w.heap.size ≤ gb223)); have n5_ := Aside0.mk ((by rw [hg]; exact Nat.ne_of_lt (blk_lt (g := gb222) (o := .cells #[.int .i64 a1_0, .int .i64 a1_1] 41 (0, 0)) (by (with_reducible repeat (first | refine zN ?_ _ | refine zD ?_ | refine zA ?_ _)); exact BK222.out)) : gb222 ≠ gb223)); have n6_ := Aside0.mk ((by rw [hg]; exact Nat.ne_of_gt (blk_lt (g := gb222) (o := .cells #[.int .i64 a1_0, .int .i64 a1_1] 41 (0, 0)) (by (with_reducible repeat (first | refine zN ?_ _ | refine zD ?_ | refine zA ?_ _)); exact BK222.out)) : gb223 ≠ gb222)); clear BK222; clear HB; have BK222 := n0_; have HB := n1_; have BK223 := n2_; have GW223 := n3_; have GE223 := n4_; have NB222_223 := n5_; have NB223_222 := n6_; clear n0_ n1_ n2_ n3_ n4_ n5_ n6_; clear hb hbox hg))
  (try simp only [Act.put, List.setIfInBounds_toArray, List.set_cons_zero, List.set_cons_succ])
  go_cut [38] (fun v38 wc => ∃ (kq : Nat) (x38_2 : Bool), v38 = .bool x38_2 ∧ Aside0 (drydockref15_Find.j0 kq l0 x38_2 a1_0 a1_1 = some (r1, r2, r3, r4)) ∧ Aside0 (kq ≤ k) ∧ Aside0 (wc.heap[gb222]? = some (.cells #[.int .i64 a1_0, .int .i64 a1_1] 41 (0, 0))) ∧ Aside0 (wc.heap[gb223]? = some (.cells #[.int .i64 0, .int .i64 0] 41 (0, 0))) ∧ Aside0 (Below w.heap.size w wc))
  case first =>
    have H := HC3.out
    clear HC3
    by_cases c6 : (l0.length : Int) = 40
    · rw [if_pos c6] at H
      have c6b0 : ((l0.length : Int) == 40) = true := beq_iff_eq.mpr c6
      have c6b1 : ((l0.length : Int) != 40) = false := bne_eq_false_iff_eq.mpr c6
      clear c6
      (first | rw [c6b0] | (simp only [i64_w, i32_w]; rw [c6b0]) | skip)
      by_cases c7 : a1_0 < 0
      · rw [if_pos c7] at H
        have c7b0 : decide (a1_0 < 0) = true := decide_eq_true c7
        clear c7
        have H' := Aside0.mk H
        clear H
        have hnb8 := NB222_223.out
        have hnc8 := NB223_222.out
        have hcz9_0 : w5.cell? ⟨gb222, 0, none⟩ = some (.int .i64 a1_0) := (blk_cell BK222.out 0).trans rfl
        have hcz9_1 : w5.cell? ⟨gb222, 1, none⟩ = some (.int .i64 a1_1) := (blk_cell BK222.out 1).trans rfl
        have hfz9_0 := blk_frozen BK222.out 0
        have hfz9_1 := blk_frozen BK222.out 1
        go_wp2
        go_meet
        case rel => exact ⟨_, (true), (by first | rfl | (simp; done) | (simp [*]; done)), H', ⟨by first | omega | exact Nat.le_refl _⟩, ⟨by (with_reducible repeat (first | refine zN ?_ _ | refine zD ?_ | refine zA ?_ _)); exact BK222.out⟩, ⟨by (with_reducible repeat (first | refine zN ?_ _ | refine zD ?_ | refine zA ?_ _)); exact BK223.out⟩, ⟨by repeat (first | (with_reducible first | exact HB.out | apply zB | apply zP | apply zE | refine zS ?_ GE222.out | refine zS ?_ GE223.out) | exact HB.out)⟩⟩
      · rw [if_neg c7] at H
        have c7b0 : decide (a1_0 < 0) = false := decide_eq_false c7
        clear c7
        by_cases c10 : a1_0 > 39
        · rw [if_pos c10] at H
          have c10b0 : decide (39 < a1_0) = true := decide_eq_true c10
          clear c10
          have H' := Aside0.mk H
          clear H
          have hnb11 := NB222_223.out
          have hnc11 := NB223_222.out
          have hcz12_0 : w5.cell? ⟨gb222, 0, none⟩ = some (.int .i64 a1_0) := (blk_cell BK222.out 0).trans rfl
          have hcz12_1 : w5.cell? ⟨gb222, 1, none⟩ = some (.int .i64 a1_1) := (blk_cell BK222.out 1).trans rfl
          have hfz12_0 := blk_frozen BK222.out 0
          have hfz12_1 := blk_frozen BK222.out 1
          go_wp2
          go_meet
          case rel => exact ⟨_, (true), (by first | rfl | (simp; done) | (simp [*]; done)), H', ⟨by first | omega | exact Nat.le_refl _⟩, ⟨by (with_reducible repeat (first | refine zN ?_ _ | refine zD ?_ | refine zA ?_ _)); exact BK222.out⟩, ⟨by (with_reducible repeat (first | refine zN ?_ _ | refine zD ?_ | refine zA ?_ _)); exact BK223.out⟩, ⟨by repeat (first | (with_reducible first | exact HB.out | apply zB | apply zP | apply zE | refine zS ?_ GE222.out | refine zS ?_ GE223.out) | exact HB.out)⟩⟩
        · rw [if_neg c10] at H
          have c10b0 : decide (39 < a1_0) = false := decide_eq_false c10
          clear c10
          by_cases c13 : a1_1 < 1
          · rw [if_pos c13] at H
            have c13b0 : decide (a1_1 < 1) = true := decide_eq_true c13
            clear c13
            have H' := Aside0.mk H
            clear H
            have hnb14 := NB222_223.out
            have hnc14 := NB223_222.out
            have hcz15_0 : w5.cell? ⟨gb222, 0, none⟩ = some (.int .i64 a1_0) := (blk_cell BK222.out 0).trans rfl
            have hcz15_1 : w5.cell? ⟨gb222, 1, none⟩ = some (.int .i64 a1_1) := (blk_cell BK222.out 1).trans rfl
            have hfz15_0 := blk_frozen BK222.out 0
            have hfz15_1 := blk_frozen BK222.out 1
            go_wp2
            go_meet
            case rel => exact ⟨_, (true), (by first | rfl | (simp; done) | (simp [*]; done)), H', ⟨by first | omega | exact Nat.le_refl _⟩, ⟨by (with_reducible repeat (first | refine zN ?_ _ | refine zD ?_ | refine zA ?_ _)); exact BK222.out⟩, ⟨by (with_reducible repeat (first | refine zN ?_ _ | refine zD ?_ | refine zA ?_ _)); exact BK223.out⟩, ⟨by repeat (first | (with_reducible first | exact HB.out | apply zB | apply zP | apply zE | refine zS ?_ GE222.out | refine zS ?_ GE223.out) | exact HB.out)⟩⟩
          · rw [if_neg c13] at H
            have c13b0 : decide (a1_1 < 1) = false := decide_eq_false c13
            clear c13
            have H' := Aside0.mk H
            clear H
            have hnb16 := NB222_223.out
            have hnc16 := NB223_222.out
            have hcz17_0 : w5.cell? ⟨gb222, 0, none⟩ = some (.int .i64 a1_0) := (blk_cell BK222.out 0).trans rfl
            have hcz17_1 : w5.cell? ⟨gb222, 1, none⟩ = some (.int .i64 a1_1) := (blk_cell BK222.out 1).trans rfl
            have hfz17_0 := blk_frozen BK222.out 0
            have hfz17_1 := blk_frozen BK222.out 1
            go_wp2
            go_meet
            case rel => exact ⟨_, (decide (a1_1 > 1073741824)), (by first | rfl | (simp; done) | (simp [*]; done)), H', ⟨by first | omega | exact Nat.le_refl _⟩, ⟨by (with_reducible repeat (first | refine zN ?_ _ | refine zD ?_ | refine zA ?_ _)); exact BK222.out⟩, ⟨by (with_reducible repeat (first | refine zN ?_ _ | refine zD ?_ | refine zA ?_ _)); exact BK223.out⟩, ⟨by repeat (first | (with_reducible first | exact HB.out | apply zB | apply zP | apply zE | refine zS ?_ GE222.out | refine zS ?_ GE223.out) | exact HB.out)⟩⟩
    · rw [if_neg c6] at H
      have c6b0 : ((l0.length : Int) == 40) = false := beq_eq_false_iff_ne.mpr c6
      have c6b1 : ((l0.length : Int) != 40) = true := bne_iff_ne.mpr c6
      (first | rw [c6b0] | (simp only [i64_w, i32_w]; rw [c6b0]) | skip)
      have H' := Aside0.mk H
      clear H
      go_wp2
      go_meet
      case rel => exact ⟨_, (true), (by first | rfl | (simp; done) | (simp [*]; done)), H', ⟨by first | omega | exact Nat.le_refl _⟩, ⟨by (with_reducible repeat (first | refine zN ?_ _ | refine zD ?_ | refine zA ?_ _)); exact BK222.out⟩, ⟨by (with_reducible repeat (first | refine zN ?_ _ | refine zD ?_ | refine zA ?_ _)); exact BK223.out⟩, ⟨by repeat (first | (with_reducible first | exact HB.out | apply zB | apply zP | apply zE | refine zS ?_ GE222.out | refine zS ?_ GE223.out) | exact HB.out)⟩⟩
  case rest =>
    clear HC3
    try clear c1
    try clear c2
    try clear p2
    try clear c6
    try clear c6b0
    try clear c6b1
    try clear c7
    try clear c7b0
    try clear c8
    try clear c10
    try clear c10b0
    try clear c11
    try clear c13
    try clear c13b0
    try clear c14
    try clear c16
    try clear hcz12_0
    try clear hcz12_1
    try clear hcz15_0
    try clear hcz15_1
    try clear hcz17_0
    try clear hcz17_1
    try clear hcz9_0
    try clear hcz9_1
    try clear hfz12_0
    try clear hfz12_1
    try clear hfz15_0
    try clear hfz15_1
    try clear hfz17_0
    try clear hfz17_1
    try clear hfz9_0
    try clear hfz9_1
    obtain ⟨kq, x38_2, rfl, HA, HJ2, BK222, BK223, HB⟩ := hcut
    cases kq with
    | zero => exact absurd HA.out (by simp [drydockref15_Find.j0])
    | succ kj2 =>
      have H := HA.out
      clear HA
      simp only [drydockref15_Find.j0] at H
      by_cases c18 : x38_2 = true
      · subst c18
        have H1 : (some (([] : List (List (S50))), 0, 0, 2)) = some (r1, r2, r3, r4) := by rw [if_pos rfl] at H; exact H
        clear H
        have H := H1
        clear H1
        simp only [Option.some.injEq, Prod.mk.injEq] at H
        obtain ⟨rfl, rfl, rfl, rfl⟩ := H
        have hnb19 := NB223_222.out
        have hnc19 := NB222_223.out
        have hcz20_0 : wc.cell? ⟨gb223, 0, none⟩ = some (.int .i64 0) := (blk_cell BK223.out 0).trans rfl
        have hcz20_1 : wc.cell? ⟨gb223, 1, none⟩ = some (.int .i64 0) := (blk_cell BK223.out 1).trans rfl
        have hfz20_0 := blk_frozen BK223.out 0
        have hfz20_1 := blk_frozen BK223.out 1
        go_wp2
        refine bodyPost_ret (results_list (rs := [.tmp 4, .cell 5 41, .tmp 6]) rfl (by simp) (.tmp (.cell gb223 41 #[.int .i64 0, .int .i64 0] (0, 0) _ rfl (by (with_reducible repeat (first | refine zN ?_ _ | refine zD ?_ | refine zA ?_ _)); refine blk_put (cs := #[.int .i64 0, .int .i64 0]) ?_ 1 _ rfl; (with_reducible repeat (first | refine zN ?_ _ | refine zD ?_ | refine zA ?_ _)); refine blk_put (cs := #[.int .i64 0, .int .i64 0]) ?_ 0 _ rfl; (with_reducible repeat (first | refine zN ?_ _ | refine zD ?_ | refine zA ?_ _)); exact BK223.out) Try.underlying41 rfl (by kernel_rfl) (.tmp .nil)))) rfl ?_
        exact ⟨_, by first | rfl | (simp [errW_none, errW_some] <;> rfl) | (simp [*, errW_none, errW_some] <;> rfl), by first | exact Kd.R_nil _ _ _ _ _ | exact Kd.N_nil _ _ _ _ _ | exact Kd.V_nil _ _ _ _ _ | exact Kd.Q_nil _ _ _ _ _ | exact Kd.S_nil _ _ _ _ _, by repeat (first | (with_reducible first | exact HB.out | apply zB | apply zP | apply zE | refine zS ?_ GE222.out | refine zS ?_ GE223.out) | exact HB.out)⟩
      · replace c18 := Bool.eq_false_iff.mpr c18
        subst c18
        have H1 : (drydockref15_Find.l0 kj2 l0 0 a1_0 a1_1) = some (r1, r2, r3, r4) := by rw [if_neg (show ¬ (false = true) by decide)] at H; exact H
        clear H
        have H := H1
        clear H1
        have H' := Aside0.mk H
        clear H
        go_wp2
        go_loopg [7] kj2 (fun kq v7 w' => ∃ (x7_2 : Int) (x224000_2 : Int) (x224001_2 : Int), v7 = .int .i64 x7_2 ∧ Aside0 (drydockref15_Find.l0 kq l0 x7_2 a1_0 a1_1 = some (r1, r2, r3, r4)) ∧ Aside0 (kq ≤ kj2) ∧ Aside0 (w'.heap[gb222]? = some (.cells #[.int .i64 a1_0, .int .i64 a1_1] 41 (0, 0))) ∧ Aside0 (w'.heap[gb223]? = some (.cells #[.int .i64 x224000_2, .int .i64 x224001_2] 41 (0, 0))) ∧ Aside0 (Below w.heap.size w w'))
        case atStart => exact ⟨(0), (0), (0), (by first | rfl | (simp; done) | (simp [*]; done)), H', ⟨Nat.le_refl _⟩, ⟨by (with_reducible repeat (first | refine zN ?_ _ | refine zD ?_ | refine zA ?_ _)); exact BK222.out⟩, ⟨by (with_reducible repeat (first | refine zN ?_ _ | refine zD ?_ | refine zA ?_ _)); exact BK223.out⟩, ⟨by repeat (first | (with_reducible first | exact HB.out | apply zB | apply zP | apply zE | refine zS ?_ GE222.out | refine zS ?_ GE223.out) | exact HB.out)⟩⟩
        case round =>
          clear H'
          try clear c1
          try clear c2
          try clear p2
          try clear c6
          try clear c6b0
          try clear c6b1
          try clear c7
          try clear c7b0
          try clear c8
          try clear c10
          try clear c10b0
          try clear c11
          try clear c13
          try clear c13b0
          try clear c14
          try clear c16
          try clear c18
          try clear c19
          try clear c20
          try clear hcz12_0
          try clear hcz12_1
          try clear hcz15_0
          try clear hcz15_1
          try clear hcz17_0
          try clear hcz17_1
          try clear hcz20_0
          try clear hcz20_1
          try clear hcz9_0
          try clear hcz9_1
          try clear hfz12_0
          try clear hfz12_1
          try clear hfz15_0
          try clear hfz15_1
          try clear hfz17_0
          try clear hfz17_1
          try clear hfz20_0
          try clear hfz20_1
          try clear hfz9_0
          try clear hfz9_1
          try clear p2
          obtain ⟨x7_2, x224000_2, x224001_2, rfl, HA, HK2, BK222, BK223, HB⟩ := hrel
          cases gk with
          | zero => exact absurd HA.out (by simp [drydockref15_Find.l0])
          | succ k2 =>
            have H := HA.out
            clear HA
            simp only [drydockref15_Find.l0] at H
            by_cases c21 : x7_2 < 40
            · rw [if_pos c21] at H
              have c21b0 : decide (x7_2 < 40) = true := decide_eq_true c21
              clear c21
              by_cases c22 : 0 ≤ x7_2
              · rw [if_pos c22] at H
                have c22b0 : decide (0 ≤ x7_2) = true := decide_eq_true c22
                clear c22
                by_cases c23 : x7_2 < (l0.length : Int)
                · rw [if_pos c23] at H
                  have c23b0 : decide (x7_2 < (l0.length : Int)) = true := decide_eq_true c23
                  clear c23
                  by_cases c24 : ((rd_L2 l0 x7_2).length : Int) = 64
                  · rw [if_pos c24] at H
                    have c24b0 : (((rd_L2 l0 x7_2).length : Int) == 64) = true := beq_iff_eq.mpr c24
                    have c24b1 : (((rd_L2 l0 x7_2).length : Int) != 64) = false := bne_eq_false_iff_eq.mpr c24
                    clear c24
                    have H' := Aside0.mk H
                    clear H
                    have p224 : 0 ≤ (x7_2 : Int) := of_decide_eq_true (by first | (with_reducible assumption) | assumption)
                    have q224 : x7_2 < (l0.length : Int) := of_decide_eq_true (by first | (with_reducible assumption) | assumption)
                    obtain ⟨ad224, A224_0, c224_0, e224, hx224_0, hl224_0, hi224_0⟩ := at_L2 HR0.out x7_2 p224 q224
                    cases e224
                    replace hx224_0 := (HB.out.cell (World.block_lt_of_cell? w _ hx224_0)).trans hx224_0
                    have HR224_0 := Aside0.mk hi224_0
                    have HC224_0 := Aside0.mk hl224_0
                    clear hi224_0 hl224_0
                    replace p224 := eq_true p224
                    replace q224 := eq_true q224
                    go_wp2
                    go_roundg k2
                    case measure => have := HJ2.out; have := HK2.out; omega
                    case rel => exact ⟨(wrap64 (x7_2 + 1)), (x224000_2), (x224001_2), (by first | rfl | (simp; done) | (simp [*]; done)), H', ⟨by have := HJ2.out; have := HK2.out; omega⟩, ⟨by (with_reducible repeat (first | refine zN ?_ _ | refine zD ?_ | refine zA ?_ _)); exact BK222.out⟩, ⟨by (with_reducible repeat (first | refine zN ?_ _ | refine zD ?_ | refine zA ?_ _)); exact BK223.out⟩, ⟨by repeat (first | (with_reducible first | exact HB.out | apply zB | apply zP | apply zE | refine zS ?_ GE222.out | refine zS ?_ GE223.out) | exact HB.out)⟩⟩
                  · rw [if_neg c24] at H
                    have c24b0 : (((rd_L2 l0 x7_2).length : Int) == 64) = false := beq_eq_false_iff_ne.mpr c24
                    have c24b1 : (((rd_L2 l0 x7_2).length : Int) != 64) = true := bne_iff_ne.mpr c24
                    simp only [Option.some.injEq, Prod.mk.injEq] at H
                    obtain ⟨rfl, rfl, rfl, rfl⟩ := H
                    have p224 : 0 ≤ (x7_2 : Int) := of_decide_eq_true (by first | (with_reducible assumption) | assumption)
                    have q224 : x7_2 < (l0.length : Int) := of_decide_eq_true (by first | (with_reducible assumption) | assumption)
                    obtain ⟨ad224, A224_0, c224_0, e224, hx224_0, hl224_0, hi224_0⟩ := at_L2 HR0.out x7_2 p224 q224
                    cases e224
                    replace hx224_0 := (HB.out.cell (World.block_lt_of_cell? w _ hx224_0)).trans hx224_0
                    have HR224_0 := Aside0.mk hi224_0
                    have HC224_0 := Aside0.mk hl224_0
                    clear hi224_0 hl224_0
                    replace p224 := eq_true p224
                    replace q224 := eq_true q224
                    have hnb25 := NB223_222.out
                    have hnc25 := NB222_223.out
                    have hcz26_0 : wr.cell? ⟨gb223, 0, none⟩ = some (.int .i64 x224000_2) := (blk_cell BK223.out 0).trans rfl
                    have hcz26_1 : wr.cell? ⟨gb223, 1, none⟩ = some (.int .i64 x224001_2) := (blk_cell BK223.out 1).trans rfl
                    have hfz26_0 := blk_frozen BK223.out 0
                    have hfz26_1 := blk_frozen BK223.out 1
                    go_wp2
                    refine bodyPost_ret (results_list (rs := [.tmp 4, .cell 5 41, .tmp 6]) rfl (by simp) (.tmp (.cell gb223 41 #[.int .i64 0, .int .i64 0] (0, 0) _ rfl (by (with_reducible repeat (first | refine zN ?_ _ | refine zD ?_ | refine zA ?_ _)); refine blk_put (cs := #[.int .i64 0, .int .i64 x224001_2]) ?_ 1 _ rfl; (with_reducible repeat (first | refine zN ?_ _ | refine zD ?_ | refine zA ?_ _)); refine blk_put (cs := #[.int .i64 x224000_2, .int .i64 x224001_2]) ?_ 0 _ rfl; (with_reducible repeat (first | refine zN ?_ _ | refine zD ?_ | refine zA ?_ _)); exact BK223.out) Try.underlying41 rfl (by kernel_rfl) (.tmp .nil)))) rfl ?_
                    exact ⟨_, by first | rfl | (simp [errW_none, errW_some] <;> rfl) | (simp [*, errW_none, errW_some] <;> rfl), by first | exact Kd.R_nil _ _ _ _ _ | exact Kd.N_nil _ _ _ _ _ | exact Kd.V_nil _ _ _ _ _ | exact Kd.Q_nil _ _ _ _ _ | exact Kd.S_nil _ _ _ _ _, by repeat (first | (with_reducible first | exact HB.out | apply zB | apply zP | apply zE | refine zS ?_ GE222.out | refine zS ?_ GE223.out) | exact HB.out)⟩
                · rw [if_neg c23] at H
                  exact absurd H (by simp)
              · rw [if_neg c22] at H
                exact absurd H (by simp)
            · rw [if_neg c21] at H
              have c21b0 : decide (x7_2 < 40) = false := decide_eq_false c21
              clear c21
              obtain ⟨y225, hy225⟩ : ∃ y_ : List (List (S50)), y_ = (([] : List (List (S50)))) := ⟨_, rfl⟩
              replace H : (drydockref15_Find.l1 k2 l0 y225 a1_0 a1_1) = some (r1, r2, r3, r4) := by first | (rw [hy225]; with_reducible exact H) | (have H2_ := (Option.bind_some _ _).symm.trans H; rw [hy225]; with_reducible exact H2_) | (have H2_ := (Option.bind_some _ _).symm.trans H; with_reducible exact H2_) | with_reducible exact H | (rw [hy225]; exact H) | exact H
              have Ny225 := Aside0.mk hy225
              clear hy225
              have H' := Aside0.mk H
              clear H
              go_wp2_with (first | ((with_reducible refine gate_dst (N := 51) rfl ?_); refine Kd.R_lit (Kd.slice 50 k50) _ 46 ?hg (N := 51) ?hd (xs := ([] : List (List (S50)))) (inner := []) (ok := fun _ => True) (okp := fun _ => True) ?hr ?hp (fun _ hk => hk) trivial (Below.refl _ _) (Nat.le_refl _) (by simp) ?_; (case hd => rfl); (case hg => rfl); (case hr => first | (go_simp; done) | (go_simp; rfl)); (case hp => exact (Reps.none _ _)); intro v226 w27 ho28 hb hg_ hnew_; clear hg_ hnew_; (first | rw [← Ny225.out] at ho28 | (simp only [Int.reduceToNat] at ho28; rw [← Ny225.out] at ho28)); have n0_ := Aside0.mk (Kd.R_lower ho28 (below_size (by repeat (first | (with_reducible first | exact HB.out | apply zB | apply zP | apply zE | refine zS ?_ GE222.out | refine zS ?_ GE223.out) | exact HB.out)))); have n1_ := Aside0.mk (blk_below (g := gb222) (o := .cells #[.int .i64 a1_0, .int .i64 a1_1] 41 (0, 0)) (by (with_reducible repeat (first | refine zN ?_ _ | refine zD ?_ | refine zA ?_ _)); exact BK222.out) hb); have n2_ := Aside0.mk (blk_below (g := gb223) (o := .cells #[.int .i64 x224000_2, .int .i64 x224001_2] 41 (0, 0)) (by (with_reducible repeat (first | refine zN ?_ _ | refine zD ?_ | refine zA ?_ _)); exact BK223.out) hb); have n3_ := Aside0.mk (below_step (by repeat (first | (with_reducible first | exact HB.out | apply zB | apply zP | apply zE | refine zS ?_ GE222.out | refine zS ?_ GE223.out) | exact HB.out)) hb); clear BK222; clear BK223; clear HB; have HO227 := n0_; have BK222 := n1_; have BK223 := n2_; have HB := n3_; clear n0_ n1_ n2_ n3_; clear hb ho28))
              go_loopg [8] k2 (fun kq v8 w' => ∃ (x8_3 : List (List (S50))) (x223000_3 : Int) (x223001_3 : Int), Aside0 (drydockref15_Find.l1 kq l0 x8_3 x223000_3 x223001_3 = some (r1, r2, r3, r4)) ∧ Aside0 (kq ≤ k2) ∧ Aside0 (Kd.R (Kd.slice 50 k50) 46 w' w.heap.size (fun _ => True) v8 x8_3) ∧ Aside0 (w'.heap[gb222]? = some (.cells #[.int .i64 x223000_3, .int .i64 x223001_3] 41 (0, 0))) ∧ Aside0 (w'.heap[gb223]? = some (.cells #[.int .i64 x224000_2, .int .i64 x224001_2] 41 (0, 0))) ∧ Aside0 (Below w.heap.size w w'))
              case atStart => exact ⟨(y225), (a1_0), (a1_1), H', ⟨Nat.le_refl _⟩, ⟨by (with_reducible repeat (first | apply Kd.R_alloc | apply Kd.R_drewN | apply Kd.R_drew)); exact HO227.out⟩, ⟨by (with_reducible repeat (first | refine zN ?_ _ | refine zD ?_ | refine zA ?_ _)); exact BK222.out⟩, ⟨by (with_reducible repeat (first | refine zN ?_ _ | refine zD ?_ | refine zA ?_ _)); exact BK223.out⟩, ⟨by repeat (first | (with_reducible first | exact HB.out | apply zB | apply zP | apply zE | refine zS ?_ GE222.out | refine zS ?_ GE223.out) | exact HB.out)⟩⟩
              case round =>
                clear H'
                try clear c1
                try clear c2
                try clear p2
                try clear q2
                try clear hx2
                try clear c6
                try clear c6b0
                try clear c6b1
                try clear p6
                try clear c7
                try clear c7b0
                try clear c8
                try clear c10
                try clear c10b0
                try clear c11
                try clear c13
                try clear c13b0
                try clear c14
                try clear c16
                try clear c18
                try clear c19
                try clear c20
                try clear c21
                try clear c21b0
                try clear c22
                try clear c22b0
                try clear p22
                try clear q22
                try clear hx22
                try clear c23
                try clear c23b0
                try clear c24
                try clear c24b0
                try clear c24b1
                try clear c25
                try clear hcz12_0
                try clear hcz12_1
                try clear hcz15_0
                try clear hcz15_1
                try clear hcz17_0
                try clear hcz17_1
                try clear hcz20_0
                try clear hcz20_1
                try clear hcz26_0
                try clear hcz26_1
                try clear hcz9_0
                try clear hcz9_1
                try clear hfz12_0
                try clear hfz12_1
                try clear hfz15_0
                try clear hfz15_1
                try clear hfz17_0
                try clear hfz17_1
                try clear hfz20_0
                try clear hfz20_1
                try clear hfz26_0
                try clear hfz26_1
                try clear hfz9_0
                try clear hfz9_1
                try clear hx224_0
                try clear p2
                try clear p224
                try clear q224
                obtain ⟨x8_3, x223000_3, x223001_3, HA, HK3, HO_8, BK222, BK223, HB⟩ := hrel
                cases gk with
                | zero => exact absurd HA.out (by simp [drydockref15_Find.l1])
                | succ k3 =>
                  have H := HA.out
                  clear HA
                  simp only [drydockref15_Find.l1] at H
                  by_cases c29 : x223001_3 < 1073741824
                  · rw [if_pos c29] at H
                    have c29b0 : decide (x223001_3 < 1073741824) = true := decide_eq_true c29
                    clear c29
                    by_cases c30 : 0 ≤ x223000_3
                    · rw [if_pos c30] at H
                      have c30b0 : decide (0 ≤ x223000_3) = true := decide_eq_true c30
                      clear c30
                      by_cases c31 : x223000_3 < (l0.length : Int)
                      · rw [if_pos c31] at H
                        have c31b0 : decide (x223000_3 < (l0.length : Int)) = true := decide_eq_true c31
                        clear c31
                        replace H := Option.bind_eq_some_iff.mp H
                        obtain ⟨⟨t229, t230, t233⟩, A320, H⟩ := H
                        replace H : (if t233 = 0 then (drydockref15_Find.j3 k3 l0 x8_3 (wrap64 ((t230.length : Int) + 2)) (t229 != x223001_3) x223000_3 x223001_3 t229 t230) else (drydockref15_Find.j3 k3 l0 x8_3 (wrap64 ((t230.length : Int) + 2)) true x223000_3 x223001_3 t229 t230)) = some (r1, r2, r3, r4) := H
                        have A32 := Aside0.mk A320
                        clear A320
                        have HC33 := Aside0.mk H
                        clear H
                        have hnb34 := NB222_223.out
                        have hnc34 := NB223_222.out
                        have hcz35_0 : wr.cell? ⟨gb222, 0, none⟩ = some (.int .i64 x223000_3) := (blk_cell BK222.out 0).trans rfl
                        have hcz35_1 : wr.cell? ⟨gb222, 1, none⟩ = some (.int .i64 x223001_3) := (blk_cell BK222.out 1).trans rfl
                        have hfz35_0 := blk_frozen BK222.out 0
                        have hfz35_1 := blk_frozen BK222.out 1
                        have p228 : 0 ≤ (x223000_3 : Int) := of_decide_eq_true (by first | (with_reducible assumption) | assumption)
                        have q228 : x223000_3 < (l0.length : Int) := of_decide_eq_true (by first | (with_reducible assumption) | assumption)
                        obtain ⟨ad228, A228_0, c228_0, e228, hx228_0, hl228_0, hi228_0⟩ := at_L2 HR0.out x223000_3 p228 q228
                        cases e228
                        replace hx228_0 := (HB.out.cell (World.block_lt_of_cell? w _ hx228_0)).trans hx228_0
                        have HR228_0 := Aside0.mk hi228_0
                        have HC228_0 := Aside0.mk hl228_0
                        clear hi228_0 hl228_0
                        replace p228 := eq_true p228
                        replace q228 := eq_true q228
                        go_upto_region 12 with (first | ((with_reducible refine gate_callee (f := 12) rfl ?_); refine goesL_ (some 61) rfl rfl Try.func12 (by kernel_rfl) rfl #[.slice A228_0 (rd_L2 l0 x223000_3).length c228_0] rfl (by (try simp only [List.map_toArray, List.map_cons, List.map_nil]); first | done | rfl | (simp only [List.length_drop, List.length_take]; rfl)) ?_; (with_reducible refine (drydockref15_Begins.calls k3 _ _ (rd_L2 l0 x223000_3) t229 t230 t233 _ ?side1 ?side2 A32.out).mono ?_); (case side1 => repeat (first | exact (Kd.C_below HR228_0.out HB.out) | (with_reducible refine Kd.C_alloc ?_ _) | (with_reducible refine Kd.C_drewN ?_ _) | (with_reducible refine Kd.C_drew ?_))); (case side2 => exact HC228_0.out); rintro e w36 ⟨v231, rfl, ho0, hb⟩; refine ⟨_, rfl, ?_⟩; have n0_ := Aside0.mk (Kd.R_below (by (with_reducible repeat (first | apply Kd.R_alloc | apply Kd.R_drewN | apply Kd.R_drew)); exact HO_8.out) hb); have n1_ := Aside0.mk (Kd.R_lower ho0 (below_size (by repeat (first | (with_reducible first | exact HB.out | apply zB | apply zP | apply zE | refine zS ?_ GE222.out | refine zS ?_ GE223.out) | exact HB.out)))); have n2_ := Aside0.mk (blk_below (g := gb222) (o := .cells #[.int .i64 x223000_3, .int .i64 x223001_3] 41 (0, 0)) (by (with_reducible repeat (first | refine zN ?_ _ | refine zD ?_ | refine zA ?_ _)); exact BK222.out) hb); have n3_ := Aside0.mk (blk_below (g := gb223) (o := .cells #[.int .i64 x224000_2, .int .i64 x224001_2] 41 (0, 0)) (by (with_reducible repeat (first | refine zN ?_ _ | refine zD ?_ | refine zA ?_ _)); exact BK223.out) hb); have n4_ := Aside0.mk (below_step (by repeat (first | (with_reducible first | exact HB.out | apply zB | apply zP | apply zE | refine zS ?_ GE222.out | refine zS ?_ GE223.out) | exact HB.out)) hb); clear HO_8; clear BK222; clear BK223; clear HB; have HO_8 := n0_; have HO232 := n1_; have BK222 := n2_; have BK223 := n3_; have HB := n4_; clear n0_ n1_ n2_ n3_ n4_; (try clear hb); (try clear hb2); (try clear hk); (try clear hi); (try clear ho0)) | ((with_reducible refine gate_dst (N := 9) rfl ?_); refine box_event ?hg (N := 9) ?hd (cs := #[.int .i64 0, .slice none 0 0]) (t := 24) ?hr ?_; (case hd => rfl); (case hg => rfl); (case hr => first | (go_simp; done) | (go_simp; rfl)); intro gb234 hg w37 hbox hb; have n0_ := Aside0.mk (Kd.R_below (by (with_reducible repeat (first | apply Kd.R_alloc | apply Kd.R_drewN | apply Kd.R_drew)); exact HO_8.out) hb); have n1_ := Aside0.mk (Kd.R_below (by (with_reducible repeat (first | apply Kd.R_alloc | apply Kd.R_drewN | apply Kd.R_drew)); exact HO232.out) hb); have n2_ := Aside0.mk (blk_below (g := gb222) (o := .cells #[.int .i64 x223000_3, .int .i64 x223001_3] 41 (0, 0)) (by (with_reducible repeat (first | refine zN ?_ _ | refine zD ?_ | refine zA ?_ _)); exact BK222.out) hb); have n3_ := Aside0.mk (blk_below (g := gb223) (o := .cells #[.int .i64 x224000_2, .int .i64 x224001_2] 41 (0, 0)) (by (with_reducible repeat (first | refine zN ?_ _ | refine zD ?_ | refine zA ?_ _)); exact BK223.out) hb); have n4_ := Aside0.mk (below_step (by repeat (first | (with_reducible first | exact HB.out | apply zB | apply zP | apply zE | refine zS ?_ GE222.out | refine zS ?_ GE223.out) | exact HB.out)) hb); have n5_ := Aside0.mk (hbox); have n6_ := Aside0.mk ((by rw [hg]; exact (below_size (by repeat (first | (with_reducible first | exact HB.out | apply zB | apply zP | apply zE | refine zS ?_ GE222.out | refine zS ?_ GE223.out) | exact HB.out))) : w.heap.size ≤ gb234)); have n7_ := Aside0.mk ((by rw [hg]; exact (below_size (by repeat (first | (with_reducible first | exact HB.out | apply zB | apply zP | apply zE | refine zS ?_ GE222.out | refine zS ?_ GE223.out) | exact HB.out))) : w.heap.size ≤ gb234)); have n8_ := Aside0.mk ((by rw [hg]; exact Nat.ne_of_lt (blk_lt (g := gb222) (o := .cells #[.int .i64 x223000_3, .int .i64 x223001_3] 41 (0, 0)) (by (with_reducible repeat (first | refine zN ?_ _ | refine zD ?_ | refine zA ?_ _)); exact BK222.out)) : gb222 ≠ gb234)); have n9_ := Aside0.mk ((by rw [hg]; exact Nat.ne_of_gt (blk_lt (g := gb222) (o := .cells #[.int .i64 x223000_3, .int .i64 x223001_3] 41 (0, 0)) (by (with_reducible repeat (first | refine zN ?_ _ | refine zD ?_ | refine zA ?_ _)); exact BK222.out)) : gb234 ≠ gb222)); have n10_ := Aside0.mk ((by rw [hg]; exact Nat.ne_of_lt (blk_lt (g := gb223) (o := .cells #[.int .i64 x224000_2, .int .i64 x224001_2] 41 (0, 0)) (by (with_reducible repeat (first | refine zN ?_ _ | refine zD ?_ | refine zA ?_ _)); exact BK223.out)) : gb223 ≠ gb234)); have n11_ := Aside0.mk ((by rw [hg]; exact Nat.ne_of_gt (blk_lt (g := gb223) (o := .cells #[.int .i64 x224000_2, .int .i64 x224001_2] 41 (0, 0)) (by (with_reducible repeat (first | refine zN ?_ _ | refine zD ?_ | refine zA ?_ _)); exact BK223.out)) : gb234 ≠ gb223)); clear HO_8; clear HO232; clear BK222; clear BK223; clear HB; have HO_8 := n0_; have HO232 := n1_; have BK222 := n2_; have BK223 := n3_; have HB := n4_; have BK234 := n5_; have GW234 := n6_; have GE234 := n7_; have NB222_234 := n8_; have NB234_222 := n9_; have NB223_234 := n10_; have NB234_223 := n11_; clear n0_ n1_ n2_ n3_ n4_ n5_ n6_ n7_ n8_ n9_ n10_ n11_; clear hb hbox hg; have hnb38 := NB234_222.out; have hnc38 := NB222_234.out; have hnb39 := NB234_223.out; have hnc39 := NB223_234.out; have hcz40_0 : w37.cell? ⟨gb234, 0, none⟩ = some (.int .i64 0) := (blk_cell BK234.out 0).trans rfl; have hcz40_1 : w37.cell? ⟨gb234, 1, none⟩ = some (.slice none 0 0) := (blk_cell BK234.out 1).trans rfl; have hfz40_0 := blk_frozen BK234.out 0; have hfz40_1 := blk_frozen BK234.out 1; obtain ⟨Ao41, co41, eo41⟩ := Kd.R_slice HO232.out; subst eo41))
                        (try simp only [Act.put, List.setIfInBounds_toArray, List.set_cons_zero, List.set_cons_succ])
                        go_cut [76] (fun v76 wc => ∃ (kq : Nat) (x76_32 : Bool), v76 = .bool x76_32 ∧ Aside0 (drydockref15_Find.j3 kq l0 x8_3 (wrap64 ((t230.length : Int) + 2)) x76_32 x223000_3 x223001_3 t229 t230 = some (r1, r2, r3, r4)) ∧ Aside0 (kq ≤ k3) ∧ Aside0 (Kd.R (Kd.slice 50 k50) 46 wc w.heap.size (fun _ => True) u8 x8_3) ∧ Aside0 (Kd.R (Kd.int .i64) 3 wc w.heap.size (fun _ => True) (.slice Ao41 t230.length co41) t230) ∧ Aside0 (wc.heap[gb222]? = some (.cells #[.int .i64 x223000_3, .int .i64 x223001_3] 41 (0, 0))) ∧ Aside0 (wc.heap[gb223]? = some (.cells #[.int .i64 x224000_2, .int .i64 x224001_2] 41 (0, 0))) ∧ Aside0 (wc.heap[gb234]? = some (.cells #[.int .i64 t229, (.slice Ao41 t230.length co41)] 24 (0, 0))) ∧ Aside0 (Below w.heap.size w wc))
                        case first =>
                          have H := HC33.out
                          clear HC33
                          by_cases c42 : t233 = 0
                          · rw [if_pos c42] at H
                            have c42b0 : (t233 == 0) = true := beq_iff_eq.mpr c42
                            have c42b1 : (t233 != 0) = false := bne_eq_false_iff_eq.mpr c42
                            clear c42
                            (first | rw [c42b0] | (simp only [i64_w, i32_w]; rw [c42b0]) | skip)
                            have H' := Aside0.mk H
                            clear H
                            have hnb43 := NB234_222.out
                            have hnc43 := NB222_234.out
                            have hnb44 := NB234_223.out
                            have hnc44 := NB223_234.out
                            have hcz45_0 : w37.cell? ⟨gb234, 0, none⟩ = some (.int .i64 0) := (blk_cell BK234.out 0).trans rfl
                            have hcz45_1 : w37.cell? ⟨gb234, 1, none⟩ = some (.slice none 0 0) := (blk_cell BK234.out 1).trans rfl
                            have hfz45_0 := blk_frozen BK234.out 0
                            have hfz45_1 := blk_frozen BK234.out 1
                            have hnb46 := NB222_223.out
                            have hnc46 := NB223_222.out
                            have hcz47_0 : w37.cell? ⟨gb222, 0, none⟩ = some (.int .i64 x223000_3) := (blk_cell BK222.out 0).trans rfl
                            have hcz47_1 : w37.cell? ⟨gb222, 1, none⟩ = some (.int .i64 x223001_3) := (blk_cell BK222.out 1).trans rfl
                            have hfz47_0 := blk_frozen BK222.out 0
                            have hfz47_1 := blk_frozen BK222.out 1
                            go_wp2
                            go_meet
                            case rel => exact ⟨_, ((t229 != x223001_3)), (by first | rfl | (simp; done) | (simp [*]; done)), H', ⟨by have := HJ2.out; have := HK2.out; have := HK3.out; first | omega | exact Nat.le_refl _⟩, ⟨by (with_reducible repeat (first | apply Kd.R_alloc | apply Kd.R_drewN | apply Kd.R_drew)); exact Kd.R_mono (Kd.R_far (p := ⟨gb234, 1, none⟩) (Kd.R_far (p := ⟨gb234, 0, none⟩) (Kd.R_types HO_8.out BK234.out (by decide)) (fun _ hk => hk.2) (.int .i64 t229)) (fun _ hk => hk.2) (.slice Ao41 t230.length co41)) (fun _ hk => trivial)⟩, ⟨by (with_reducible repeat (first | apply Kd.R_alloc | apply Kd.R_drewN | apply Kd.R_drew)); exact Kd.R_mono (Kd.R_far (p := ⟨gb234, 1, none⟩) (Kd.R_far (p := ⟨gb234, 0, none⟩) (Kd.R_types HO232.out BK234.out (by decide)) (fun _ hk => hk.2) (.int .i64 t229)) (fun _ hk => hk.2) (.slice Ao41 t230.length co41)) (fun _ hk => trivial)⟩, ⟨by (with_reducible repeat (first | refine zN ?_ _ | refine zD ?_ | refine zA ?_ _)); refine blk_far ?_ NB222_234.out _; (with_reducible repeat (first | refine zN ?_ _ | refine zD ?_ | refine zA ?_ _)); refine blk_far ?_ NB222_234.out _; (with_reducible repeat (first | refine zN ?_ _ | refine zD ?_ | refine zA ?_ _)); exact BK222.out⟩, ⟨by (with_reducible repeat (first | refine zN ?_ _ | refine zD ?_ | refine zA ?_ _)); refine blk_far ?_ NB223_234.out _; (with_reducible repeat (first | refine zN ?_ _ | refine zD ?_ | refine zA ?_ _)); refine blk_far ?_ NB223_234.out _; (with_reducible repeat (first | refine zN ?_ _ | refine zD ?_ | refine zA ?_ _)); exact BK223.out⟩, ⟨by (with_reducible repeat (first | refine zN ?_ _ | refine zD ?_ | refine zA ?_ _)); refine blk_put (cs := #[.int .i64 t229, .slice none 0 0]) ?_ 1 _ rfl; (with_reducible repeat (first | refine zN ?_ _ | refine zD ?_ | refine zA ?_ _)); refine blk_put (cs := #[.int .i64 0, .slice none 0 0]) ?_ 0 _ rfl; (with_reducible repeat (first | refine zN ?_ _ | refine zD ?_ | refine zA ?_ _)); exact BK234.out⟩, ⟨by repeat (first | (with_reducible first | exact HB.out | apply zB | apply zP | apply zE | refine zS ?_ GE222.out | refine zS ?_ GE223.out | refine zS ?_ GE234.out) | exact HB.out)⟩⟩
                          · rw [if_neg c42] at H
                            have c42b0 : (t233 == 0) = false := beq_eq_false_iff_ne.mpr c42
                            have c42b1 : (t233 != 0) = true := bne_iff_ne.mpr c42
                            (first | rw [c42b0] | (simp only [i64_w, i32_w]; rw [c42b0]) | skip)
                            have H' := Aside0.mk H
                            clear H
                            go_wp2
                            go_meet
                            case rel => exact ⟨_, (true), (by first | rfl | (simp; done) | (simp [*]; done)), H', ⟨by have := HJ2.out; have := HK2.out; have := HK3.out; first | omega | exact Nat.le_refl _⟩, ⟨by (with_reducible repeat (first | apply Kd.R_alloc | apply Kd.R_drewN | apply Kd.R_drew)); exact Kd.R_mono (Kd.R_far (p := ⟨gb234, 1, none⟩) (Kd.R_far (p := ⟨gb234, 0, none⟩) (Kd.R_types HO_8.out BK234.out (by decide)) (fun _ hk => hk.2) (.int .i64 t229)) (fun _ hk => hk.2) (.slice Ao41 t230.length co41)) (fun _ hk => trivial)⟩, ⟨by (with_reducible repeat (first | apply Kd.R_alloc | apply Kd.R_drewN | apply Kd.R_drew)); exact Kd.R_mono (Kd.R_far (p := ⟨gb234, 1, none⟩) (Kd.R_far (p := ⟨gb234, 0, none⟩) (Kd.R_types HO232.out BK234.out (by decide)) (fun _ hk => hk.2) (.int .i64 t229)) (fun _ hk => hk.2) (.slice Ao41 t230.length co41)) (fun _ hk => trivial)⟩, ⟨by (with_reducible repeat (first | refine zN ?_ _ | refine zD ?_ | refine zA ?_ _)); refine blk_far ?_ NB222_234.out _; (with_reducible repeat (first | refine zN ?_ _ | refine zD ?_ | refine zA ?_ _)); refine blk_far ?_ NB222_234.out _; (with_reducible repeat (first | refine zN ?_ _ | refine zD ?_ | refine zA ?_ _)); exact BK222.out⟩, ⟨by (with_reducible repeat (first | refine zN ?_ _ | refine zD ?_ | refine zA ?_ _)); refine blk_far ?_ NB223_234.out _; (with_reducible repeat (first | refine zN ?_ _ | refine zD ?_ | refine zA ?_ _)); refine blk_far ?_ NB223_234.out _; (with_reducible repeat (first | refine zN ?_ _ | refine zD ?_ | refine zA ?_ _)); exact BK223.out⟩, ⟨by (with_reducible repeat (first | refine zN ?_ _ | refine zD ?_ | refine zA ?_ _)); refine blk_put (cs := #[.int .i64 t229, .slice none 0 0]) ?_ 1 _ rfl; (with_reducible repeat (first | refine zN ?_ _ | refine zD ?_ | refine zA ?_ _)); refine blk_put (cs := #[.int .i64 0, .slice none 0 0]) ?_ 0 _ rfl; (with_reducible repeat (first | refine zN ?_ _ | refine zD ?_ | refine zA ?_ _)); exact BK234.out⟩, ⟨by repeat (first | (with_reducible first | exact HB.out | apply zB | apply zP | apply zE | refine zS ?_ GE222.out | refine zS ?_ GE223.out | refine zS ?_ GE234.out) | exact HB.out)⟩⟩
                        case rest =>
                          clear HC33
                          try clear c1
                          try clear c2
                          try clear p2
                          try clear q2
                          try clear hx2
                          try clear c3
                          try clear c4
                          try clear c6
                          try clear c6b0
                          try clear c6b1
                          try clear p6
                          try clear c7
                          try clear c7b0
                          try clear c8
                          try clear c10
                          try clear c10b0
                          try clear c11
                          try clear c12
                          try clear c13
                          try clear c13b0
                          try clear c14
                          try clear c16
                          try clear c18
                          try clear c19
                          try clear c20
                          try clear c21
                          try clear c21b0
                          try clear c22
                          try clear c22b0
                          try clear p22
                          try clear q22
                          try clear hx22
                          try clear c23
                          try clear c23b0
                          try clear c24
                          try clear c24b0
                          try clear c24b1
                          try clear c25
                          try clear c29
                          try clear c29b0
                          try clear c30
                          try clear c30b0
                          try clear c31
                          try clear c31b0
                          try clear c34
                          try clear c38
                          try clear c39
                          try clear c42
                          try clear c42b0
                          try clear c42b1
                          try clear c43
                          try clear c44
                          try clear c46
                          try clear hcz12_0
                          try clear hcz12_1
                          try clear hcz15_0
                          try clear hcz15_1
                          try clear hcz17_0
                          try clear hcz17_1
                          try clear hcz20_0
                          try clear hcz20_1
                          try clear hcz26_0
                          try clear hcz26_1
                          try clear hcz35_0
                          try clear hcz35_1
                          try clear hcz40_0
                          try clear hcz40_1
                          try clear hcz45_0
                          try clear hcz45_1
                          try clear hcz47_0
                          try clear hcz47_1
                          try clear hcz9_0
                          try clear hcz9_1
                          try clear hfz12_0
                          try clear hfz12_1
                          try clear hfz15_0
                          try clear hfz15_1
                          try clear hfz17_0
                          try clear hfz17_1
                          try clear hfz20_0
                          try clear hfz20_1
                          try clear hfz26_0
                          try clear hfz26_1
                          try clear hfz35_0
                          try clear hfz35_1
                          try clear hfz40_0
                          try clear hfz40_1
                          try clear hfz45_0
                          try clear hfz45_1
                          try clear hfz47_0
                          try clear hfz47_1
                          try clear hfz9_0
                          try clear hfz9_1
                          try clear hx224_0
                          try clear hx228_0
                          try clear p2
                          try clear p22
                          try clear p224
                          try clear p228
                          try clear p6
                          try clear q2
                          try clear q22
                          try clear q224
                          try clear q228
                          obtain ⟨kq, x76_32, rfl, HA, HJ32, HO_8, HO_235001, BK222, BK223, BK234, HB⟩ := hcut
                          cases kq with
                          | zero => exact absurd HA.out (by simp [drydockref15_Find.j3])
                          | succ kj32 =>
                            have H := HA.out
                            clear HA
                            simp only [drydockref15_Find.j3] at H
                            by_cases c48 : x76_32 = true
                            · subst c48
                              have H1 : (some (x8_3, x223000_3, x223001_3, 0)) = some (r1, r2, r3, r4) := by rw [if_pos rfl] at H; exact H
                              clear H
                              have H := H1
                              clear H1
                              simp only [Option.some.injEq, Prod.mk.injEq] at H
                              obtain ⟨rfl, rfl, rfl, rfl⟩ := H
                              try go_wp2
                              have n0_ := Aside0.mk (Kd.R_drew HO_8.out)
                              have n1_ := Aside0.mk (Kd.R_drew HO_235001.out)
                              have n2_ := Aside0.mk (zD BK222.out)
                              have n3_ := Aside0.mk (zD BK223.out)
                              have n4_ := Aside0.mk (zD BK234.out)
                              have n5_ := Aside0.mk (zE HB.out)
                              clear HO_8
                              clear HO_235001
                              clear BK222
                              clear BK223
                              clear BK234
                              clear HB
                              have HO_8 := n0_
                              have HO_235001 := n1_
                              have BK222 := n2_
                              have BK223 := n3_
                              have BK234 := n4_
                              have HB := n5_
                              clear n0_ n1_ n2_ n3_ n4_ n5_
                              refine start_ (n := 5) (S := fun w' => w'.cell? ⟨gb222, 0, none⟩ = some (.int .i64 x223000_3) ∧ w'.cell? ⟨gb222, 1, none⟩ = some (.int .i64 x223001_3)) (ds := []) #[false, false, false, false, false] (by kernel_rfl) rfl rfl ⟨(blk_cell BK222.out 0).trans rfl, (blk_cell BK222.out 1).trans rfl⟩ (fun hHeld => ?_)
                              generalize wc.drew = w49 at HO_8 HO_235001 BK222 BK223 BK234 HB hHeld ⊢
                              refine pure_ (i := 0) (N := some 145) (v := ?_) (a' := ?_) #[true, false, false, false, false] rfl rfl (by kernel_rfl) (fun _ _ _ h => h) (Or.inl ⟨by rfl, ?_⟩) ?_ ?_
                              rotate_left
                              · intro w'
                                go_simp
                                with_reducible rfl
                              rotate_left
                              · simp only [Act.put, List.setIfInBounds_toArray, List.set_cons_zero, List.set_cons_succ, i64_w, i32_w]
                                rfl
                              refine pure_ (i := 2) (N := some 4) (v := ?_) (a' := ?_) #[true, false, true, false, false] rfl rfl (by kernel_rfl) (fun _ _ _ h => h) (Or.inl ⟨by rfl, ?_⟩) ?_ ?_
                              rotate_left
                              · intro w'
                                go_simp
                                with_reducible rfl
                              rotate_left
                              · simp only [Act.put, List.setIfInBounds_toArray, List.set_cons_zero, List.set_cons_succ, i64_w, i32_w]
                                rfl
                              refine take_ (i := 1) (N := some 146) (v := ?_) (a' := ?_) #[true, true, true, false, false] rfl rfl (by kernel_rfl) (fun _ _ _ h => h) (Or.inl ⟨by rfl, ?_⟩) hHeld ?_ ?_
                              rotate_left
                              · rintro w' ⟨s0, s1⟩
                                go_simp
                                with_reducible rfl
                              rotate_left
                              · simp only [Act.put, List.setIfInBounds_toArray, List.set_cons_zero, List.set_cons_succ, i64_w, i32_w]
                                rfl
                              refine one_ (i := 3) (N := none) #[true, true, true, true, false] rfl rfl (by kernel_rfl) (by decide) (fun K hK => ?_)
                              have hs50 : w49.cell? ⟨gb223, 0, none⟩ = some (.int .i64 x224000_2) := (blk_cell BK223.out 0).trans rfl
                              have hfs50 := blk_frozen BK223.out 0
                              have hns50_0 := NB222_223.out
                              have hns50_2 := NB234_223.out
                              have hms50_0 := NB223_222.out
                              have hms50_2 := NB223_234.out
                              have hs51 : w49.cell? ⟨gb223, 1, none⟩ = some (.int .i64 x224001_2) := (blk_cell BK223.out 1).trans rfl
                              have hfs51 := blk_frozen BK223.out 1
                              have hns51_0 := NB222_223.out
                              have hns51_2 := NB234_223.out
                              have hms51_0 := NB223_222.out
                              have hms51_2 := NB223_234.out
                              refine skip_ (w1 := ?_) (by rfl) rfl ?_ ?_
                              rotate_left
                              · go_simp
                                rfl
                              refine hK.out _ _ ⟨((cell_far (p := ⟨gb223, _, none⟩) NB222_223.out _).trans (((cell_far (p := ⟨gb223, _, none⟩) NB222_223.out _).trans (hHeld.1)))), ((cell_far (p := ⟨gb223, _, none⟩) NB222_223.out _).trans (((cell_far (p := ⟨gb223, _, none⟩) NB222_223.out _).trans (hHeld.2))))⟩ (fun hHeld => ?_)
                              clear hK K
                              refine pure_ (i := 4) (N := some 6) (v := ?_) (a' := ?_) #[true, true, true, true, true] rfl rfl (by kernel_rfl) (fun _ _ _ h => h) (Or.inl ⟨by rfl, ?_⟩) ?_ ?_
                              rotate_left
                              · intro w'
                                go_simp
                                with_reducible rfl
                              rotate_left
                              · simp only [Act.put, List.setIfInBounds_toArray, List.set_cons_zero, List.set_cons_succ, i64_w, i32_w]
                                rfl
                              refine done_ (by kernel_rfl) ?_
                              try go_wp2
                              refine bodyPost_ret (results_list (rs := [.tmp 4, .cell 5 41, .tmp 6]) rfl (by simp) (.tmp (.cell gb223 41 #[.int .i64 x223000_3, .int .i64 x223001_3] (0, 0) _ rfl (by (with_reducible repeat (first | refine zN ?_ _ | refine zD ?_ | refine zA ?_ _)); refine blk_put (cs := #[.int .i64 x223000_3, .int .i64 x224001_2]) ?_ 1 _ rfl; (with_reducible repeat (first | refine zN ?_ _ | refine zD ?_ | refine zA ?_ _)); refine blk_put (cs := #[.int .i64 x224000_2, .int .i64 x224001_2]) ?_ 0 _ rfl; (with_reducible repeat (first | refine zN ?_ _ | refine zD ?_ | refine zA ?_ _)); exact BK223.out) Try.underlying41 rfl (by kernel_rfl) (.tmp .nil)))) rfl ?_
                              exact ⟨_, by first | rfl | (simp [errW_none, errW_some] <;> rfl) | (simp [*, errW_none, errW_some] <;> rfl), by (with_reducible repeat (first | apply Kd.R_alloc | apply Kd.R_drewN | apply Kd.R_drew)); exact Kd.R_mono (Kd.R_far (p := ⟨gb223, 1, none⟩) (Kd.R_far (p := ⟨gb223, 0, none⟩) (Kd.R_types HO_8.out BK223.out (by decide)) (fun _ hk => hk.2) (.int .i64 x223000_3)) (fun _ hk => hk.2) (.int .i64 x223001_3)) (fun _ hk => trivial), by repeat (first | (with_reducible first | exact HB.out | apply zB | apply zP | apply zE | refine zS ?_ GE222.out | refine zS ?_ GE223.out | refine zS ?_ GE234.out) | exact HB.out)⟩
                            · replace c48 := Bool.eq_false_iff.mpr c48
                              subst c48
                              have H1 : (if 0 ≤ (Int.tmod (wrap64 ((wrap64 (x223000_3 + (wrap64 ((t230.length : Int) + 2)))) - 1)) 40) then (if (Int.tmod (wrap64 ((wrap64 (x223000_3 + (wrap64 ((t230.length : Int) + 2)))) - 1)) 40) < (l0.length : Int) then ((drydockref15_Ends.f kj32 (rd_L2 l0 (Int.tmod (wrap64 ((wrap64 (x223000_3 + (wrap64 ((t230.length : Int) + 2)))) - 1)) 40))).bind fun bt236 => (if bt236.2.2 = 0 then (if bt236.1 = x223001_3 then (drydockref15_Find.j4 kj32 l0 x8_3 (wrap64 ((t230.length : Int) + 2)) (bt236.2.1 != (wrap64 ((wrap64 ((t230.length : Int) + 2)) - 2))) x223000_3 x223001_3 t229 t230) else (drydockref15_Find.j4 kj32 l0 x8_3 (wrap64 ((t230.length : Int) + 2)) true x223000_3 x223001_3 t229 t230)) else (drydockref15_Find.j4 kj32 l0 x8_3 (wrap64 ((t230.length : Int) + 2)) true x223000_3 x223001_3 t229 t230))) else (none)) else (none)) = some (r1, r2, r3, r4) := by rw [if_neg (show ¬ (false = true) by decide)] at H; exact H
                              clear H
                              have H := H1
                              clear H1
                              obtain ⟨ji52, hji52⟩ : ∃ j_ : Int, (Int.tmod (wrap64 ((wrap64 (x223000_3 + (wrap64 ((t230.length : Int) + 2)))) - 1)) 40) = j_ := ⟨_, rfl⟩
                              replace H : (if 0 ≤ (ji52) then (if (ji52) < (l0.length : Int) then ((drydockref15_Ends.f kj32 (rd_L2 l0 (ji52))).bind fun bt236 => (if bt236.2.2 = 0 then (if bt236.1 = x223001_3 then (drydockref15_Find.j4 kj32 l0 x8_3 (wrap64 ((t230.length : Int) + 2)) (bt236.2.1 != (wrap64 ((wrap64 ((t230.length : Int) + 2)) - 2))) x223000_3 x223001_3 t229 t230) else (drydockref15_Find.j4 kj32 l0 x8_3 (wrap64 ((t230.length : Int) + 2)) true x223000_3 x223001_3 t229 t230)) else (drydockref15_Find.j4 kj32 l0 x8_3 (wrap64 ((t230.length : Int) + 2)) true x223000_3 x223001_3 t229 t230))) else (none)) else (none)) = some (r1, r2, r3, r4) := by first | (rw [hji52] at H; exact H) | (simp only [hji52] at H ⊢; exact H)
                              by_cases c53 : 0 ≤ (ji52)
                              · rw [if_pos c53] at H
                                have c53b0 : decide (0 ≤ (ji52)) = true := decide_eq_true c53
                                clear c53
                                by_cases c54 : (ji52) < (l0.length : Int)
                                · rw [if_pos c54] at H
                                  have c54b0 : decide ((ji52) < (l0.length : Int)) = true := decide_eq_true c54
                                  clear c54
                                  replace H := Option.bind_eq_some_iff.mp H
                                  obtain ⟨⟨t236, t237, t238⟩, A550, H⟩ := H
                                  replace H : (if t238 = 0 then (if t236 = x223001_3 then (drydockref15_Find.j4 kj32 l0 x8_3 (wrap64 ((t230.length : Int) + 2)) (t237 != (wrap64 ((wrap64 ((t230.length : Int) + 2)) - 2))) x223000_3 x223001_3 t229 t230) else (drydockref15_Find.j4 kj32 l0 x8_3 (wrap64 ((t230.length : Int) + 2)) true x223000_3 x223001_3 t229 t230)) else (drydockref15_Find.j4 kj32 l0 x8_3 (wrap64 ((t230.length : Int) + 2)) true x223000_3 x223001_3 t229 t230)) = some (r1, r2, r3, r4) := H
                                  have A55 := Aside0.mk A550
                                  clear A550
                                  have HC56 := Aside0.mk H
                                  clear H
                                  have hnb57 := NB222_223.out
                                  have hnc57 := NB223_222.out
                                  have hnb58 := NB222_234.out
                                  have hnc58 := NB234_222.out
                                  have hcz59_0 : wc.cell? ⟨gb222, 0, none⟩ = some (.int .i64 x223000_3) := (blk_cell BK222.out 0).trans rfl
                                  have hcz59_1 : wc.cell? ⟨gb222, 1, none⟩ = some (.int .i64 x223001_3) := (blk_cell BK222.out 1).trans rfl
                                  have hfz59_0 := blk_frozen BK222.out 0
                                  have hfz59_1 := blk_frozen BK222.out 1
                                  have p235 : 0 ≤ ((ji52) : Int) := of_decide_eq_true (by first | (with_reducible assumption) | assumption)
                                  have q235 : (ji52) < (l0.length : Int) := of_decide_eq_true (by first | (with_reducible assumption) | assumption)
                                  obtain ⟨ad235, A235_0, c235_0, e235, hx235_0, hl235_0, hi235_0⟩ := at_L2 HR0.out (ji52) p235 q235
                                  obtain rfl : ad228 = ad235 := (by injection e235)
                                  replace hx235_0 := (HB.out.cell (World.block_lt_of_cell? w _ hx235_0)).trans hx235_0
                                  have HR235_0 := Aside0.mk hi235_0
                                  have HC235_0 := Aside0.mk hl235_0
                                  clear hi235_0 hl235_0
                                  replace p235 := eq_true p235
                                  replace q235 := eq_true q235
                                  go_upto_region 14 with (first | ((with_reducible refine gate_callee (f := 18) rfl ?_); refine goesL_ (some 87) rfl rfl Try.func18 (by kernel_rfl) rfl #[.slice A235_0 (rd_L2 l0 (ji52)).length c235_0] rfl (by (try simp only [List.map_toArray, List.map_cons, List.map_nil]); first | done | (simp only [hji52]; rfl) | rfl | (simp only [List.length_drop, List.length_take]; rfl)) ?_; (with_reducible refine (drydockref15_Ends.calls kj32 _ _ (rd_L2 l0 (ji52)) t236 t237 t238 _ ?side1 ?side2 A55.out).mono ?_); (case side1 => repeat (first | exact (Kd.C_below HR235_0.out HB.out) | (with_reducible refine Kd.C_alloc ?_ _) | (with_reducible refine Kd.C_drewN ?_ _) | (with_reducible refine Kd.C_drew ?_))); (case side2 => exact HC235_0.out); rintro e w60 ⟨rfl, hb⟩; refine ⟨_, rfl, ?_⟩; have n0_ := Aside0.mk (Kd.R_below (by (with_reducible repeat (first | apply Kd.R_alloc | apply Kd.R_drewN | apply Kd.R_drew)); exact HO_8.out) hb); have n1_ := Aside0.mk (Kd.R_below (by (with_reducible repeat (first | apply Kd.R_alloc | apply Kd.R_drewN | apply Kd.R_drew)); exact HO_235001.out) hb); have n2_ := Aside0.mk (blk_below (g := gb222) (o := .cells #[.int .i64 x223000_3, .int .i64 x223001_3] 41 (0, 0)) (by (with_reducible repeat (first | refine zN ?_ _ | refine zD ?_ | refine zA ?_ _)); exact BK222.out) hb); have n3_ := Aside0.mk (blk_below (g := gb223) (o := .cells #[.int .i64 x224000_2, .int .i64 x224001_2] 41 (0, 0)) (by (with_reducible repeat (first | refine zN ?_ _ | refine zD ?_ | refine zA ?_ _)); exact BK223.out) hb); have n4_ := Aside0.mk (blk_below (g := gb234) (o := .cells #[.int .i64 t229, .slice Ao41 t230.length co41] 24 (0, 0)) (by (with_reducible repeat (first | refine zN ?_ _ | refine zD ?_ | refine zA ?_ _)); exact BK234.out) hb); have n5_ := Aside0.mk (below_step (by repeat (first | (with_reducible first | exact HB.out | apply zB | apply zP | apply zE | refine zS ?_ GE222.out | refine zS ?_ GE223.out | refine zS ?_ GE234.out) | exact HB.out)) hb); clear HO_8; clear HO_235001; clear BK222; clear BK223; clear BK234; clear HB; have HO_8 := n0_; have HO_235001 := n1_; have BK222 := n2_; have BK223 := n3_; have BK234 := n4_; have HB := n5_; clear n0_ n1_ n2_ n3_ n4_ n5_; (try clear hb); (try clear hb2); (try clear hk); (try clear hi)))
                                  (try simp only [Act.put, List.setIfInBounds_toArray, List.set_cons_zero, List.set_cons_succ])
                                  go_cut [104] (fun v104 wc => ∃ (kq : Nat) (x104_55 : Bool), v104 = .bool x104_55 ∧ Aside0 (drydockref15_Find.j4 kq l0 x8_3 (wrap64 ((t230.length : Int) + 2)) x104_55 x223000_3 x223001_3 t229 t230 = some (r1, r2, r3, r4)) ∧ Aside0 (kq ≤ kj32) ∧ Aside0 (Kd.R (Kd.slice 50 k50) 46 wc w.heap.size (fun _ => True) u8 x8_3) ∧ Aside0 (Kd.R (Kd.int .i64) 3 wc w.heap.size (fun _ => True) (.slice Ao41 t230.length co41) t230) ∧ Aside0 (wc.heap[gb222]? = some (.cells #[.int .i64 x223000_3, .int .i64 x223001_3] 41 (0, 0))) ∧ Aside0 (wc.heap[gb223]? = some (.cells #[.int .i64 x224000_2, .int .i64 x224001_2] 41 (0, 0))) ∧ Aside0 (wc.heap[gb234]? = some (.cells #[.int .i64 t229, (.slice Ao41 t230.length co41)] 24 (0, 0))) ∧ Aside0 (Below w.heap.size w wc))
                                  case first =>
                                    have H := HC56.out
                                    clear HC56
                                    by_cases c61 : t238 = 0
                                    · rw [if_pos c61] at H
                                      have c61b0 : (t238 == 0) = true := beq_iff_eq.mpr c61
                                      have c61b1 : (t238 != 0) = false := bne_eq_false_iff_eq.mpr c61
                                      clear c61
                                      (first | rw [c61b0] | (simp only [i64_w, i32_w]; rw [c61b0]) | skip)
                                      by_cases c62 : t236 = x223001_3
                                      · rw [if_pos c62] at H
                                        have c62b0 : (t236 == x223001_3) = true := beq_iff_eq.mpr c62
                                        have c62b1 : (t236 != x223001_3) = false := bne_eq_false_iff_eq.mpr c62
                                        clear c62
                                        have H' := Aside0.mk H
                                        clear H
                                        have hnb63 := NB222_223.out
                                        have hnc63 := NB223_222.out
                                        have hnb64 := NB222_234.out
                                        have hnc64 := NB234_222.out
                                        have hcz65_0 : w60.cell? ⟨gb222, 0, none⟩ = some (.int .i64 x223000_3) := (blk_cell BK222.out 0).trans rfl
                                        have hcz65_1 : w60.cell? ⟨gb222, 1, none⟩ = some (.int .i64 x223001_3) := (blk_cell BK222.out 1).trans rfl
                                        have hfz65_0 := blk_frozen BK222.out 0
                                        have hfz65_1 := blk_frozen BK222.out 1
                                        go_wp2
                                        go_meet
                                        case rel => exact ⟨_, ((t237 != (wrap64 ((wrap64 ((t230.length : Int) + 2)) - 2)))), (by first | rfl | (simp; done) | (simp [*]; done)), H', ⟨by have := HJ2.out; have := HK2.out; have := HK3.out; have := HJ32.out; first | omega | exact Nat.le_refl _⟩, ⟨by (with_reducible repeat (first | apply Kd.R_alloc | apply Kd.R_drewN | apply Kd.R_drew)); exact HO_8.out⟩, ⟨by (with_reducible repeat (first | apply Kd.R_alloc | apply Kd.R_drewN | apply Kd.R_drew)); exact HO_235001.out⟩, ⟨by (with_reducible repeat (first | refine zN ?_ _ | refine zD ?_ | refine zA ?_ _)); exact BK222.out⟩, ⟨by (with_reducible repeat (first | refine zN ?_ _ | refine zD ?_ | refine zA ?_ _)); exact BK223.out⟩, ⟨by (with_reducible repeat (first | refine zN ?_ _ | refine zD ?_ | refine zA ?_ _)); exact BK234.out⟩, ⟨by repeat (first | (with_reducible first | exact HB.out | apply zB | apply zP | apply zE | refine zS ?_ GE222.out | refine zS ?_ GE223.out | refine zS ?_ GE234.out) | exact HB.out)⟩⟩
                                      · rw [if_neg c62] at H
                                        have c62b0 : (t236 == x223001_3) = false := beq_eq_false_iff_ne.mpr c62
                                        have c62b1 : (t236 != x223001_3) = true := bne_iff_ne.mpr c62
                                        have H' := Aside0.mk H
                                        clear H
                                        have hnb66 := NB222_223.out
                                        have hnc66 := NB223_222.out
                                        have hnb67 := NB222_234.out
                                        have hnc67 := NB234_222.out
                                        have hcz68_0 : w60.cell? ⟨gb222, 0, none⟩ = some (.int .i64 x223000_3) := (blk_cell BK222.out 0).trans rfl
                                        have hcz68_1 : w60.cell? ⟨gb222, 1, none⟩ = some (.int .i64 x223001_3) := (blk_cell BK222.out 1).trans rfl
                                        have hfz68_0 := blk_frozen BK222.out 0
                                        have hfz68_1 := blk_frozen BK222.out 1
                                        go_wp2
                                        go_meet
                                        case rel => exact ⟨_, (true), (by first | rfl | (simp; done) | (simp [*]; done)), H', ⟨by have := HJ2.out; have := HK2.out; have := HK3.out; have := HJ32.out; first | omega | exact Nat.le_refl _⟩, ⟨by (with_reducible repeat (first | apply Kd.R_alloc | apply Kd.R_drewN | apply Kd.R_drew)); exact HO_8.out⟩, ⟨by (with_reducible repeat (first | apply Kd.R_alloc | apply Kd.R_drewN | apply Kd.R_drew)); exact HO_235001.out⟩, ⟨by (with_reducible repeat (first | refine zN ?_ _ | refine zD ?_ | refine zA ?_ _)); exact BK222.out⟩, ⟨by (with_reducible repeat (first | refine zN ?_ _ | refine zD ?_ | refine zA ?_ _)); exact BK223.out⟩, ⟨by (with_reducible repeat (first | refine zN ?_ _ | refine zD ?_ | refine zA ?_ _)); exact BK234.out⟩, ⟨by repeat (first | (with_reducible first | exact HB.out | apply zB | apply zP | apply zE | refine zS ?_ GE222.out | refine zS ?_ GE223.out | refine zS ?_ GE234.out) | exact HB.out)⟩⟩
                                    · rw [if_neg c61] at H
                                      have c61b0 : (t238 == 0) = false := beq_eq_false_iff_ne.mpr c61
                                      have c61b1 : (t238 != 0) = true := bne_iff_ne.mpr c61
                                      (first | rw [c61b0] | (simp only [i64_w, i32_w]; rw [c61b0]) | skip)
                                      have H' := Aside0.mk H
                                      clear H
                                      go_wp2
                                      go_meet
                                      case rel => exact ⟨_, (true), (by first | rfl | (simp; done) | (simp [*]; done)), H', ⟨by have := HJ2.out; have := HK2.out; have := HK3.out; have := HJ32.out; first | omega | exact Nat.le_refl _⟩, ⟨by (with_reducible repeat (first | apply Kd.R_alloc | apply Kd.R_drewN | apply Kd.R_drew)); exact HO_8.out⟩, ⟨by (with_reducible repeat (first | apply Kd.R_alloc | apply Kd.R_drewN | apply Kd.R_drew)); exact HO_235001.out⟩, ⟨by (with_reducible repeat (first | refine zN ?_ _ | refine zD ?_ | refine zA ?_ _)); exact BK222.out⟩, ⟨by (with_reducible repeat (first | refine zN ?_ _ | refine zD ?_ | refine zA ?_ _)); exact BK223.out⟩, ⟨by (with_reducible repeat (first | refine zN ?_ _ | refine zD ?_ | refine zA ?_ _)); exact BK234.out⟩, ⟨by repeat (first | (with_reducible first | exact HB.out | apply zB | apply zP | apply zE | refine zS ?_ GE222.out | refine zS ?_ GE223.out | refine zS ?_ GE234.out) | exact HB.out)⟩⟩
                                  case rest =>
                                    clear HC56
                                    try clear c1
                                    try clear c2
                                    try clear p2
                                    try clear q2
                                    try clear hx2
                                    try clear c3
                                    try clear c4
                                    try clear c5
                                    try clear c6
                                    try clear c6b0
                                    try clear c6b1
                                    try clear p6
                                    try clear c7
                                    try clear c7b0
                                    try clear c8
                                    try clear c10
                                    try clear c10b0
                                    try clear c11
                                    try clear c12
                                    try clear c13
                                    try clear c13b0
                                    try clear c14
                                    try clear c16
                                    try clear c18
                                    try clear c19
                                    try clear c20
                                    try clear c21
                                    try clear c21b0
                                    try clear c22
                                    try clear c22b0
                                    try clear p22
                                    try clear q22
                                    try clear hx22
                                    try clear c23
                                    try clear c23b0
                                    try clear p23
                                    try clear q23
                                    try clear hx23
                                    try clear c24
                                    try clear c24b0
                                    try clear c24b1
                                    try clear c25
                                    try clear c29
                                    try clear c29b0
                                    try clear c30
                                    try clear c30b0
                                    try clear c31
                                    try clear c31b0
                                    try clear c34
                                    try clear c38
                                    try clear c39
                                    try clear c42
                                    try clear c42b0
                                    try clear c42b1
                                    try clear c43
                                    try clear c44
                                    try clear c46
                                    try clear c48
                                    try clear c53
                                    try clear c53b0
                                    try clear c54
                                    try clear c54b0
                                    try clear c57
                                    try clear c58
                                    try clear c61
                                    try clear c61b0
                                    try clear c61b1
                                    try clear c62
                                    try clear c62b0
                                    try clear c62b1
                                    try clear c63
                                    try clear c64
                                    try clear p64
                                    try clear c66
                                    try clear c67
                                    try clear hcz12_0
                                    try clear hcz12_1
                                    try clear hcz15_0
                                    try clear hcz15_1
                                    try clear hcz17_0
                                    try clear hcz17_1
                                    try clear hcz20_0
                                    try clear hcz20_1
                                    try clear hcz26_0
                                    try clear hcz26_1
                                    try clear hcz35_0
                                    try clear hcz35_1
                                    try clear hcz40_0
                                    try clear hcz40_1
                                    try clear hcz45_0
                                    try clear hcz45_1
                                    try clear hcz47_0
                                    try clear hcz47_1
                                    try clear hcz59_0
                                    try clear hcz59_1
                                    try clear hcz65_0
                                    try clear hcz65_1
                                    try clear hcz68_0
                                    try clear hcz68_1
                                    try clear hcz9_0
                                    try clear hcz9_1
                                    try clear hfz12_0
                                    try clear hfz12_1
                                    try clear hfz15_0
                                    try clear hfz15_1
                                    try clear hfz17_0
                                    try clear hfz17_1
                                    try clear hfz20_0
                                    try clear hfz20_1
                                    try clear hfz26_0
                                    try clear hfz26_1
                                    try clear hfz35_0
                                    try clear hfz35_1
                                    try clear hfz40_0
                                    try clear hfz40_1
                                    try clear hfz45_0
                                    try clear hfz45_1
                                    try clear hfz47_0
                                    try clear hfz47_1
                                    try clear hfz59_0
                                    try clear hfz59_1
                                    try clear hfz65_0
                                    try clear hfz65_1
                                    try clear hfz68_0
                                    try clear hfz68_1
                                    try clear hfz9_0
                                    try clear hfz9_1
                                    try clear hx224_0
                                    try clear hx228_0
                                    try clear hx235_0
                                    try clear p2
                                    try clear p22
                                    try clear p224
                                    try clear p228
                                    try clear p235
                                    try clear p6
                                    try clear q2
                                    try clear q22
                                    try clear q224
                                    try clear q228
                                    try clear q235
                                    obtain ⟨kq, x104_55, rfl, HA, HJ55, HO_8, HO_235001, BK222, BK223, BK234, HB⟩ := hcut
                                    cases kq with
                                    | zero => exact absurd HA.out (by simp [drydockref15_Find.j4])
                                    | succ kj55 =>
                                      have H := HA.out
                                      clear HA
                                      simp only [drydockref15_Find.j4] at H
                                      by_cases c69 : x104_55 = true
                                      · subst c69
                                        have H1 : (some (x8_3, x223000_3, x223001_3, 0)) = some (r1, r2, r3, r4) := by rw [if_pos rfl] at H; exact H
                                        clear H
                                        have H := H1
                                        clear H1
                                        simp only [Option.some.injEq, Prod.mk.injEq] at H
                                        obtain ⟨rfl, rfl, rfl, rfl⟩ := H
                                        try go_wp2
                                        have n0_ := Aside0.mk (Kd.R_drew HO_8.out)
                                        have n1_ := Aside0.mk (Kd.R_drew HO_235001.out)
                                        have n2_ := Aside0.mk (zD BK222.out)
                                        have n3_ := Aside0.mk (zD BK223.out)
                                        have n4_ := Aside0.mk (zD BK234.out)
                                        have n5_ := Aside0.mk (zE HB.out)
                                        clear HO_8
                                        clear HO_235001
                                        clear BK222
                                        clear BK223
                                        clear BK234
                                        clear HB
                                        have HO_8 := n0_
                                        have HO_235001 := n1_
                                        have BK222 := n2_
                                        have BK223 := n3_
                                        have BK234 := n4_
                                        have HB := n5_
                                        clear n0_ n1_ n2_ n3_ n4_ n5_
                                        refine start_ (n := 5) (S := fun w' => w'.cell? ⟨gb222, 0, none⟩ = some (.int .i64 x223000_3) ∧ w'.cell? ⟨gb222, 1, none⟩ = some (.int .i64 x223001_3)) (ds := []) #[false, false, false, false, false] (by kernel_rfl) rfl rfl ⟨(blk_cell BK222.out 0).trans rfl, (blk_cell BK222.out 1).trans rfl⟩ (fun hHeld => ?_)
                                        generalize wc.drew = w70 at HO_8 HO_235001 BK222 BK223 BK234 HB hHeld ⊢
                                        refine pure_ (i := 0) (N := some 145) (v := ?_) (a' := ?_) #[true, false, false, false, false] rfl rfl (by kernel_rfl) (fun _ _ _ h => h) (Or.inl ⟨by rfl, ?_⟩) ?_ ?_
                                        rotate_left
                                        · intro w'
                                          go_simp
                                          with_reducible rfl
                                        rotate_left
                                        · simp only [Act.put, List.setIfInBounds_toArray, List.set_cons_zero, List.set_cons_succ, i64_w, i32_w]
                                          rfl
                                        refine pure_ (i := 2) (N := some 4) (v := ?_) (a' := ?_) #[true, false, true, false, false] rfl rfl (by kernel_rfl) (fun _ _ _ h => h) (Or.inl ⟨by rfl, ?_⟩) ?_ ?_
                                        rotate_left
                                        · intro w'
                                          go_simp
                                          with_reducible rfl
                                        rotate_left
                                        · simp only [Act.put, List.setIfInBounds_toArray, List.set_cons_zero, List.set_cons_succ, i64_w, i32_w]
                                          rfl
                                        refine take_ (i := 1) (N := some 146) (v := ?_) (a' := ?_) #[true, true, true, false, false] rfl rfl (by kernel_rfl) (fun _ _ _ h => h) (Or.inl ⟨by rfl, ?_⟩) hHeld ?_ ?_
                                        rotate_left
                                        · rintro w' ⟨s0, s1⟩
                                          go_simp
                                          with_reducible rfl
                                        rotate_left
                                        · simp only [Act.put, List.setIfInBounds_toArray, List.set_cons_zero, List.set_cons_succ, i64_w, i32_w]
                                          rfl
                                        refine one_ (i := 3) (N := none) #[true, true, true, true, false] rfl rfl (by kernel_rfl) (by decide) (fun K hK => ?_)
                                        have hs71 : w70.cell? ⟨gb223, 0, none⟩ = some (.int .i64 x224000_2) := (blk_cell BK223.out 0).trans rfl
                                        have hfs71 := blk_frozen BK223.out 0
                                        have hns71_0 := NB222_223.out
                                        have hns71_2 := NB234_223.out
                                        have hms71_0 := NB223_222.out
                                        have hms71_2 := NB223_234.out
                                        have hs72 : w70.cell? ⟨gb223, 1, none⟩ = some (.int .i64 x224001_2) := (blk_cell BK223.out 1).trans rfl
                                        have hfs72 := blk_frozen BK223.out 1
                                        have hns72_0 := NB222_223.out
                                        have hns72_2 := NB234_223.out
                                        have hms72_0 := NB223_222.out
                                        have hms72_2 := NB223_234.out
                                        refine skip_ (w1 := ?_) (by rfl) rfl ?_ ?_
                                        rotate_left
                                        · go_simp
                                          rfl
                                        refine hK.out _ _ ⟨((cell_far (p := ⟨gb223, _, none⟩) NB222_223.out _).trans (((cell_far (p := ⟨gb223, _, none⟩) NB222_223.out _).trans (hHeld.1)))), ((cell_far (p := ⟨gb223, _, none⟩) NB222_223.out _).trans (((cell_far (p := ⟨gb223, _, none⟩) NB222_223.out _).trans (hHeld.2))))⟩ (fun hHeld => ?_)
                                        clear hK K
                                        refine pure_ (i := 4) (N := some 6) (v := ?_) (a' := ?_) #[true, true, true, true, true] rfl rfl (by kernel_rfl) (fun _ _ _ h => h) (Or.inl ⟨by rfl, ?_⟩) ?_ ?_
                                        rotate_left
                                        · intro w'
                                          go_simp
                                          with_reducible rfl
                                        rotate_left
                                        · simp only [Act.put, List.setIfInBounds_toArray, List.set_cons_zero, List.set_cons_succ, i64_w, i32_w]
                                          rfl
                                        refine done_ (by kernel_rfl) ?_
                                        try go_wp2
                                        refine bodyPost_ret (results_list (rs := [.tmp 4, .cell 5 41, .tmp 6]) rfl (by simp) (.tmp (.cell gb223 41 #[.int .i64 x223000_3, .int .i64 x223001_3] (0, 0) _ rfl (by (with_reducible repeat (first | refine zN ?_ _ | refine zD ?_ | refine zA ?_ _)); refine blk_put (cs := #[.int .i64 x223000_3, .int .i64 x224001_2]) ?_ 1 _ rfl; (with_reducible repeat (first | refine zN ?_ _ | refine zD ?_ | refine zA ?_ _)); refine blk_put (cs := #[.int .i64 x224000_2, .int .i64 x224001_2]) ?_ 0 _ rfl; (with_reducible repeat (first | refine zN ?_ _ | refine zD ?_ | refine zA ?_ _)); exact BK223.out) Try.underlying41 rfl (by kernel_rfl) (.tmp .nil)))) rfl ?_
                                        exact ⟨_, by first | rfl | (simp [errW_none, errW_some] <;> rfl) | (simp only [← hji52]; first | rfl | (simp [errW_none, errW_some] <;> rfl)) | (simp [*, errW_none, errW_some] <;> rfl), by (with_reducible repeat (first | apply Kd.R_alloc | apply Kd.R_drewN | apply Kd.R_drew)); exact Kd.R_mono (Kd.R_far (p := ⟨gb223, 1, none⟩) (Kd.R_far (p := ⟨gb223, 0, none⟩) (Kd.R_types HO_8.out BK223.out (by decide)) (fun _ hk => hk.2) (.int .i64 x223000_3)) (fun _ hk => hk.2) (.int .i64 x223001_3)) (fun _ hk => trivial), by repeat (first | (with_reducible first | exact HB.out | apply zB | apply zP | apply zE | refine zS ?_ GE222.out | refine zS ?_ GE223.out | refine zS ?_ GE234.out) | exact HB.out)⟩
                                      · replace c69 := Bool.eq_false_iff.mpr c69
                                        subst c69
                                        have H1 : (drydockref15_Find.l2 kj55 l0 x8_3 (wrap64 ((t230.length : Int) + 2)) (([] : List (S50))) 0 x223000_3 x223001_3 t229 t230) = some (r1, r2, r3, r4) := by rw [if_neg (show ¬ (false = true) by decide)] at H; exact H
                                        clear H
                                        have H := H1
                                        clear H1
                                        obtain ⟨y239, hy239⟩ : ∃ y_ : List (S50), y_ = (([] : List (S50))) := ⟨_, rfl⟩
                                        replace H : (drydockref15_Find.l2 kj55 l0 x8_3 (wrap64 ((t230.length : Int) + 2)) y239 0 x223000_3 x223001_3 t229 t230) = some (r1, r2, r3, r4) := by first | (rw [hy239]; with_reducible exact H) | (have H2_ := (Option.bind_some _ _).symm.trans H; rw [hy239]; with_reducible exact H2_) | (have H2_ := (Option.bind_some _ _).symm.trans H; with_reducible exact H2_) | with_reducible exact H | (rw [hy239]; exact H) | exact H
                                        have Ny239 := Aside0.mk hy239
                                        clear hy239
                                        have H' := Aside0.mk H
                                        clear H
                                        go_wp2_with (first | ((with_reducible refine gate_dst (N := 105) rfl ?_); refine Kd.S_lit k50 _ 50 ?hg (N := 105) ?hd (xs := ([] : List (S50))) (inner := []) (ok := fun _ => True) (okp := fun _ => True) ?hr ?hp (fun _ hk => hk) trivial (Below.refl _ _) (Nat.le_refl _) (by simp) ?_; (case hd => rfl); (case hg => rfl); (case hr => first | (go_simp; done) | (go_simp; rfl)); (case hp => exact (Reps.none _ _)); intro v240 w73 ho74 hb hg_ hnew_; clear hg_ hnew_; (first | rw [← Ny239.out] at ho74 | (simp only [Int.reduceToNat] at ho74; rw [← Ny239.out] at ho74)); have n0_ := Aside0.mk (Kd.R_elder' (by (with_reducible repeat (first | apply Kd.R_alloc | apply Kd.R_drewN | apply Kd.R_drew)); exact HO_8.out) (Kd.S_base ho74) hb); have n1_ := Aside0.mk (Kd.R_below (by (with_reducible repeat (first | apply Kd.R_alloc | apply Kd.R_drewN | apply Kd.R_drew)); exact HO_235001.out) hb); have n2_ := Aside0.mk (Kd.S_lower ho74 (below_size (by repeat (first | (with_reducible first | exact HB.out | apply zB | apply zP | apply zE | refine zS ?_ GE222.out | refine zS ?_ GE223.out | refine zS ?_ GE234.out) | exact HB.out)))); have n3_ := Aside0.mk (blk_below (g := gb222) (o := .cells #[.int .i64 x223000_3, .int .i64 x223001_3] 41 (0, 0)) (by (with_reducible repeat (first | refine zN ?_ _ | refine zD ?_ | refine zA ?_ _)); exact BK222.out) hb); have n4_ := Aside0.mk (blk_below (g := gb223) (o := .cells #[.int .i64 x224000_2, .int .i64 x224001_2] 41 (0, 0)) (by (with_reducible repeat (first | refine zN ?_ _ | refine zD ?_ | refine zA ?_ _)); exact BK223.out) hb); have n5_ := Aside0.mk (blk_below (g := gb234) (o := .cells #[.int .i64 t229, .slice Ao41 t230.length co41] 24 (0, 0)) (by (with_reducible repeat (first | refine zN ?_ _ | refine zD ?_ | refine zA ?_ _)); exact BK234.out) hb); have n6_ := Aside0.mk (below_step (by repeat (first | (with_reducible first | exact HB.out | apply zB | apply zP | apply zE | refine zS ?_ GE222.out | refine zS ?_ GE223.out | refine zS ?_ GE234.out) | exact HB.out)) hb); clear HO_8; clear HO_235001; clear BK222; clear BK223; clear BK234; clear HB; have HO_8 := n0_; have HO_235001 := n1_; have HO241 := n2_; have BK222 := n3_; have BK223 := n4_; have BK234 := n5_; have HB := n6_; clear n0_ n1_ n2_ n3_ n4_ n5_ n6_; clear hb ho74))
                                        go_loopg [14, 15] kj55 (fun kq v14 v15 w' => ∃ (x14_6 : List (S50)) (x15_6 : Int), v15 = .int .i64 x15_6 ∧ Aside0 (drydockref15_Find.l2 kq l0 x8_3 (wrap64 ((t230.length : Int) + 2)) x14_6 x15_6 x223000_3 x223001_3 t229 t230 = some (r1, r2, r3, r4)) ∧ Aside0 (kq ≤ kj55) ∧ Aside0 (Kd.R (Kd.slice 50 k50) 46 w' w.heap.size (fun k_ => some k_ ≠ (v14 : Value).ownBlock) u8 x8_3) ∧ Aside0 (Kd.S k50 50 w' w.heap.size (fun _ => True) v14 x14_6) ∧ Aside0 (Kd.R (Kd.int .i64) 3 w' w.heap.size (fun _ => True) (.slice Ao41 t230.length co41) t230) ∧ Aside0 (w'.heap[gb222]? = some (.cells #[.int .i64 x223000_3, .int .i64 x223001_3] 41 (0, 0))) ∧ Aside0 (w'.heap[gb223]? = some (.cells #[.int .i64 x224000_2, .int .i64 x224001_2] 41 (0, 0))) ∧ Aside0 (w'.heap[gb234]? = some (.cells #[.int .i64 t229, (.slice Ao41 t230.length co41)] 24 (0, 0))) ∧ Aside0 (Below w.heap.size w w'))
                                        case atStart => exact ⟨(y239), (0), (by first | rfl | (simp; done) | (simp [*]; done)), H', ⟨Nat.le_refl _⟩, ⟨by (with_reducible repeat (first | apply Kd.R_alloc | apply Kd.R_drewN | apply Kd.R_drew)); exact Kd.R_mono HO_8.out (fun _ hk => hk.2)⟩, ⟨by (with_reducible repeat (first | apply Kd.S_alloc | apply Kd.S_drewN | apply Kd.S_drew)); exact HO241.out⟩, ⟨by (with_reducible repeat (first | apply Kd.R_alloc | apply Kd.R_drewN | apply Kd.R_drew)); exact HO_235001.out⟩, ⟨by (with_reducible repeat (first | refine zN ?_ _ | refine zD ?_ | refine zA ?_ _)); exact BK222.out⟩, ⟨by (with_reducible repeat (first | refine zN ?_ _ | refine zD ?_ | refine zA ?_ _)); exact BK223.out⟩, ⟨by (with_reducible repeat (first | refine zN ?_ _ | refine zD ?_ | refine zA ?_ _)); exact BK234.out⟩, ⟨by repeat (first | (with_reducible first | exact HB.out | apply zB | apply zP | apply zE | refine zS ?_ GE222.out | refine zS ?_ GE223.out | refine zS ?_ GE234.out) | exact HB.out)⟩⟩
                                        case round =>
                                          clear H'
                                          try clear c1
                                          try clear c2
                                          try clear p2
                                          try clear q2
                                          try clear hx2
                                          try clear c3
                                          try clear c4
                                          try clear c5
                                          try clear c6
                                          try clear c6b0
                                          try clear c6b1
                                          try clear p6
                                          try clear c7
                                          try clear c7b0
                                          try clear c8
                                          try clear c10
                                          try clear c10b0
                                          try clear c11
                                          try clear c12
                                          try clear c13
                                          try clear c13b0
                                          try clear c14
                                          try clear c16
                                          try clear c18
                                          try clear c19
                                          try clear c20
                                          try clear c21
                                          try clear c21b0
                                          try clear c22
                                          try clear c22b0
                                          try clear p22
                                          try clear q22
                                          try clear hx22
                                          try clear c23
                                          try clear c23b0
                                          try clear p23
                                          try clear q23
                                          try clear hx23
                                          try clear c24
                                          try clear c24b0
                                          try clear c24b1
                                          try clear c25
                                          try clear c29
                                          try clear c29b0
                                          try clear c30
                                          try clear c30b0
                                          try clear c31
                                          try clear c31b0
                                          try clear c34
                                          try clear c38
                                          try clear c39
                                          try clear c42
                                          try clear c42b0
                                          try clear c42b1
                                          try clear c43
                                          try clear c44
                                          try clear c46
                                          try clear c48
                                          try clear c53
                                          try clear c53b0
                                          try clear c54
                                          try clear c54b0
                                          try clear c57
                                          try clear c58
                                          try clear c61
                                          try clear c61b0
                                          try clear c61b1
                                          try clear c62
                                          try clear c62b0
                                          try clear c62b1
                                          try clear c63
                                          try clear c64
                                          try clear p64
                                          try clear c66
                                          try clear c67
                                          try clear c69
                                          try clear hcz12_0
                                          try clear hcz12_1
                                          try clear hcz15_0
                                          try clear hcz15_1
                                          try clear hcz17_0
                                          try clear hcz17_1
                                          try clear hcz20_0
                                          try clear hcz20_1
                                          try clear hcz26_0
                                          try clear hcz26_1
                                          try clear hcz35_0
                                          try clear hcz35_1
                                          try clear hcz40_0
                                          try clear hcz40_1
                                          try clear hcz45_0
                                          try clear hcz45_1
                                          try clear hcz47_0
                                          try clear hcz47_1
                                          try clear hcz59_0
                                          try clear hcz59_1
                                          try clear hcz65_0
                                          try clear hcz65_1
                                          try clear hcz68_0
                                          try clear hcz68_1
                                          try clear hcz9_0
                                          try clear hcz9_1
                                          try clear hfz12_0
                                          try clear hfz12_1
                                          try clear hfz15_0
                                          try clear hfz15_1
                                          try clear hfz17_0
                                          try clear hfz17_1
                                          try clear hfz20_0
                                          try clear hfz20_1
                                          try clear hfz26_0
                                          try clear hfz26_1
                                          try clear hfz35_0
                                          try clear hfz35_1
                                          try clear hfz40_0
                                          try clear hfz40_1
                                          try clear hfz45_0
                                          try clear hfz45_1
                                          try clear hfz47_0
                                          try clear hfz47_1
                                          try clear hfz59_0
                                          try clear hfz59_1
                                          try clear hfz65_0
                                          try clear hfz65_1
                                          try clear hfz68_0
                                          try clear hfz68_1
                                          try clear hfz9_0
                                          try clear hfz9_1
                                          try clear hx224_0
                                          try clear hx228_0
                                          try clear hx235_0
                                          try clear p2
                                          try clear p22
                                          try clear p224
                                          try clear p228
                                          try clear p23
                                          try clear p235
                                          try clear p6
                                          try clear p64
                                          try clear q2
                                          try clear q22
                                          try clear q224
                                          try clear q228
                                          try clear q23
                                          try clear q235
                                          obtain ⟨x14_6, x15_6, rfl, HA, HK6, HO_8, HO_14, HO_235001, BK222, BK223, BK234, HB⟩ := hrel
                                          cases gk with
                                          | zero => exact absurd HA.out (by simp [drydockref15_Find.l2])
                                          | succ k6 =>
                                            have H := HA.out
                                            clear HA
                                            simp only [drydockref15_Find.l2] at H
                                            by_cases c75 : x15_6 < (wrap64 ((wrap64 ((t230.length : Int) + 2)) - 2))
                                            · rw [if_pos c75] at H
                                              have c75b0 : decide (x15_6 < (wrap64 ((wrap64 ((t230.length : Int) + 2)) - 2))) = true := decide_eq_true c75
                                              clear c75
                                              by_cases c76 : 0 ≤ x15_6
                                              · rw [if_pos c76] at H
                                                have c76b0 : decide (0 ≤ x15_6) = true := decide_eq_true c76
                                                clear c76
                                                by_cases c77 : x15_6 < (t230.length : Int)
                                                · rw [if_pos c77] at H
                                                  have c77b0 : decide (x15_6 < (t230.length : Int)) = true := decide_eq_true c77
                                                  clear c77
                                                  obtain ⟨y243, hy243⟩ : ∃ y_ : List Int, y_ = (([] : List Int)) := ⟨_, rfl⟩
                                                  replace H : (if 0 ≤ (Int.tmod (wrap64 ((wrap64 (x223000_3 + 1)) + x15_6)) 40) then (if (Int.tmod (wrap64 ((wrap64 (x223000_3 + 1)) + x15_6)) 40) < (l0.length : Int) then (if y243.length + (rd_L2 l0 (Int.tmod (wrap64 ((wrap64 (x223000_3 + 1)) + x15_6)) 40)).length < 140737488355328 then (if x14_6.length < 4398046511104 then (drydockref15_Find.l2 k6 l0 x8_3 (wrap64 ((t230.length : Int) + 2)) (x14_6 ++ [(⟨rd t230 x15_6, (y243 ++ (rd_L2 l0 (Int.tmod (wrap64 ((wrap64 (x223000_3 + 1)) + x15_6)) 40)))⟩ : S50)]) (wrap64 (x15_6 + 1)) x223000_3 x223001_3 t229 t230) else (none)) else (none)) else (none)) else (none)) = some (r1, r2, r3, r4) := by first | (rw [hy243]; with_reducible exact H) | (have H2_ := (Option.bind_some _ _).symm.trans H; rw [hy243]; with_reducible exact H2_) | (have H2_ := (Option.bind_some _ _).symm.trans H; with_reducible exact H2_) | with_reducible exact H | (rw [hy243]; exact H) | exact H
                                                  have Ny243 := Aside0.mk hy243
                                                  clear hy243
                                                  obtain ⟨ji78, hji78⟩ : ∃ j_ : Int, (Int.tmod (wrap64 ((wrap64 (x223000_3 + 1)) + x15_6)) 40) = j_ := ⟨_, rfl⟩
                                                  replace H : (if 0 ≤ (ji78) then (if (ji78) < (l0.length : Int) then (if y243.length + (rd_L2 l0 (ji78)).length < 140737488355328 then (if x14_6.length < 4398046511104 then (drydockref15_Find.l2 k6 l0 x8_3 (wrap64 ((t230.length : Int) + 2)) (x14_6 ++ [(⟨rd t230 x15_6, (y243 ++ (rd_L2 l0 (ji78)))⟩ : S50)]) (wrap64 (x15_6 + 1)) x223000_3 x223001_3 t229 t230) else (none)) else (none)) else (none)) else (none)) = some (r1, r2, r3, r4) := by first | (rw [hji78] at H; exact H) | (simp only [hji78] at H ⊢; exact H)
                                                  by_cases c79 : 0 ≤ (ji78)
                                                  · rw [if_pos c79] at H
                                                    have c79b0 : decide (0 ≤ (ji78)) = true := decide_eq_true c79
                                                    clear c79
                                                    by_cases c80 : (ji78) < (l0.length : Int)
                                                    · rw [if_pos c80] at H
                                                      have c80b0 : decide ((ji78) < (l0.length : Int)) = true := decide_eq_true c80
                                                      clear c80
                                                      by_cases c81 : y243.length + (rd_L2 l0 (ji78)).length < 140737488355328
                                                      · rw [if_pos c81] at H
                                                        have LMc81 := Aside0.mk c81
                                                        clear c81
                                                        obtain ⟨y247, hy247⟩ : ∃ y_ : List Int, y_ = (y243 ++ (rd_L2 l0 (ji78))) := ⟨_, rfl⟩
                                                        replace H : (if x14_6.length < 4398046511104 then (drydockref15_Find.l2 k6 l0 x8_3 (wrap64 ((t230.length : Int) + 2)) (x14_6 ++ [(⟨rd t230 x15_6, y247⟩ : S50)]) (wrap64 (x15_6 + 1)) x223000_3 x223001_3 t229 t230) else (none)) = some (r1, r2, r3, r4) := by first | (rw [hy247]; with_reducible exact H) | (have H2_ := (Option.bind_some _ _).symm.trans H; rw [hy247]; with_reducible exact H2_) | (have H2_ := (Option.bind_some _ _).symm.trans H; with_reducible exact H2_) | with_reducible exact H | (rw [hy247]; exact H) | exact H
                                                        have Ny247 := Aside0.mk hy247
                                                        clear hy247
                                                        by_cases c82 : x14_6.length < 4398046511104
                                                        · rw [if_pos c82] at H
                                                          have LMc82 := Aside0.mk c82
                                                          clear c82
                                                          obtain ⟨y250, hy250⟩ : ∃ y_ : List (S50), y_ = (x14_6 ++ [(⟨rd t230 x15_6, y247⟩ : S50)]) := ⟨_, rfl⟩
                                                          replace H : (drydockref15_Find.l2 k6 l0 x8_3 (wrap64 ((t230.length : Int) + 2)) y250 (wrap64 (x15_6 + 1)) x223000_3 x223001_3 t229 t230) = some (r1, r2, r3, r4) := by first | (rw [hy250]; with_reducible exact H) | (have H2_ := (Option.bind_some _ _).symm.trans H; rw [hy250]; with_reducible exact H2_) | (have H2_ := (Option.bind_some _ _).symm.trans H; with_reducible exact H2_) | with_reducible exact H | (rw [hy250]; exact H) | exact H
                                                          have Ny250 := Aside0.mk hy250
                                                          clear hy250
                                                          have H' := Aside0.mk H
                                                          clear H
                                                          try go_wp2
                                                          have n0_ := Aside0.mk (Kd.R_drew HO_8.out)
                                                          have n1_ := Aside0.mk (Kd.S_drew HO_14.out)
                                                          have n2_ := Aside0.mk (Kd.R_drew HO_235001.out)
                                                          have n3_ := Aside0.mk (zD BK222.out)
                                                          have n4_ := Aside0.mk (zD BK223.out)
                                                          have n5_ := Aside0.mk (zD BK234.out)
                                                          have n6_ := Aside0.mk (zE HB.out)
                                                          clear HO_8
                                                          clear HO_14
                                                          clear HO_235001
                                                          clear BK222
                                                          clear BK223
                                                          clear BK234
                                                          clear HB
                                                          have HO_8 := n0_
                                                          have HO_14 := n1_
                                                          have HO_235001 := n2_
                                                          have BK222 := n3_
                                                          have BK223 := n4_
                                                          have BK234 := n5_
                                                          have HB := n6_
                                                          clear n0_ n1_ n2_ n3_ n4_ n5_ n6_
                                                          have p242 : 0 ≤ (x15_6 : Int) := of_decide_eq_true (by first | (with_reducible assumption) | assumption)
                                                          have q242 : x15_6 < (t230.length : Int) := of_decide_eq_true (by first | (with_reducible assumption) | assumption)
                                                          obtain ⟨ad242, e242, hx242_0⟩ := Kd.at_int (Kd.R_reads' HO_235001.out).2.2 x15_6 p242 q242
                                                          cases e242
                                                          replace p242 := eq_true p242
                                                          replace q242 := eq_true q242
                                                          have p246 : 0 ≤ ((ji78) : Int) := of_decide_eq_true (by first | (with_reducible assumption) | assumption)
                                                          have q246 : (ji78) < (l0.length : Int) := of_decide_eq_true (by first | (with_reducible assumption) | assumption)
                                                          obtain ⟨ad246, A246_0, c246_0, e246, hx246_0, hl246_0, hi246_0⟩ := at_L2 HR0.out (ji78) p246 q246
                                                          have hw246_0 := hx246_0
                                                          obtain rfl : ad228 = ad246 := (by injection e246)
                                                          replace hx246_0 := (HB.out.cell (World.block_lt_of_cell? w _ hx246_0)).trans hx246_0
                                                          have HR246_0 := Aside0.mk hi246_0
                                                          have HC246_0 := Aside0.mk hl246_0
                                                          clear hi246_0 hl246_0
                                                          replace p246 := eq_true p246
                                                          replace q246 := eq_true q246
                                                          refine start_ (n := 21) (S := fun w' => w'.cell? ⟨gb234, 0, none⟩ = some (.int .i64 t229) ∧ w'.cell? ⟨gb234, 1, none⟩ = some (.slice (some ad242) t230.length co41) ∧ w'.cell? ⟨gb222, 0, none⟩ = some (.int .i64 x223000_3) ∧ w'.cell? ⟨gb222, 1, none⟩ = some (.int .i64 x223001_3) ∧ w'.cell? (ad242.add (x15_6).toNat) = some (.int .i64 (rd t230 x15_6)) ∧ w'.cell? (ad228.add ((ji78)).toNat) = some (.slice A246_0 (rd_L2 l0 (ji78)).length c246_0)) (ds := [18, 19]) #[false, false, false, false, false, false, false, false, false, false, false, false, false, false, false, false, false, false, false, false, false] (by kernel_rfl) rfl rfl ⟨(blk_cell BK234.out 0).trans rfl, (blk_cell BK234.out 1).trans rfl, (blk_cell BK222.out 0).trans rfl, (blk_cell BK222.out 1).trans rfl, hx242_0, ((HB.out.cell (World.block_lt_of_cell? w _ hw246_0)).trans hw246_0)⟩ (fun hHeld => ?_); refine with_tabW drydockref15_Find.tab19 drydockref15_Find.bits19 (fun HT_ HW_ => ?_)
                                                          generalize wr.drew = w83 at HO_8 HO_14 HO_235001 BK222 BK223 BK234 HB HR246_0 hx242_0 hx246_0 hHeld ⊢
                                                          refine pure_ (i := 0) (N := some 112) (v := ?_) (a' := ?_) #[true, false, false, false, false, false, false, false, false, false, false, false, false, false, false, false, false, false, false, false, false] rfl rfl (any_of HT_.out (by kernel_rfl)) (fun _ _ _ h => h) (Or.inl ⟨by rfl, ?_⟩) ?_ ?_
                                                          rotate_left
                                                          · intro w'
                                                            go_simp
                                                            with_reducible rfl
                                                          rotate_left
                                                          · simp only [Act.put, List.setIfInBounds_toArray, List.set_cons_zero, List.set_cons_succ, i64_w, i32_w]
                                                            rfl
                                                          refine pure_ (i := 1) (N := some 113) (v := ?_) (a' := ?_) #[true, true, false, false, false, false, false, false, false, false, false, false, false, false, false, false, false, false, false, false, false] rfl rfl (any_of HT_.out (by kernel_rfl)) (fun _ _ _ h => h) (Or.inl ⟨by rfl, ?_⟩) ?_ ?_
                                                          rotate_left
                                                          · intro w'
                                                            go_simp
                                                            with_reducible rfl
                                                          rotate_left
                                                          · simp only [Act.put, List.setIfInBounds_toArray, List.set_cons_zero, List.set_cons_succ, i64_w, i32_w]
                                                            rfl
                                                          refine pure_ (i := 3) (N := some 115) (v := ?_) (a' := ?_) #[true, true, false, true, false, false, false, false, false, false, false, false, false, false, false, false, false, false, false, false, false] rfl rfl (any_of HT_.out (by kernel_rfl)) (fun _ _ _ h => h) (Or.inl ⟨by rfl, ?_⟩) ?_ ?_
                                                          rotate_left
                                                          · intro w'
                                                            go_simp
                                                            with_reducible rfl
                                                          rotate_left
                                                          · simp only [Act.put, List.setIfInBounds_toArray, List.set_cons_zero, List.set_cons_succ, i64_w, i32_w]
                                                            rfl
                                                          refine pure_ (i := 7) (N := some 119) (v := ?_) (a' := ?_) #[true, true, false, true, false, false, false, true, false, false, false, false, false, false, false, false, false, false, false, false, false] rfl rfl (any_of HT_.out (by kernel_rfl)) (fun _ _ _ h => h) (Or.inl ⟨by rfl, ?_⟩) ?_ ?_
                                                          rotate_left
                                                          · intro w'
                                                            go_simp
                                                            with_reducible rfl
                                                          rotate_left
                                                          · simp only [Act.put, List.setIfInBounds_toArray, List.set_cons_zero, List.set_cons_succ, i64_w, i32_w]
                                                            rfl
                                                          refine pure_ (i := 8) (N := some 120) (v := ?_) (a' := ?_) #[true, true, false, true, false, false, false, true, true, false, false, false, false, false, false, false, false, false, false, false, false] rfl rfl (any_of HT_.out (by kernel_rfl)) (fun _ _ _ h => h) (Or.inl ⟨by rfl, ?_⟩) ?_ ?_
                                                          rotate_left
                                                          · intro w'
                                                            go_simp
                                                            with_reducible rfl
                                                          rotate_left
                                                          · simp only [Act.put, List.setIfInBounds_toArray, List.set_cons_zero, List.set_cons_succ, i64_w, i32_w]
                                                            rfl
                                                          refine pure_ (i := 11) (N := some 123) (v := ?_) (a' := ?_) #[true, true, false, true, false, false, false, true, true, false, false, true, false, false, false, false, false, false, false, false, false] rfl rfl (any_of HT_.out (by kernel_rfl)) (fun _ _ _ h => h) (Or.inl ⟨by rfl, ?_⟩) ?_ ?_
                                                          rotate_left
                                                          · intro w'
                                                            go_simp
                                                            with_reducible rfl
                                                          rotate_left
                                                          · simp only [Act.put, List.setIfInBounds_toArray, List.set_cons_zero, List.set_cons_succ, i64_w, i32_w]
                                                            rfl
                                                          refine take_ (i := 2) (N := some 114) (v := ?_) (a' := ?_) #[true, true, true, true, false, false, false, true, true, false, false, true, false, false, false, false, false, false, false, false, false] rfl rfl (take_ofW HT_.out HW_.out (by kernel_rfl)) (fun _ _ _ h => h) (Or.inl ⟨by rfl, ?_⟩) hHeld ?_ ?_
                                                          rotate_left
                                                          · rintro w' ⟨s0, s1, s2, s3, s4, s5⟩
                                                            go_simp
                                                            with_reducible rfl
                                                          rotate_left
                                                          · simp only [Act.put, List.setIfInBounds_toArray, List.set_cons_zero, List.set_cons_succ, i64_w, i32_w]
                                                            rfl
                                                          refine pure_ (i := 4) (N := some 116) (v := ?_) (a' := ?_) #[true, true, true, true, true, false, false, true, true, false, false, true, false, false, false, false, false, false, false, false, false] rfl rfl (any_of HT_.out (by kernel_rfl)) (fun _ _ _ h => h) (Or.inl ⟨by rfl, ?_⟩) ?_ ?_
                                                          rotate_left
                                                          · intro w'
                                                            go_simp
                                                            with_reducible rfl
                                                          rotate_left
                                                          · simp only [Act.put, List.setIfInBounds_toArray, List.set_cons_zero, List.set_cons_succ, i64_w, i32_w]
                                                            rfl
                                                          refine take_ (i := 5) (N := some 117) (v := ?_) (a' := ?_) #[true, true, true, true, true, true, false, true, true, false, false, true, false, false, false, false, false, false, false, false, false] rfl rfl (take_ofW HT_.out HW_.out (by kernel_rfl)) (fun _ _ _ h => h) (Or.inl ⟨by rfl, ?_⟩) hHeld ?_ ?_
                                                          rotate_left
                                                          · rintro w' ⟨s0, s1, s2, s3, s4, s5⟩
                                                            go_simp
                                                            with_reducible rfl
                                                          rotate_left
                                                          · simp only [Act.put, List.setIfInBounds_toArray, List.set_cons_zero, List.set_cons_succ, i64_w, i32_w]
                                                            rfl
                                                          refine take_ (i := 9) (N := some 121) (v := ?_) (a' := ?_) #[true, true, true, true, true, true, false, true, true, true, false, true, false, false, false, false, false, false, false, false, false] rfl rfl (take_ofW HT_.out HW_.out (by kernel_rfl)) (fun _ _ _ h => h) (Or.inl ⟨by rfl, ?_⟩) hHeld ?_ ?_
                                                          rotate_left
                                                          · rintro w' ⟨s0, s1, s2, s3, s4, s5⟩
                                                            go_simp
                                                            with_reducible rfl
                                                          rotate_left
                                                          · simp only [Act.put, List.setIfInBounds_toArray, List.set_cons_zero, List.set_cons_succ, i64_w, i32_w]
                                                            rfl
                                                          refine pure_ (i := 10) (N := some 122) (v := ?_) (a' := ?_) #[true, true, true, true, true, true, false, true, true, true, true, true, false, false, false, false, false, false, false, false, false] rfl rfl (any_of HT_.out (by kernel_rfl)) (fun _ _ _ h => h) (Or.inl ⟨by rfl, ?_⟩) ?_ ?_
                                                          rotate_left
                                                          · intro w'
                                                            go_simp
                                                            with_reducible rfl
                                                          rotate_left
                                                          · simp only [Act.put, List.setIfInBounds_toArray, List.set_cons_zero, List.set_cons_succ, i64_w, i32_w]
                                                            rfl
                                                          refine pure_ (i := 12) (N := some 124) (v := ?_) (a' := ?_) #[true, true, true, true, true, true, false, true, true, true, true, true, true, false, false, false, false, false, false, false, false] rfl rfl (any_of HT_.out (by kernel_rfl)) (fun _ _ _ h => h) (Or.inl ⟨by rfl, ?_⟩) ?_ ?_
                                                          rotate_left
                                                          · intro w'
                                                            go_simp
                                                            with_reducible rfl
                                                          rotate_left
                                                          · simp only [Act.put, List.setIfInBounds_toArray, List.set_cons_zero, List.set_cons_succ, i64_w, i32_w]
                                                            rfl
                                                          refine pure_ (i := 13) (N := some 125) (v := ?_) (a' := ?_) #[true, true, true, true, true, true, false, true, true, true, true, true, true, true, false, false, false, false, false, false, false] rfl rfl (any_of HT_.out (by kernel_rfl)) (fun _ _ _ h => h) (Or.inl ⟨by rfl, ?_⟩) ?_ ?_
                                                          rotate_left
                                                          · intro w'
                                                            go_simp
                                                            with_reducible rfl
                                                          rotate_left
                                                          · simp only [Act.put, List.setIfInBounds_toArray, List.set_cons_zero, List.set_cons_succ, i64_w, i32_w]
                                                            rfl
                                                          refine pure_ (i := 14) (N := some 126) (v := ?_) (a' := ?_) #[true, true, true, true, true, true, false, true, true, true, true, true, true, true, true, false, false, false, false, false, false] rfl rfl (any_of HT_.out (by kernel_rfl)) (fun _ _ _ h => h) (Or.inl ⟨by rfl, ?_⟩) ?_ ?_
                                                          rotate_left
                                                          · intro w'
                                                            go_simp
                                                            with_reducible rfl
                                                          rotate_left
                                                          · simp only [Act.put, List.setIfInBounds_toArray, List.set_cons_zero, List.set_cons_succ, i64_w, i32_w]
                                                            rfl
                                                          refine take_ (i := 15) (N := some 127) (v := ?_) (a' := ?_) #[true, true, true, true, true, true, false, true, true, true, true, true, true, true, true, true, false, false, false, false, false] rfl rfl (take_ofW HT_.out HW_.out (by kernel_rfl)) (fun _ _ _ h => h) (Or.inl ⟨by rfl, ?_⟩) hHeld ?_ ?_
                                                          rotate_left
                                                          · rintro w' ⟨s0, s1, s2, s3, s4, s5⟩
                                                            go_simp
                                                            with_reducible rfl
                                                          rotate_left
                                                          · simp only [Act.put, List.setIfInBounds_toArray, List.set_cons_zero, List.set_cons_succ, i64_w, i32_w]
                                                            rfl
                                                          refine one_ (i := 6) (N := some 118) #[true, true, true, true, true, true, true, true, true, true, true, true, true, true, true, true, false, false, false, false, false] rfl rfl (one_of HT_.out (by kernel_rfl)) (by decide) (fun K hK => ?_)
                                                          refine Kd.R_lit_step (Kd.int .u8) _ 5 ?hg (N := 118) ?hd (xs := ([] : List Int)) (inner := []) (ok := fun _ => True) (okp := fun _ => True) ?hr ?hp (fun _ hk => hk) trivial (Below.refl _ _) (Nat.le_refl _) (by simp) ?_; (case hd => rfl); (case hg => rfl); (case hr => first | (go_simp; done) | (go_simp; rfl)); (case hp => exact (Reps.none _ _))
                                                          intro v244 w84 ho85 hb hg_ hnew_
                                                          have HS4_ := (hb.cell (World.block_lt_of_cell? _ _ (hHeld.2.2.2.2.1))).trans (hHeld.2.2.2.2.1)
                                                          clear hg_ hnew_
                                                          (first | rw [← Ny243.out] at ho85 | (simp only [Int.reduceToNat] at ho85; rw [← Ny243.out] at ho85))
                                                          have n0_ := Aside0.mk (Kd.R_elder' (by (with_reducible repeat (first | apply Kd.R_alloc | apply Kd.R_drewN | apply Kd.R_drew)); exact HO_8.out) (Kd.R_base ho85) hb)
                                                          have n1_ := Aside0.mk (Kd.S_elder' (by (with_reducible repeat (first | apply Kd.S_alloc | apply Kd.S_drewN | apply Kd.S_drew)); exact HO_14.out) (Kd.R_base ho85) hb)
                                                          have n2_ := Aside0.mk (Kd.R_below (by (with_reducible repeat (first | apply Kd.R_alloc | apply Kd.R_drewN | apply Kd.R_drew)); exact HO_235001.out) hb)
                                                          have n3_ := Aside0.mk (Kd.R_lower ho85 (below_size (by repeat (first | (with_reducible first | exact HB.out | apply zB | apply zP | apply zE | refine zS ?_ GE222.out | refine zS ?_ GE223.out | refine zS ?_ GE234.out) | exact HB.out))))
                                                          have n4_ := Aside0.mk (blk_below (g := gb222) (o := .cells #[.int .i64 x223000_3, .int .i64 x223001_3] 41 (0, 0)) (by (with_reducible repeat (first | refine zN ?_ _ | refine zD ?_ | refine zA ?_ _)); exact BK222.out) hb)
                                                          have n5_ := Aside0.mk (blk_below (g := gb223) (o := .cells #[.int .i64 x224000_2, .int .i64 x224001_2] 41 (0, 0)) (by (with_reducible repeat (first | refine zN ?_ _ | refine zD ?_ | refine zA ?_ _)); exact BK223.out) hb)
                                                          have n6_ := Aside0.mk (blk_below (g := gb234) (o := .cells #[.int .i64 t229, .slice (some ad242) t230.length co41] 24 (0, 0)) (by (with_reducible repeat (first | refine zN ?_ _ | refine zD ?_ | refine zA ?_ _)); exact BK234.out) hb)
                                                          have n7_ := Aside0.mk (below_step (by repeat (first | (with_reducible first | exact HB.out | apply zB | apply zP | apply zE | refine zS ?_ GE222.out | refine zS ?_ GE223.out | refine zS ?_ GE234.out) | exact HB.out)) hb)
                                                          clear HO_8
                                                          clear HO_14
                                                          clear HO_235001
                                                          clear BK222
                                                          clear BK223
                                                          clear BK234
                                                          clear HB
                                                          have HO_8 := n0_
                                                          have HO_14 := n1_
                                                          have HO_235001 := n2_
                                                          have HO245 := n3_
                                                          have BK222 := n4_
                                                          have BK223 := n5_
                                                          have BK234 := n6_
                                                          have HB := n7_
                                                          clear n0_ n1_ n2_ n3_ n4_ n5_ n6_ n7_
                                                          clear hb ho85
                                                          refine hK.out _ _ ⟨(blk_cell BK234.out 0).trans rfl, (blk_cell BK234.out 1).trans rfl, (blk_cell BK222.out 0).trans rfl, (blk_cell BK222.out 1).trans rfl, HS4_, ((HB.out.cell (World.block_lt_of_cell? w _ hw246_0)).trans hw246_0)⟩ (fun hHeld => ?_)
                                                          clear hK K
                                                          refine norm_ (a' := ?_) ?_ ?_
                                                          rotate_left
                                                          · show Act.put _ (some 118) _ = _
                                                            simp only [Act.put, List.setIfInBounds_toArray, List.set_cons_zero, List.set_cons_succ, i64_w, i32_w]
                                                            rfl
                                                          refine one_ (i := 16) (N := some 128) #[true, true, true, true, true, true, true, true, true, true, true, true, true, true, true, true, true, false, false, false, false] rfl rfl (one_of HT_.out (by kernel_rfl)) (by decide) (fun K hK => ?_)
                                                          refine Kd.R_append_rows_step (Kd.int .u8) (w0 := w) w.heap.size (by rfl) (.tmp 118) (.tmp 127) 25 5 (.int .u8 0) 1 rfl Try.underlying25 info5 rfl (by decide) (by omega) v244 y243 (rd_L2 l0 (ji78)) _ _ _ (fun _ => True) (fun _ => False) rfl rfl ?aO ?aR (fun _ _ h => h) (fun _ h => h.elim) ?aF ?aB ?aS ?aL ?_
                                                          (case aR => repeat (first | exact (Kd.C_below HR246_0.out HB.out) | (with_reducible refine Kd.C_alloc ?_ _) | (with_reducible refine Kd.C_drewN ?_ _) | (with_reducible refine Kd.C_drew ?_)))
                                                          (case aB => exact (by repeat (first | (with_reducible first | exact HB.out | apply zB | apply zP | apply zE | refine zS ?_ GE222.out | refine zS ?_ GE223.out | refine zS ?_ GE234.out) | exact HB.out)))
                                                          (case aF => exact (fun _ _ => trivial))
                                                          (case aO => exact (by (with_reducible repeat (first | apply Kd.R_alloc | apply Kd.R_drewN | apply Kd.R_drew)); exact HO245.out))
                                                          (case aS => exact (below_size (by repeat (first | (with_reducible first | exact HB.out | apply zB | apply zP | apply zE | refine zS ?_ GE222.out | refine zS ?_ GE223.out | refine zS ?_ GE234.out) | exact HB.out))))
                                                          (case aL => have hL_ := LMc81.out; first | omega | exact Nat.le_of_lt hL_)
                                                          intro v248 w86 ho hb hg hat
                                                          rw [← Ny247.out] at ho
                                                          have n0_ := Aside0.mk (Kd.R_after (ok := (fun k_ => some k_ ≠ (u14 : Value).ownBlock)) (by (with_reducible repeat (first | apply Kd.R_alloc | apply Kd.R_drewN | apply Kd.R_drew)); exact HO_8.out) hg hat)
                                                          have n1_ := Aside0.mk (Kd.S_after (ok := (fun _ => True)) (by (with_reducible repeat (first | apply Kd.S_alloc | apply Kd.S_drewN | apply Kd.S_drew)); exact HO_14.out) hg hat)
                                                          have n2_ := Aside0.mk (Kd.R_over' (by (with_reducible repeat (first | apply Kd.R_alloc | apply Kd.R_drewN | apply Kd.R_drew)); exact HO_235001.out) (Kd.R_typed (by (with_reducible repeat (first | apply Kd.R_alloc | apply Kd.R_drewN | apply Kd.R_drew)); exact HO245.out)) (by decide) hg)
                                                          have n3_ := Aside0.mk (blk_grown (g := gb222) (o := .cells #[.int .i64 x223000_3, .int .i64 x223001_3] 41 (0, 0)) (by (with_reducible repeat (first | refine zN ?_ _ | refine zD ?_ | refine zA ?_ _)); exact BK222.out) hg (Kd.R_ne HO245.out BK222.out (by decide)))
                                                          have n4_ := Aside0.mk (blk_grown (g := gb223) (o := .cells #[.int .i64 x224000_2, .int .i64 x224001_2] 41 (0, 0)) (by (with_reducible repeat (first | refine zN ?_ _ | refine zD ?_ | refine zA ?_ _)); exact BK223.out) hg (Kd.R_ne HO245.out BK223.out (by decide)))
                                                          have n5_ := Aside0.mk (blk_grown (g := gb234) (o := .cells #[.int .i64 t229, .slice (some ad242) t230.length co41] 24 (0, 0)) (by (with_reducible repeat (first | refine zN ?_ _ | refine zD ?_ | refine zA ?_ _)); exact BK234.out) hg (Kd.R_ne HO245.out BK234.out (by decide)))
                                                          have n6_ := Aside0.mk (hb)
                                                          have n7_ := Aside0.mk (ho)
                                                          clear HO_8
                                                          clear HO_14
                                                          clear HO_235001
                                                          clear BK222
                                                          clear BK223
                                                          clear BK234
                                                          clear HB
                                                          clear HO245
                                                          have HO_8 := n0_
                                                          have HO_14 := n1_
                                                          have HO_235001 := n2_
                                                          have BK222 := n3_
                                                          have BK223 := n4_
                                                          have BK234 := n5_
                                                          have HB := n6_
                                                          have HO249 := n7_
                                                          clear n0_ n1_ n2_ n3_ n4_ n5_ n6_ n7_
                                                          clear ho hb hg hat
                                                          obtain ⟨Ao87, co87, eo87⟩ := Kd.R_slice HO249.out
                                                          (first | subst eo87 | (injection eo87 with f1_ f2_ f3_; have f4_ := f1_.symm; have f5_ := f3_.symm; clear f1_ f2_ f3_; subst f4_; subst f5_))
                                                          refine hK.out _ _ ⟨(blk_cell BK234.out 0).trans rfl, (blk_cell BK234.out 1).trans rfl, (blk_cell BK222.out 0).trans rfl, (blk_cell BK222.out 1).trans rfl, (by obtain ⟨ad_, e_, hx_⟩ := Kd.at_int (Kd.R_reads' HO_235001.out).2.2 x15_6 (by first | exact p242 | exact of_eq_true p242) (by first | exact q242 | exact of_eq_true q242); injection e_ with f_; have g_ := f_.symm; subst g_; exact hx_), ((HB.out.cell (World.block_lt_of_cell? w _ hw246_0)).trans hw246_0)⟩ (fun hHeld => ?_)
                                                          clear hK K
                                                          refine norm_ (a' := ?_) ?_ ?_
                                                          rotate_left
                                                          · show Act.put _ (some 128) _ = _
                                                            simp only [Act.put, List.setIfInBounds_toArray, List.set_cons_zero, List.set_cons_succ, i64_w, i32_w]
                                                            rfl
                                                          refine pure_ (i := 17) (N := some 129) (v := ?_) (a' := ?_) #[true, true, true, true, true, true, true, true, true, true, true, true, true, true, true, true, true, true, false, false, false] rfl rfl (any_of HT_.out (by kernel_rfl)) (fun _ _ _ h => h) (Or.inl ⟨by rfl, ?_⟩) ?_ ?_
                                                          rotate_left
                                                          · intro w'
                                                            go_simp
                                                            with_reducible rfl
                                                          rotate_left
                                                          · simp only [Act.put, List.setIfInBounds_toArray, List.set_cons_zero, List.set_cons_succ, i64_w, i32_w]
                                                            rfl
                                                          refine last_ (i := 18) (N := some 130) #[true, true, true, true, true, true, true, true, true, true, true, true, true, true, true, true, true, true, true, false, false] rfl rfl (one_of HT_.out (by kernel_rfl)) (by decide) (fun K hK => ?_)
                                                          refine value_ (w1 := ?_) (v := ?_) (by rfl) rfl ?_ ?_
                                                          rotate_left 2
                                                          · go_simp
                                                            constructor
                                                            · rfl
                                                            · rfl
                                                          refine hK.out _ _ ?_
                                                          clear hK K
                                                          refine norm_ (a' := ?_) ?_ ?_
                                                          rotate_left
                                                          · show Act.put _ (some 130) _ = _
                                                            simp only [Act.put, List.setIfInBounds_toArray, List.set_cons_zero, List.set_cons_succ, i64_w, i32_w]
                                                            rfl
                                                          refine last_ (i := 19) (N := some 131) #[true, true, true, true, true, true, true, true, true, true, true, true, true, true, true, true, true, true, true, true, false] rfl rfl (one_of HT_.out (by kernel_rfl)) (by decide) (fun K hK => ?_)
                                                          refine Kd.S_append_step k50 (w0 := w) w.heap.size (by rfl) (.tmp 112) (.tmp 130) 46 50 (.agg #[(.int .i64 0), (.slice none 0 0)]) 32 rfl Try.underlying46 info50 rfl (by decide) (by omega) u14 x14_6 (⟨rd t230 x15_6, y247⟩ : S50) [.int .i64 (rd t230 x15_6), .slice Ao87 y247.length co87] (fun _ => True) (fun k_ => some k_ = (.slice Ao87 y247.length co87 : Value).ownBlock) rfl rfl ?aP (fun k_ hk_ => ((Kd.R_mono (ok' := fun k_ => ((fun _ => True)) k_ ∧ some k_ ≠ (u14 : Value).ownBlock) (Kd.R_apart' (HO249.out) (Kd.S_typed HO_14.out) (by decide)) (fun k_ hk => ⟨trivial, hk.2⟩))).1 k_ hk_.symm) ?aF ?aO ?aB ?aS ?aL ?_
                                                          (case aP => exact k50_mkM _ _ _ (⟨rd t230 x15_6, y247⟩ : S50) (Kd.R_mono (Kd.R_tight rfl (Kd.R_mono (ok' := fun k_ => ((fun _ => True)) k_ ∧ some k_ ≠ (u14 : Value).ownBlock) (Kd.R_apart' (HO249.out) (Kd.S_typed HO_14.out) (by decide)) (fun k_ hk => ⟨trivial, hk.2⟩))) (fun _ h_ => h_)))
                                                          (case aB => exact (by repeat (first | (with_reducible first | exact HB.out | apply zB | apply zP | apply zE | refine zS ?_ GE222.out | refine zS ?_ GE223.out | refine zS ?_ GE234.out) | exact HB.out)))
                                                          (case aF => exact (fun _ _ => trivial))
                                                          (case aO => exact (by (with_reducible repeat (first | apply Kd.S_alloc | apply Kd.S_drewN | apply Kd.S_drew)); exact Kd.S_mono HO_14.out (fun k_ hk => ⟨trivial, fun e_ => hk.2 e_⟩)))
                                                          (case aS => exact (below_size (by repeat (first | (with_reducible first | exact HB.out | apply zB | apply zP | apply zE | refine zS ?_ GE222.out | refine zS ?_ GE223.out | refine zS ?_ GE234.out) | exact HB.out))))
                                                          (case aL => have hL_ := LMc82.out; first | omega | exact Nat.le_of_lt hL_)
                                                          intro v251 w88 ho hb hg hat
                                                          rw [← Ny250.out] at ho
                                                          have n0_ := Aside0.mk (Kd.R_after (ok := (fun k_ => some k_ ≠ (.slice Ao87 y247.length co87 : Value).ownBlock)) (by (with_reducible repeat (first | apply Kd.R_alloc | apply Kd.R_drewN | apply Kd.R_drew)); exact Kd.R_mono HO_8.out (fun _ hk => ⟨hk.2, hk.1⟩)) hg hat)
                                                          have n1_ := Aside0.mk (Kd.R_over' (by (with_reducible repeat (first | apply Kd.R_alloc | apply Kd.R_drewN | apply Kd.R_drew)); exact HO_235001.out) (Kd.S_typed (by (with_reducible repeat (first | apply Kd.S_alloc | apply Kd.S_drewN | apply Kd.S_drew)); exact HO_14.out)) (by decide) hg)
                                                          have n2_ := Aside0.mk (blk_grown (g := gb222) (o := .cells #[.int .i64 x223000_3, .int .i64 x223001_3] 41 (0, 0)) (by (with_reducible repeat (first | refine zN ?_ _ | refine zD ?_ | refine zA ?_ _)); exact BK222.out) hg (Kd.S_ne HO_14.out BK222.out (by decide)))
                                                          have n3_ := Aside0.mk (blk_grown (g := gb223) (o := .cells #[.int .i64 x224000_2, .int .i64 x224001_2] 41 (0, 0)) (by (with_reducible repeat (first | refine zN ?_ _ | refine zD ?_ | refine zA ?_ _)); exact BK223.out) hg (Kd.S_ne HO_14.out BK223.out (by decide)))
                                                          have n4_ := Aside0.mk (blk_grown (g := gb234) (o := .cells #[.int .i64 t229, .slice (some ad242) t230.length co41] 24 (0, 0)) (by (with_reducible repeat (first | refine zN ?_ _ | refine zD ?_ | refine zA ?_ _)); exact BK234.out) hg (Kd.S_ne HO_14.out BK234.out (by decide)))
                                                          have n5_ := Aside0.mk (hb)
                                                          have n6_ := Aside0.mk (ho)
                                                          clear HO_8
                                                          clear HO_235001
                                                          clear BK222
                                                          clear BK223
                                                          clear BK234
                                                          clear HB
                                                          clear HO_14
                                                          clear HO249
                                                          have HO_8 := n0_
                                                          have HO_235001 := n1_
                                                          have BK222 := n2_
                                                          have BK223 := n3_
                                                          have BK234 := n4_
                                                          have HB := n5_
                                                          have HO252 := n6_
                                                          clear n0_ n1_ n2_ n3_ n4_ n5_ n6_
                                                          clear ho hb hg hat
                                                          refine hK.out _ _ ?_
                                                          clear hK K
                                                          refine norm_ (a' := ?_) ?_ ?_
                                                          rotate_left
                                                          · show Act.put _ (some 131) _ = _
                                                            simp only [Act.put, List.setIfInBounds_toArray, List.set_cons_zero, List.set_cons_succ, i64_w, i32_w]
                                                            rfl
                                                          refine pure_ (i := 20) (N := some 14) (v := ?_) (a' := ?_) #[true, true, true, true, true, true, true, true, true, true, true, true, true, true, true, true, true, true, true, true, true] rfl rfl (any_of HT_.out (by kernel_rfl)) (fun _ _ _ h => h) (Or.inl ⟨by rfl, ?_⟩) ?_ ?_
                                                          rotate_left
                                                          · intro w'
                                                            go_simp
                                                            with_reducible rfl
                                                          rotate_left
                                                          · simp only [Act.put, List.setIfInBounds_toArray, List.set_cons_zero, List.set_cons_succ, i64_w, i32_w]
                                                            rfl
                                                          refine done_ (done_of HT_.out (by kernel_rfl)) ?_
                                                          try go_wp2
                                                          go_roundg k6
                                                          case measure => have := HJ2.out; have := HK2.out; have := HK3.out; have := HJ32.out; have := HJ55.out; have := HK6.out; omega
                                                          case rel => exact ⟨(y250), (wrap64 (x15_6 + 1)), (by first | rfl | (simp; done) | (simp [*]; done)), H', ⟨by have := HJ2.out; have := HK2.out; have := HK3.out; have := HJ32.out; have := HJ55.out; have := HK6.out; omega⟩, ⟨by (with_reducible repeat (first | apply Kd.R_alloc | apply Kd.R_drewN | apply Kd.R_drew)); exact Kd.R_mono HO_8.out (fun _ hk => hk.2)⟩, ⟨by (with_reducible repeat (first | apply Kd.S_alloc | apply Kd.S_drewN | apply Kd.S_drew)); exact HO252.out⟩, ⟨by (with_reducible repeat (first | apply Kd.R_alloc | apply Kd.R_drewN | apply Kd.R_drew)); exact HO_235001.out⟩, ⟨by (with_reducible repeat (first | refine zN ?_ _ | refine zD ?_ | refine zA ?_ _)); exact BK222.out⟩, ⟨by (with_reducible repeat (first | refine zN ?_ _ | refine zD ?_ | refine zA ?_ _)); exact BK223.out⟩, ⟨by (with_reducible repeat (first | refine zN ?_ _ | refine zD ?_ | refine zA ?_ _)); exact BK234.out⟩, ⟨by repeat (first | (with_reducible first | exact HB.out | apply zB | apply zP | apply zE | refine zS ?_ GE222.out | refine zS ?_ GE223.out | refine zS ?_ GE234.out) | exact HB.out)⟩⟩
                                                        · rw [if_neg c82] at H
                                                          exact absurd H (by simp)
                                                      · rw [if_neg c81] at H
                                                        exact absurd H (by simp)
                                                    · rw [if_neg c80] at H
                                                      exact absurd H (by simp)
                                                  · rw [if_neg c79] at H
                                                    exact absurd H (by simp)
                                                · rw [if_neg c77] at H
                                                  exact absurd H (by simp)
                                              · rw [if_neg c76] at H
                                                exact absurd H (by simp)
                                            · rw [if_neg c75] at H
                                              have c75b0 : decide (x15_6 < (wrap64 ((wrap64 ((t230.length : Int) + 2)) - 2))) = false := decide_eq_false c75
                                              clear c75
                                              by_cases c89 : x8_3.length < 5864062014805
                                              · rw [if_pos c89] at H
                                                have LMc89 := Aside0.mk c89
                                                clear c89
                                                obtain ⟨y253, hy253⟩ : ∃ y_ : List (List (S50)), y_ = (x8_3 ++ [x14_6]) := ⟨_, rfl⟩
                                                replace H : (drydockref15_Find.l1 k6 l0 y253 (Int.tmod (wrap64 (x223000_3 + (wrap64 ((t230.length : Int) + 2)))) 40) (wrap64 (x223001_3 + 1))) = some (r1, r2, r3, r4) := by first | (rw [hy253]; with_reducible exact H) | (have H2_ := (Option.bind_some _ _).symm.trans H; rw [hy253]; with_reducible exact H2_) | (have H2_ := (Option.bind_some _ _).symm.trans H; with_reducible exact H2_) | with_reducible exact H | (rw [hy253]; exact H) | exact H
                                                have Ny253 := Aside0.mk hy253
                                                clear hy253
                                                have H' := Aside0.mk H
                                                clear H
                                                obtain ⟨Ao91, co91, eo91⟩ := Kd.S_slice HO_14.out
                                                subst eo91
                                                go_wp2_with (first | ((with_reducible refine gate_builtin (b := .append) (xs := #[.tmp 132, .tmp 134]) rfl ?_); at_builtin; refine Kd.R_append (Kd.slice 50 k50) (w0 := w) w.heap.size rfl (.tmp 132) (.tmp 134) 42 46 (.slice none 0 0) 24 rfl Try.underlying42 info46 rfl (by decide) (by omega) u8 x8_3 x14_6 [.slice Ao91 x14_6.length co91] (fun _ => True) (fun k_ => ((fun _ => True)) k_ ∧ some k_ ≠ (u8 : Value).ownBlock) rfl rfl ?aP (fun _ hk => hk) ?aF ?aO ?aB ?aS ?aL ?_; (case aP => exact Kd.M_row (Kd.R_mono (Kd.R_apart' ((Kd.S_R HO_14.out)) (Kd.R_typed HO_8.out) (by decide)) (fun k_ hk => ⟨trivial, hk.2⟩))); (case aB => exact (by repeat (first | (with_reducible first | exact HB.out | apply zB | apply zP | apply zE | refine zS ?_ GE222.out | refine zS ?_ GE223.out | refine zS ?_ GE234.out) | exact HB.out))); (case aF => exact (fun _ _ => trivial)); (case aO => exact (by (with_reducible repeat (first | apply Kd.R_alloc | apply Kd.R_drewN | apply Kd.R_drew)); exact Kd.R_mono HO_8.out (fun _ hk => trivial))); (case aS => exact (below_size (by repeat (first | (with_reducible first | exact HB.out | apply zB | apply zP | apply zE | refine zS ?_ GE222.out | refine zS ?_ GE223.out | refine zS ?_ GE234.out) | exact HB.out)))); (case aL => have hL_ := LMc89.out; first | omega | exact Nat.le_of_lt hL_); intro v254 w90 ho hb hg hat; rw [← Ny253.out] at ho; have n0_ := Aside0.mk (Kd.R_over' (by (with_reducible repeat (first | apply Kd.R_alloc | apply Kd.R_drewN | apply Kd.R_drew)); exact HO_235001.out) (Kd.R_typed (by (with_reducible repeat (first | apply Kd.R_alloc | apply Kd.R_drewN | apply Kd.R_drew)); exact HO_8.out)) (by decide) hg); have n1_ := Aside0.mk (blk_grown (g := gb222) (o := .cells #[.int .i64 x223000_3, .int .i64 x223001_3] 41 (0, 0)) (by (with_reducible repeat (first | refine zN ?_ _ | refine zD ?_ | refine zA ?_ _)); exact BK222.out) hg (Kd.R_ne HO_8.out BK222.out (by decide))); have n2_ := Aside0.mk (blk_grown (g := gb223) (o := .cells #[.int .i64 x224000_2, .int .i64 x224001_2] 41 (0, 0)) (by (with_reducible repeat (first | refine zN ?_ _ | refine zD ?_ | refine zA ?_ _)); exact BK223.out) hg (Kd.R_ne HO_8.out BK223.out (by decide))); have n3_ := Aside0.mk (blk_grown (g := gb234) (o := .cells #[.int .i64 t229, .slice Ao41 t230.length co41] 24 (0, 0)) (by (with_reducible repeat (first | refine zN ?_ _ | refine zD ?_ | refine zA ?_ _)); exact BK234.out) hg (Kd.R_ne HO_8.out BK234.out (by decide))); have n4_ := Aside0.mk (hb); have n5_ := Aside0.mk (ho); clear HO_235001; clear BK222; clear BK223; clear BK234; clear HB; clear HO_8; clear HO_14; have HO_235001 := n0_; have BK222 := n1_; have BK223 := n2_; have BK234 := n3_; have HB := n4_; have HO255 := n5_; clear n0_ n1_ n2_ n3_ n4_ n5_; clear ho hb hg hat; have hnb92 := NB222_223.out; have hnc92 := NB223_222.out; have hnb93 := NB222_234.out; have hnc93 := NB234_222.out; have hcz94_0 : w90.cell? ⟨gb222, 0, none⟩ = some (.int .i64 x223000_3) := (blk_cell BK222.out 0).trans rfl; have hcz94_1 : w90.cell? ⟨gb222, 1, none⟩ = some (.int .i64 x223001_3) := (blk_cell BK222.out 1).trans rfl; have hfz94_0 := blk_frozen BK222.out 0; have hfz94_1 := blk_frozen BK222.out 1))
                                                go_roundg k6
                                                case measure => have := HJ2.out; have := HK2.out; have := HK3.out; have := HJ32.out; have := HJ55.out; have := HK6.out; omega
                                                case rel => exact ⟨(y253), (Int.tmod (wrap64 (x223000_3 + (wrap64 ((t230.length : Int) + 2)))) 40), (wrap64 (x223001_3 + 1)), H', ⟨by have := HJ2.out; have := HK2.out; have := HK3.out; have := HJ32.out; have := HJ55.out; have := HK6.out; omega⟩, ⟨by (with_reducible repeat (first | apply Kd.R_alloc | apply Kd.R_drewN | apply Kd.R_drew)); exact Kd.R_mono (Kd.R_far (p := ⟨gb222, 1, none⟩) (Kd.R_far (p := ⟨gb222, 0, none⟩) (Kd.R_types HO255.out BK222.out (by decide)) (fun _ hk => hk.2) (.int .i64 (Int.tmod (wrap64 (x223000_3 + (wrap64 ((t230.length : Int) + 2)))) 40))) (fun _ hk => hk.2) (.int .i64 (wrap64 (x223001_3 + 1)))) (fun _ hk => trivial)⟩, ⟨by (with_reducible repeat (first | refine zN ?_ _ | refine zD ?_ | refine zA ?_ _)); refine blk_put (cs := #[.int .i64 (Int.tmod (wrap64 (x223000_3 + (wrap64 ((t230.length : Int) + 2)))) 40), .int .i64 x223001_3]) ?_ 1 _ rfl; (with_reducible repeat (first | refine zN ?_ _ | refine zD ?_ | refine zA ?_ _)); refine blk_put (cs := #[.int .i64 x223000_3, .int .i64 x223001_3]) ?_ 0 _ rfl; (with_reducible repeat (first | refine zN ?_ _ | refine zD ?_ | refine zA ?_ _)); exact BK222.out⟩, ⟨by (with_reducible repeat (first | refine zN ?_ _ | refine zD ?_ | refine zA ?_ _)); refine blk_far ?_ NB223_222.out _; (with_reducible repeat (first | refine zN ?_ _ | refine zD ?_ | refine zA ?_ _)); refine blk_far ?_ NB223_222.out _; (with_reducible repeat (first | refine zN ?_ _ | refine zD ?_ | refine zA ?_ _)); exact BK223.out⟩, ⟨by repeat (first | (with_reducible first | exact HB.out | apply zB | apply zP | apply zE | refine zS ?_ GE222.out | refine zS ?_ GE223.out | refine zS ?_ GE234.out) | exact HB.out)⟩⟩
                                              · rw [if_neg c89] at H
                                                exact absurd H (by simp)
                                · rw [if_neg c54] at H
                                  exact absurd H (by simp)
                              · rw [if_neg c53] at H
                                exact absurd H (by simp)
                      · rw [if_neg c31] at H
                        exact absurd H (by simp)
                    · rw [if_neg c30] at H
                      exact absurd H (by simp)
                  · rw [if_neg c29] at H
                    have c29b0 : decide (x223001_3 < 1073741824) = false := decide_eq_false c29
                    clear c29
                    simp only [Option.some.injEq, Prod.mk.injEq] at H
                    obtain ⟨rfl, rfl, rfl, rfl⟩ := H
                    have hnb95 := NB222_223.out
                    have hnc95 := NB223_222.out
                    have hcz96_0 : wr.cell? ⟨gb222, 0, none⟩ = some (.int .i64 x223000_3) := (blk_cell BK222.out 0).trans rfl
                    have hcz96_1 : wr.cell? ⟨gb222, 1, none⟩ = some (.int .i64 x223001_3) := (blk_cell BK222.out 1).trans rfl
                    have hfz96_0 := blk_frozen BK222.out 0
                    have hfz96_1 := blk_frozen BK222.out 1
                    try go_wp2
                    have n0_ := Aside0.mk (Kd.R_drew HO_8.out)
                    have n1_ := Aside0.mk (zD BK222.out)
                    have n2_ := Aside0.mk (zD BK223.out)
                    have n3_ := Aside0.mk (zE HB.out)
                    clear HO_8
                    clear BK222
                    clear BK223
                    clear HB
                    have HO_8 := n0_
                    have BK222 := n1_
                    have BK223 := n2_
                    have HB := n3_
                    clear n0_ n1_ n2_ n3_
                    refine start_ (n := 5) (S := fun w' => w'.cell? ⟨gb222, 0, none⟩ = some (.int .i64 x223000_3) ∧ w'.cell? ⟨gb222, 1, none⟩ = some (.int .i64 x223001_3)) (ds := []) #[false, false, false, false, false] (by kernel_rfl) rfl rfl ⟨(blk_cell BK222.out 0).trans rfl, (blk_cell BK222.out 1).trans rfl⟩ (fun hHeld => ?_)
                    generalize wr.drew = w97 at HO_8 BK222 BK223 HB hHeld ⊢
                    refine pure_ (i := 0) (N := some 145) (v := ?_) (a' := ?_) #[true, false, false, false, false] rfl rfl (by kernel_rfl) (fun _ _ _ h => h) (Or.inl ⟨by rfl, ?_⟩) ?_ ?_
                    rotate_left
                    · intro w'
                      go_simp
                      with_reducible rfl
                    rotate_left
                    · simp only [Act.put, List.setIfInBounds_toArray, List.set_cons_zero, List.set_cons_succ, i64_w, i32_w]
                      rfl
                    refine pure_ (i := 2) (N := some 4) (v := ?_) (a' := ?_) #[true, false, true, false, false] rfl rfl (by kernel_rfl) (fun _ _ _ h => h) (Or.inl ⟨by rfl, ?_⟩) ?_ ?_
                    rotate_left
                    · intro w'
                      go_simp
                      with_reducible rfl
                    rotate_left
                    · simp only [Act.put, List.setIfInBounds_toArray, List.set_cons_zero, List.set_cons_succ, i64_w, i32_w]
                      rfl
                    refine take_ (i := 1) (N := some 146) (v := ?_) (a' := ?_) #[true, true, true, false, false] rfl rfl (by kernel_rfl) (fun _ _ _ h => h) (Or.inl ⟨by rfl, ?_⟩) hHeld ?_ ?_
                    rotate_left
                    · rintro w' ⟨s0, s1⟩
                      go_simp
                      with_reducible rfl
                    rotate_left
                    · simp only [Act.put, List.setIfInBounds_toArray, List.set_cons_zero, List.set_cons_succ, i64_w, i32_w]
                      rfl
                    refine one_ (i := 3) (N := none) #[true, true, true, true, false] rfl rfl (by kernel_rfl) (by decide) (fun K hK => ?_)
                    have hs98 : w97.cell? ⟨gb223, 0, none⟩ = some (.int .i64 x224000_2) := (blk_cell BK223.out 0).trans rfl
                    have hfs98 := blk_frozen BK223.out 0
                    have hns98_0 := NB222_223.out
                    have hms98_0 := NB223_222.out
                    have hs99 : w97.cell? ⟨gb223, 1, none⟩ = some (.int .i64 x224001_2) := (blk_cell BK223.out 1).trans rfl
                    have hfs99 := blk_frozen BK223.out 1
                    have hns99_0 := NB222_223.out
                    have hms99_0 := NB223_222.out
                    refine skip_ (w1 := ?_) (by rfl) rfl ?_ ?_
                    rotate_left
                    · go_simp
                      rfl
                    refine hK.out _ _ ⟨((cell_far (p := ⟨gb223, _, none⟩) NB222_223.out _).trans (((cell_far (p := ⟨gb223, _, none⟩) NB222_223.out _).trans (hHeld.1)))), ((cell_far (p := ⟨gb223, _, none⟩) NB222_223.out _).trans (((cell_far (p := ⟨gb223, _, none⟩) NB222_223.out _).trans (hHeld.2))))⟩ (fun hHeld => ?_)
                    clear hK K
                    refine pure_ (i := 4) (N := some 6) (v := ?_) (a' := ?_) #[true, true, true, true, true] rfl rfl (by kernel_rfl) (fun _ _ _ h => h) (Or.inl ⟨by rfl, ?_⟩) ?_ ?_
                    rotate_left
                    · intro w'
                      go_simp
                      with_reducible rfl
                    rotate_left
                    · simp only [Act.put, List.setIfInBounds_toArray, List.set_cons_zero, List.set_cons_succ, i64_w, i32_w]
                      rfl
                    refine done_ (by kernel_rfl) ?_
                    try go_wp2
                    refine bodyPost_ret (results_list (rs := [.tmp 4, .cell 5 41, .tmp 6]) rfl (by simp) (.tmp (.cell gb223 41 #[.int .i64 x223000_3, .int .i64 x223001_3] (0, 0) _ rfl (by (with_reducible repeat (first | refine zN ?_ _ | refine zD ?_ | refine zA ?_ _)); refine blk_put (cs := #[.int .i64 x223000_3, .int .i64 x224001_2]) ?_ 1 _ rfl; (with_reducible repeat (first | refine zN ?_ _ | refine zD ?_ | refine zA ?_ _)); refine blk_put (cs := #[.int .i64 x224000_2, .int .i64 x224001_2]) ?_ 0 _ rfl; (with_reducible repeat (first | refine zN ?_ _ | refine zD ?_ | refine zA ?_ _)); exact BK223.out) Try.underlying41 rfl (by kernel_rfl) (.tmp .nil)))) rfl ?_
                    exact ⟨_, by first | rfl | (simp [errW_none, errW_some] <;> rfl) | (simp [*, errW_none, errW_some] <;> rfl), by (with_reducible repeat (first | apply Kd.R_alloc | apply Kd.R_drewN | apply Kd.R_drew)); exact Kd.R_mono (Kd.R_far (p := ⟨gb223, 1, none⟩) (Kd.R_far (p := ⟨gb223, 0, none⟩) (Kd.R_types HO_8.out BK223.out (by decide)) (fun _ hk => hk.2) (.int .i64 x223000_3)) (fun _ hk => hk.2) (.int .i64 x223001_3)) (fun _ hk => trivial), by repeat (first | (with_reducible first | exact HB.out | apply zB | apply zP | apply zE | refine zS ?_ GE222.out | refine zS ?_ GE223.out) | exact HB.out)⟩

end Go.Proofs.Ytefhjfaojbjjaaa.PAll
