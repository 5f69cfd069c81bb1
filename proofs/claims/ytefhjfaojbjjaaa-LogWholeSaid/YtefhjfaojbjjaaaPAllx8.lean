-- Printed out of the translation by a program; functions that were proved by hand stand among them. Lean checks it.
import Derived.Test.YtefhjfaojbjjaaaPAllx0
import Derived.Test.YtefhjfaojbjjaaaPAllx1
import Derived.Test.YtefhjfaojbjjaaaPAllx3
import Derived.Test.YtefhjfaojbjjaaaPAllx6
import Derived.Test.YtefhjfaojbjjaaaPAllx7
namespace Go.Proofs.Ytefhjfaojbjjaaa.PAll
open Go.RowKit Go.Proofs.YtefhjfaojbjjaaaW.PrintWords Go.Proofs.YtefhjfaojbjjaaaW.PrintLast Go.Proofs.YtefhjfaojbjjaaaW.PrintMore
attribute [local go_sem] max2_int min2_int max_two min_two max_three min_three max_four min_four   -- for this text's walks alone
set_option linter.unusedVariables false
set_option linter.unusedSimpArgs false

attribute [local go_sem high] eqA41
/-! ### drydocklaw15_LogWhole: function 7 -/
mutual
def drydocklaw15_LogWhole.l0 : Nat → List Int → Int → Int → List (List Int) → Int → Int → Int → Option (Bool)
  | 0, _, _, _, _, _, _, _ => none
  | k + 1, x2, x3, x4, x12, x13, x157000, x157001 => if x13 < 40 then (if 64 ≤ 281474976710656 then (if x12.length < 5864062014805 then (drydocklaw15_LogWhole.l0 k x2 x3 x4 (x12 ++ [(List.replicate 64 0)]) (wrap64 (x13 + 1)) x157000 x157001) else (none)) else (none)) else (drydocklaw15_LogWhole.l1 k x2 x3 x4 x12 0 0 0 x157000 x157001 x157000 x157001)
def drydocklaw15_LogWhole.j6 : Nat → List Int → Int → List (List Int) → Int → Int → Int → Int → Int → Option (Bool)
  | 0, _, _, _, _, _, _, _, _ => none
  | k + 1, x2, x4, x12, x15, x157000, x157001, x167000, x167001 => (log_Find.f k x12 x157000 x157001).bind fun bt196 => ((drydocklaw15_awake.f k).bind fun t203 => (if t203 = true then (if bt196.2.2.2 = 0 then (if (bt196.1.length : Int) = x15 then (drydocklaw15_LogWhole.j7 k x2 x4 bt196.1 (!(bt196.2.1 == x167000) || (!(bt196.2.2.1 == x167001)))) else (drydocklaw15_LogWhole.j7 k x2 x4 bt196.1 true)) else (drydocklaw15_LogWhole.j7 k x2 x4 bt196.1 true)) else (drydocklaw15_LogWhole.j7 k x2 x4 bt196.1 true)))
def drydocklaw15_LogWhole.j7 : Nat → List Int → Int → List (List (S50)) → Bool → Option (Bool)
  | 0, _, _, _, _ => none
  | k + 1, x2, x4, x29, x192 => if x192 = true then (some false) else (drydocklaw15_LogWhole.l5 k x2 x4 x29 0)
def drydocklaw15_LogWhole.l5 : Nat → List Int → Int → List (List (S50)) → Int → Option (Bool)
  | 0, _, _, _, _ => none
  | k + 1, x2, x4, x29, x32 => if x32 < (x29.length : Int) then (if 0 ≤ x32 then (if x32 < (x2.length : Int) then (if ((rd_L4 x29 x32).length : Int) = (wrap64 ((wrap64 (Int.tmod (rd x2 x32) 5)) + 1)) then (if 0 < ((rd_L4 x29 x32).length : Int) then (if ((rd_T50 (rd_L4 x29 x32) 0).f0) = (wrap64 (60 + (wrap64 (7 * x32)))) then (if 0 < (((rd_T50 (rd_L4 x29 x32) 0).f1).length : Int) then (if (rd ((rd_T50 (rd_L4 x29 x32) 0).f1) 0) = x4 then (if 1 < (((rd_T50 (rd_L4 x29 x32) 0).f1).length : Int) then (drydocklaw15_LogWhole.j9 k x2 x4 x29 x32 ((rd ((rd_T50 (rd_L4 x29 x32) 0).f1) 1) != ((x32) % 256))) else (none)) else (drydocklaw15_LogWhole.j9 k x2 x4 x29 x32 true)) else (none)) else (drydocklaw15_LogWhole.j9 k x2 x4 x29 x32 true)) else (none)) else (drydocklaw15_LogWhole.j9 k x2 x4 x29 x32 true)) else (none)) else (none)) else (some true)
def drydocklaw15_LogWhole.j9 : Nat → List Int → Int → List (List (S50)) → Int → Bool → Option (Bool)
  | 0, _, _, _, _, _ => none
  | k + 1, x2, x4, x29, x32, x251 => if x251 = true then (some false) else (drydocklaw15_LogWhole.l5 k x2 x4 x29 (wrap64 (x32 + 1)))
def drydocklaw15_LogWhole.l1 : Nat → List Int → Int → Int → List (List Int) → Int → Int → Int → Int → Int → Int → Int → Option (Bool)
  | 0, _, _, _, _, _, _, _, _, _, _, _ => none
  | k + 1, x2, x3, x4, x12, x14, x15, x17, x157000, x157001, x167000, x167001 => if x17 < (x2.length : Int) then (if 0 ≤ x17 then (if (wrap64 ((wrap64 (x14 + (wrap64 ((wrap64 (Int.tmod (rd x2 x17) 5)) + 1)))) + 2)) > 40 then (drydocklaw15_LogWhole.j6 k x2 x4 x12 x15 x157000 x157001 x167000 x167001) else (drydocklaw15_LogWhole.l2 k x2 x3 x4 x12 x14 x15 x17 (wrap64 ((wrap64 (Int.tmod (rd x2 x17) 5)) + 1)) 0 x157000 x157001 x167000 x167001 (wrap64 (x157001 + x17)) ([] : List Int))) else (none)) else (drydocklaw15_LogWhole.j6 k x2 x4 x12 x15 x157000 x157001 x167000 x167001)
def drydocklaw15_LogWhole.l2 : Nat → List Int → Int → Int → List (List Int) → Int → Int → Int → Int → Int → Int → Int → Int → Int → Int → List Int → Option (Bool)
  | 0, _, _, _, _, _, _, _, _, _, _, _, _, _, _, _ => none
  | k + 1, x2, x3, x4, x12, x14, x15, x17, x18, x20, x157000, x157001, x167000, x167001, x169000, x169001 => if x20 < x18 then (if x169001.length < 17592186044416 then (drydocklaw15_LogWhole.l2 k x2 x3 x4 x12 x14 x15 x17 x18 (wrap64 (x20 + 1)) x157000 x157001 x167000 x167001 x169000 (x169001 ++ [wrap64 ((wrap64 (60 + (wrap64 (7 * x17)))) + x20)])) else (none)) else ((log_Begin.f k x169000 x169001).bind fun bt172 => ((log_End.f x169000 x18).bind fun bt176 => (if bt172.2 = 0 then (drydocklaw15_LogWhole.j3 k x2 x3 x4 x12 x14 x15 x17 x18 bt172.1 bt176.1 (bt176.2 != 0) x157000 x157001 x167000 x167001 x169000 x169001) else (drydocklaw15_LogWhole.j3 k x2 x3 x4 x12 x14 x15 x17 x18 bt172.1 bt176.1 true x157000 x157001 x167000 x167001 x169000 x169001))))
def drydocklaw15_LogWhole.j3 : Nat → List Int → Int → Int → List (List Int) → Int → Int → Int → Int → List Int → List Int → Bool → Int → Int → Int → Int → Int → List Int → Option (Bool)
  | 0, _, _, _, _, _, _, _, _, _, _, _, _, _, _, _, _, _ => none
  | k + 1, x2, x3, x4, x12, x14, x15, x17, x18, x21, x23, x105, x157000, x157001, x167000, x167001, x169000, x169001 => if x105 = true then (some false) else (drydocklaw15_LogWhole.l3 k x2 x3 x4 x12 x14 x15 x17 x18 x23 (([x21] : List (List Int))) 0 x157000 x157001 x167000 x167001 x169000 x169001)
def drydocklaw15_LogWhole.l3 : Nat → List Int → Int → Int → List (List Int) → Int → Int → Int → Int → List Int → List (List Int) → Int → Int → Int → Int → Int → Int → List Int → Option (Bool)
  | 0, _, _, _, _, _, _, _, _, _, _, _, _, _, _, _, _, _ => none
  | k + 1, x2, x3, x4, x12, x14, x15, x17, x18, x23, x25, x26, x157000, x157001, x167000, x167001, x169000, x169001 => if x26 < x18 then (if 64 ≤ 281474976710656 then ((some (List.replicate 64 0 : List Int)).bind fun y183 => (if 0 < (y183.length : Int) then (if 1 < (y183.length : Int) then (if x25.length < 5864062014805 then (drydocklaw15_LogWhole.l3 k x2 x3 x4 x12 x14 x15 x17 x18 x23 (x25 ++ [((y183.set (0 : Int).toNat x4).set (1 : Int).toNat ((x17) % 256))]) (wrap64 (x26 + 1)) x157000 x157001 x167000 x167001 x169000 x169001) else (none)) else (none)) else (none))) else (none)) else (if x25.length < 5864062014805 then (drydocklaw15_LogWhole.l4 k x2 x3 x4 x12 x14 x15 x17 (x25 ++ [x23]) 0 x157000 x157001 x167000 x167001 x169000 x169001) else (none))
def drydocklaw15_LogWhole.l4 : Nat → List Int → Int → Int → List (List Int) → Int → Int → Int → List (List Int) → Int → Int → Int → Int → Int → Int → List Int → Option (Bool)
  | 0, _, _, _, _, _, _, _, _, _, _, _, _, _, _, _ => none
  | k + 1, x2, x3, x4, x12, x14, x15, x17, x25, x28, x157000, x157001, x167000, x167001, x169000, x169001 => if x28 < (x25.length : Int) then (if x14 < (wrap64 (Int.tmod x3 41)) then (if 0 ≤ x28 then (if 0 ≤ (Int.tmod (wrap64 (x157000 + x14)) 40) then (if (Int.tmod (wrap64 (x157000 + x14)) 40) < (x12.length : Int) then (drydocklaw15_LogWhole.l4 k x2 x3 x4 (x12.set ((Int.tmod (wrap64 (x157000 + x14)) 40) : Int).toNat (rd_L2 x25 x28)) (wrap64 (x14 + 1)) x15 x17 x25 (wrap64 (x28 + 1)) x157000 x157001 x167000 x167001 x169000 x169001) else (none)) else (none)) else (none)) else (drydocklaw15_LogWhole.l4 k x2 x3 x4 x12 (wrap64 (x14 + 1)) x15 x17 x25 (wrap64 (x28 + 1)) x157000 x157001 x167000 x167001 x169000 x169001)) else (if x14 ≤ (wrap64 (Int.tmod x3 41)) then (drydocklaw15_LogWhole.l1 k x2 x3 x4 x12 x14 (wrap64 (x15 + 1)) (wrap64 (x17 + 1)) x157000 x157001 (Int.tmod (wrap64 (x157000 + x14)) 40) (wrap64 (x169000 + 1))) else (drydocklaw15_LogWhole.l1 k x2 x3 x4 x12 x14 x15 (wrap64 (x17 + 1)) x157000 x157001 x167000 x167001))
end
def drydocklaw15_LogWhole.f (k : Nat) (a0 : Int) (a1 : Int) (l2 : List Int) (a3 : Int) (a4 : Int) : Option (Bool) := drydocklaw15_LogWhole.l0 k l2 a3 a4 (([] : List (List Int))) 0 (wrap64 (Int.tmod a0 40)) (wrap64 ((wrap64 (a1)) + 1))
theorem drydocklaw15_LogWhole.mono_l : ∀ k, (∀ y0 y1 y2 y3 y4 y5 y6, LeO (drydocklaw15_LogWhole.l0 k y0 y1 y2 y3 y4 y5 y6) (drydocklaw15_LogWhole.l0 (k + 1) y0 y1 y2 y3 y4 y5 y6)) ∧ (∀ y0 y1 y2 y3 y4 y5 y6 y7, LeO (drydocklaw15_LogWhole.j6 k y0 y1 y2 y3 y4 y5 y6 y7) (drydocklaw15_LogWhole.j6 (k + 1) y0 y1 y2 y3 y4 y5 y6 y7)) ∧ (∀ y0 y1 y2 y3, LeO (drydocklaw15_LogWhole.j7 k y0 y1 y2 y3) (drydocklaw15_LogWhole.j7 (k + 1) y0 y1 y2 y3)) ∧ (∀ y0 y1 y2 y3, LeO (drydocklaw15_LogWhole.l5 k y0 y1 y2 y3) (drydocklaw15_LogWhole.l5 (k + 1) y0 y1 y2 y3)) ∧ (∀ y0 y1 y2 y3 y4, LeO (drydocklaw15_LogWhole.j9 k y0 y1 y2 y3 y4) (drydocklaw15_LogWhole.j9 (k + 1) y0 y1 y2 y3 y4)) ∧ (∀ y0 y1 y2 y3 y4 y5 y6 y7 y8 y9 y10, LeO (drydocklaw15_LogWhole.l1 k y0 y1 y2 y3 y4 y5 y6 y7 y8 y9 y10) (drydocklaw15_LogWhole.l1 (k + 1) y0 y1 y2 y3 y4 y5 y6 y7 y8 y9 y10)) ∧ (∀ y0 y1 y2 y3 y4 y5 y6 y7 y8 y9 y10 y11 y12 y13 y14, LeO (drydocklaw15_LogWhole.l2 k y0 y1 y2 y3 y4 y5 y6 y7 y8 y9 y10 y11 y12 y13 y14) (drydocklaw15_LogWhole.l2 (k + 1) y0 y1 y2 y3 y4 y5 y6 y7 y8 y9 y10 y11 y12 y13 y14)) ∧ (∀ y0 y1 y2 y3 y4 y5 y6 y7 y8 y9 y10 y11 y12 y13 y14 y15 y16, LeO (drydocklaw15_LogWhole.j3 k y0 y1 y2 y3 y4 y5 y6 y7 y8 y9 y10 y11 y12 y13 y14 y15 y16) (drydocklaw15_LogWhole.j3 (k + 1) y0 y1 y2 y3 y4 y5 y6 y7 y8 y9 y10 y11 y12 y13 y14 y15 y16)) ∧ (∀ y0 y1 y2 y3 y4 y5 y6 y7 y8 y9 y10 y11 y12 y13 y14 y15 y16, LeO (drydocklaw15_LogWhole.l3 k y0 y1 y2 y3 y4 y5 y6 y7 y8 y9 y10 y11 y12 y13 y14 y15 y16) (drydocklaw15_LogWhole.l3 (k + 1) y0 y1 y2 y3 y4 y5 y6 y7 y8 y9 y10 y11 y12 y13 y14 y15 y16)) ∧ (∀ y0 y1 y2 y3 y4 y5 y6 y7 y8 y9 y10 y11 y12 y13 y14, LeO (drydocklaw15_LogWhole.l4 k y0 y1 y2 y3 y4 y5 y6 y7 y8 y9 y10 y11 y12 y13 y14) (drydocklaw15_LogWhole.l4 (k + 1) y0 y1 y2 y3 y4 y5 y6 y7 y8 y9 y10 y11 y12 y13 y14))
  | 0 => ⟨fun _ _ _ _ _ _ _ r h => by simp [drydocklaw15_LogWhole.l0] at h, fun _ _ _ _ _ _ _ _ r h => by simp [drydocklaw15_LogWhole.j6] at h, fun _ _ _ _ r h => by simp [drydocklaw15_LogWhole.j7] at h, fun _ _ _ _ r h => by simp [drydocklaw15_LogWhole.l5] at h, fun _ _ _ _ _ r h => by simp [drydocklaw15_LogWhole.j9] at h, fun _ _ _ _ _ _ _ _ _ _ _ r h => by simp [drydocklaw15_LogWhole.l1] at h, fun _ _ _ _ _ _ _ _ _ _ _ _ _ _ _ r h => by simp [drydocklaw15_LogWhole.l2] at h, fun _ _ _ _ _ _ _ _ _ _ _ _ _ _ _ _ _ r h => by simp [drydocklaw15_LogWhole.j3] at h, fun _ _ _ _ _ _ _ _ _ _ _ _ _ _ _ _ _ r h => by simp [drydocklaw15_LogWhole.l3] at h, fun _ _ _ _ _ _ _ _ _ _ _ _ _ _ _ r h => by simp [drydocklaw15_LogWhole.l4] at h⟩
  | k + 1 => by
    obtain ⟨ih0, ih1, ih2, ih3, ih4, ih5, ih6, ih7, ih8, ih9⟩ := drydocklaw15_LogWhole.mono_l k
    refine ⟨?_, ?_, ?_, ?_, ?_, ?_, ?_, ?_, ?_, ?_⟩
    · intro y0 y1 y2 y3 y4 y5 y6
      unfold drydocklaw15_LogWhole.l0
      repeat' first
      | (with_reducible exact ih0 _ _ _ _ _ _ _)
      | (with_reducible exact ih1 _ _ _ _ _ _ _ _)
      | (with_reducible exact ih2 _ _ _ _)
      | (with_reducible exact ih3 _ _ _ _)
      | (with_reducible exact ih4 _ _ _ _ _)
      | (with_reducible exact ih5 _ _ _ _ _ _ _ _ _ _ _)
      | (with_reducible exact ih6 _ _ _ _ _ _ _ _ _ _ _ _ _ _ _)
      | (with_reducible exact ih7 _ _ _ _ _ _ _ _ _ _ _ _ _ _ _ _ _)
      | (with_reducible exact ih8 _ _ _ _ _ _ _ _ _ _ _ _ _ _ _ _ _)
      | (with_reducible exact ih9 _ _ _ _ _ _ _ _ _ _ _ _ _ _ _)
      | (with_reducible exact drydocklaw15_awake.mono _)
      | (with_reducible exact log_Begin.mono _ _ _)
      | (with_reducible exact log_Find.mono _ _ _ _)
      | (with_reducible exact LeO.refl _)
      | (with_reducible exact LeO.none _)
      | (with_reducible refine LeO.ite ?_ ?_)
      | (with_reducible refine LeO.bind ?_ (fun _ => ?_))
      | exact ih0 _ _ _ _ _ _ _
      | exact ih1 _ _ _ _ _ _ _ _
      | exact ih2 _ _ _ _
      | exact ih3 _ _ _ _
      | exact ih4 _ _ _ _ _
      | exact ih5 _ _ _ _ _ _ _ _ _ _ _
      | exact ih6 _ _ _ _ _ _ _ _ _ _ _ _ _ _ _
      | exact ih7 _ _ _ _ _ _ _ _ _ _ _ _ _ _ _ _ _
      | exact ih8 _ _ _ _ _ _ _ _ _ _ _ _ _ _ _ _ _
      | exact ih9 _ _ _ _ _ _ _ _ _ _ _ _ _ _ _
      | exact drydocklaw15_awake.mono _
      | exact log_Begin.mono _ _ _
      | exact log_Find.mono _ _ _ _
      | exact LeO.none _
      | refine LeO.ite ?_ ?_
      | refine LeO.bind ?_ (fun _ => ?_)
    · intro y0 y1 y2 y3 y4 y5 y6 y7
      unfold drydocklaw15_LogWhole.j6
      repeat' first
      | (with_reducible exact ih0 _ _ _ _ _ _ _)
      | (with_reducible exact ih1 _ _ _ _ _ _ _ _)
      | (with_reducible exact ih2 _ _ _ _)
      | (with_reducible exact ih3 _ _ _ _)
      | (with_reducible exact ih4 _ _ _ _ _)
      | (with_reducible exact ih5 _ _ _ _ _ _ _ _ _ _ _)
      | (with_reducible exact ih6 _ _ _ _ _ _ _ _ _ _ _ _ _ _ _)
      | (with_reducible exact ih7 _ _ _ _ _ _ _ _ _ _ _ _ _ _ _ _ _)
      | (with_reducible exact ih8 _ _ _ _ _ _ _ _ _ _ _ _ _ _ _ _ _)
      | (with_reducible exact ih9 _ _ _ _ _ _ _ _ _ _ _ _ _ _ _)
      | (with_reducible exact drydocklaw15_awake.mono _)
      | (with_reducible exact log_Begin.mono _ _ _)
      | (with_reducible exact log_Find.mono _ _ _ _)
      | (with_reducible exact LeO.refl _)
      | (with_reducible exact LeO.none _)
      | (with_reducible refine LeO.ite ?_ ?_)
      | (with_reducible refine LeO.bind ?_ (fun _ => ?_))
      | exact ih0 _ _ _ _ _ _ _
      | exact ih1 _ _ _ _ _ _ _ _
      | exact ih2 _ _ _ _
      | exact ih3 _ _ _ _
      | exact ih4 _ _ _ _ _
      | exact ih5 _ _ _ _ _ _ _ _ _ _ _
      | exact ih6 _ _ _ _ _ _ _ _ _ _ _ _ _ _ _
      | exact ih7 _ _ _ _ _ _ _ _ _ _ _ _ _ _ _ _ _
      | exact ih8 _ _ _ _ _ _ _ _ _ _ _ _ _ _ _ _ _
      | exact ih9 _ _ _ _ _ _ _ _ _ _ _ _ _ _ _
      | exact drydocklaw15_awake.mono _
      | exact log_Begin.mono _ _ _
      | exact log_Find.mono _ _ _ _
      | exact LeO.none _
      | refine LeO.ite ?_ ?_
      | refine LeO.bind ?_ (fun _ => ?_)
    · intro y0 y1 y2 y3
      unfold drydocklaw15_LogWhole.j7
      repeat' first
      | (with_reducible exact ih0 _ _ _ _ _ _ _)
      | (with_reducible exact ih1 _ _ _ _ _ _ _ _)
      | (with_reducible exact ih2 _ _ _ _)
      | (with_reducible exact ih3 _ _ _ _)
      | (with_reducible exact ih4 _ _ _ _ _)
      | (with_reducible exact ih5 _ _ _ _ _ _ _ _ _ _ _)
      | (with_reducible exact ih6 _ _ _ _ _ _ _ _ _ _ _ _ _ _ _)
      | (with_reducible exact ih7 _ _ _ _ _ _ _ _ _ _ _ _ _ _ _ _ _)
      | (with_reducible exact ih8 _ _ _ _ _ _ _ _ _ _ _ _ _ _ _ _ _)
      | (with_reducible exact ih9 _ _ _ _ _ _ _ _ _ _ _ _ _ _ _)
      | (with_reducible exact drydocklaw15_awake.mono _)
      | (with_reducible exact log_Begin.mono _ _ _)
      | (with_reducible exact log_Find.mono _ _ _ _)
      | (with_reducible exact LeO.refl _)
      | (with_reducible exact LeO.none _)
      | (with_reducible refine LeO.ite ?_ ?_)
      | (with_reducible refine LeO.bind ?_ (fun _ => ?_))
      | exact ih0 _ _ _ _ _ _ _
      | exact ih1 _ _ _ _ _ _ _ _
      | exact ih2 _ _ _ _
      | exact ih3 _ _ _ _
      | exact ih4 _ _ _ _ _
      | exact ih5 _ _ _ _ _ _ _ _ _ _ _
      | exact ih6 _ _ _ _ _ _ _ _ _ _ _ _ _ _ _
      | exact ih7 _ _ _ _ _ _ _ _ _ _ _ _ _ _ _ _ _
      | exact ih8 _ _ _ _ _ _ _ _ _ _ _ _ _ _ _ _ _
      | exact ih9 _ _ _ _ _ _ _ _ _ _ _ _ _ _ _
      | exact drydocklaw15_awake.mono _
      | exact log_Begin.mono _ _ _
      | exact log_Find.mono _ _ _ _
      | exact LeO.none _
      | refine LeO.ite ?_ ?_
      | refine LeO.bind ?_ (fun _ => ?_)
    · intro y0 y1 y2 y3
      unfold drydocklaw15_LogWhole.l5
      repeat' first
      | (with_reducible exact ih0 _ _ _ _ _ _ _)
      | (with_reducible exact ih1 _ _ _ _ _ _ _ _)
      | (with_reducible exact ih2 _ _ _ _)
      | (with_reducible exact ih3 _ _ _ _)
      | (with_reducible exact ih4 _ _ _ _ _)
      | (with_reducible exact ih5 _ _ _ _ _ _ _ _ _ _ _)
      | (with_reducible exact ih6 _ _ _ _ _ _ _ _ _ _ _ _ _ _ _)
      | (with_reducible exact ih7 _ _ _ _ _ _ _ _ _ _ _ _ _ _ _ _ _)
      | (with_reducible exact ih8 _ _ _ _ _ _ _ _ _ _ _ _ _ _ _ _ _)
      | (with_reducible exact ih9 _ _ _ _ _ _ _ _ _ _ _ _ _ _ _)
      | (with_reducible exact drydocklaw15_awake.mono _)
      | (with_reducible exact log_Begin.mono _ _ _)
      | (with_reducible exact log_Find.mono _ _ _ _)
      | (with_reducible exact LeO.refl _)
      | (with_reducible exact LeO.none _)
      | (with_reducible refine LeO.ite ?_ ?_)
      | (with_reducible refine LeO.bind ?_ (fun _ => ?_))
      | exact ih0 _ _ _ _ _ _ _
      | exact ih1 _ _ _ _ _ _ _ _
      | exact ih2 _ _ _ _
      | exact ih3 _ _ _ _
      | exact ih4 _ _ _ _ _
      | exact ih5 _ _ _ _ _ _ _ _ _ _ _
      | exact ih6 _ _ _ _ _ _ _ _ _ _ _ _ _ _ _
      | exact ih7 _ _ _ _ _ _ _ _ _ _ _ _ _ _ _ _ _
      | exact ih8 _ _ _ _ _ _ _ _ _ _ _ _ _ _ _ _ _
      | exact ih9 _ _ _ _ _ _ _ _ _ _ _ _ _ _ _
      | exact drydocklaw15_awake.mono _
      | exact log_Begin.mono _ _ _
      | exact log_Find.mono _ _ _ _
      | exact LeO.none _
      | refine LeO.ite ?_ ?_
      | refine LeO.bind ?_ (fun _ => ?_)
    · intro y0 y1 y2 y3 y4
      unfold drydocklaw15_LogWhole.j9
      repeat' first
      | (with_reducible exact ih0 _ _ _ _ _ _ _)
      | (with_reducible exact ih1 _ _ _ _ _ _ _ _)
      | (with_reducible exact ih2 _ _ _ _)
      | (with_reducible exact ih3 _ _ _ _)
      | (with_reducible exact ih4 _ _ _ _ _)
      | (with_reducible exact ih5 _ _ _ _ _ _ _ _ _ _ _)
      | (with_reducible exact ih6 _ _ _ _ _ _ _ _ _ _ _ _ _ _ _)
      | (with_reducible exact ih7 _ _ _ _ _ _ _ _ _ _ _ _ _ _ _ _ _)
      | (with_reducible exact ih8 _ _ _ _ _ _ _ _ _ _ _ _ _ _ _ _ _)
      | (with_reducible exact ih9 _ _ _ _ _ _ _ _ _ _ _ _ _ _ _)
      | (with_reducible exact drydocklaw15_awake.mono _)
      | (with_reducible exact log_Begin.mono _ _ _)
      | (with_reducible exact log_Find.mono _ _ _ _)
      | (with_reducible exact LeO.refl _)
      | (with_reducible exact LeO.none _)
      | (with_reducible refine LeO.ite ?_ ?_)
      | (with_reducible refine LeO.bind ?_ (fun _ => ?_))
      | exact ih0 _ _ _ _ _ _ _
      | exact ih1 _ _ _ _ _ _ _ _
      | exact ih2 _ _ _ _
      | exact ih3 _ _ _ _
      | exact ih4 _ _ _ _ _
      | exact ih5 _ _ _ _ _ _ _ _ _ _ _
      | exact ih6 _ _ _ _ _ _ _ _ _ _ _ _ _ _ _
      | exact ih7 _ _ _ _ _ _ _ _ _ _ _ _ _ _ _ _ _
      | exact ih8 _ _ _ _ _ _ _ _ _ _ _ _ _ _ _ _ _
      | exact ih9 _ _ _ _ _ _ _ _ _ _ _ _ _ _ _
      | exact drydocklaw15_awake.mono _
      | exact log_Begin.mono _ _ _
      | exact log_Find.mono _ _ _ _
      | exact LeO.none _
      | refine LeO.ite ?_ ?_
      | refine LeO.bind ?_ (fun _ => ?_)
    · intro y0 y1 y2 y3 y4 y5 y6 y7 y8 y9 y10
      unfold drydocklaw15_LogWhole.l1
      repeat' first
      | (with_reducible exact ih0 _ _ _ _ _ _ _)
      | (with_reducible exact ih1 _ _ _ _ _ _ _ _)
      | (with_reducible exact ih2 _ _ _ _)
      | (with_reducible exact ih3 _ _ _ _)
      | (with_reducible exact ih4 _ _ _ _ _)
      | (with_reducible exact ih5 _ _ _ _ _ _ _ _ _ _ _)
      | (with_reducible exact ih6 _ _ _ _ _ _ _ _ _ _ _ _ _ _ _)
      | (with_reducible exact ih7 _ _ _ _ _ _ _ _ _ _ _ _ _ _ _ _ _)
      | (with_reducible exact ih8 _ _ _ _ _ _ _ _ _ _ _ _ _ _ _ _ _)
      | (with_reducible exact ih9 _ _ _ _ _ _ _ _ _ _ _ _ _ _ _)
      | (with_reducible exact drydocklaw15_awake.mono _)
      | (with_reducible exact log_Begin.mono _ _ _)
      | (with_reducible exact log_Find.mono _ _ _ _)
      | (with_reducible exact LeO.refl _)
      | (with_reducible exact LeO.none _)
      | (with_reducible refine LeO.ite ?_ ?_)
      | (with_reducible refine LeO.bind ?_ (fun _ => ?_))
      | exact ih0 _ _ _ _ _ _ _
      | exact ih1 _ _ _ _ _ _ _ _
      | exact ih2 _ _ _ _
      | exact ih3 _ _ _ _
      | exact ih4 _ _ _ _ _
      | exact ih5 _ _ _ _ _ _ _ _ _ _ _
      | exact ih6 _ _ _ _ _ _ _ _ _ _ _ _ _ _ _
      | exact ih7 _ _ _ _ _ _ _ _ _ _ _ _ _ _ _ _ _
      | exact ih8 _ _ _ _ _ _ _ _ _ _ _ _ _ _ _ _ _
      | exact ih9 _ _ _ _ _ _ _ _ _ _ _ _ _ _ _
      | exact drydocklaw15_awake.mono _
      | exact log_Begin.mono _ _ _
      | exact log_Find.mono _ _ _ _
      | exact LeO.none _
      | refine LeO.ite ?_ ?_
      | refine LeO.bind ?_ (fun _ => ?_)
    · intro y0 y1 y2 y3 y4 y5 y6 y7 y8 y9 y10 y11 y12 y13 y14
      unfold drydocklaw15_LogWhole.l2
      repeat' first
      | (with_reducible exact ih0 _ _ _ _ _ _ _)
      | (with_reducible exact ih1 _ _ _ _ _ _ _ _)
      | (with_reducible exact ih2 _ _ _ _)
      | (with_reducible exact ih3 _ _ _ _)
      | (with_reducible exact ih4 _ _ _ _ _)
      | (with_reducible exact ih5 _ _ _ _ _ _ _ _ _ _ _)
      | (with_reducible exact ih6 _ _ _ _ _ _ _ _ _ _ _ _ _ _ _)
      | (with_reducible exact ih7 _ _ _ _ _ _ _ _ _ _ _ _ _ _ _ _ _)
      | (with_reducible exact ih8 _ _ _ _ _ _ _ _ _ _ _ _ _ _ _ _ _)
      | (with_reducible exact ih9 _ _ _ _ _ _ _ _ _ _ _ _ _ _ _)
      | (with_reducible exact drydocklaw15_awake.mono _)
      | (with_reducible exact log_Begin.mono _ _ _)
      | (with_reducible exact log_Find.mono _ _ _ _)
      | (with_reducible exact LeO.refl _)
      | (with_reducible exact LeO.none _)
      | (with_reducible refine LeO.ite ?_ ?_)
      | (with_reducible refine LeO.bind ?_ (fun _ => ?_))
      | exact ih0 _ _ _ _ _ _ _
      | exact ih1 _ _ _ _ _ _ _ _
      | exact ih2 _ _ _ _
      | exact ih3 _ _ _ _
      | exact ih4 _ _ _ _ _
      | exact ih5 _ _ _ _ _ _ _ _ _ _ _
      | exact ih6 _ _ _ _ _ _ _ _ _ _ _ _ _ _ _
      | exact ih7 _ _ _ _ _ _ _ _ _ _ _ _ _ _ _ _ _
      | exact ih8 _ _ _ _ _ _ _ _ _ _ _ _ _ _ _ _ _
      | exact ih9 _ _ _ _ _ _ _ _ _ _ _ _ _ _ _
      | exact drydocklaw15_awake.mono _
      | exact log_Begin.mono _ _ _
      | exact log_Find.mono _ _ _ _
      | exact LeO.none _
      | refine LeO.ite ?_ ?_
      | refine LeO.bind ?_ (fun _ => ?_)
    · intro y0 y1 y2 y3 y4 y5 y6 y7 y8 y9 y10 y11 y12 y13 y14 y15 y16
      unfold drydocklaw15_LogWhole.j3
      repeat' first
      | (with_reducible exact ih0 _ _ _ _ _ _ _)
      | (with_reducible exact ih1 _ _ _ _ _ _ _ _)
      | (with_reducible exact ih2 _ _ _ _)
      | (with_reducible exact ih3 _ _ _ _)
      | (with_reducible exact ih4 _ _ _ _ _)
      | (with_reducible exact ih5 _ _ _ _ _ _ _ _ _ _ _)
      | (with_reducible exact ih6 _ _ _ _ _ _ _ _ _ _ _ _ _ _ _)
      | (with_reducible exact ih7 _ _ _ _ _ _ _ _ _ _ _ _ _ _ _ _ _)
      | (with_reducible exact ih8 _ _ _ _ _ _ _ _ _ _ _ _ _ _ _ _ _)
      | (with_reducible exact ih9 _ _ _ _ _ _ _ _ _ _ _ _ _ _ _)
      | (with_reducible exact drydocklaw15_awake.mono _)
      | (with_reducible exact log_Begin.mono _ _ _)
      | (with_reducible exact log_Find.mono _ _ _ _)
      | (with_reducible exact LeO.refl _)
      | (with_reducible exact LeO.none _)
      | (with_reducible refine LeO.ite ?_ ?_)
      | (with_reducible refine LeO.bind ?_ (fun _ => ?_))
      | exact ih0 _ _ _ _ _ _ _
      | exact ih1 _ _ _ _ _ _ _ _
      | exact ih2 _ _ _ _
      | exact ih3 _ _ _ _
      | exact ih4 _ _ _ _ _
      | exact ih5 _ _ _ _ _ _ _ _ _ _ _
      | exact ih6 _ _ _ _ _ _ _ _ _ _ _ _ _ _ _
      | exact ih7 _ _ _ _ _ _ _ _ _ _ _ _ _ _ _ _ _
      | exact ih8 _ _ _ _ _ _ _ _ _ _ _ _ _ _ _ _ _
      | exact ih9 _ _ _ _ _ _ _ _ _ _ _ _ _ _ _
      | exact drydocklaw15_awake.mono _
      | exact log_Begin.mono _ _ _
      | exact log_Find.mono _ _ _ _
      | exact LeO.none _
      | refine LeO.ite ?_ ?_
      | refine LeO.bind ?_ (fun _ => ?_)
    · intro y0 y1 y2 y3 y4 y5 y6 y7 y8 y9 y10 y11 y12 y13 y14 y15 y16
      unfold drydocklaw15_LogWhole.l3
      repeat' first
      | (with_reducible exact ih0 _ _ _ _ _ _ _)
      | (with_reducible exact ih1 _ _ _ _ _ _ _ _)
      | (with_reducible exact ih2 _ _ _ _)
      | (with_reducible exact ih3 _ _ _ _)
      | (with_reducible exact ih4 _ _ _ _ _)
      | (with_reducible exact ih5 _ _ _ _ _ _ _ _ _ _ _)
      | (with_reducible exact ih6 _ _ _ _ _ _ _ _ _ _ _ _ _ _ _)
      | (with_reducible exact ih7 _ _ _ _ _ _ _ _ _ _ _ _ _ _ _ _ _)
      | (with_reducible exact ih8 _ _ _ _ _ _ _ _ _ _ _ _ _ _ _ _ _)
      | (with_reducible exact ih9 _ _ _ _ _ _ _ _ _ _ _ _ _ _ _)
      | (with_reducible exact drydocklaw15_awake.mono _)
      | (with_reducible exact log_Begin.mono _ _ _)
      | (with_reducible exact log_Find.mono _ _ _ _)
      | (with_reducible exact LeO.refl _)
      | (with_reducible exact LeO.none _)
      | (with_reducible refine LeO.ite ?_ ?_)
      | (with_reducible refine LeO.bind ?_ (fun _ => ?_))
      | exact ih0 _ _ _ _ _ _ _
      | exact ih1 _ _ _ _ _ _ _ _
      | exact ih2 _ _ _ _
      | exact ih3 _ _ _ _
      | exact ih4 _ _ _ _ _
      | exact ih5 _ _ _ _ _ _ _ _ _ _ _
      | exact ih6 _ _ _ _ _ _ _ _ _ _ _ _ _ _ _
      | exact ih7 _ _ _ _ _ _ _ _ _ _ _ _ _ _ _ _ _
      | exact ih8 _ _ _ _ _ _ _ _ _ _ _ _ _ _ _ _ _
      | exact ih9 _ _ _ _ _ _ _ _ _ _ _ _ _ _ _
      | exact drydocklaw15_awake.mono _
      | exact log_Begin.mono _ _ _
      | exact log_Find.mono _ _ _ _
      | exact LeO.none _
      | refine LeO.ite ?_ ?_
      | refine LeO.bind ?_ (fun _ => ?_)
    · intro y0 y1 y2 y3 y4 y5 y6 y7 y8 y9 y10 y11 y12 y13 y14
      unfold drydocklaw15_LogWhole.l4
      repeat' first
      | (with_reducible exact ih0 _ _ _ _ _ _ _)
      | (with_reducible exact ih1 _ _ _ _ _ _ _ _)
      | (with_reducible exact ih2 _ _ _ _)
      | (with_reducible exact ih3 _ _ _ _)
      | (with_reducible exact ih4 _ _ _ _ _)
      | (with_reducible exact ih5 _ _ _ _ _ _ _ _ _ _ _)
      | (with_reducible exact ih6 _ _ _ _ _ _ _ _ _ _ _ _ _ _ _)
      | (with_reducible exact ih7 _ _ _ _ _ _ _ _ _ _ _ _ _ _ _ _ _)
      | (with_reducible exact ih8 _ _ _ _ _ _ _ _ _ _ _ _ _ _ _ _ _)
      | (with_reducible exact ih9 _ _ _ _ _ _ _ _ _ _ _ _ _ _ _)
      | (with_reducible exact drydocklaw15_awake.mono _)
      | (with_reducible exact log_Begin.mono _ _ _)
      | (with_reducible exact log_Find.mono _ _ _ _)
      | (with_reducible exact LeO.refl _)
      | (with_reducible exact LeO.none _)
      | (with_reducible refine LeO.ite ?_ ?_)
      | (with_reducible refine LeO.bind ?_ (fun _ => ?_))
      | exact ih0 _ _ _ _ _ _ _
      | exact ih1 _ _ _ _ _ _ _ _
      | exact ih2 _ _ _ _
      | exact ih3 _ _ _ _
      | exact ih4 _ _ _ _ _
      | exact ih5 _ _ _ _ _ _ _ _ _ _ _
      | exact ih6 _ _ _ _ _ _ _ _ _ _ _ _ _ _ _
      | exact ih7 _ _ _ _ _ _ _ _ _ _ _ _ _ _ _ _ _
      | exact ih8 _ _ _ _ _ _ _ _ _ _ _ _ _ _ _ _ _
      | exact ih9 _ _ _ _ _ _ _ _ _ _ _ _ _ _ _
      | exact drydocklaw15_awake.mono _
      | exact log_Begin.mono _ _ _
      | exact log_Find.mono _ _ _ _
      | exact LeO.none _
      | refine LeO.ite ?_ ?_
      | refine LeO.bind ?_ (fun _ => ?_)
theorem drydocklaw15_LogWhole.mono : ∀ a0 a1 a2 a3 a4 k, LeO (drydocklaw15_LogWhole.f k a0 a1 a2 a3 a4) (drydocklaw15_LogWhole.f (k + 1) a0 a1 a2 a3 a4) := by
  intro a0 a1 a2 a3 a4 k
  obtain ⟨ih0, ih1, ih2, ih3, ih4, ih5, ih6, ih7, ih8, ih9⟩ := drydocklaw15_LogWhole.mono_l k
  unfold drydocklaw15_LogWhole.f
  repeat' first
      | (with_reducible exact ih0 _ _ _ _ _ _ _)
      | (with_reducible exact ih1 _ _ _ _ _ _ _ _)
      | (with_reducible exact ih2 _ _ _ _)
      | (with_reducible exact ih3 _ _ _ _)
      | (with_reducible exact ih4 _ _ _ _ _)
      | (with_reducible exact ih5 _ _ _ _ _ _ _ _ _ _ _)
      | (with_reducible exact ih6 _ _ _ _ _ _ _ _ _ _ _ _ _ _ _)
      | (with_reducible exact ih7 _ _ _ _ _ _ _ _ _ _ _ _ _ _ _ _ _)
      | (with_reducible exact ih8 _ _ _ _ _ _ _ _ _ _ _ _ _ _ _ _ _)
      | (with_reducible exact ih9 _ _ _ _ _ _ _ _ _ _ _ _ _ _ _)
      | (with_reducible exact drydocklaw15_awake.mono _)
      | (with_reducible exact log_Begin.mono _ _ _)
      | (with_reducible exact log_Find.mono _ _ _ _)
      | (with_reducible exact LeO.refl _)
      | (with_reducible exact LeO.none _)
      | (with_reducible refine LeO.ite ?_ ?_)
      | (with_reducible refine LeO.bind ?_ (fun _ => ?_))
      | exact ih0 _ _ _ _ _ _ _
      | exact ih1 _ _ _ _ _ _ _ _
      | exact ih2 _ _ _ _
      | exact ih3 _ _ _ _
      | exact ih4 _ _ _ _ _
      | exact ih5 _ _ _ _ _ _ _ _ _ _ _
      | exact ih6 _ _ _ _ _ _ _ _ _ _ _ _ _ _ _
      | exact ih7 _ _ _ _ _ _ _ _ _ _ _ _ _ _ _ _ _
      | exact ih8 _ _ _ _ _ _ _ _ _ _ _ _ _ _ _ _ _
      | exact ih9 _ _ _ _ _ _ _ _ _ _ _ _ _ _ _
      | exact drydocklaw15_awake.mono _
      | exact log_Begin.mono _ _ _
      | exact log_Find.mono _ _ _ _
      | exact LeO.none _
      | refine LeO.ite ?_ ?_
      | refine LeO.bind ?_ (fun _ => ?_)
def drydocklaw15_LogWhole.T37 : Bool × List (List Nat × List Nat) := (true, [([], []), ([], []), ([1], [1]), ([], []), ([2, 3], [2, 3]), ([4], [4]), ([], []), ([], []), ([6, 7], [6, 7]), ([8], [8]), ([0, 5, 0, 1, 2, 3, 4, 5, 6, 7, 8, 9], [0, 5]), ([10, 9, 0, 1, 2, 3, 4, 5, 6, 7, 8, 9], [9, 10])])
def drydocklaw15_LogWhole.B37 : List Nat := [0, 0, 2, 0, 14, 30, 0, 0, 192, 448, 1023, 2047]
theorem drydocklaw15_LogWhole.tab37 : rtab .any (opsOf Try.f7 37) = drydocklaw15_LogWhole.T37 := by kernel_rfl
theorem drydocklaw15_LogWhole.bits37 : waitsOk drydocklaw15_LogWhole.T37.2 drydocklaw15_LogWhole.B37 = true := by kernel_rfl
def drydocklaw15_LogWhole.T48 : Bool × List (List Nat × List Nat) := (true, [([], []), ([], []), ([0, 1], [0, 1]), ([2], [2]), ([3], [3]), ([], []), ([], []), ([5, 6], [5, 6]), ([7], [7]), ([8], [8]), ([9], [9]), ([10], [10]), ([4, 11], [4, 11]), ([12], [12]), ([13], [13]), ([13], [13]), ([14, 15, 13], [13, 14, 15]), ([16, 13], [13, 16]), ([17, 13], [13, 17]), ([18, 13], [13, 18]), ([19, 13], [13, 19]), ([13], [13]), ([21, 13], [13, 21]), ([22, 13], [13, 22]), ([20, 23, 13], [13, 20, 23]), ([13, 24], [13, 24]), ([25, 13], [25]), ([26], [26]), ([26], [26]), ([27, 28, 26], [26, 27, 28]), ([29, 26], [26, 29]), ([30, 26], [26, 30]), ([31, 26], [26, 31]), ([32, 26], [26, 32]), ([33, 26], [26, 33]), ([34, 26], [26, 34]), ([26], [26]), ([35, 36, 26], [26, 35, 36]), ([26, 37], [26, 37]), ([38, 26], [38]), ([39], [39]), ([39], [39]), ([40, 41, 39], [39, 40, 41]), ([42, 39], [39, 42]), ([43, 39], [39, 43]), ([44, 39], [39, 44]), ([45, 39], [39, 45]), ([46, 39], [39, 46]), ([47, 39], [39, 47]), ([39], [39]), ([49, 39], [39, 49]), ([48, 50, 39], [39, 48, 50]), ([39, 51], [39, 51])])
def drydocklaw15_LogWhole.B48 : List Nat := [0, 0, 3, 7, 15, 0, 0, 96, 224, 480, 992, 2016, 4095, 8191, 16383, 16383, 65535, 131071, 262143, 524287, 1048575, 16383, 2113535, 6307839, 16777215, 33554431, 67108863, 134217727, 134217727, 536870911, 1073741823, 2147483647, 4294967295, 8589934591, 17179869183, 34359738367, 134217727, 137438953471, 274877906943, 549755813887, 1099511627775, 1099511627775, 4398046511103, 8796093022207, 17592186044415, 35184372088831, 70368744177663, 140737488355327, 281474976710655, 1099511627775, 564049465049087, 2251799813685247, 4503599627370495]
theorem drydocklaw15_LogWhole.tab48 : rtab .any (opsOf Try.f7 48) = drydocklaw15_LogWhole.T48 := by kernel_rfl
theorem drydocklaw15_LogWhole.bits48 : waitsOk drydocklaw15_LogWhole.T48.2 drydocklaw15_LogWhole.B48 = true := by kernel_rfl
set_option maxHeartbeats 8000000 in
set_option maxRecDepth 100000 in
theorem drydocklaw15_LogWhole.calls (k : Nat) (a0 : Int) (a1 : Int) (A2 : Option Addr) (c2 : Nat) (l2 : List Int) (a3 : Int) (a4 : Int) (r : Bool) (w : World) (hr2 : Kd.C (Kd.int .u8) w A2 l2.length l2) (hc2 : l2.length ≤ c2) (h : drydocklaw15_LogWhole.f k a0 a1 l2 a3 a4 = some r) :
  Calls Try.prog 7 #[.int .u8 a0, .int .u16 a1, .slice A2 l2.length c2, .int .u8 a3, .int .u8 a4] w fun e w' => e = .returned (.bool r) ∧ Below w.heap.size w w' := by
 have hu41 := Try.underlying41
 have hu24 := Try.underlying24
 have HR2 := Aside0.mk hr2
 have HC2 := Aside0.mk hc2
 clear hr2 hc2
 have HB := Aside0.mk (Below.refl w.heap.size w)
 have H : (drydocklaw15_LogWhole.l0 k l2 a3 a4 (([] : List (List Int))) 0 (wrap64 (Int.tmod a0 40)) (wrap64 ((wrap64 (a1)) + 1))) = some r := h
 clear h
 obtain ⟨y157, hy157⟩ : ∃ y_ : List (List Int), y_ = (([] : List (List Int))) := ⟨_, rfl⟩
 replace H : (drydocklaw15_LogWhole.l0 k l2 a3 a4 y157 0 (wrap64 (Int.tmod a0 40)) (wrap64 ((wrap64 (a1)) + 1))) = some r := by first | (rw [hy157]; with_reducible exact H) | (have H2_ := (Option.bind_some _ _).symm.trans H; rw [hy157]; with_reducible exact H2_) | (have H2_ := (Option.bind_some _ _).symm.trans H; with_reducible exact H2_) | with_reducible exact H | (rw [hy157]; exact H) | exact H
 have Ny157 := Aside0.mk hy157
 clear hy157
 have H' := Aside0.mk H
 clear H
 go_enter Try.func7, Try.ntmps7
 go_wp2_with (first | ((with_reducible refine gate_dst (N := 11) rfl ?_); (try (refine gate_guard (by rfl) ?_; dsimp only)); refine box_event ?hg (N := 11) ?hd (cs := #[.int .i64 0, .int .i64 0]) (t := 41) ?hr ?_; (case hd => rfl); (case hg => rfl); (case hr => first | (go_simp; done) | (go_simp; rfl)); intro gb156 hg w6 hbox hb; have n0_ := Aside0.mk (below_step (by repeat (first | (with_reducible first | exact HB.out | apply below_alloc | apply pw_below_drewN | apply below_drew1) | exact HB.out)) hb); have n1_ := Aside0.mk (hbox); have n2_ := Aside0.mk ((by rw [hg]; exact (below_size (by repeat (first | (with_reducible first | exact HB.out | apply below_alloc | apply pw_below_drewN | apply below_drew1) | exact HB.out))) : w.heap.size ≤ gb156)); have n3_ := Aside0.mk ((by rw [hg]; exact (below_size (by repeat (first | (with_reducible first | exact HB.out | apply below_alloc | apply pw_below_drewN | apply below_drew1) | exact HB.out))) : w.heap.size ≤ gb156)); clear HB; have HB := n0_; have BK156 := n1_; have GW156 := n2_; have GE156 := n3_; clear n0_ n1_ n2_ n3_; clear hb hbox hg; have hcz7_0 : w6.cell? ⟨gb156, 0, none⟩ = some (.int .i64 0) := (blk_cell BK156.out 0).trans rfl; have hcz7_1 : w6.cell? ⟨gb156, 1, none⟩ = some (.int .i64 0) := (blk_cell BK156.out 1).trans rfl; have hfz7_0 := blk_frozen BK156.out 0; have hfz7_1 := blk_frozen BK156.out 1) | ((with_reducible refine gate_dst (N := 40) rfl ?_); (try (refine gate_guard (by rfl) ?_; dsimp only)); refine Kd.N_lit (Kd.slice 5 (Kd.int .u8)) _ 25 ?hg (N' := 40) ?hd (xs := ([] : List (List Int))) (inner := []) (ok := (fun k_ => k_ ≠ gb156)) (okp := (fun k_ => k_ ≠ gb156)) ?hr ?hp (fun _ hk => hk) (Kd.freshB (g := gb156) (o := .cells #[.int .i64 (wrap64 (Int.tmod a0 40)), .int .i64 (wrap64 ((wrap64 (a1)) + 1))] 41 (0, 0)) (by (with_reducible repeat (first | refine blk_drewN ?_ _ | refine blk_drew ?_ | refine blk_alloc ?_ _)); refine blk_put (cs := #[.int .i64 (wrap64 (Int.tmod a0 40)), .int .i64 0]) ?_ 1 _ rfl; (with_reducible repeat (first | refine blk_drewN ?_ _ | refine blk_drew ?_ | refine blk_alloc ?_ _)); refine blk_put (cs := #[.int .i64 0, .int .i64 0]) ?_ 0 _ rfl; (with_reducible repeat (first | refine blk_drewN ?_ _ | refine blk_drew ?_ | refine blk_alloc ?_ _)); exact BK156.out) _ (Nat.le_refl _)) (Below.refl _ _) (Nat.le_refl _) (by simp) ?_; (case hd => rfl); (case hg => rfl); (case hr => first | (go_simp; done) | (go_simp; rfl)); (case hp => exact (Reps.none _ _)); intro v158 w8 ho9 hb hg_ hnew_; clear hg_ hnew_; (first | rw [← Ny157.out] at ho9 | (simp only [Int.reduceToNat] at ho9; rw [← Ny157.out] at ho9)); have n0_ := Aside0.mk (Kd.N_lower ho9 (below_size (by repeat (first | (with_reducible first | exact HB.out | apply below_alloc | apply pw_below_drewN | apply below_drew1 | refine below_set ?_ GE156.out) | exact HB.out)))); have n1_ := Aside0.mk (blk_below (g := gb156) (o := .cells #[.int .i64 (wrap64 (Int.tmod a0 40)), .int .i64 (wrap64 ((wrap64 (a1)) + 1))] 41 (0, 0)) (by (with_reducible repeat (first | refine blk_drewN ?_ _ | refine blk_drew ?_ | refine blk_alloc ?_ _)); refine blk_put (cs := #[.int .i64 (wrap64 (Int.tmod a0 40)), .int .i64 0]) ?_ 1 _ rfl; (with_reducible repeat (first | refine blk_drewN ?_ _ | refine blk_drew ?_ | refine blk_alloc ?_ _)); refine blk_put (cs := #[.int .i64 0, .int .i64 0]) ?_ 0 _ rfl; (with_reducible repeat (first | refine blk_drewN ?_ _ | refine blk_drew ?_ | refine blk_alloc ?_ _)); exact BK156.out) hb); have n2_ := Aside0.mk (below_step (by repeat (first | (with_reducible first | exact HB.out | apply below_alloc | apply pw_below_drewN | apply below_drew1 | refine below_set ?_ GE156.out) | exact HB.out)) hb); clear BK156; clear HB; have HO159 := n0_; have BK156 := n1_; have HB := n2_; clear n0_ n1_ n2_; clear hb ho9))
 go_loopg [12, 13] k (fun kq v12 v13 w' => ∃ (x12_1 : List (List Int)) (x13_1 : Int), v13 = .int .i64 x13_1 ∧ Aside0 (drydocklaw15_LogWhole.l0 kq l2 a3 a4 x12_1 x13_1 (wrap64 (Int.tmod a0 40)) (wrap64 ((wrap64 (a1)) + 1)) = some r) ∧ Aside0 (kq ≤ k) ∧ Aside0 (Kd.N (Kd.slice 5 (Kd.int .u8)) 25 w' w.heap.size (fun k_ => k_ ≠ gb156) v12 x12_1) ∧ Aside0 (w'.heap[gb156]? = some (.cells #[.int .i64 (wrap64 (Int.tmod a0 40)), .int .i64 (wrap64 ((wrap64 (a1)) + 1))] 41 (0, 0))) ∧ Aside0 (Below w.heap.size w w'))
 case atStart => exact ⟨(y157), (0), (by first | rfl | (simp; done) | (simp [*]; done)), H', ⟨Nat.le_refl _⟩, ⟨by (with_reducible repeat (first | apply Kd.N_alloc | apply Kd.N_drewN | apply Kd.N_drew)); exact HO159.out⟩, ⟨by (with_reducible repeat (first | refine blk_drewN ?_ _ | refine blk_drew ?_ | refine blk_alloc ?_ _)); exact BK156.out⟩, ⟨by repeat (first | (with_reducible first | exact HB.out | apply below_alloc | apply pw_below_drewN | apply below_drew1 | refine below_set ?_ GE156.out) | exact HB.out)⟩⟩
 case round =>
  clear H'
  try clear c2
  try clear p2
  try clear p6
  try clear c7
  try clear hcz7_0
  try clear hcz7_1
  try clear hfz7_0
  try clear hfz7_1
  obtain ⟨x12_1, x13_1, rfl, HA, HK1, HO_12, BK156, HB⟩ := hrel
  cases gk with
  | zero => exact absurd HA.out (by simp [drydocklaw15_LogWhole.l0])
  | succ k1 =>
   have H := HA.out
   clear HA
   simp only [drydocklaw15_LogWhole.l0] at H
   by_cases c10 : x13_1 < 40
   ·rw [if_pos c10] at H
    have c10b0 : decide (x13_1 < 40) = true := decide_eq_true c10
    clear c10
    by_cases c11 : 64 ≤ 281474976710656
    ·rw [if_pos c11] at H
     have c11b0 := eq_true c11
     have c11b1 : decide (64 ≤ 281474976710656) = true := decide_eq_true c11
     clear c11
     obtain ⟨y160, hy160⟩ : ∃ y_ : List Int, y_ = (List.replicate 64 0) := ⟨_, rfl⟩
     replace H : (if x12_1.length < 5864062014805 then (drydocklaw15_LogWhole.l0 k1 l2 a3 a4 (x12_1 ++ [y160]) (wrap64 (x13_1 + 1)) (wrap64 (Int.tmod a0 40)) (wrap64 ((wrap64 (a1)) + 1))) else (none)) = some r := by first | (rw [hy160]; with_reducible exact H) | (have H2_ := (Option.bind_some _ _).symm.trans H; rw [hy160]; with_reducible exact H2_) | (have H2_ := (Option.bind_some _ _).symm.trans H; with_reducible exact H2_) | with_reducible exact H | (rw [hy160]; exact H) | exact H
     have Ny160 := Aside0.mk hy160
     clear hy160
     by_cases c12 : x12_1.length < 5864062014805
     ·rw [if_pos c12] at H
      have LMc12 := Aside0.mk c12
      clear c12
      obtain ⟨y163, hy163⟩ : ∃ y_ : List (List Int), y_ = (x12_1 ++ [y160]) := ⟨_, rfl⟩
      replace H : (drydocklaw15_LogWhole.l0 k1 l2 a3 a4 y163 (wrap64 (x13_1 + 1)) (wrap64 (Int.tmod a0 40)) (wrap64 ((wrap64 (a1)) + 1))) = some r := by first | (rw [hy163]; with_reducible exact H) | (have H2_ := (Option.bind_some _ _).symm.trans H; rw [hy163]; with_reducible exact H2_) | (have H2_ := (Option.bind_some _ _).symm.trans H; with_reducible exact H2_) | with_reducible exact H | (rw [hy163]; exact H) | exact H
      have Ny163 := Aside0.mk hy163
      clear hy163
      have H' := Aside0.mk H
      clear H
      go_wp2_with (first | ((with_reducible refine gate_dst (N := 46) rfl ?_); (try (refine gate_guard (by rfl) ?_; dsimp only)); refine Kd.R_make (Kd.int .u8) _ 5 rfl (N := 46) rfl 25 _ _ rfl 64 rfl rfl Try.underlying25 (.int .u8 0) 1 info5 rfl (by decide) (by omega) 0 (ok := fun _ => True) (okp := fun _ => True) rfl (fun _ hk => hk) trivial (by omega) (by omega) (Below.refl _ _) (Nat.le_refl _) ?_; intro v161 w13 ho14 hb hg_ hnew_; clear hg_ hnew_; (first | rw [← Ny160.out] at ho14 | (simp only [Int.reduceToNat] at ho14; rw [← Ny160.out] at ho14)); have n0_ := Aside0.mk (Kd.N_elder' (by (with_reducible repeat (first | apply Kd.N_alloc | apply Kd.N_drewN | apply Kd.N_drew)); exact HO_12.out) (Kd.R_base ho14) hb); have n1_ := Aside0.mk (Kd.R_lower ho14 (below_size (by repeat (first | (with_reducible first | exact HB.out | apply below_alloc | apply pw_below_drewN | apply below_drew1 | refine below_set ?_ GE156.out) | exact HB.out)))); have n2_ := Aside0.mk (blk_below (g := gb156) (o := .cells #[.int .i64 (wrap64 (Int.tmod a0 40)), .int .i64 (wrap64 ((wrap64 (a1)) + 1))] 41 (0, 0)) (by (with_reducible repeat (first | refine blk_drewN ?_ _ | refine blk_drew ?_ | refine blk_alloc ?_ _)); exact BK156.out) hb); have n3_ := Aside0.mk (below_step (by repeat (first | (with_reducible first | exact HB.out | apply below_alloc | apply pw_below_drewN | apply below_drew1 | refine below_set ?_ GE156.out) | exact HB.out)) hb); clear HO_12; clear BK156; clear HB; have HO_12 := n0_; have HO162 := n1_; have BK156 := n2_; have HB := n3_; clear n0_ n1_ n2_ n3_; clear hb ho14; obtain ⟨Ao16, co16, eo16⟩ := Kd.R_slice HO162.out; subst eo16) | ((with_reducible refine gate_builtin (b := .append) (xs := #[.tmp 45, .tmp 47]) rfl ?_); (try (refine gate_guard (by rfl) ?_; dsimp only)); at_builtin; refine Kd.N_append (Kd.slice 5 (Kd.int .u8)) (w0 := w) w.heap.size rfl (.tmp 45) (.tmp 47) 39 25 (.slice none 0 0) 24 rfl Try.underlying39 info25 rfl (by decide) (by omega) u12 x12_1 y160 [.slice Ao16 y160.length co16] (fun k_ => k_ ≠ gb156) (fun k_ => ((fun k_ => k_ ≠ gb156)) k_ ∧ some k_ ≠ (u12 : Value).ownBlock) rfl rfl ?aP (fun _ hk => hk) ?aF ?aO ?aB ?aS ?aL ?_; (case aP => exact (Kd.FK_slice_mk (Kd.R_reads' (Kd.R_mono (ok' := (fun k_ => ((fun k_ => k_ ≠ gb156)) k_ ∧ some k_ ≠ (u12 : Value).ownBlock)) (Kd.R_types (Kd.R_apart' (HO162.out) (Kd.N_typed HO_12.out) (by decide)) BK156.out (by decide)) (fun k_ hk => ⟨hk.2, hk.1.2⟩))).2.1 (Kd.R_F (Kd.R_mono (ok' := (fun k_ => ((fun k_ => k_ ≠ gb156)) k_ ∧ some k_ ≠ (u12 : Value).ownBlock)) (Kd.R_types (Kd.R_apart' (HO162.out) (Kd.N_typed HO_12.out) (by decide)) BK156.out (by decide)) (fun k_ hk => ⟨hk.2, hk.1.2⟩))))); (case aB => exact (by repeat (first | (with_reducible first | exact HB.out | apply below_alloc | apply pw_below_drewN | apply below_drew1 | refine below_set ?_ GE156.out) | exact HB.out))); (case aF => exact (fun k_ hk => Kd.freshB (g := gb156) (o := .cells #[.int .i64 (wrap64 (Int.tmod a0 40)), .int .i64 (wrap64 ((wrap64 (a1)) + 1))] 41 (0, 0)) (by (with_reducible repeat (first | refine blk_drewN ?_ _ | refine blk_drew ?_ | refine blk_alloc ?_ _)); exact BK156.out) k_ hk)); (case aO => exact (by (with_reducible repeat (first | apply Kd.N_alloc | apply Kd.N_drewN | apply Kd.N_drew)); exact Kd.N_mono HO_12.out (fun _ hk => hk.1))); (case aS => exact (below_size (by repeat (first | (with_reducible first | exact HB.out | apply below_alloc | apply pw_below_drewN | apply below_drew1 | refine below_set ?_ GE156.out) | exact HB.out)))); (case aL => have hL_ := LMc12.out; first | omega | exact Nat.le_of_lt hL_); intro v164 w15 ho hb hg hat; rw [← Ny163.out] at ho; have n0_ := Aside0.mk (blk_grown (g := gb156) (o := .cells #[.int .i64 (wrap64 (Int.tmod a0 40)), .int .i64 (wrap64 ((wrap64 (a1)) + 1))] 41 (0, 0)) (by (with_reducible repeat (first | refine blk_drewN ?_ _ | refine blk_drew ?_ | refine blk_alloc ?_ _)); exact BK156.out) hg (Kd.N_ne HO_12.out BK156.out (by decide))); have n1_ := Aside0.mk (hb); have n2_ := Aside0.mk (ho); clear BK156; clear HB; clear HO_12; clear HO162; have BK156 := n0_; have HB := n1_; have HO165 := n2_; clear n0_ n1_ n2_; clear ho hb hg hat))
      go_roundg k1
      case measure => have := HK1.out; omega
      case rel => exact ⟨(y163), (wrap64 (x13_1 + 1)), (by first | rfl | (simp; done) | (simp [*]; done)), H', ⟨by have := HK1.out; omega⟩, ⟨by (with_reducible repeat (first | apply Kd.N_alloc | apply Kd.N_drewN | apply Kd.N_drew)); exact HO165.out⟩, ⟨by (with_reducible repeat (first | refine blk_drewN ?_ _ | refine blk_drew ?_ | refine blk_alloc ?_ _)); exact BK156.out⟩, ⟨by repeat (first | (with_reducible first | exact HB.out | apply below_alloc | apply pw_below_drewN | apply below_drew1 | refine below_set ?_ GE156.out) | exact HB.out)⟩⟩
     ·rw [if_neg c12] at H
      exact absurd H (by simp)
    ·rw [if_neg c11] at H
     exact absurd H (by simp)
   ·rw [if_neg c10] at H
    have c10b0 : decide (x13_1 < 40) = false := decide_eq_false c10
    clear c10
    have HC17 := Aside0.mk H
    clear H
    have hcz18_0 : wr.cell? ⟨gb156, 0, none⟩ = some (.int .i64 (wrap64 (Int.tmod a0 40))) := (blk_cell BK156.out 0).trans rfl
    have hcz18_1 : wr.cell? ⟨gb156, 1, none⟩ = some (.int .i64 (wrap64 ((wrap64 (a1)) + 1))) := (blk_cell BK156.out 1).trans rfl
    have hfz18_0 := blk_frozen BK156.out 0
    have hfz18_1 := blk_frozen BK156.out 1
    go_upto_block 2 with (first | ((with_reducible refine gate_dst (N := 16) rfl ?_); (try (refine gate_guard (by rfl) ?_; dsimp only)); refine box_event ?hg (N := 16) ?hd (cs := #[.int .i64 0, .int .i64 0]) (t := 41) ?hr ?_; (case hd => rfl); (case hg => rfl); (case hr => first | (go_simp; done) | (go_simp; rfl)); intro gb166 hg w19 hbox hb; have n0_ := Aside0.mk (Kd.N_below (Kd.N_elderB (by (with_reducible repeat (first | apply Kd.N_alloc | apply Kd.N_drewN | apply Kd.N_drew)); exact HO_12.out) gb166 (Nat.le_of_eq hg.symm)) hb); have n1_ := Aside0.mk (blk_below (g := gb156) (o := .cells #[.int .i64 (wrap64 (Int.tmod a0 40)), .int .i64 (wrap64 ((wrap64 (a1)) + 1))] 41 (0, 0)) (by (with_reducible repeat (first | refine blk_drewN ?_ _ | refine blk_drew ?_ | refine blk_alloc ?_ _)); exact BK156.out) hb); have n2_ := Aside0.mk (below_step (by repeat (first | (with_reducible first | exact HB.out | apply below_alloc | apply pw_below_drewN | apply below_drew1 | refine below_set ?_ GE156.out) | exact HB.out)) hb); have n3_ := Aside0.mk (hbox); have n4_ := Aside0.mk ((by rw [hg]; exact (below_size (by repeat (first | (with_reducible first | exact HB.out | apply below_alloc | apply pw_below_drewN | apply below_drew1 | refine below_set ?_ GE156.out) | exact HB.out))) : w.heap.size ≤ gb166)); have n5_ := Aside0.mk ((by rw [hg]; exact (below_size (by repeat (first | (with_reducible first | exact HB.out | apply below_alloc | apply pw_below_drewN | apply below_drew1 | refine below_set ?_ GE156.out) | exact HB.out))) : w.heap.size ≤ gb166)); have n6_ := Aside0.mk ((by rw [hg]; exact Nat.ne_of_lt (blk_lt (g := gb156) (o := .cells #[.int .i64 (wrap64 (Int.tmod a0 40)), .int .i64 (wrap64 ((wrap64 (a1)) + 1))] 41 (0, 0)) (by (with_reducible repeat (first | refine blk_drewN ?_ _ | refine blk_drew ?_ | refine blk_alloc ?_ _)); exact BK156.out)) : gb156 ≠ gb166)); have n7_ := Aside0.mk ((by rw [hg]; exact Nat.ne_of_gt (blk_lt (g := gb156) (o := .cells #[.int .i64 (wrap64 (Int.tmod a0 40)), .int .i64 (wrap64 ((wrap64 (a1)) + 1))] 41 (0, 0)) (by (with_reducible repeat (first | refine blk_drewN ?_ _ | refine blk_drew ?_ | refine blk_alloc ?_ _)); exact BK156.out)) : gb166 ≠ gb156)); clear HO_12; clear BK156; clear HB; have HO_12 := n0_; have BK156 := n1_; have HB := n2_; have BK166 := n3_; have GW166 := n4_; have GE166 := n5_; have NB156_166 := n6_; have NB166_156 := n7_; clear n0_ n1_ n2_ n3_ n4_ n5_ n6_ n7_; clear hb hbox hg; have hnb20 := NB166_156.out; have hnc20 := NB156_166.out; have hcz21_0 : w19.cell? ⟨gb166, 0, none⟩ = some (.int .i64 0) := (blk_cell BK166.out 0).trans rfl; have hcz21_1 : w19.cell? ⟨gb166, 1, none⟩ = some (.int .i64 0) := (blk_cell BK166.out 1).trans rfl; have hfz21_0 := blk_frozen BK166.out 0; have hfz21_1 := blk_frozen BK166.out 1))
    (try simp only [Act.put, List.setIfInBounds_toArray, List.set_cons_zero, List.set_cons_succ])
    go_cut [15] (fun v15 wc => ∃ (kq : Nat) (x12_16 : List (List Int)) (x15_16 : Int) (x167000_16 : Int) (x167001_16 : Int), v15 = .int .i64 x15_16 ∧ Aside0 (drydocklaw15_LogWhole.j6 kq l2 a4 x12_16 x15_16 (wrap64 (Int.tmod a0 40)) (wrap64 ((wrap64 (a1)) + 1)) x167000_16 x167001_16 = some r) ∧ Aside0 (kq ≤ k1) ∧ Aside0 (Kd.N (Kd.slice 5 (Kd.int .u8)) 25 wc w.heap.size (fun k_ => k_ ≠ gb156 ∧ k_ ≠ gb166) u12 x12_16) ∧ Aside0 (wc.heap[gb156]? = some (.cells #[.int .i64 (wrap64 (Int.tmod a0 40)), .int .i64 (wrap64 ((wrap64 (a1)) + 1))] 41 (0, 0))) ∧ Aside0 (wc.heap[gb166]? = some (.cells #[.int .i64 x167000_16, .int .i64 x167001_16] 41 (0, 0))) ∧ Aside0 (Below w.heap.size w wc))
    case first =>
     have H := HC17.out
     clear HC17
     have H' := Aside0.mk H
     clear H
     go_wp2
     go_loopg [14, 15, 17] k1 (fun kq v14 v15 v17 w' => ∃ (x12_2 : List (List Int)) (x14_2 : Int) (x15_2 : Int) (x17_2 : Int) (x167000_2 : Int) (x167001_2 : Int), v14 = .int .i64 x14_2 ∧ v15 = .int .i64 x15_2 ∧ v17 = .int .i64 x17_2 ∧ Aside0 (drydocklaw15_LogWhole.l1 kq l2 a3 a4 x12_2 x14_2 x15_2 x17_2 (wrap64 (Int.tmod a0 40)) (wrap64 ((wrap64 (a1)) + 1)) x167000_2 x167001_2 = some r) ∧ Aside0 (kq ≤ k1) ∧ Aside0 (Kd.N (Kd.slice 5 (Kd.int .u8)) 25 w' w.heap.size (fun k_ => k_ ≠ gb156 ∧ k_ ≠ gb166) u12 x12_2) ∧ Aside0 (w'.heap[gb156]? = some (.cells #[.int .i64 (wrap64 (Int.tmod a0 40)), .int .i64 (wrap64 ((wrap64 (a1)) + 1))] 41 (0, 0))) ∧ Aside0 (w'.heap[gb166]? = some (.cells #[.int .i64 x167000_2, .int .i64 x167001_2] 41 (0, 0))) ∧ Aside0 (Below w.heap.size w w'))
     case atStart => exact ⟨(x12_1), (0), (0), (0), ((wrap64 (Int.tmod a0 40))), ((wrap64 ((wrap64 (a1)) + 1))), (by first | rfl | (simp; done) | (simp [*]; done)), (by first | rfl | (simp; done) | (simp [*]; done)), (by first | rfl | (simp; done) | (simp [*]; done)), H', ⟨Nat.le_refl _⟩, ⟨by (with_reducible repeat (first | apply Kd.N_alloc | apply Kd.N_drewN | apply Kd.N_drew)); exact Kd.N_mono (Kd.N_far (p := ⟨gb166, 1, none⟩) (Kd.N_far (p := ⟨gb166, 0, none⟩) (Kd.N_mono HO_12.out (fun k_ hk => (⟨hk, hk.2⟩ : _ ∧ k_ ≠ gb166))) (fun _ hk => hk.2) (.int .i64 (wrap64 (Int.tmod a0 40)))) (fun _ hk => hk.2) (.int .i64 (wrap64 ((wrap64 (a1)) + 1)))) (fun _ hk => ⟨hk.1.1, hk.1.2⟩)⟩, ⟨by (with_reducible repeat (first | refine blk_drewN ?_ _ | refine blk_drew ?_ | refine blk_alloc ?_ _)); refine blk_far ?_ NB156_166.out _; (with_reducible repeat (first | refine blk_drewN ?_ _ | refine blk_drew ?_ | refine blk_alloc ?_ _)); refine blk_far ?_ NB156_166.out _; (with_reducible repeat (first | refine blk_drewN ?_ _ | refine blk_drew ?_ | refine blk_alloc ?_ _)); exact BK156.out⟩, ⟨by (with_reducible repeat (first | refine blk_drewN ?_ _ | refine blk_drew ?_ | refine blk_alloc ?_ _)); refine blk_put (cs := #[.int .i64 (wrap64 (Int.tmod a0 40)), .int .i64 0]) ?_ 1 _ rfl; (with_reducible repeat (first | refine blk_drewN ?_ _ | refine blk_drew ?_ | refine blk_alloc ?_ _)); refine blk_put (cs := #[.int .i64 0, .int .i64 0]) ?_ 0 _ rfl; (with_reducible repeat (first | refine blk_drewN ?_ _ | refine blk_drew ?_ | refine blk_alloc ?_ _)); exact BK166.out⟩, ⟨by repeat (first | (with_reducible first | exact HB.out | apply below_alloc | apply pw_below_drewN | apply below_drew1 | refine below_set ?_ GE156.out | refine below_set ?_ GE166.out) | exact HB.out)⟩⟩
     case round =>
      clear H'
      try clear c1
      try clear c2
      try clear p2
      try clear p6
      try clear c7
      try clear c10
      try clear c10b0
      try clear c11
      try clear c11b0
      try clear c11b1
      try clear c12
      try clear c20
      try clear hcz18_0
      try clear hcz18_1
      try clear hcz21_0
      try clear hcz21_1
      try clear hcz7_0
      try clear hcz7_1
      try clear hfz18_0
      try clear hfz18_1
      try clear hfz21_0
      try clear hfz21_1
      try clear hfz7_0
      try clear hfz7_1
      try clear p2
      try clear p6
      obtain ⟨x12_2, x14_2, x15_2, x17_2, x167000_2, x167001_2, rfl, rfl, rfl, HA, HK2, HO_12, BK156, BK166, HB⟩ := hrel
      cases gk with
      | zero => exact absurd HA.out (by simp [drydocklaw15_LogWhole.l1])
      | succ k2 =>
       have H := HA.out
       clear HA
       simp only [drydocklaw15_LogWhole.l1] at H
       by_cases c22 : x17_2 < (l2.length : Int)
       ·rw [if_pos c22] at H
        have c22b0 : decide (x17_2 < (l2.length : Int)) = true := decide_eq_true c22
        clear c22
        (first | rw [c22b0] | (simp only [i64_w, i32_w]; rw [c22b0]) | skip)
        by_cases c23 : 0 ≤ x17_2
        ·rw [if_pos c23] at H
         have c23b0 : decide (0 ≤ x17_2) = true := decide_eq_true c23
         clear c23
         by_cases c24 : (wrap64 ((wrap64 (x14_2 + (wrap64 ((wrap64 (Int.tmod (rd l2 x17_2) 5)) + 1)))) + 2)) > 40
         ·rw [if_pos c24] at H
          have c24b0 : decide (40 < (wrap64 ((wrap64 (x14_2 + (wrap64 ((wrap64 (Int.tmod (rd l2 x17_2) 5)) + 1)))) + 2))) = true := decide_eq_true c24
          clear c24
          have H' := Aside0.mk H
          clear H
          have p167 : 0 ≤ (x17_2 : Int) := of_decide_eq_true (by first | (with_reducible assumption) | assumption)
          have q167 : x17_2 < (l2.length : Int) := of_decide_eq_true (by first | (with_reducible assumption) | assumption)
          obtain ⟨ad167, e167, hx167_0⟩ := Kd.at_int HR2.out x17_2 p167 q167
          cases e167
          replace hx167_0 := (HB.out.cell (World.block_lt_of_cell? w _ hx167_0)).trans hx167_0
          replace p167 := eq_true p167
          replace q167 := eq_true q167
          go_wp2
          go_meet
          case rel => exact ⟨_, (x12_2), (x15_2), (x167000_2), (x167001_2), (by first | rfl | (simp; done) | (simp [*]; done)), H', ⟨by have := HK1.out; have := HK2.out; first | omega | exact Nat.le_refl _⟩, ⟨by (with_reducible repeat (first | apply Kd.N_alloc | apply Kd.N_drewN | apply Kd.N_drew)); exact HO_12.out⟩, ⟨by (with_reducible repeat (first | refine blk_drewN ?_ _ | refine blk_drew ?_ | refine blk_alloc ?_ _)); exact BK156.out⟩, ⟨by (with_reducible repeat (first | refine blk_drewN ?_ _ | refine blk_drew ?_ | refine blk_alloc ?_ _)); exact BK166.out⟩, ⟨by repeat (first | (with_reducible first | exact HB.out | apply below_alloc | apply pw_below_drewN | apply below_drew1 | refine below_set ?_ GE156.out | refine below_set ?_ GE166.out) | exact HB.out)⟩⟩
         ·rw [if_neg c24] at H
          have c24b0 : decide (40 < (wrap64 ((wrap64 (x14_2 + (wrap64 ((wrap64 (Int.tmod (rd l2 x17_2) 5)) + 1)))) + 2))) = false := decide_eq_false c24
          clear c24
          have H' := Aside0.mk H
          clear H
          have p167 : 0 ≤ (x17_2 : Int) := of_decide_eq_true (by first | (with_reducible assumption) | assumption)
          have q167 : x17_2 < (l2.length : Int) := of_decide_eq_true (by first | (with_reducible assumption) | assumption)
          obtain ⟨ad167, e167, hx167_0⟩ := Kd.at_int HR2.out x17_2 p167 q167
          cases e167
          replace hx167_0 := (HB.out.cell (World.block_lt_of_cell? w _ hx167_0)).trans hx167_0
          replace p167 := eq_true p167
          replace q167 := eq_true q167
          have hnb25 := NB156_166.out
          have hnc25 := NB166_156.out
          have hcz26_0 : wr.cell? ⟨gb156, 0, none⟩ = some (.int .i64 (wrap64 (Int.tmod a0 40))) := (blk_cell BK156.out 0).trans rfl
          have hcz26_1 : wr.cell? ⟨gb156, 1, none⟩ = some (.int .i64 (wrap64 ((wrap64 (a1)) + 1))) := (blk_cell BK156.out 1).trans rfl
          have hfz26_0 := blk_frozen BK156.out 0
          have hfz26_1 := blk_frozen BK156.out 1
          go_wp2_with (first | ((with_reducible refine gate_dst (N := 19) rfl ?_); (try (refine gate_guard (by rfl) ?_; dsimp only)); refine box_event ?hg (N := 19) ?hd (cs := #[.int .i64 0, .slice none 0 0]) (t := 24) ?hr ?_; (case hd => rfl); (case hg => rfl); (case hr => first | (go_simp; done) | (go_simp; rfl)); intro gb168 hg w27 hbox hb; have n0_ := Aside0.mk (Kd.N_below (Kd.N_elderB (by (with_reducible repeat (first | apply Kd.N_alloc | apply Kd.N_drewN | apply Kd.N_drew)); exact HO_12.out) gb168 (Nat.le_of_eq hg.symm)) hb); have n1_ := Aside0.mk (blk_below (g := gb156) (o := .cells #[.int .i64 (wrap64 (Int.tmod a0 40)), .int .i64 (wrap64 ((wrap64 (a1)) + 1))] 41 (0, 0)) (by (with_reducible repeat (first | refine blk_drewN ?_ _ | refine blk_drew ?_ | refine blk_alloc ?_ _)); exact BK156.out) hb); have n2_ := Aside0.mk (blk_below (g := gb166) (o := .cells #[.int .i64 x167000_2, .int .i64 x167001_2] 41 (0, 0)) (by (with_reducible repeat (first | refine blk_drewN ?_ _ | refine blk_drew ?_ | refine blk_alloc ?_ _)); exact BK166.out) hb); have n3_ := Aside0.mk (below_step (by repeat (first | (with_reducible first | exact HB.out | apply below_alloc | apply pw_below_drewN | apply below_drew1 | refine below_set ?_ GE156.out | refine below_set ?_ GE166.out) | exact HB.out)) hb); have n4_ := Aside0.mk (hbox); have n5_ := Aside0.mk ((by rw [hg]; exact (below_size (by repeat (first | (with_reducible first | exact HB.out | apply below_alloc | apply pw_below_drewN | apply below_drew1 | refine below_set ?_ GE156.out | refine below_set ?_ GE166.out) | exact HB.out))) : w.heap.size ≤ gb168)); have n6_ := Aside0.mk ((by rw [hg]; exact (below_size (by repeat (first | (with_reducible first | exact HB.out | apply below_alloc | apply pw_below_drewN | apply below_drew1 | refine below_set ?_ GE156.out | refine below_set ?_ GE166.out) | exact HB.out))) : w.heap.size ≤ gb168)); have n7_ := Aside0.mk ((by rw [hg]; exact Nat.ne_of_lt (blk_lt (g := gb156) (o := .cells #[.int .i64 (wrap64 (Int.tmod a0 40)), .int .i64 (wrap64 ((wrap64 (a1)) + 1))] 41 (0, 0)) (by (with_reducible repeat (first | refine blk_drewN ?_ _ | refine blk_drew ?_ | refine blk_alloc ?_ _)); exact BK156.out)) : gb156 ≠ gb168)); have n8_ := Aside0.mk ((by rw [hg]; exact Nat.ne_of_gt (blk_lt (g := gb156) (o := .cells #[.int .i64 (wrap64 (Int.tmod a0 40)), .int .i64 (wrap64 ((wrap64 (a1)) + 1))] 41 (0, 0)) (by (with_reducible repeat (first | refine blk_drewN ?_ _ | refine blk_drew ?_ | refine blk_alloc ?_ _)); exact BK156.out)) : gb168 ≠ gb156)); have n9_ := Aside0.mk ((by rw [hg]; exact Nat.ne_of_lt (blk_lt (g := gb166) (o := .cells #[.int .i64 x167000_2, .int .i64 x167001_2] 41 (0, 0)) (by (with_reducible repeat (first | refine blk_drewN ?_ _ | refine blk_drew ?_ | refine blk_alloc ?_ _)); exact BK166.out)) : gb166 ≠ gb168)); have n10_ := Aside0.mk ((by rw [hg]; exact Nat.ne_of_gt (blk_lt (g := gb166) (o := .cells #[.int .i64 x167000_2, .int .i64 x167001_2] 41 (0, 0)) (by (with_reducible repeat (first | refine blk_drewN ?_ _ | refine blk_drew ?_ | refine blk_alloc ?_ _)); exact BK166.out)) : gb168 ≠ gb166)); clear HO_12; clear BK156; clear BK166; clear HB; have HO_12 := n0_; have BK156 := n1_; have BK166 := n2_; have HB := n3_; have BK168 := n4_; have GW168 := n5_; have GE168 := n6_; have NB156_168 := n7_; have NB168_156 := n8_; have NB166_168 := n9_; have NB168_166 := n10_; clear n0_ n1_ n2_ n3_ n4_ n5_ n6_ n7_ n8_ n9_ n10_; clear hb hbox hg; have hnb28 := NB168_156.out; have hnc28 := NB156_168.out; have hnb29 := NB168_166.out; have hnc29 := NB166_168.out; have hcz30_0 : w27.cell? ⟨gb168, 0, none⟩ = some (.int .i64 0) := (blk_cell BK168.out 0).trans rfl; have hcz30_1 : w27.cell? ⟨gb168, 1, none⟩ = some (.slice none 0 0) := (blk_cell BK168.out 1).trans rfl; have hfz30_0 := blk_frozen BK168.out 0; have hfz30_1 := blk_frozen BK168.out 1))
          go_loopg [20] k2 (fun kq v20 w' => ∃ (x20_3 : Int) (x169001_3 : List Int) (u169001 : Value), v20 = .int .i64 x20_3 ∧ Aside0 (drydocklaw15_LogWhole.l2 kq l2 a3 a4 x12_2 x14_2 x15_2 x17_2 (wrap64 ((wrap64 (Int.tmod (rd l2 x17_2) 5)) + 1)) x20_3 (wrap64 (Int.tmod a0 40)) (wrap64 ((wrap64 (a1)) + 1)) x167000_2 x167001_2 (wrap64 ((wrap64 ((wrap64 (a1)) + 1)) + x17_2)) x169001_3 = some r) ∧ Aside0 (kq ≤ k2) ∧ Aside0 (Kd.N (Kd.slice 5 (Kd.int .u8)) 25 w' w.heap.size (fun k_ => some k_ ≠ (u169001 : Value).ownBlock ∧ k_ ≠ gb156 ∧ k_ ≠ gb166 ∧ k_ ≠ gb168) u12 x12_2) ∧ Aside0 (Kd.R (Kd.int .i64) 3 w' w.heap.size (fun _ => True) u169001 x169001_3) ∧ Aside0 (w'.heap[gb156]? = some (.cells #[.int .i64 (wrap64 (Int.tmod a0 40)), .int .i64 (wrap64 ((wrap64 (a1)) + 1))] 41 (0, 0))) ∧ Aside0 (w'.heap[gb166]? = some (.cells #[.int .i64 x167000_2, .int .i64 x167001_2] 41 (0, 0))) ∧ Aside0 (w'.heap[gb168]? = some (.cells #[.int .i64 (wrap64 ((wrap64 ((wrap64 (a1)) + 1)) + x17_2)), u169001] 24 (0, 0))) ∧ Aside0 (Below w.heap.size w w'))
          case atStart => exact ⟨(0), (([] : List Int)), (.slice none 0 0), (by first | rfl | (simp; done) | (simp [*]; done)), H', ⟨Nat.le_refl _⟩, ⟨by (with_reducible repeat (first | apply Kd.N_alloc | apply Kd.N_drewN | apply Kd.N_drew)); exact Kd.N_mono (Kd.N_far (p := ⟨gb168, 1, none⟩) (Kd.N_far (p := ⟨gb168, 0, none⟩) (Kd.N_mono HO_12.out (fun k_ hk => (⟨hk, hk.2⟩ : _ ∧ k_ ≠ gb168))) (fun _ hk => hk.2) (.int .i64 (wrap64 ((wrap64 ((wrap64 (a1)) + 1)) + x17_2)))) (fun _ hk => hk.2) (.slice none 0 0)) (fun _ hk => ⟨(by simp [Value.ownBlock]), ⟨hk.1.1.1, ⟨hk.1.1.2, hk.1.2⟩⟩⟩)⟩, ⟨by first | exact Kd.R_nil _ _ _ _ _ | exact Kd.N_nil _ _ _ _ _ | exact Kd.V_nil _ _ _ _ _ | exact Kd.Q_nil _ _ _ _ _ | exact Kd.S_nil _ _ _ _ _⟩, ⟨by (with_reducible repeat (first | refine blk_drewN ?_ _ | refine blk_drew ?_ | refine blk_alloc ?_ _)); refine blk_far ?_ NB156_168.out _; (with_reducible repeat (first | refine blk_drewN ?_ _ | refine blk_drew ?_ | refine blk_alloc ?_ _)); refine blk_far ?_ NB156_168.out _; (with_reducible repeat (first | refine blk_drewN ?_ _ | refine blk_drew ?_ | refine blk_alloc ?_ _)); exact BK156.out⟩, ⟨by (with_reducible repeat (first | refine blk_drewN ?_ _ | refine blk_drew ?_ | refine blk_alloc ?_ _)); refine blk_far ?_ NB166_168.out _; (with_reducible repeat (first | refine blk_drewN ?_ _ | refine blk_drew ?_ | refine blk_alloc ?_ _)); refine blk_far ?_ NB166_168.out _; (with_reducible repeat (first | refine blk_drewN ?_ _ | refine blk_drew ?_ | refine blk_alloc ?_ _)); exact BK166.out⟩, ⟨by (with_reducible repeat (first | refine blk_drewN ?_ _ | refine blk_drew ?_ | refine blk_alloc ?_ _)); refine blk_put (cs := #[.int .i64 (wrap64 ((wrap64 ((wrap64 (a1)) + 1)) + x17_2)), .slice none 0 0]) ?_ 1 _ rfl; (with_reducible repeat (first | refine blk_drewN ?_ _ | refine blk_drew ?_ | refine blk_alloc ?_ _)); refine blk_put (cs := #[.int .i64 0, .slice none 0 0]) ?_ 0 _ rfl; (with_reducible repeat (first | refine blk_drewN ?_ _ | refine blk_drew ?_ | refine blk_alloc ?_ _)); exact BK168.out⟩, ⟨by repeat (first | (with_reducible first | exact HB.out | apply below_alloc | apply pw_below_drewN | apply below_drew1 | refine below_set ?_ GE156.out | refine below_set ?_ GE166.out | refine below_set ?_ GE168.out) | exact HB.out)⟩⟩
          case round =>
           clear H'
           try clear c1
           try clear p1
           try clear q1
           try clear hx1
           try clear c2
           try clear p2
           try clear p6
           try clear c7
           try clear c10
           try clear c10b0
           try clear c11
           try clear c11b0
           try clear c11b1
           try clear c12
           try clear p16
           try clear q16
           try clear hx16
           try clear c20
           try clear c22
           try clear c22b0
           try clear c23
           try clear c23b0
           try clear c24
           try clear c24b0
           try clear c25
           try clear c28
           try clear c29
           try clear hcz18_0
           try clear hcz18_1
           try clear hcz21_0
           try clear hcz21_1
           try clear hcz26_0
           try clear hcz26_1
           try clear hcz30_0
           try clear hcz30_1
           try clear hcz7_0
           try clear hcz7_1
           try clear hfz18_0
           try clear hfz18_1
           try clear hfz21_0
           try clear hfz21_1
           try clear hfz26_0
           try clear hfz26_1
           try clear hfz30_0
           try clear hfz30_1
           try clear hfz7_0
           try clear hfz7_1
           try clear hx167_0
           try clear p167
           try clear p2
           try clear p6
           try clear q167
           obtain ⟨x20_3, x169001_3, u169001, rfl, HA, HK3, HO_12, HO_169001, BK156, BK166, BK168, HB⟩ := hrel
           cases gk with
           | zero => exact absurd HA.out (by simp [drydocklaw15_LogWhole.l2])
           | succ k3 =>
            have H := HA.out
            clear HA
            simp only [drydocklaw15_LogWhole.l2] at H
            by_cases c31 : x20_3 < (wrap64 ((wrap64 (Int.tmod (rd l2 x17_2) 5)) + 1))
            ·rw [if_pos c31] at H
             have c31b0 : decide (x20_3 < (wrap64 ((wrap64 (Int.tmod (rd l2 x17_2) 5)) + 1))) = true := decide_eq_true c31
             clear c31
             by_cases c32 : x169001_3.length < 17592186044416
             ·rw [if_pos c32] at H
              have LMc32 := Aside0.mk c32
              clear c32
              obtain ⟨y169, hy169⟩ : ∃ y_ : List Int, y_ = (x169001_3 ++ [wrap64 ((wrap64 (60 + (wrap64 (7 * x17_2)))) + x20_3)]) := ⟨_, rfl⟩
              replace H : (drydocklaw15_LogWhole.l2 k3 l2 a3 a4 x12_2 x14_2 x15_2 x17_2 (wrap64 ((wrap64 (Int.tmod (rd l2 x17_2) 5)) + 1)) (wrap64 (x20_3 + 1)) (wrap64 (Int.tmod a0 40)) (wrap64 ((wrap64 (a1)) + 1)) x167000_2 x167001_2 (wrap64 ((wrap64 ((wrap64 (a1)) + 1)) + x17_2)) y169) = some r := by first | (rw [hy169]; with_reducible exact H) | (have H2_ := (Option.bind_some _ _).symm.trans H; rw [hy169]; with_reducible exact H2_) | (have H2_ := (Option.bind_some _ _).symm.trans H; with_reducible exact H2_) | with_reducible exact H | (rw [hy169]; exact H) | exact H
              have Ny169 := Aside0.mk hy169
              clear hy169
              have H' := Aside0.mk H
              clear H
              have hnb33 := NB168_156.out
              have hnc33 := NB156_168.out
              have hnb34 := NB168_166.out
              have hnc34 := NB166_168.out
              have hcz35_0 : wr.cell? ⟨gb168, 0, none⟩ = some (.int .i64 (wrap64 ((wrap64 ((wrap64 (a1)) + 1)) + x17_2))) := (blk_cell BK168.out 0).trans rfl
              have hcz35_1 : wr.cell? ⟨gb168, 1, none⟩ = some (u169001) := (blk_cell BK168.out 1).trans rfl
              have hfz35_0 := blk_frozen BK168.out 0
              have hfz35_1 := blk_frozen BK168.out 1
              go_wp2_with (first | ((with_reducible refine gate_builtin (b := .append) (xs := #[.tmp 79, .tmp 85]) rfl ?_); (try (refine gate_guard (by rfl) ?_; dsimp only)); at_builtin; refine Kd.R_append (Kd.int .i64) (w0 := w) w.heap.size rfl (.tmp 79) (.tmp 85) 22 3 (.int .i64 0) 8 rfl Try.underlying22 info3 rfl (by decide) (by omega) u169001 x169001_3 (wrap64 ((wrap64 (60 + (wrap64 (7 * x17_2)))) + x20_3)) [.int .i64 (wrap64 ((wrap64 (60 + (wrap64 (7 * x17_2)))) + x20_3))] (fun _ => True) (fun _ => False) rfl rfl ?aP (fun _ hk => hk.elim) ?aF ?aO ?aB ?aS ?aL ?_; (case aP => exact rfl); (case aB => exact (by repeat (first | (with_reducible first | exact HB.out | apply below_alloc | apply pw_below_drewN | apply below_drew1 | refine below_set ?_ GE156.out | refine below_set ?_ GE166.out | refine below_set ?_ GE168.out) | exact HB.out))); (case aF => exact (fun _ _ => trivial)); (case aO => exact (by (with_reducible repeat (first | apply Kd.R_alloc | apply Kd.R_drewN | apply Kd.R_drew)); exact HO_169001.out)); (case aS => exact (below_size (by repeat (first | (with_reducible first | exact HB.out | apply below_alloc | apply pw_below_drewN | apply below_drew1 | refine below_set ?_ GE156.out | refine below_set ?_ GE166.out | refine below_set ?_ GE168.out) | exact HB.out)))); (case aL => have hL_ := LMc32.out; first | omega | exact Nat.le_of_lt hL_); intro v170 w36 ho hb hg hat; rw [← Ny169.out] at ho; have n0_ := Aside0.mk (Kd.N_afterv (ok := (fun k_ => k_ ≠ gb156 ∧ k_ ≠ gb166 ∧ k_ ≠ gb168)) (by (with_reducible repeat (first | apply Kd.N_alloc | apply Kd.N_drewN | apply Kd.N_drew)); exact Kd.N_mono HO_12.out (fun _ hk => ⟨⟨hk.2.1, ⟨hk.2.2.1, hk.2.2.2⟩⟩, hk.1⟩)) hg hat); have n1_ := Aside0.mk (blk_grown (g := gb156) (o := .cells #[.int .i64 (wrap64 (Int.tmod a0 40)), .int .i64 (wrap64 ((wrap64 (a1)) + 1))] 41 (0, 0)) (by (with_reducible repeat (first | refine blk_drewN ?_ _ | refine blk_drew ?_ | refine blk_alloc ?_ _)); exact BK156.out) hg (Kd.R_ne HO_169001.out BK156.out (by decide))); have n2_ := Aside0.mk (blk_grown (g := gb166) (o := .cells #[.int .i64 x167000_2, .int .i64 x167001_2] 41 (0, 0)) (by (with_reducible repeat (first | refine blk_drewN ?_ _ | refine blk_drew ?_ | refine blk_alloc ?_ _)); exact BK166.out) hg (Kd.R_ne HO_169001.out BK166.out (by decide))); have n3_ := Aside0.mk (blk_grown (g := gb168) (o := .cells #[.int .i64 (wrap64 ((wrap64 ((wrap64 (a1)) + 1)) + x17_2)), u169001] 24 (0, 0)) (by (with_reducible repeat (first | refine blk_drewN ?_ _ | refine blk_drew ?_ | refine blk_alloc ?_ _)); exact BK168.out) hg (Kd.R_ne HO_169001.out BK168.out (by decide))); have n4_ := Aside0.mk (hb); have n5_ := Aside0.mk (ho); clear HO_12; clear BK156; clear BK166; clear BK168; clear HB; clear HO_169001; have HO_12 := n0_; have BK156 := n1_; have BK166 := n2_; have BK168 := n3_; have HB := n4_; have HO171 := n5_; clear n0_ n1_ n2_ n3_ n4_ n5_; clear ho hb hg hat; obtain ⟨Ao37, co37, eo37⟩ := Kd.R_slice HO171.out; subst eo37; have hcz38_0 : w36.cell? ⟨gb168, 0, none⟩ = some (.int .i64 (wrap64 ((wrap64 ((wrap64 (a1)) + 1)) + x17_2))) := (blk_cell BK168.out 0).trans rfl; have hcz38_1 : w36.cell? ⟨gb168, 1, none⟩ = some (u169001) := (blk_cell BK168.out 1).trans rfl; have hfz38_0 := blk_frozen BK168.out 0; have hfz38_1 := blk_frozen BK168.out 1))
              go_roundg k3
              case measure => have := HK1.out; have := HK2.out; have := HK3.out; omega
              case rel => exact ⟨(wrap64 (x20_3 + 1)), (y169), (.slice Ao37 y169.length co37), (by first | rfl | (simp; done) | (simp [*]; done)), H', ⟨by have := HK1.out; have := HK2.out; have := HK3.out; omega⟩, ⟨by (with_reducible repeat (first | apply Kd.N_alloc | apply Kd.N_drewN | apply Kd.N_drew)); exact Kd.N_mono (Kd.N_far (p := ⟨gb168, 1, none⟩) (Kd.N_mono HO_12.out (fun k_ hk => (⟨hk, hk.1.2.2⟩ : _ ∧ k_ ≠ gb168))) (fun _ hk => hk.2) (.slice Ao37 y169.length co37)) (fun _ hk => ⟨hk.1.2, ⟨hk.1.1.1, ⟨hk.1.1.2.1, hk.1.1.2.2⟩⟩⟩)⟩, ⟨by (with_reducible repeat (first | apply Kd.R_alloc | apply Kd.R_drewN | apply Kd.R_drew)); exact Kd.R_mono (Kd.R_far (p := ⟨gb168, 1, none⟩) (Kd.R_types HO171.out BK168.out (by decide)) (fun _ hk => hk.2) (.slice Ao37 y169.length co37)) (fun _ hk => trivial)⟩, ⟨by (with_reducible repeat (first | refine blk_drewN ?_ _ | refine blk_drew ?_ | refine blk_alloc ?_ _)); refine blk_far ?_ NB156_168.out _; (with_reducible repeat (first | refine blk_drewN ?_ _ | refine blk_drew ?_ | refine blk_alloc ?_ _)); exact BK156.out⟩, ⟨by (with_reducible repeat (first | refine blk_drewN ?_ _ | refine blk_drew ?_ | refine blk_alloc ?_ _)); refine blk_far ?_ NB166_168.out _; (with_reducible repeat (first | refine blk_drewN ?_ _ | refine blk_drew ?_ | refine blk_alloc ?_ _)); exact BK166.out⟩, ⟨by (with_reducible repeat (first | refine blk_drewN ?_ _ | refine blk_drew ?_ | refine blk_alloc ?_ _)); refine blk_put (cs := #[.int .i64 (wrap64 ((wrap64 ((wrap64 (a1)) + 1)) + x17_2)), u169001]) ?_ 1 _ rfl; (with_reducible repeat (first | refine blk_drewN ?_ _ | refine blk_drew ?_ | refine blk_alloc ?_ _)); exact BK168.out⟩, ⟨by repeat (first | (with_reducible first | exact HB.out | apply below_alloc | apply pw_below_drewN | apply below_drew1 | refine below_set ?_ GE156.out | refine below_set ?_ GE166.out | refine below_set ?_ GE168.out) | exact HB.out)⟩⟩
             ·rw [if_neg c32] at H
              exact absurd H (by simp)
            ·rw [if_neg c31] at H
             have c31b0 : decide (x20_3 < (wrap64 ((wrap64 (Int.tmod (rd l2 x17_2) 5)) + 1))) = false := decide_eq_false c31
             clear c31
             replace H := Option.bind_eq_some_iff.mp H
             obtain ⟨⟨t172, t175⟩, A390, H⟩ := H
             replace H : ((log_End.f (wrap64 ((wrap64 ((wrap64 (a1)) + 1)) + x17_2)) (wrap64 ((wrap64 (Int.tmod (rd l2 x17_2) 5)) + 1))).bind fun bt176 => (if t175 = 0 then (drydocklaw15_LogWhole.j3 k3 l2 a3 a4 x12_2 x14_2 x15_2 x17_2 (wrap64 ((wrap64 (Int.tmod (rd l2 x17_2) 5)) + 1)) t172 bt176.1 (bt176.2 != 0) (wrap64 (Int.tmod a0 40)) (wrap64 ((wrap64 (a1)) + 1)) x167000_2 x167001_2 (wrap64 ((wrap64 ((wrap64 (a1)) + 1)) + x17_2)) x169001_3) else (drydocklaw15_LogWhole.j3 k3 l2 a3 a4 x12_2 x14_2 x15_2 x17_2 (wrap64 ((wrap64 (Int.tmod (rd l2 x17_2) 5)) + 1)) t172 bt176.1 true (wrap64 (Int.tmod a0 40)) (wrap64 ((wrap64 (a1)) + 1)) x167000_2 x167001_2 (wrap64 ((wrap64 ((wrap64 (a1)) + 1)) + x17_2)) x169001_3))) = some r := H
             have A39 := Aside0.mk A390
             clear A390
             replace H := Option.bind_eq_some_iff.mp H
             obtain ⟨⟨t176, t177⟩, A400, H⟩ := H
             replace H : (if t175 = 0 then (drydocklaw15_LogWhole.j3 k3 l2 a3 a4 x12_2 x14_2 x15_2 x17_2 (wrap64 ((wrap64 (Int.tmod (rd l2 x17_2) 5)) + 1)) t172 t176 (t177 != 0) (wrap64 (Int.tmod a0 40)) (wrap64 ((wrap64 (a1)) + 1)) x167000_2 x167001_2 (wrap64 ((wrap64 ((wrap64 (a1)) + 1)) + x17_2)) x169001_3) else (drydocklaw15_LogWhole.j3 k3 l2 a3 a4 x12_2 x14_2 x15_2 x17_2 (wrap64 ((wrap64 (Int.tmod (rd l2 x17_2) 5)) + 1)) t172 t176 true (wrap64 (Int.tmod a0 40)) (wrap64 ((wrap64 (a1)) + 1)) x167000_2 x167001_2 (wrap64 ((wrap64 ((wrap64 (a1)) + 1)) + x17_2)) x169001_3)) = some r := H
             have A40 := Aside0.mk A400
             clear A400
             have HC41 := Aside0.mk H
             clear H
             have hnb42 := NB168_156.out
             have hnc42 := NB156_168.out
             have hnb43 := NB168_166.out
             have hnc43 := NB166_168.out
             have hcz44_0 : wr.cell? ⟨gb168, 0, none⟩ = some (.int .i64 (wrap64 ((wrap64 ((wrap64 (a1)) + 1)) + x17_2))) := (blk_cell BK168.out 0).trans rfl
             have hcz44_1 : wr.cell? ⟨gb168, 1, none⟩ = some (u169001) := (blk_cell BK168.out 1).trans rfl
             have hfz44_0 := blk_frozen BK168.out 0
             have hfz44_1 := blk_frozen BK168.out 1
             obtain ⟨Ao45, co45, eo45⟩ := Kd.R_slice HO_169001.out
             subst eo45
             go_upto_region 22 with (first | ((with_reducible refine gate_callee (f := 9) rfl ?_); refine goesL_ (some 90) rfl rfl Try.func9 (by kernel_rfl) rfl #[.agg #[.int .i64 (wrap64 ((wrap64 ((wrap64 (a1)) + 1)) + x17_2)), .slice Ao45 x169001_3.length co45]] rfl (by (try simp only [List.map_toArray, List.map_cons, List.map_nil]); first | done | rfl | (simp only [List.length_drop, List.length_take]; rfl)) ?_; (with_reducible refine (log_Begin.calls k3 (wrap64 ((wrap64 ((wrap64 (a1)) + 1)) + x17_2)) _ _ x169001_3 t172 t175 _ ?side1 ?side2 A39.out).mono ?_); (case side1 => repeat (first | exact (Kd.R_reads' HO_169001.out).2.2 | (with_reducible refine Kd.C_alloc ?_ _) | (with_reducible refine Kd.C_drewN ?_ _) | (with_reducible refine Kd.C_drew ?_))); (case side2 => exact (Kd.R_reads' HO_169001.out).2.1); rintro e w46 ⟨v173, rfl, ho0, hb⟩; refine ⟨_, rfl, ?_⟩; have n0_ := Aside0.mk (Kd.N_elder' (by (with_reducible repeat (first | apply Kd.N_alloc | apply Kd.N_drewN | apply Kd.N_drew)); exact HO_12.out) (Kd.R_base ho0) hb); have n1_ := Aside0.mk (Kd.R_below (by (with_reducible repeat (first | apply Kd.R_alloc | apply Kd.R_drewN | apply Kd.R_drew)); exact HO_169001.out) hb); have n2_ := Aside0.mk (Kd.R_lower ho0 (below_size (by repeat (first | (with_reducible first | exact HB.out | apply below_alloc | apply pw_below_drewN | apply below_drew1 | refine below_set ?_ GE156.out | refine below_set ?_ GE166.out | refine below_set ?_ GE168.out) | exact HB.out)))); have n3_ := Aside0.mk (blk_below (g := gb156) (o := .cells #[.int .i64 (wrap64 (Int.tmod a0 40)), .int .i64 (wrap64 ((wrap64 (a1)) + 1))] 41 (0, 0)) (by (with_reducible repeat (first | refine blk_drewN ?_ _ | refine blk_drew ?_ | refine blk_alloc ?_ _)); exact BK156.out) hb); have n4_ := Aside0.mk (blk_below (g := gb166) (o := .cells #[.int .i64 x167000_2, .int .i64 x167001_2] 41 (0, 0)) (by (with_reducible repeat (first | refine blk_drewN ?_ _ | refine blk_drew ?_ | refine blk_alloc ?_ _)); exact BK166.out) hb); have n5_ := Aside0.mk (blk_below (g := gb168) (o := .cells #[.int .i64 (wrap64 ((wrap64 ((wrap64 (a1)) + 1)) + x17_2)), .slice Ao45 x169001_3.length co45] 24 (0, 0)) (by (with_reducible repeat (first | refine blk_drewN ?_ _ | refine blk_drew ?_ | refine blk_alloc ?_ _)); exact BK168.out) hb); have n6_ := Aside0.mk (below_step (by repeat (first | (with_reducible first | exact HB.out | apply below_alloc | apply pw_below_drewN | apply below_drew1 | refine below_set ?_ GE156.out | refine below_set ?_ GE166.out | refine below_set ?_ GE168.out) | exact HB.out)) hb); clear HO_12; clear HO_169001; clear BK156; clear BK166; clear BK168; clear HB; have HO_12 := n0_; have HO_169001 := n1_; have HO174 := n2_; have BK156 := n3_; have BK166 := n4_; have BK168 := n5_; have HB := n6_; clear n0_ n1_ n2_ n3_ n4_ n5_ n6_; (try clear hb); (try clear hb2); (try clear hk); (try clear hi); (try clear ho0); have hcz47_0 : w46.cell? ⟨gb168, 0, none⟩ = some (.int .i64 (wrap64 ((wrap64 ((wrap64 (a1)) + 1)) + x17_2))) := (blk_cell BK168.out 0).trans rfl; have hcz47_1 : w46.cell? ⟨gb168, 1, none⟩ = some (.slice Ao45 x169001_3.length co45) := (blk_cell BK168.out 1).trans rfl; have hfz47_0 := blk_frozen BK168.out 0; have hfz47_1 := blk_frozen BK168.out 1) | ((with_reducible refine gate_callee (f := 15) rfl ?_); refine goesL_ (some 97) rfl rfl Try.func15 (by kernel_rfl) rfl #[.int .i64 (wrap64 ((wrap64 ((wrap64 (a1)) + 1)) + x17_2)), .int .i64 (wrap64 ((wrap64 (Int.tmod (rd l2 x17_2) 5)) + 1))] rfl (by (try simp only [List.map_toArray, List.map_cons, List.map_nil]); first | done | rfl | (simp only [List.length_drop, List.length_take]; rfl)) ?_; (with_reducible refine (log_End.calls (wrap64 ((wrap64 ((wrap64 (a1)) + 1)) + x17_2)) (wrap64 ((wrap64 (Int.tmod (rd l2 x17_2) 5)) + 1)) t176 t177 _ A40.out).mono ?_); rintro e w48 ⟨v178, rfl, ho0, hb⟩; refine ⟨_, rfl, ?_⟩; have n0_ := Aside0.mk (Kd.N_elder' (by (with_reducible repeat (first | apply Kd.N_alloc | apply Kd.N_drewN | apply Kd.N_drew)); exact HO_12.out) (Kd.R_base ho0) hb); have n1_ := Aside0.mk (Kd.R_below (by (with_reducible repeat (first | apply Kd.R_alloc | apply Kd.R_drewN | apply Kd.R_drew)); exact HO_169001.out) hb); have n2_ := Aside0.mk (Kd.R_elder' (by (with_reducible repeat (first | apply Kd.R_alloc | apply Kd.R_drewN | apply Kd.R_drew)); exact HO174.out) (Kd.R_base ho0) hb); have n3_ := Aside0.mk (Kd.R_lower (Kd.R_new' ho0 (Kd.R_lt (by (with_reducible repeat (first | apply Kd.R_alloc | apply Kd.R_drewN | apply Kd.R_drew)); exact HO174.out))) (below_size (by repeat (first | (with_reducible first | exact HB.out | apply below_alloc | apply pw_below_drewN | apply below_drew1 | refine below_set ?_ GE156.out | refine below_set ?_ GE166.out | refine below_set ?_ GE168.out) | exact HB.out)))); have n4_ := Aside0.mk (blk_below (g := gb156) (o := .cells #[.int .i64 (wrap64 (Int.tmod a0 40)), .int .i64 (wrap64 ((wrap64 (a1)) + 1))] 41 (0, 0)) (by (with_reducible repeat (first | refine blk_drewN ?_ _ | refine blk_drew ?_ | refine blk_alloc ?_ _)); exact BK156.out) hb); have n5_ := Aside0.mk (blk_below (g := gb166) (o := .cells #[.int .i64 x167000_2, .int .i64 x167001_2] 41 (0, 0)) (by (with_reducible repeat (first | refine blk_drewN ?_ _ | refine blk_drew ?_ | refine blk_alloc ?_ _)); exact BK166.out) hb); have n6_ := Aside0.mk (blk_below (g := gb168) (o := .cells #[.int .i64 (wrap64 ((wrap64 ((wrap64 (a1)) + 1)) + x17_2)), .slice Ao45 x169001_3.length co45] 24 (0, 0)) (by (with_reducible repeat (first | refine blk_drewN ?_ _ | refine blk_drew ?_ | refine blk_alloc ?_ _)); exact BK168.out) hb); have n7_ := Aside0.mk (below_step (by repeat (first | (with_reducible first | exact HB.out | apply below_alloc | apply pw_below_drewN | apply below_drew1 | refine below_set ?_ GE156.out | refine below_set ?_ GE166.out | refine below_set ?_ GE168.out) | exact HB.out)) hb); clear HO_12; clear HO_169001; clear HO174; clear BK156; clear BK166; clear BK168; clear HB; have HO_12 := n0_; have HO_169001 := n1_; have HO174 := n2_; have HO179 := n3_; have BK156 := n4_; have BK166 := n5_; have BK168 := n6_; have HB := n7_; clear n0_ n1_ n2_ n3_ n4_ n5_ n6_ n7_; (try clear hb); (try clear hb2); (try clear hk); (try clear hi); (try clear ho0)))
             (try simp only [Act.put, List.setIfInBounds_toArray, List.set_cons_zero, List.set_cons_succ])
             go_cut [105] (fun v105 wc => ∃ (kq : Nat) (x105_40 : Bool), v105 = .bool x105_40 ∧ Aside0 (drydocklaw15_LogWhole.j3 kq l2 a3 a4 x12_2 x14_2 x15_2 x17_2 (wrap64 ((wrap64 (Int.tmod (rd l2 x17_2) 5)) + 1)) t172 t176 x105_40 (wrap64 (Int.tmod a0 40)) (wrap64 ((wrap64 (a1)) + 1)) x167000_2 x167001_2 (wrap64 ((wrap64 ((wrap64 (a1)) + 1)) + x17_2)) x169001_3 = some r) ∧ Aside0 (kq ≤ k3) ∧ Aside0 (Kd.N (Kd.slice 5 (Kd.int .u8)) 25 wc w.heap.size (fun k_ => some k_ ≠ (v173 : Value).ownBlock ∧ some k_ ≠ (v178 : Value).ownBlock ∧ some k_ ≠ ((.slice Ao45 x169001_3.length co45) : Value).ownBlock ∧ k_ ≠ gb156 ∧ k_ ≠ gb166 ∧ k_ ≠ gb168) u12 x12_2) ∧ Aside0 (Kd.R (Kd.int .u8) 5 wc w.heap.size (fun k_ => some k_ ≠ (v178 : Value).ownBlock) v173 t172) ∧ Aside0 (Kd.R (Kd.int .u8) 5 wc w.heap.size (fun k_ => some k_ ≠ (v173 : Value).ownBlock) v178 t176) ∧ Aside0 (Kd.R (Kd.int .i64) 3 wc w.heap.size (fun _ => True) (.slice Ao45 x169001_3.length co45) x169001_3) ∧ Aside0 (wc.heap[gb156]? = some (.cells #[.int .i64 (wrap64 (Int.tmod a0 40)), .int .i64 (wrap64 ((wrap64 (a1)) + 1))] 41 (0, 0))) ∧ Aside0 (wc.heap[gb166]? = some (.cells #[.int .i64 x167000_2, .int .i64 x167001_2] 41 (0, 0))) ∧ Aside0 (wc.heap[gb168]? = some (.cells #[.int .i64 (wrap64 ((wrap64 ((wrap64 (a1)) + 1)) + x17_2)), (.slice Ao45 x169001_3.length co45)] 24 (0, 0))) ∧ Aside0 (Below w.heap.size w wc))
             case first =>
              have H := HC41.out
              clear HC41
              by_cases c49 : t175 = 0
              ·rw [if_pos c49] at H
               have c49b0 : (t175 == 0) = true := beq_iff_eq.mpr c49
               have c49b1 : (t175 != 0) = false := bne_eq_false_iff_eq.mpr c49
               clear c49
               (first | rw [c49b0] | (simp only [i64_w, i32_w]; rw [c49b0]) | skip)
               have H' := Aside0.mk H
               clear H
               go_wp2
               go_meet
               case rel => exact ⟨_, ((t177 != 0)), (by first | rfl | (simp; done) | (simp [*]; done)), H', ⟨by have := HK1.out; have := HK2.out; have := HK3.out; first | omega | exact Nat.le_refl _⟩, ⟨by (with_reducible repeat (first | apply Kd.N_alloc | apply Kd.N_drewN | apply Kd.N_drew)); exact Kd.N_mono HO_12.out (fun _ hk => ⟨hk.1.2, ⟨hk.2, ⟨hk.1.1.1, ⟨hk.1.1.2.1, ⟨hk.1.1.2.2.1, hk.1.1.2.2.2⟩⟩⟩⟩⟩)⟩, ⟨by (with_reducible repeat (first | apply Kd.R_alloc | apply Kd.R_drewN | apply Kd.R_drew)); exact Kd.R_mono HO174.out (fun _ hk => hk.2)⟩, ⟨by (with_reducible repeat (first | apply Kd.R_alloc | apply Kd.R_drewN | apply Kd.R_drew)); exact Kd.R_mono HO179.out (fun _ hk => hk.2)⟩, ⟨by (with_reducible repeat (first | apply Kd.R_alloc | apply Kd.R_drewN | apply Kd.R_drew)); exact HO_169001.out⟩, ⟨by (with_reducible repeat (first | refine blk_drewN ?_ _ | refine blk_drew ?_ | refine blk_alloc ?_ _)); exact BK156.out⟩, ⟨by (with_reducible repeat (first | refine blk_drewN ?_ _ | refine blk_drew ?_ | refine blk_alloc ?_ _)); exact BK166.out⟩, ⟨by (with_reducible repeat (first | refine blk_drewN ?_ _ | refine blk_drew ?_ | refine blk_alloc ?_ _)); exact BK168.out⟩, ⟨by repeat (first | (with_reducible first | exact HB.out | apply below_alloc | apply pw_below_drewN | apply below_drew1 | refine below_set ?_ GE156.out | refine below_set ?_ GE166.out | refine below_set ?_ GE168.out) | exact HB.out)⟩⟩
              ·rw [if_neg c49] at H
               have c49b0 : (t175 == 0) = false := beq_eq_false_iff_ne.mpr c49
               have c49b1 : (t175 != 0) = true := bne_iff_ne.mpr c49
               (first | rw [c49b0] | (simp only [i64_w, i32_w]; rw [c49b0]) | skip)
               have H' := Aside0.mk H
               clear H
               go_wp2
               go_meet
               case rel => exact ⟨_, (true), (by first | rfl | (simp; done) | (simp [*]; done)), H', ⟨by have := HK1.out; have := HK2.out; have := HK3.out; first | omega | exact Nat.le_refl _⟩, ⟨by (with_reducible repeat (first | apply Kd.N_alloc | apply Kd.N_drewN | apply Kd.N_drew)); exact Kd.N_mono HO_12.out (fun _ hk => ⟨hk.1.2, ⟨hk.2, ⟨hk.1.1.1, ⟨hk.1.1.2.1, ⟨hk.1.1.2.2.1, hk.1.1.2.2.2⟩⟩⟩⟩⟩)⟩, ⟨by (with_reducible repeat (first | apply Kd.R_alloc | apply Kd.R_drewN | apply Kd.R_drew)); exact Kd.R_mono HO174.out (fun _ hk => hk.2)⟩, ⟨by (with_reducible repeat (first | apply Kd.R_alloc | apply Kd.R_drewN | apply Kd.R_drew)); exact Kd.R_mono HO179.out (fun _ hk => hk.2)⟩, ⟨by (with_reducible repeat (first | apply Kd.R_alloc | apply Kd.R_drewN | apply Kd.R_drew)); exact HO_169001.out⟩, ⟨by (with_reducible repeat (first | refine blk_drewN ?_ _ | refine blk_drew ?_ | refine blk_alloc ?_ _)); exact BK156.out⟩, ⟨by (with_reducible repeat (first | refine blk_drewN ?_ _ | refine blk_drew ?_ | refine blk_alloc ?_ _)); exact BK166.out⟩, ⟨by (with_reducible repeat (first | refine blk_drewN ?_ _ | refine blk_drew ?_ | refine blk_alloc ?_ _)); exact BK168.out⟩, ⟨by repeat (first | (with_reducible first | exact HB.out | apply below_alloc | apply pw_below_drewN | apply below_drew1 | refine below_set ?_ GE156.out | refine below_set ?_ GE166.out | refine below_set ?_ GE168.out) | exact HB.out)⟩⟩
             case rest => as_aux_lemma =>
              clear HC41
              try clear c1
              try clear p1
              try clear q1
              try clear hx1
              try clear c2
              try clear p2
              try clear c3
              try clear c4
              try clear p6
              try clear c7
              try clear c9
              try clear c10
              try clear c10b0
              try clear c11
              try clear c11b0
              try clear c11b1
              try clear c12
              try clear c15
              try clear p16
              try clear q16
              try clear hx16
              try clear c20
              try clear c22
              try clear c22b0
              try clear c23
              try clear c23b0
              try clear c24
              try clear c24b0
              try clear c25
              try clear c28
              try clear c29
              try clear c31
              try clear c31b0
              try clear c32
              try clear c33
              try clear c34
              try clear c42
              try clear c43
              try clear c49
              try clear c49b0
              try clear c49b1
              try clear hcz18_0
              try clear hcz18_1
              try clear hcz21_0
              try clear hcz21_1
              try clear hcz26_0
              try clear hcz26_1
              try clear hcz30_0
              try clear hcz30_1
              try clear hcz35_0
              try clear hcz35_1
              try clear hcz38_0
              try clear hcz38_1
              try clear hcz44_0
              try clear hcz44_1
              try clear hcz47_0
              try clear hcz47_1
              try clear hcz7_0
              try clear hcz7_1
              try clear hfz18_0
              try clear hfz18_1
              try clear hfz21_0
              try clear hfz21_1
              try clear hfz26_0
              try clear hfz26_1
              try clear hfz30_0
              try clear hfz30_1
              try clear hfz35_0
              try clear hfz35_1
              try clear hfz38_0
              try clear hfz38_1
              try clear hfz44_0
              try clear hfz44_1
              try clear hfz47_0
              try clear hfz47_1
              try clear hfz7_0
              try clear hfz7_1
              try clear hx167_0
              try clear p1
              try clear p16
              try clear p167
              try clear p2
              try clear p6
              try clear q1
              try clear q16
              try clear q167
              obtain ⟨kq, x105_40, rfl, HA, HJ40, HO_12, HO_21, HO_23, HO_169001, BK156, BK166, BK168, HB⟩ := hcut
              cases kq with
              | zero => exact absurd HA.out (by simp [drydocklaw15_LogWhole.j3])
              | succ kj40 =>
               have H := HA.out
               clear HA
               simp only [drydocklaw15_LogWhole.j3] at H
               by_cases c50 : x105_40 = true
               ·subst c50
                have H1 : (some false) = some r := by rw [if_pos rfl] at H; exact H
                clear H
                have H := H1
                clear H1
                obtain rfl := Option.some.inj H
                go_wp2
                go_ret
                exact ⟨by first | rfl | (simp [errW_none, errW_some] <;> rfl) | (simp [*, errW_none, errW_some] <;> rfl), by repeat (first | (with_reducible first | exact HB.out | apply below_alloc | apply pw_below_drewN | apply below_drew1 | refine below_set ?_ GE156.out | refine below_set ?_ GE166.out | refine below_set ?_ GE168.out) | exact HB.out)⟩
               ·replace c50 := Bool.eq_false_iff.mpr c50
                subst c50
                have H1 : (drydocklaw15_LogWhole.l3 kj40 l2 a3 a4 x12_2 x14_2 x15_2 x17_2 (wrap64 ((wrap64 (Int.tmod (rd l2 x17_2) 5)) + 1)) t176 (([t172] : List (List Int))) 0 (wrap64 (Int.tmod a0 40)) (wrap64 ((wrap64 (a1)) + 1)) x167000_2 x167001_2 (wrap64 ((wrap64 ((wrap64 (a1)) + 1)) + x17_2)) x169001_3) = some r := by rw [if_neg (show ¬ (false = true) by decide)] at H; exact H
                clear H
                have H := H1
                clear H1
                obtain ⟨y180, hy180⟩ : ∃ y_ : List (List Int), y_ = (([t172] : List (List Int))) := ⟨_, rfl⟩
                replace H : (drydocklaw15_LogWhole.l3 kj40 l2 a3 a4 x12_2 x14_2 x15_2 x17_2 (wrap64 ((wrap64 (Int.tmod (rd l2 x17_2) 5)) + 1)) t176 y180 0 (wrap64 (Int.tmod a0 40)) (wrap64 ((wrap64 (a1)) + 1)) x167000_2 x167001_2 (wrap64 ((wrap64 ((wrap64 (a1)) + 1)) + x17_2)) x169001_3) = some r := by first | (rw [hy180]; with_reducible exact H) | (have H2_ := (Option.bind_some _ _).symm.trans H; rw [hy180]; with_reducible exact H2_) | (have H2_ := (Option.bind_some _ _).symm.trans H; with_reducible exact H2_) | with_reducible exact H | (rw [hy180]; exact H) | exact H
                have Ny180 := Aside0.mk hy180
                clear hy180
                have H' := Aside0.mk H
                clear H
                obtain ⟨Ao51, co51, eo51⟩ := Kd.R_slice HO_21.out
                subst eo51
                go_wp2_with (first | ((with_reducible refine gate_dst (N := 107) rfl ?_); (try (refine gate_guard (by rfl) ?_; dsimp only)); refine Kd.N_lit (Kd.slice 5 (Kd.int .u8)) _ 25 ?hg (N' := 107) ?hd (xs := ([t172] : List (List Int))) (inner := [.slice Ao51 t172.length co51]) (ok := (fun k_ => some k_ ≠ (u12 : Value).ownBlock ∧ some k_ ≠ (v178 : Value).ownBlock ∧ some k_ ≠ (.slice Ao45 x169001_3.length co45 : Value).ownBlock ∧ k_ ≠ gb156 ∧ k_ ≠ gb166 ∧ k_ ≠ gb168)) (okp := (fun k_ => some k_ ≠ (u12 : Value).ownBlock ∧ some k_ ≠ (v178 : Value).ownBlock ∧ some k_ ≠ (.slice Ao45 x169001_3.length co45 : Value).ownBlock ∧ k_ ≠ gb156 ∧ k_ ≠ gb166 ∧ k_ ≠ gb168)) ?hr ?hp (fun _ hk => hk) ((show ∀ k_, wc.heap.size ≤ k_ → (fun k_ => some k_ ≠ (u12 : Value).ownBlock ∧ some k_ ≠ (v178 : Value).ownBlock ∧ some k_ ≠ (.slice Ao45 x169001_3.length co45 : Value).ownBlock ∧ k_ ≠ gb156 ∧ k_ ≠ gb166 ∧ k_ ≠ gb168) k_ from fun k_ hk => ⟨Kd.fresh' (Kd.N_lt (by (with_reducible repeat (first | apply Kd.N_alloc | apply Kd.N_drewN | apply Kd.N_drew)); exact HO_12.out)) k_ hk, Kd.fresh' (Kd.R_lt (by (with_reducible repeat (first | apply Kd.R_alloc | apply Kd.R_drewN | apply Kd.R_drew)); exact HO_23.out)) k_ hk, Kd.fresh' (Kd.R_lt (by (with_reducible repeat (first | apply Kd.R_alloc | apply Kd.R_drewN | apply Kd.R_drew)); exact HO_169001.out)) k_ hk, Kd.freshB (g := gb156) (o := .cells #[.int .i64 (wrap64 (Int.tmod a0 40)), .int .i64 (wrap64 ((wrap64 (a1)) + 1))] 41 (0, 0)) (by (with_reducible repeat (first | refine blk_drewN ?_ _ | refine blk_drew ?_ | refine blk_alloc ?_ _)); exact BK156.out) k_ hk, Kd.freshB (g := gb166) (o := .cells #[.int .i64 x167000_2, .int .i64 x167001_2] 41 (0, 0)) (by (with_reducible repeat (first | refine blk_drewN ?_ _ | refine blk_drew ?_ | refine blk_alloc ?_ _)); exact BK166.out) k_ hk, Kd.freshB (g := gb168) (o := .cells #[.int .i64 (wrap64 ((wrap64 ((wrap64 (a1)) + 1)) + x17_2)), .slice Ao45 x169001_3.length co45] 24 (0, 0)) (by (with_reducible repeat (first | refine blk_drewN ?_ _ | refine blk_drew ?_ | refine blk_alloc ?_ _)); exact BK168.out) k_ hk⟩) _ (Nat.le_refl _)) (Below.refl _ _) (Nat.le_refl _) (by simp) ?_; (case hd => rfl); (case hg => rfl); (case hr => first | (go_simp; done) | (go_simp; rfl)); (case hp => exact (Reps.one (show Kd.FK (Kd.slice 5 (Kd.int .u8)) _ _ t172 [.slice Ao51 t172.length co51] from (Kd.FK_slice_mk (Kd.R_reads' (Kd.R_mono (ok' := (fun k_ => some k_ ≠ (u12 : Value).ownBlock ∧ some k_ ≠ (v178 : Value).ownBlock ∧ some k_ ≠ (.slice Ao45 x169001_3.length co45 : Value).ownBlock ∧ k_ ≠ gb156 ∧ k_ ≠ gb166 ∧ k_ ≠ gb168)) (Kd.R_types (Kd.R_types (Kd.R_types (Kd.R_apart' (Kd.R_apart' (HO_21.out) (Kd.N_typed HO_12.out) (by decide)) (Kd.R_typed HO_169001.out) (by decide)) BK156.out (by decide)) BK166.out (by decide)) BK168.out (by decide)) (fun k_ hk => ⟨hk.1.1.1.1.2, ⟨hk.1.1.1.1.1, ⟨hk.1.1.1.2, ⟨hk.1.1.2, ⟨hk.1.2, hk.2⟩⟩⟩⟩⟩))).2.1 (Kd.R_F (Kd.R_mono (ok' := (fun k_ => some k_ ≠ (u12 : Value).ownBlock ∧ some k_ ≠ (v178 : Value).ownBlock ∧ some k_ ≠ (.slice Ao45 x169001_3.length co45 : Value).ownBlock ∧ k_ ≠ gb156 ∧ k_ ≠ gb166 ∧ k_ ≠ gb168)) (Kd.R_types (Kd.R_types (Kd.R_types (Kd.R_apart' (Kd.R_apart' (HO_21.out) (Kd.N_typed HO_12.out) (by decide)) (Kd.R_typed HO_169001.out) (by decide)) BK156.out (by decide)) BK166.out (by decide)) BK168.out (by decide)) (fun k_ hk => ⟨hk.1.1.1.1.2, ⟨hk.1.1.1.1.1, ⟨hk.1.1.1.2, ⟨hk.1.1.2, ⟨hk.1.2, hk.2⟩⟩⟩⟩⟩))))) (Reps.none _ _))); intro v181 w52 ho53 hb hg_ hnew_; clear hg_ hnew_; (first | rw [← Ny180.out] at ho53 | (simp only [Int.reduceToNat] at ho53; rw [← Ny180.out] at ho53)); have n0_ := Aside0.mk (Kd.N_elder' (by (with_reducible repeat (first | apply Kd.N_alloc | apply Kd.N_drewN | apply Kd.N_drew)); exact HO_12.out) (Kd.N_base ho53) hb); have n1_ := Aside0.mk (Kd.R_below (by (with_reducible repeat (first | apply Kd.R_alloc | apply Kd.R_drewN | apply Kd.R_drew)); exact HO_23.out) hb); have n2_ := Aside0.mk (Kd.R_below (by (with_reducible repeat (first | apply Kd.R_alloc | apply Kd.R_drewN | apply Kd.R_drew)); exact HO_169001.out) hb); have n3_ := Aside0.mk (Kd.N_lower ho53 (below_size (by repeat (first | (with_reducible first | exact HB.out | apply below_alloc | apply pw_below_drewN | apply below_drew1 | refine below_set ?_ GE156.out | refine below_set ?_ GE166.out | refine below_set ?_ GE168.out) | exact HB.out)))); have n4_ := Aside0.mk (blk_below (g := gb156) (o := .cells #[.int .i64 (wrap64 (Int.tmod a0 40)), .int .i64 (wrap64 ((wrap64 (a1)) + 1))] 41 (0, 0)) (by (with_reducible repeat (first | refine blk_drewN ?_ _ | refine blk_drew ?_ | refine blk_alloc ?_ _)); exact BK156.out) hb); have n5_ := Aside0.mk (blk_below (g := gb166) (o := .cells #[.int .i64 x167000_2, .int .i64 x167001_2] 41 (0, 0)) (by (with_reducible repeat (first | refine blk_drewN ?_ _ | refine blk_drew ?_ | refine blk_alloc ?_ _)); exact BK166.out) hb); have n6_ := Aside0.mk (blk_below (g := gb168) (o := .cells #[.int .i64 (wrap64 ((wrap64 ((wrap64 (a1)) + 1)) + x17_2)), .slice Ao45 x169001_3.length co45] 24 (0, 0)) (by (with_reducible repeat (first | refine blk_drewN ?_ _ | refine blk_drew ?_ | refine blk_alloc ?_ _)); exact BK168.out) hb); have n7_ := Aside0.mk (below_step (by repeat (first | (with_reducible first | exact HB.out | apply below_alloc | apply pw_below_drewN | apply below_drew1 | refine below_set ?_ GE156.out | refine below_set ?_ GE166.out | refine below_set ?_ GE168.out) | exact HB.out)) hb); clear HO_12; clear HO_23; clear HO_169001; clear BK156; clear BK166; clear BK168; clear HB; clear HO_21; have HO_12 := n0_; have HO_23 := n1_; have HO_169001 := n2_; have HO182 := n3_; have BK156 := n4_; have BK166 := n5_; have BK168 := n6_; have HB := n7_; clear n0_ n1_ n2_ n3_ n4_ n5_ n6_ n7_; clear hb ho53))
                go_loopg [25, 26] kj40 (fun kq v25 v26 w' => ∃ (x23_5 : List Int) (x25_5 : List (List Int)) (x26_5 : Int), v26 = .int .i64 x26_5 ∧ Aside0 (drydocklaw15_LogWhole.l3 kq l2 a3 a4 x12_2 x14_2 x15_2 x17_2 (wrap64 ((wrap64 (Int.tmod (rd l2 x17_2) 5)) + 1)) x23_5 x25_5 x26_5 (wrap64 (Int.tmod a0 40)) (wrap64 ((wrap64 (a1)) + 1)) x167000_2 x167001_2 (wrap64 ((wrap64 ((wrap64 (a1)) + 1)) + x17_2)) x169001_3 = some r) ∧ Aside0 (kq ≤ kj40) ∧ Aside0 (Kd.N (Kd.slice 5 (Kd.int .u8)) 25 w' w.heap.size (fun k_ => some k_ ≠ (v178 : Value).ownBlock ∧ some k_ ≠ (v25 : Value).ownBlock ∧ some k_ ≠ ((.slice Ao45 x169001_3.length co45) : Value).ownBlock ∧ k_ ≠ gb156 ∧ k_ ≠ gb166 ∧ k_ ≠ gb168) u12 x12_2) ∧ Aside0 (Kd.R (Kd.int .u8) 5 w' w.heap.size (fun _ => True) v178 x23_5) ∧ Aside0 (Kd.N (Kd.slice 5 (Kd.int .u8)) 25 w' w.heap.size (fun k_ => some k_ ≠ (u12 : Value).ownBlock ∧ some k_ ≠ (v178 : Value).ownBlock ∧ some k_ ≠ ((.slice Ao45 x169001_3.length co45) : Value).ownBlock ∧ k_ ≠ gb156 ∧ k_ ≠ gb166 ∧ k_ ≠ gb168) v25 x25_5) ∧ Aside0 (Kd.R (Kd.int .i64) 3 w' w.heap.size (fun _ => True) (.slice Ao45 x169001_3.length co45) x169001_3) ∧ Aside0 (w'.heap[gb156]? = some (.cells #[.int .i64 (wrap64 (Int.tmod a0 40)), .int .i64 (wrap64 ((wrap64 (a1)) + 1))] 41 (0, 0))) ∧ Aside0 (w'.heap[gb166]? = some (.cells #[.int .i64 x167000_2, .int .i64 x167001_2] 41 (0, 0))) ∧ Aside0 (w'.heap[gb168]? = some (.cells #[.int .i64 (wrap64 ((wrap64 ((wrap64 (a1)) + 1)) + x17_2)), (.slice Ao45 x169001_3.length co45)] 24 (0, 0))) ∧ Aside0 (Below w.heap.size w w'))
                case atStart => exact ⟨(t176), (y180), (0), (by first | rfl | (simp; done) | (simp [*]; done)), H', ⟨Nat.le_refl _⟩, ⟨by (with_reducible repeat (first | apply Kd.N_alloc | apply Kd.N_drewN | apply Kd.N_drew)); exact Kd.N_mono HO_12.out (fun _ hk => ⟨hk.1.2.1, ⟨hk.2, ⟨hk.1.2.2.1, ⟨hk.1.2.2.2.1, ⟨hk.1.2.2.2.2.1, hk.1.2.2.2.2.2⟩⟩⟩⟩⟩)⟩, ⟨by (with_reducible repeat (first | apply Kd.R_alloc | apply Kd.R_drewN | apply Kd.R_drew)); exact Kd.R_mono HO_23.out (fun _ hk => trivial)⟩, ⟨by (with_reducible repeat (first | apply Kd.N_alloc | apply Kd.N_drewN | apply Kd.N_drew)); exact HO182.out⟩, ⟨by (with_reducible repeat (first | apply Kd.R_alloc | apply Kd.R_drewN | apply Kd.R_drew)); exact HO_169001.out⟩, ⟨by (with_reducible repeat (first | refine blk_drewN ?_ _ | refine blk_drew ?_ | refine blk_alloc ?_ _)); exact BK156.out⟩, ⟨by (with_reducible repeat (first | refine blk_drewN ?_ _ | refine blk_drew ?_ | refine blk_alloc ?_ _)); exact BK166.out⟩, ⟨by (with_reducible repeat (first | refine blk_drewN ?_ _ | refine blk_drew ?_ | refine blk_alloc ?_ _)); exact BK168.out⟩, ⟨by repeat (first | (with_reducible first | exact HB.out | apply below_alloc | apply pw_below_drewN | apply below_drew1 | refine below_set ?_ GE156.out | refine below_set ?_ GE166.out | refine below_set ?_ GE168.out) | exact HB.out)⟩⟩
                case round =>
                 clear H'
                 try clear c1
                 try clear p1
                 try clear q1
                 try clear hx1
                 try clear c2
                 try clear p2
                 try clear c3
                 try clear c4
                 try clear c5
                 try clear p6
                 try clear c7
                 try clear c9
                 try clear c10
                 try clear c10b0
                 try clear c11
                 try clear c11b0
                 try clear c11b1
                 try clear c12
                 try clear c15
                 try clear p16
                 try clear q16
                 try clear hx16
                 try clear c20
                 try clear c22
                 try clear c22b0
                 try clear c23
                 try clear c23b0
                 try clear c24
                 try clear c24b0
                 try clear c25
                 try clear c28
                 try clear c29
                 try clear c31
                 try clear c31b0
                 try clear c32
                 try clear c33
                 try clear c34
                 try clear c42
                 try clear c43
                 try clear c49
                 try clear c49b0
                 try clear c49b1
                 try clear c50
                 try clear hcz18_0
                 try clear hcz18_1
                 try clear hcz21_0
                 try clear hcz21_1
                 try clear hcz26_0
                 try clear hcz26_1
                 try clear hcz30_0
                 try clear hcz30_1
                 try clear hcz35_0
                 try clear hcz35_1
                 try clear hcz38_0
                 try clear hcz38_1
                 try clear hcz44_0
                 try clear hcz44_1
                 try clear hcz47_0
                 try clear hcz47_1
                 try clear hcz7_0
                 try clear hcz7_1
                 try clear hfz18_0
                 try clear hfz18_1
                 try clear hfz21_0
                 try clear hfz21_1
                 try clear hfz26_0
                 try clear hfz26_1
                 try clear hfz30_0
                 try clear hfz30_1
                 try clear hfz35_0
                 try clear hfz35_1
                 try clear hfz38_0
                 try clear hfz38_1
                 try clear hfz44_0
                 try clear hfz44_1
                 try clear hfz47_0
                 try clear hfz47_1
                 try clear hfz7_0
                 try clear hfz7_1
                 try clear hx167_0
                 try clear p1
                 try clear p16
                 try clear p167
                 try clear p2
                 try clear p6
                 try clear q1
                 try clear q16
                 try clear q167
                 obtain ⟨x23_5, x25_5, x26_5, rfl, HA, HK5, HO_12, HO_23, HO_25, HO_169001, BK156, BK166, BK168, HB⟩ := hrel
                 cases gk with
                 | zero => exact absurd HA.out (by simp [drydocklaw15_LogWhole.l3])
                 | succ k5 =>
                  have H := HA.out
                  clear HA
                  simp only [drydocklaw15_LogWhole.l3] at H
                  by_cases c54 : x26_5 < (wrap64 ((wrap64 (Int.tmod (rd l2 x17_2) 5)) + 1))
                  ·rw [if_pos c54] at H
                   have c54b0 : decide (x26_5 < (wrap64 ((wrap64 (Int.tmod (rd l2 x17_2) 5)) + 1))) = true := decide_eq_true c54
                   clear c54
                   by_cases c55 : 64 ≤ 281474976710656
                   ·rw [if_pos c55] at H
                    have c55b0 := eq_true c55
                    have c55b1 : decide (64 ≤ 281474976710656) = true := decide_eq_true c55
                    clear c55
                    obtain ⟨y183, hy183⟩ : ∃ y_ : List Int, y_ = (List.replicate 64 0) := ⟨_, rfl⟩
                    replace H : (if 0 < (y183.length : Int) then (if 1 < (y183.length : Int) then (if x25_5.length < 5864062014805 then (drydocklaw15_LogWhole.l3 k5 l2 a3 a4 x12_2 x14_2 x15_2 x17_2 (wrap64 ((wrap64 (Int.tmod (rd l2 x17_2) 5)) + 1)) x23_5 (x25_5 ++ [((y183.set (0 : Int).toNat a4).set (1 : Int).toNat ((x17_2) % 256))]) (wrap64 (x26_5 + 1)) (wrap64 (Int.tmod a0 40)) (wrap64 ((wrap64 (a1)) + 1)) x167000_2 x167001_2 (wrap64 ((wrap64 ((wrap64 (a1)) + 1)) + x17_2)) x169001_3) else (none)) else (none)) else (none)) = some r := by first | (rw [hy183]; with_reducible exact H) | (have H2_ := (Option.bind_some _ _).symm.trans H; rw [hy183]; with_reducible exact H2_) | (have H2_ := (Option.bind_some _ _).symm.trans H; with_reducible exact H2_) | with_reducible exact H | (rw [hy183]; exact H) | exact H
                    have Ny183 := Aside0.mk hy183
                    clear hy183
                    by_cases c56 : 0 < (y183.length : Int)
                    ·rw [if_pos c56] at H
                     have c56b0 : decide (0 < (y183.length : Int)) = true := decide_eq_true c56
                     have c56b1 : decide (0 < y183.length) = true := decide_eq_true (by omega)
                     clear c56
                     obtain ⟨y186, hy186⟩ : ∃ y_ : List Int, y_ = (y183.set (0 : Int).toNat a4) := ⟨_, rfl⟩
                     replace H : (if 1 < (y183.length : Int) then (if x25_5.length < 5864062014805 then (drydocklaw15_LogWhole.l3 k5 l2 a3 a4 x12_2 x14_2 x15_2 x17_2 (wrap64 ((wrap64 (Int.tmod (rd l2 x17_2) 5)) + 1)) x23_5 (x25_5 ++ [(y186.set (1 : Int).toNat ((x17_2) % 256))]) (wrap64 (x26_5 + 1)) (wrap64 (Int.tmod a0 40)) (wrap64 ((wrap64 (a1)) + 1)) x167000_2 x167001_2 (wrap64 ((wrap64 ((wrap64 (a1)) + 1)) + x17_2)) x169001_3) else (none)) else (none)) = some r := by first | (rw [hy186]; with_reducible exact H) | (have H2_ := (Option.bind_some _ _).symm.trans H; rw [hy186]; with_reducible exact H2_) | (have H2_ := (Option.bind_some _ _).symm.trans H; with_reducible exact H2_) | with_reducible exact H | (rw [hy186]; exact H) | exact H
                     have Ny186 := Aside0.mk hy186
                     clear hy186
                     by_cases c58 : 1 < (y183.length : Int)
                     ·rw [if_pos c58] at H
                      have c58b0 : decide (1 < (y183.length : Int)) = true := decide_eq_true c58
                      have c58b1 : decide (1 < y183.length) = true := decide_eq_true (by omega)
                      clear c58
                      obtain ⟨y187, hy187⟩ : ∃ y_ : List Int, y_ = (y186.set (1 : Int).toNat ((x17_2) % 256)) := ⟨_, rfl⟩
                      replace H : (if x25_5.length < 5864062014805 then (drydocklaw15_LogWhole.l3 k5 l2 a3 a4 x12_2 x14_2 x15_2 x17_2 (wrap64 ((wrap64 (Int.tmod (rd l2 x17_2) 5)) + 1)) x23_5 (x25_5 ++ [y187]) (wrap64 (x26_5 + 1)) (wrap64 (Int.tmod a0 40)) (wrap64 ((wrap64 (a1)) + 1)) x167000_2 x167001_2 (wrap64 ((wrap64 ((wrap64 (a1)) + 1)) + x17_2)) x169001_3) else (none)) = some r := by first | (rw [hy187]; with_reducible exact H) | (have H2_ := (Option.bind_some _ _).symm.trans H; rw [hy187]; with_reducible exact H2_) | (have H2_ := (Option.bind_some _ _).symm.trans H; with_reducible exact H2_) | with_reducible exact H | (rw [hy187]; exact H) | exact H
                      have Ny187 := Aside0.mk hy187
                      clear hy187
                      by_cases c60 : x25_5.length < 5864062014805
                      ·rw [if_pos c60] at H
                       have LMc60 := Aside0.mk c60
                       clear c60
                       obtain ⟨y188, hy188⟩ : ∃ y_ : List (List Int), y_ = (x25_5 ++ [y187]) := ⟨_, rfl⟩
                       replace H : (drydocklaw15_LogWhole.l3 k5 l2 a3 a4 x12_2 x14_2 x15_2 x17_2 (wrap64 ((wrap64 (Int.tmod (rd l2 x17_2) 5)) + 1)) x23_5 y188 (wrap64 (x26_5 + 1)) (wrap64 (Int.tmod a0 40)) (wrap64 ((wrap64 (a1)) + 1)) x167000_2 x167001_2 (wrap64 ((wrap64 ((wrap64 (a1)) + 1)) + x17_2)) x169001_3) = some r := by first | (rw [hy188]; with_reducible exact H) | (have H2_ := (Option.bind_some _ _).symm.trans H; rw [hy188]; with_reducible exact H2_) | (have H2_ := (Option.bind_some _ _).symm.trans H; with_reducible exact H2_) | with_reducible exact H | (rw [hy188]; exact H) | exact H
                       have Ny188 := Aside0.mk hy188
                       clear hy188
                       have H' := Aside0.mk H
                       clear H
                       go_wp2_with (first | ((with_reducible refine gate_dst (N := 113) rfl ?_); (try (refine gate_guard (by rfl) ?_; dsimp only)); refine Kd.R_make (Kd.int .u8) _ 5 rfl (N := 113) rfl 25 _ _ rfl 64 rfl rfl Try.underlying25 (.int .u8 0) 1 info5 rfl (by decide) (by omega) 0 (ok := fun _ => True) (okp := fun _ => True) rfl (fun _ hk => hk) trivial (by omega) (by omega) (Below.refl _ _) (Nat.le_refl _) ?_; intro v184 w61 ho62 hb hg_ hnew_; clear hg_ hnew_; (first | rw [← Ny183.out] at ho62 | (simp only [Int.reduceToNat] at ho62; rw [← Ny183.out] at ho62)); have n0_ := Aside0.mk (Kd.N_elder' (by (with_reducible repeat (first | apply Kd.N_alloc | apply Kd.N_drewN | apply Kd.N_drew)); exact HO_12.out) (Kd.R_base ho62) hb); have n1_ := Aside0.mk (Kd.R_elder' (by (with_reducible repeat (first | apply Kd.R_alloc | apply Kd.R_drewN | apply Kd.R_drew)); exact HO_23.out) (Kd.R_base ho62) hb); have n2_ := Aside0.mk (Kd.N_elder' (by (with_reducible repeat (first | apply Kd.N_alloc | apply Kd.N_drewN | apply Kd.N_drew)); exact HO_25.out) (Kd.R_base ho62) hb); have n3_ := Aside0.mk (Kd.R_below (by (with_reducible repeat (first | apply Kd.R_alloc | apply Kd.R_drewN | apply Kd.R_drew)); exact HO_169001.out) hb); have n4_ := Aside0.mk (Kd.R_lower (Kd.R_new' ho62 (Kd.R_lt (by (with_reducible repeat (first | apply Kd.R_alloc | apply Kd.R_drewN | apply Kd.R_drew)); exact HO_23.out))) (below_size (by repeat (first | (with_reducible first | exact HB.out | apply below_alloc | apply pw_below_drewN | apply below_drew1 | refine below_set ?_ GE156.out | refine below_set ?_ GE166.out | refine below_set ?_ GE168.out) | exact HB.out)))); have n5_ := Aside0.mk (blk_below (g := gb156) (o := .cells #[.int .i64 (wrap64 (Int.tmod a0 40)), .int .i64 (wrap64 ((wrap64 (a1)) + 1))] 41 (0, 0)) (by (with_reducible repeat (first | refine blk_drewN ?_ _ | refine blk_drew ?_ | refine blk_alloc ?_ _)); exact BK156.out) hb); have n6_ := Aside0.mk (blk_below (g := gb166) (o := .cells #[.int .i64 x167000_2, .int .i64 x167001_2] 41 (0, 0)) (by (with_reducible repeat (first | refine blk_drewN ?_ _ | refine blk_drew ?_ | refine blk_alloc ?_ _)); exact BK166.out) hb); have n7_ := Aside0.mk (blk_below (g := gb168) (o := .cells #[.int .i64 (wrap64 ((wrap64 ((wrap64 (a1)) + 1)) + x17_2)), .slice Ao45 x169001_3.length co45] 24 (0, 0)) (by (with_reducible repeat (first | refine blk_drewN ?_ _ | refine blk_drew ?_ | refine blk_alloc ?_ _)); exact BK168.out) hb); have n8_ := Aside0.mk (below_step (by repeat (first | (with_reducible first | exact HB.out | apply below_alloc | apply pw_below_drewN | apply below_drew1 | refine below_set ?_ GE156.out | refine below_set ?_ GE166.out | refine below_set ?_ GE168.out) | exact HB.out)) hb); clear HO_12; clear HO_23; clear HO_25; clear HO_169001; clear BK156; clear BK166; clear BK168; clear HB; have HO_12 := n0_; have HO_23 := n1_; have HO_25 := n2_; have HO_169001 := n3_; have HO185 := n4_; have BK156 := n5_; have BK166 := n6_; have BK168 := n7_; have HB := n8_; clear n0_ n1_ n2_ n3_ n4_ n5_ n6_ n7_ n8_; clear hb ho62; have p57 : 0 ≤ (0 : Int) := (by omega); have q57 : (0 : Int) < ((y183.length : Int) : Int) := of_decide_eq_true (by first | (with_reducible assumption) | assumption); have qi57 : (0 < y183.length) = True := eq_true (by omega); obtain ⟨go57, co57, eo57, gb57, gl57, cl57, HG57⟩ := Kd.R_form HO185.out (by omega); (first | cases eo57 | (injection eo57 with ea_ en_ ec_; (first | subst ea_ | (injection ea_ with ea_; subst ea_)); subst ec_; clear en_)); have GB57 := Aside0.mk gb57; have GG57 := Aside0.mk HG57; clear gb57 gl57 HG57; obtain ⟨hx57_0, hf57_0⟩ := Kd.R_celln 0 HO185.out (0 : Int) p57 q57; (try rw [show ((0 : Int)).toNat = 0 from rfl] at hx57_0); (try simp only [Nat.reduceMul, Nat.zero_mul, Nat.zero_add, Nat.reduceAdd] at hx57_0); (try rw [show ((0 : Int)).toNat = 0 from rfl] at hf57_0); (try simp only [Nat.reduceMul, Nat.zero_mul, Nat.zero_add, Nat.reduceAdd] at hf57_0); replace p57 := eq_true p57; replace q57 := eq_true q57; have n_ := Aside0.mk (Kd.R_mono (ok' := (fun k_ => some k_ ≠ (v178 : Value).ownBlock)) HO185.out (fun k_ hk => hk.2)); clear HO185; have HO185 := n_; clear n_; obtain ⟨hy63_, hz63_⟩ := Kd.R_celln 0 HO185.out (0 : Int) (by omega) (of_decide_eq_true (by first | (with_reducible assumption) | assumption)); (try simp only [Int.reduceToNat, Int.toNat_zero, Int.toNat_ofNat, Nat.reduceMul, Nat.zero_mul, Nat.zero_add] at hy63_ hz63_); (try rw [show ((0 : Int)).toNat = 0 from rfl] at hy63_); (try rw [show ((0 : Int)).toNat = 0 from rfl] at hz63_); have HP63 := Kd.R_putg HO185.out (0 : Int) a4) | ((with_reducible refine gate_store (t := 5) (p := 116) rfl ?_); refine store_event (t := 5) (p := 116) (v := ?vo_w64) (w1 := (w61.setCell ⟨go57, (0 : Int).toNat, none⟩ (.int .u8 a4))) ?hg ?ho ?hn ?hr ?_; (case ho => rfl); (case hg => rfl); (case hn => rfl); (case hr => first | (go_simp; done) | (go_simp; rfl)); intro w64 hw; have hg : w61.grownBy w64 (some go57) := (by rw [hw]; exact HP63.2); have hp_ : Kd.R (Kd.int .u8) 5 w64 w.heap.size (fun k_ => some k_ ≠ (v178 : Value).ownBlock) (.slice (some ⟨go57, 0, none⟩) y183.length co57) y186 := (by rw [hw, Ny186.out]; exact HP63.1); clear HP63; have n0_ := Aside0.mk (Kd.N_afterv (v := (.slice (some ⟨go57, 0, none⟩) y183.length co57)) (v1 := (.slice (some ⟨go57, 0, none⟩) y183.length co57)) (ok := (fun k_ => some k_ ≠ (v178 : Value).ownBlock ∧ some k_ ≠ (u25 : Value).ownBlock ∧ some k_ ≠ (.slice Ao45 x169001_3.length co45 : Value).ownBlock ∧ k_ ≠ gb156 ∧ k_ ≠ gb166 ∧ k_ ≠ gb168)) (by (with_reducible repeat (first | apply Kd.N_alloc | apply Kd.N_drewN | apply Kd.N_drew)); exact HO_12.out) hg (.inl rfl)); have n1_ := Aside0.mk (Kd.R_after (v := (.slice (some ⟨go57, 0, none⟩) y183.length co57)) (v1 := (.slice (some ⟨go57, 0, none⟩) y183.length co57)) (ok := (fun _ => True)) (by (with_reducible repeat (first | apply Kd.R_alloc | apply Kd.R_drewN | apply Kd.R_drew)); exact HO_23.out) hg (.inl rfl)); have n2_ := Aside0.mk (Kd.N_afterv (v := (.slice (some ⟨go57, 0, none⟩) y183.length co57)) (v1 := (.slice (some ⟨go57, 0, none⟩) y183.length co57)) (ok := (fun k_ => some k_ ≠ (u12 : Value).ownBlock ∧ some k_ ≠ (v178 : Value).ownBlock ∧ some k_ ≠ (.slice Ao45 x169001_3.length co45 : Value).ownBlock ∧ k_ ≠ gb156 ∧ k_ ≠ gb166 ∧ k_ ≠ gb168)) (by (with_reducible repeat (first | apply Kd.N_alloc | apply Kd.N_drewN | apply Kd.N_drew)); exact HO_25.out) hg (.inl rfl)); have n3_ := Aside0.mk (Kd.R_over' (v := (.slice (some ⟨go57, 0, none⟩) y183.length co57)) (by (with_reducible repeat (first | apply Kd.R_alloc | apply Kd.R_drewN | apply Kd.R_drew)); exact HO_169001.out) (Kd.R_typed HO185.out) (by decide) hg); have n4_ := Aside0.mk (blk_grown (g := gb156) (o := .cells #[.int .i64 (wrap64 (Int.tmod a0 40)), .int .i64 (wrap64 ((wrap64 (a1)) + 1))] 41 (0, 0)) (by (with_reducible repeat (first | refine blk_drewN ?_ _ | refine blk_drew ?_ | refine blk_alloc ?_ _)); exact BK156.out) hg (Kd.R_ne HO185.out BK156.out (by decide))); have n5_ := Aside0.mk (blk_grown (g := gb166) (o := .cells #[.int .i64 x167000_2, .int .i64 x167001_2] 41 (0, 0)) (by (with_reducible repeat (first | refine blk_drewN ?_ _ | refine blk_drew ?_ | refine blk_alloc ?_ _)); exact BK166.out) hg (Kd.R_ne HO185.out BK166.out (by decide))); have n6_ := Aside0.mk (blk_grown (g := gb168) (o := .cells #[.int .i64 (wrap64 ((wrap64 ((wrap64 (a1)) + 1)) + x17_2)), .slice Ao45 x169001_3.length co45] 24 (0, 0)) (by (with_reducible repeat (first | refine blk_drewN ?_ _ | refine blk_drew ?_ | refine blk_alloc ?_ _)); exact BK168.out) hg (Kd.R_ne HO185.out BK168.out (by decide))); have n7_ := Aside0.mk (hp_); have n8_ := Aside0.mk ((by rw [hw]; exact below_set (HB.out) GB57.out : Below w.heap.size w w64)); clear HO_12; clear HO_23; clear HO_25; clear HO_169001; clear BK156; clear BK166; clear BK168; clear HO185; clear HB; have HO_12 := n0_; have HO_23 := n1_; have HO_25 := n2_; have HO_169001 := n3_; have BK156 := n4_; have BK166 := n5_; have BK168 := n6_; have HO185 := n7_; have HB := n8_; clear n0_ n1_ n2_ n3_ n4_ n5_ n6_ n7_ n8_; clear hg hw hp_; have p59 : 0 ≤ (1 : Int) := (by omega); have q59 : (1 : Int) < ((y183.length : Int) : Int) := of_decide_eq_true (by first | (with_reducible assumption) | assumption); have qi59 : (1 < y183.length) = True := eq_true (by omega); obtain ⟨hx59_0, hf59_0⟩ := Kd.R_celln 0 HO185.out (1 : Int) p59 q59; (try rw [show ((1 : Int)).toNat = 1 from rfl] at hx59_0); (try simp only [Nat.reduceMul, Nat.zero_mul, Nat.zero_add, Nat.reduceAdd] at hx59_0); (try rw [show ((1 : Int)).toNat = 1 from rfl] at hf59_0); (try simp only [Nat.reduceMul, Nat.zero_mul, Nat.zero_add, Nat.reduceAdd] at hf59_0); replace p59 := eq_true p59; replace q59 := eq_true q59; obtain ⟨hy65_, hz65_⟩ := Kd.R_celln 0 HO185.out (1 : Int) (by omega) (of_decide_eq_true (by first | (with_reducible assumption) | assumption)); (try simp only [Int.reduceToNat, Int.toNat_zero, Int.toNat_ofNat, Nat.reduceMul, Nat.zero_mul, Nat.zero_add] at hy65_ hz65_); (try rw [show ((1 : Int)).toNat = 1 from rfl] at hy65_); (try rw [show ((1 : Int)).toNat = 1 from rfl] at hz65_); have HP65 := Kd.R_putg HO185.out (1 : Int) ((x17_2) % 256)) | ((with_reducible refine gate_store (t := 5) (p := 120) rfl ?_); refine store_event (t := 5) (p := 120) (v := ?vo_w66) (w1 := (w64.setCell ⟨go57, (1 : Int).toNat, none⟩ (.int .u8 ((x17_2) % 256)))) ?hg ?ho ?hn ?hr ?_; (case ho => rfl); (case hg => rfl); (case hn => rfl); (case hr => first | (go_simp; done) | (go_simp; rfl)); intro w66 hw; have hg : w64.grownBy w66 (some go57) := (by rw [hw]; exact HP65.2); have hp_ : Kd.R (Kd.int .u8) 5 w66 w.heap.size (fun k_ => some k_ ≠ (v178 : Value).ownBlock) (.slice (some ⟨go57, 0, none⟩) y183.length co57) y187 := (by rw [hw, Ny187.out]; exact HP65.1); clear HP65; have n0_ := Aside0.mk (Kd.N_afterv (v := (.slice (some ⟨go57, 0, none⟩) y183.length co57)) (v1 := (.slice (some ⟨go57, 0, none⟩) y183.length co57)) (ok := (fun k_ => some k_ ≠ (v178 : Value).ownBlock ∧ some k_ ≠ (u25 : Value).ownBlock ∧ some k_ ≠ (.slice Ao45 x169001_3.length co45 : Value).ownBlock ∧ k_ ≠ gb156 ∧ k_ ≠ gb166 ∧ k_ ≠ gb168)) (by (with_reducible repeat (first | apply Kd.N_alloc | apply Kd.N_drewN | apply Kd.N_drew)); exact HO_12.out) hg (.inl rfl)); have n1_ := Aside0.mk (Kd.R_after (v := (.slice (some ⟨go57, 0, none⟩) y183.length co57)) (v1 := (.slice (some ⟨go57, 0, none⟩) y183.length co57)) (ok := (fun _ => True)) (by (with_reducible repeat (first | apply Kd.R_alloc | apply Kd.R_drewN | apply Kd.R_drew)); exact HO_23.out) hg (.inl rfl)); have n2_ := Aside0.mk (Kd.N_afterv (v := (.slice (some ⟨go57, 0, none⟩) y183.length co57)) (v1 := (.slice (some ⟨go57, 0, none⟩) y183.length co57)) (ok := (fun k_ => some k_ ≠ (u12 : Value).ownBlock ∧ some k_ ≠ (v178 : Value).ownBlock ∧ some k_ ≠ (.slice Ao45 x169001_3.length co45 : Value).ownBlock ∧ k_ ≠ gb156 ∧ k_ ≠ gb166 ∧ k_ ≠ gb168)) (by (with_reducible repeat (first | apply Kd.N_alloc | apply Kd.N_drewN | apply Kd.N_drew)); exact HO_25.out) hg (.inl rfl)); have n3_ := Aside0.mk (Kd.R_over' (v := (.slice (some ⟨go57, 0, none⟩) y183.length co57)) (by (with_reducible repeat (first | apply Kd.R_alloc | apply Kd.R_drewN | apply Kd.R_drew)); exact HO_169001.out) (Kd.R_typed HO185.out) (by decide) hg); have n4_ := Aside0.mk (blk_grown (g := gb156) (o := .cells #[.int .i64 (wrap64 (Int.tmod a0 40)), .int .i64 (wrap64 ((wrap64 (a1)) + 1))] 41 (0, 0)) (by (with_reducible repeat (first | refine blk_drewN ?_ _ | refine blk_drew ?_ | refine blk_alloc ?_ _)); exact BK156.out) hg (Kd.R_ne HO185.out BK156.out (by decide))); have n5_ := Aside0.mk (blk_grown (g := gb166) (o := .cells #[.int .i64 x167000_2, .int .i64 x167001_2] 41 (0, 0)) (by (with_reducible repeat (first | refine blk_drewN ?_ _ | refine blk_drew ?_ | refine blk_alloc ?_ _)); exact BK166.out) hg (Kd.R_ne HO185.out BK166.out (by decide))); have n6_ := Aside0.mk (blk_grown (g := gb168) (o := .cells #[.int .i64 (wrap64 ((wrap64 ((wrap64 (a1)) + 1)) + x17_2)), .slice Ao45 x169001_3.length co45] 24 (0, 0)) (by (with_reducible repeat (first | refine blk_drewN ?_ _ | refine blk_drew ?_ | refine blk_alloc ?_ _)); exact BK168.out) hg (Kd.R_ne HO185.out BK168.out (by decide))); have n7_ := Aside0.mk (hp_); have n8_ := Aside0.mk ((by rw [hw]; exact below_set (HB.out) GB57.out : Below w.heap.size w w66)); clear HO_12; clear HO_23; clear HO_25; clear HO_169001; clear BK156; clear BK166; clear BK168; clear HO185; clear HB; have HO_12 := n0_; have HO_23 := n1_; have HO_25 := n2_; have HO_169001 := n3_; have BK156 := n4_; have BK166 := n5_; have BK168 := n6_; have HO185 := n7_; have HB := n8_; clear n0_ n1_ n2_ n3_ n4_ n5_ n6_ n7_ n8_; clear hg hw hp_) | ((with_reducible refine gate_builtin (b := .append) (xs := #[.tmp 121, .tmp 123]) rfl ?_); (try (refine gate_guard (by rfl) ?_; dsimp only)); at_builtin; refine Kd.N_append (Kd.slice 5 (Kd.int .u8)) (w0 := w) w.heap.size rfl (.tmp 121) (.tmp 123) 39 25 (.slice none 0 0) 24 rfl Try.underlying39 info25 rfl (by decide) (by omega) u25 x25_5 y187 [.slice (some ⟨go57, 0, none⟩) y183.length co57] (fun k_ => some k_ ≠ (u12 : Value).ownBlock ∧ some k_ ≠ (v178 : Value).ownBlock ∧ some k_ ≠ (.slice Ao45 x169001_3.length co45 : Value).ownBlock ∧ k_ ≠ gb156 ∧ k_ ≠ gb166 ∧ k_ ≠ gb168) (fun k_ => ((fun k_ => some k_ ≠ (u12 : Value).ownBlock ∧ some k_ ≠ (v178 : Value).ownBlock ∧ some k_ ≠ (.slice Ao45 x169001_3.length co45 : Value).ownBlock ∧ k_ ≠ gb156 ∧ k_ ≠ gb166 ∧ k_ ≠ gb168)) k_ ∧ some k_ ≠ (u25 : Value).ownBlock) rfl rfl ?aP (fun _ hk => hk) ?aF ?aO ?aB ?aS ?aL ?_; (case aP => have hln_ : y183.length = y187.length := (congrArg List.length Ny187.out).trans (List.length_set.trans ((congrArg List.length Ny186.out).trans List.length_set)) |>.symm; have HOx_ := HO185.out; rw [hln_] at HOx_ ⊢; exact (Kd.FK_slice_mk (Kd.R_reads' (Kd.R_mono (ok' := (fun k_ => ((fun k_ => some k_ ≠ (u12 : Value).ownBlock ∧ some k_ ≠ (v178 : Value).ownBlock ∧ some k_ ≠ (.slice Ao45 x169001_3.length co45 : Value).ownBlock ∧ k_ ≠ gb156 ∧ k_ ≠ gb166 ∧ k_ ≠ gb168)) k_ ∧ some k_ ≠ (u25 : Value).ownBlock)) (Kd.R_types (Kd.R_types (Kd.R_types (Kd.R_apart' (Kd.R_apart' (Kd.R_apart' (HOx_) (Kd.N_typed HO_12.out) (by decide)) (Kd.R_typed HO_169001.out) (by decide)) (Kd.N_typed HO_25.out) (by decide)) BK156.out (by decide)) BK166.out (by decide)) BK168.out (by decide)) (fun k_ hk => ⟨⟨hk.1.1.1.1.1.2, ⟨hk.1.1.1.1.1.1, ⟨hk.1.1.1.1.2, ⟨hk.1.1.2, ⟨hk.1.2, hk.2⟩⟩⟩⟩⟩, hk.1.1.1.2⟩))).2.1 (Kd.R_F (Kd.R_mono (ok' := (fun k_ => ((fun k_ => some k_ ≠ (u12 : Value).ownBlock ∧ some k_ ≠ (v178 : Value).ownBlock ∧ some k_ ≠ (.slice Ao45 x169001_3.length co45 : Value).ownBlock ∧ k_ ≠ gb156 ∧ k_ ≠ gb166 ∧ k_ ≠ gb168)) k_ ∧ some k_ ≠ (u25 : Value).ownBlock)) (Kd.R_types (Kd.R_types (Kd.R_types (Kd.R_apart' (Kd.R_apart' (Kd.R_apart' (HOx_) (Kd.N_typed HO_12.out) (by decide)) (Kd.R_typed HO_169001.out) (by decide)) (Kd.N_typed HO_25.out) (by decide)) BK156.out (by decide)) BK166.out (by decide)) BK168.out (by decide)) (fun k_ hk => ⟨⟨hk.1.1.1.1.1.2, ⟨hk.1.1.1.1.1.1, ⟨hk.1.1.1.1.2, ⟨hk.1.1.2, ⟨hk.1.2, hk.2⟩⟩⟩⟩⟩, hk.1.1.1.2⟩))))); (case aB => exact (by repeat (first | (with_reducible first | exact HB.out | apply below_alloc | apply pw_below_drewN | apply below_drew1 | refine below_set ?_ GE156.out | refine below_set ?_ GE166.out | refine below_set ?_ GE168.out) | exact HB.out))); (case aF => exact (fun k_ hk => ⟨Kd.fresh' (Kd.N_lt (by (with_reducible repeat (first | apply Kd.N_alloc | apply Kd.N_drewN | apply Kd.N_drew)); exact HO_12.out)) k_ hk, Kd.fresh' (Kd.R_lt (by (with_reducible repeat (first | apply Kd.R_alloc | apply Kd.R_drewN | apply Kd.R_drew)); exact HO_23.out)) k_ hk, Kd.fresh' (Kd.R_lt (by (with_reducible repeat (first | apply Kd.R_alloc | apply Kd.R_drewN | apply Kd.R_drew)); exact HO_169001.out)) k_ hk, Kd.freshB (g := gb156) (o := .cells #[.int .i64 (wrap64 (Int.tmod a0 40)), .int .i64 (wrap64 ((wrap64 (a1)) + 1))] 41 (0, 0)) (by (with_reducible repeat (first | refine blk_drewN ?_ _ | refine blk_drew ?_ | refine blk_alloc ?_ _)); exact BK156.out) k_ hk, Kd.freshB (g := gb166) (o := .cells #[.int .i64 x167000_2, .int .i64 x167001_2] 41 (0, 0)) (by (with_reducible repeat (first | refine blk_drewN ?_ _ | refine blk_drew ?_ | refine blk_alloc ?_ _)); exact BK166.out) k_ hk, Kd.freshB (g := gb168) (o := .cells #[.int .i64 (wrap64 ((wrap64 ((wrap64 (a1)) + 1)) + x17_2)), .slice Ao45 x169001_3.length co45] 24 (0, 0)) (by (with_reducible repeat (first | refine blk_drewN ?_ _ | refine blk_drew ?_ | refine blk_alloc ?_ _)); exact BK168.out) k_ hk⟩)); (case aO => exact (by (with_reducible repeat (first | apply Kd.N_alloc | apply Kd.N_drewN | apply Kd.N_drew)); exact Kd.N_mono HO_25.out (fun _ hk => ⟨hk.1.1, ⟨hk.1.2.1, ⟨hk.1.2.2.1, ⟨hk.1.2.2.2.1, ⟨hk.1.2.2.2.2.1, hk.1.2.2.2.2.2⟩⟩⟩⟩⟩))); (case aS => exact (below_size (by repeat (first | (with_reducible first | exact HB.out | apply below_alloc | apply pw_below_drewN | apply below_drew1 | refine below_set ?_ GE156.out | refine below_set ?_ GE166.out | refine below_set ?_ GE168.out) | exact HB.out)))); (case aL => have hL_ := LMc60.out; first | omega | exact Nat.le_of_lt hL_); intro v189 w67 ho hb hg hat; rw [← Ny188.out] at ho; have n0_ := Aside0.mk (Kd.N_afterv (ok := (fun k_ => some k_ ≠ (v178 : Value).ownBlock ∧ some k_ ≠ (.slice Ao45 x169001_3.length co45 : Value).ownBlock ∧ some k_ ≠ (.slice (some ⟨go57, 0, none⟩) y183.length co57 : Value).ownBlock ∧ k_ ≠ gb156 ∧ k_ ≠ gb166 ∧ k_ ≠ gb168)) (by (with_reducible repeat (first | apply Kd.N_alloc | apply Kd.N_drewN | apply Kd.N_drew)); exact Kd.N_mono HO_12.out (fun _ hk => ⟨⟨hk.1.1, ⟨hk.1.2.2.1, ⟨hk.2, ⟨hk.1.2.2.2.1, ⟨hk.1.2.2.2.2.1, hk.1.2.2.2.2.2⟩⟩⟩⟩⟩, hk.1.2.1⟩)) hg hat); have n1_ := Aside0.mk (Kd.R_over' (by (with_reducible repeat (first | apply Kd.R_alloc | apply Kd.R_drewN | apply Kd.R_drew)); exact HO_23.out) (Kd.N_typed (by (with_reducible repeat (first | apply Kd.N_alloc | apply Kd.N_drewN | apply Kd.N_drew)); exact HO_25.out)) (by decide) hg); have n2_ := Aside0.mk (Kd.R_over' (by (with_reducible repeat (first | apply Kd.R_alloc | apply Kd.R_drewN | apply Kd.R_drew)); exact HO_169001.out) (Kd.N_typed (by (with_reducible repeat (first | apply Kd.N_alloc | apply Kd.N_drewN | apply Kd.N_drew)); exact HO_25.out)) (by decide) hg); have n3_ := Aside0.mk (blk_grown (g := gb156) (o := .cells #[.int .i64 (wrap64 (Int.tmod a0 40)), .int .i64 (wrap64 ((wrap64 (a1)) + 1))] 41 (0, 0)) (by (with_reducible repeat (first | refine blk_drewN ?_ _ | refine blk_drew ?_ | refine blk_alloc ?_ _)); exact BK156.out) hg (Kd.N_ne HO_25.out BK156.out (by decide))); have n4_ := Aside0.mk (blk_grown (g := gb166) (o := .cells #[.int .i64 x167000_2, .int .i64 x167001_2] 41 (0, 0)) (by (with_reducible repeat (first | refine blk_drewN ?_ _ | refine blk_drew ?_ | refine blk_alloc ?_ _)); exact BK166.out) hg (Kd.N_ne HO_25.out BK166.out (by decide))); have n5_ := Aside0.mk (blk_grown (g := gb168) (o := .cells #[.int .i64 (wrap64 ((wrap64 ((wrap64 (a1)) + 1)) + x17_2)), .slice Ao45 x169001_3.length co45] 24 (0, 0)) (by (with_reducible repeat (first | refine blk_drewN ?_ _ | refine blk_drew ?_ | refine blk_alloc ?_ _)); exact BK168.out) hg (Kd.N_ne HO_25.out BK168.out (by decide))); have n6_ := Aside0.mk (hb); have n7_ := Aside0.mk (ho); clear HO_12; clear HO_23; clear HO_169001; clear BK156; clear BK166; clear BK168; clear HB; clear HO_25; clear HO185; have HO_12 := n0_; have HO_23 := n1_; have HO_169001 := n2_; have BK156 := n3_; have BK166 := n4_; have BK168 := n5_; have HB := n6_; have HO190 := n7_; clear n0_ n1_ n2_ n3_ n4_ n5_ n6_ n7_; clear ho hb hg hat))
                       go_roundg k5
                       case measure => have := HK1.out; have := HK2.out; have := HK3.out; have := HJ40.out; have := HK5.out; omega
                       case rel => exact ⟨(x23_5), (y188), (wrap64 (x26_5 + 1)), (by first | rfl | (simp; done) | (simp [*]; done)), H', ⟨by have := HK1.out; have := HK2.out; have := HK3.out; have := HJ40.out; have := HK5.out; omega⟩, ⟨by (with_reducible repeat (first | apply Kd.N_alloc | apply Kd.N_drewN | apply Kd.N_drew)); exact Kd.N_mono HO_12.out (fun _ hk => ⟨hk.1.1, ⟨hk.2, ⟨hk.1.2.1, ⟨hk.1.2.2.2.1, ⟨hk.1.2.2.2.2.1, hk.1.2.2.2.2.2⟩⟩⟩⟩⟩)⟩, ⟨by (with_reducible repeat (first | apply Kd.R_alloc | apply Kd.R_drewN | apply Kd.R_drew)); exact Kd.R_mono HO_23.out (fun _ hk => trivial)⟩, ⟨by (with_reducible repeat (first | apply Kd.N_alloc | apply Kd.N_drewN | apply Kd.N_drew)); exact HO190.out⟩, ⟨by (with_reducible repeat (first | apply Kd.R_alloc | apply Kd.R_drewN | apply Kd.R_drew)); exact HO_169001.out⟩, ⟨by (with_reducible repeat (first | refine blk_drewN ?_ _ | refine blk_drew ?_ | refine blk_alloc ?_ _)); exact BK156.out⟩, ⟨by (with_reducible repeat (first | refine blk_drewN ?_ _ | refine blk_drew ?_ | refine blk_alloc ?_ _)); exact BK166.out⟩, ⟨by (with_reducible repeat (first | refine blk_drewN ?_ _ | refine blk_drew ?_ | refine blk_alloc ?_ _)); exact BK168.out⟩, ⟨by repeat (first | (with_reducible first | exact HB.out | apply below_alloc | apply pw_below_drewN | apply below_drew1 | refine below_set ?_ GE156.out | refine below_set ?_ GE166.out | refine below_set ?_ GE168.out) | exact HB.out)⟩⟩
                      ·rw [if_neg c60] at H
                       exact absurd H (by simp)
                     ·rw [if_neg c58] at H
                      exact absurd H (by simp)
                    ·rw [if_neg c56] at H
                     exact absurd H (by simp)
                   ·rw [if_neg c55] at H
                    exact absurd H (by simp)
                  ·rw [if_neg c54] at H
                   have c54b0 : decide (x26_5 < (wrap64 ((wrap64 (Int.tmod (rd l2 x17_2) 5)) + 1))) = false := decide_eq_false c54
                   clear c54
                   by_cases c68 : x25_5.length < 5864062014805
                   ·rw [if_pos c68] at H
                    have LMc68 := Aside0.mk c68
                    clear c68
                    obtain ⟨y191, hy191⟩ : ∃ y_ : List (List Int), y_ = (x25_5 ++ [x23_5]) := ⟨_, rfl⟩
                    replace H : (drydocklaw15_LogWhole.l4 k5 l2 a3 a4 x12_2 x14_2 x15_2 x17_2 y191 0 (wrap64 (Int.tmod a0 40)) (wrap64 ((wrap64 (a1)) + 1)) x167000_2 x167001_2 (wrap64 ((wrap64 ((wrap64 (a1)) + 1)) + x17_2)) x169001_3) = some r := by first | (rw [hy191]; with_reducible exact H) | (have H2_ := (Option.bind_some _ _).symm.trans H; rw [hy191]; with_reducible exact H2_) | (have H2_ := (Option.bind_some _ _).symm.trans H; with_reducible exact H2_) | with_reducible exact H | (rw [hy191]; exact H) | exact H
                    have Ny191 := Aside0.mk hy191
                    clear hy191
                    have H' := Aside0.mk H
                    clear H
                    obtain ⟨Ao70, co70, eo70⟩ := Kd.R_slice HO_23.out
                    subst eo70
                    go_wp2_with (first | ((with_reducible refine gate_builtin (b := .append) (xs := #[.tmp 125, .tmp 127]) rfl ?_); (try (refine gate_guard (by rfl) ?_; dsimp only)); at_builtin; refine Kd.N_append (Kd.slice 5 (Kd.int .u8)) (w0 := w) w.heap.size rfl (.tmp 125) (.tmp 127) 39 25 (.slice none 0 0) 24 rfl Try.underlying39 info25 rfl (by decide) (by omega) u25 x25_5 x23_5 [.slice Ao70 x23_5.length co70] (fun k_ => some k_ ≠ (u12 : Value).ownBlock ∧ some k_ ≠ (.slice Ao45 x169001_3.length co45 : Value).ownBlock ∧ k_ ≠ gb156 ∧ k_ ≠ gb166 ∧ k_ ≠ gb168) (fun k_ => ((fun k_ => some k_ ≠ (u12 : Value).ownBlock ∧ some k_ ≠ (.slice Ao45 x169001_3.length co45 : Value).ownBlock ∧ k_ ≠ gb156 ∧ k_ ≠ gb166 ∧ k_ ≠ gb168)) k_ ∧ some k_ ≠ (u25 : Value).ownBlock) rfl rfl ?aP (fun _ hk => hk) ?aF ?aO ?aB ?aS ?aL ?_; (case aP => exact (Kd.FK_slice_mk (Kd.R_reads' (Kd.R_mono (ok' := (fun k_ => ((fun k_ => some k_ ≠ (u12 : Value).ownBlock ∧ some k_ ≠ (.slice Ao45 x169001_3.length co45 : Value).ownBlock ∧ k_ ≠ gb156 ∧ k_ ≠ gb166 ∧ k_ ≠ gb168)) k_ ∧ some k_ ≠ (u25 : Value).ownBlock)) (Kd.R_types (Kd.R_types (Kd.R_types (Kd.R_apart' (Kd.R_apart' (Kd.R_apart' (HO_23.out) (Kd.N_typed HO_12.out) (by decide)) (Kd.R_typed HO_169001.out) (by decide)) (Kd.N_typed HO_25.out) (by decide)) BK156.out (by decide)) BK166.out (by decide)) BK168.out (by decide)) (fun k_ hk => ⟨⟨hk.1.1.1.1.1.2, ⟨hk.1.1.1.1.2, ⟨hk.1.1.2, ⟨hk.1.2, hk.2⟩⟩⟩⟩, hk.1.1.1.2⟩))).2.1 (Kd.R_F (Kd.R_mono (ok' := (fun k_ => ((fun k_ => some k_ ≠ (u12 : Value).ownBlock ∧ some k_ ≠ (.slice Ao45 x169001_3.length co45 : Value).ownBlock ∧ k_ ≠ gb156 ∧ k_ ≠ gb166 ∧ k_ ≠ gb168)) k_ ∧ some k_ ≠ (u25 : Value).ownBlock)) (Kd.R_types (Kd.R_types (Kd.R_types (Kd.R_apart' (Kd.R_apart' (Kd.R_apart' (HO_23.out) (Kd.N_typed HO_12.out) (by decide)) (Kd.R_typed HO_169001.out) (by decide)) (Kd.N_typed HO_25.out) (by decide)) BK156.out (by decide)) BK166.out (by decide)) BK168.out (by decide)) (fun k_ hk => ⟨⟨hk.1.1.1.1.1.2, ⟨hk.1.1.1.1.2, ⟨hk.1.1.2, ⟨hk.1.2, hk.2⟩⟩⟩⟩, hk.1.1.1.2⟩))))); (case aB => exact (by repeat (first | (with_reducible first | exact HB.out | apply below_alloc | apply pw_below_drewN | apply below_drew1 | refine below_set ?_ GE156.out | refine below_set ?_ GE166.out | refine below_set ?_ GE168.out) | exact HB.out))); (case aF => exact (fun k_ hk => ⟨Kd.fresh' (Kd.N_lt (by (with_reducible repeat (first | apply Kd.N_alloc | apply Kd.N_drewN | apply Kd.N_drew)); exact HO_12.out)) k_ hk, Kd.fresh' (Kd.R_lt (by (with_reducible repeat (first | apply Kd.R_alloc | apply Kd.R_drewN | apply Kd.R_drew)); exact HO_169001.out)) k_ hk, Kd.freshB (g := gb156) (o := .cells #[.int .i64 (wrap64 (Int.tmod a0 40)), .int .i64 (wrap64 ((wrap64 (a1)) + 1))] 41 (0, 0)) (by (with_reducible repeat (first | refine blk_drewN ?_ _ | refine blk_drew ?_ | refine blk_alloc ?_ _)); exact BK156.out) k_ hk, Kd.freshB (g := gb166) (o := .cells #[.int .i64 x167000_2, .int .i64 x167001_2] 41 (0, 0)) (by (with_reducible repeat (first | refine blk_drewN ?_ _ | refine blk_drew ?_ | refine blk_alloc ?_ _)); exact BK166.out) k_ hk, Kd.freshB (g := gb168) (o := .cells #[.int .i64 (wrap64 ((wrap64 ((wrap64 (a1)) + 1)) + x17_2)), .slice Ao45 x169001_3.length co45] 24 (0, 0)) (by (with_reducible repeat (first | refine blk_drewN ?_ _ | refine blk_drew ?_ | refine blk_alloc ?_ _)); exact BK168.out) k_ hk⟩)); (case aO => exact (by (with_reducible repeat (first | apply Kd.N_alloc | apply Kd.N_drewN | apply Kd.N_drew)); exact Kd.N_mono HO_25.out (fun _ hk => ⟨hk.1, ⟨hk.2.2.1, ⟨hk.2.2.2.1, ⟨hk.2.2.2.2.1, hk.2.2.2.2.2⟩⟩⟩⟩))); (case aS => exact (below_size (by repeat (first | (with_reducible first | exact HB.out | apply below_alloc | apply pw_below_drewN | apply below_drew1 | refine below_set ?_ GE156.out | refine below_set ?_ GE166.out | refine below_set ?_ GE168.out) | exact HB.out)))); (case aL => have hL_ := LMc68.out; first | omega | exact Nat.le_of_lt hL_); intro v192 w69 ho hb hg hat; rw [← Ny191.out] at ho; have n0_ := Aside0.mk (Kd.N_afterv (ok := (fun k_ => some k_ ≠ (.slice Ao70 x23_5.length co70 : Value).ownBlock ∧ some k_ ≠ (.slice Ao45 x169001_3.length co45 : Value).ownBlock ∧ k_ ≠ gb156 ∧ k_ ≠ gb166 ∧ k_ ≠ gb168)) (by (with_reducible repeat (first | apply Kd.N_alloc | apply Kd.N_drewN | apply Kd.N_drew)); exact Kd.N_mono HO_12.out (fun _ hk => ⟨⟨hk.1, ⟨hk.2.2.1, ⟨hk.2.2.2.1, ⟨hk.2.2.2.2.1, hk.2.2.2.2.2⟩⟩⟩⟩, hk.2.1⟩)) hg hat); have n1_ := Aside0.mk (Kd.R_over' (by (with_reducible repeat (first | apply Kd.R_alloc | apply Kd.R_drewN | apply Kd.R_drew)); exact HO_169001.out) (Kd.N_typed (by (with_reducible repeat (first | apply Kd.N_alloc | apply Kd.N_drewN | apply Kd.N_drew)); exact HO_25.out)) (by decide) hg); have n2_ := Aside0.mk (blk_grown (g := gb156) (o := .cells #[.int .i64 (wrap64 (Int.tmod a0 40)), .int .i64 (wrap64 ((wrap64 (a1)) + 1))] 41 (0, 0)) (by (with_reducible repeat (first | refine blk_drewN ?_ _ | refine blk_drew ?_ | refine blk_alloc ?_ _)); exact BK156.out) hg (Kd.N_ne HO_25.out BK156.out (by decide))); have n3_ := Aside0.mk (blk_grown (g := gb166) (o := .cells #[.int .i64 x167000_2, .int .i64 x167001_2] 41 (0, 0)) (by (with_reducible repeat (first | refine blk_drewN ?_ _ | refine blk_drew ?_ | refine blk_alloc ?_ _)); exact BK166.out) hg (Kd.N_ne HO_25.out BK166.out (by decide))); have n4_ := Aside0.mk (blk_grown (g := gb168) (o := .cells #[.int .i64 (wrap64 ((wrap64 ((wrap64 (a1)) + 1)) + x17_2)), .slice Ao45 x169001_3.length co45] 24 (0, 0)) (by (with_reducible repeat (first | refine blk_drewN ?_ _ | refine blk_drew ?_ | refine blk_alloc ?_ _)); exact BK168.out) hg (Kd.N_ne HO_25.out BK168.out (by decide))); have n5_ := Aside0.mk (hb); have n6_ := Aside0.mk (ho); clear HO_12; clear HO_169001; clear BK156; clear BK166; clear BK168; clear HB; clear HO_25; clear HO_23; have HO_12 := n0_; have HO_169001 := n1_; have BK156 := n2_; have BK166 := n3_; have BK168 := n4_; have HB := n5_; have HO193 := n6_; clear n0_ n1_ n2_ n3_ n4_ n5_ n6_; clear ho hb hg hat))
                    go_loopg [14, 28] k5 (fun kq v14 v28 w' => ∃ (x12_6 : List (List Int)) (x14_6 : Int) (x28_6 : Int), v14 = .int .i64 x14_6 ∧ v28 = .int .i64 x28_6 ∧ Aside0 (drydocklaw15_LogWhole.l4 kq l2 a3 a4 x12_6 x14_6 x15_2 x17_2 y191 x28_6 (wrap64 (Int.tmod a0 40)) (wrap64 ((wrap64 (a1)) + 1)) x167000_2 x167001_2 (wrap64 ((wrap64 ((wrap64 (a1)) + 1)) + x17_2)) x169001_3 = some r) ∧ Aside0 (kq ≤ k5) ∧ Aside0 (Kd.N (Kd.slice 5 (Kd.int .u8)) 25 w' w.heap.size (fun k_ => some k_ ≠ (v192 : Value).ownBlock ∧ some k_ ≠ ((.slice Ao45 x169001_3.length co45) : Value).ownBlock ∧ k_ ≠ gb156 ∧ k_ ≠ gb166 ∧ k_ ≠ gb168) u12 x12_6) ∧ Aside0 (Kd.N (Kd.slice 5 (Kd.int .u8)) 25 w' w.heap.size (fun k_ => some k_ ≠ (u12 : Value).ownBlock ∧ some k_ ≠ ((.slice Ao45 x169001_3.length co45) : Value).ownBlock ∧ k_ ≠ gb156 ∧ k_ ≠ gb166 ∧ k_ ≠ gb168) v192 y191) ∧ Aside0 (Kd.R (Kd.int .i64) 3 w' w.heap.size (fun _ => True) (.slice Ao45 x169001_3.length co45) x169001_3) ∧ Aside0 (w'.heap[gb156]? = some (.cells #[.int .i64 (wrap64 (Int.tmod a0 40)), .int .i64 (wrap64 ((wrap64 (a1)) + 1))] 41 (0, 0))) ∧ Aside0 (w'.heap[gb166]? = some (.cells #[.int .i64 x167000_2, .int .i64 x167001_2] 41 (0, 0))) ∧ Aside0 (w'.heap[gb168]? = some (.cells #[.int .i64 (wrap64 ((wrap64 ((wrap64 (a1)) + 1)) + x17_2)), (.slice Ao45 x169001_3.length co45)] 24 (0, 0))) ∧ Aside0 (Below w.heap.size w w'))
                    case atStart => exact ⟨(x12_2), (x14_2), (0), (by first | rfl | (simp; done) | (simp [*]; done)), (by first | rfl | (simp; done) | (simp [*]; done)), H', ⟨Nat.le_refl _⟩, ⟨by (with_reducible repeat (first | apply Kd.N_alloc | apply Kd.N_drewN | apply Kd.N_drew)); exact Kd.N_mono HO_12.out (fun _ hk => ⟨hk.2, ⟨hk.1.2.1, ⟨hk.1.2.2.1, ⟨hk.1.2.2.2.1, hk.1.2.2.2.2⟩⟩⟩⟩)⟩, ⟨by (with_reducible repeat (first | apply Kd.N_alloc | apply Kd.N_drewN | apply Kd.N_drew)); exact HO193.out⟩, ⟨by (with_reducible repeat (first | apply Kd.R_alloc | apply Kd.R_drewN | apply Kd.R_drew)); exact HO_169001.out⟩, ⟨by (with_reducible repeat (first | refine blk_drewN ?_ _ | refine blk_drew ?_ | refine blk_alloc ?_ _)); exact BK156.out⟩, ⟨by (with_reducible repeat (first | refine blk_drewN ?_ _ | refine blk_drew ?_ | refine blk_alloc ?_ _)); exact BK166.out⟩, ⟨by (with_reducible repeat (first | refine blk_drewN ?_ _ | refine blk_drew ?_ | refine blk_alloc ?_ _)); exact BK168.out⟩, ⟨by repeat (first | (with_reducible first | exact HB.out | apply below_alloc | apply pw_below_drewN | apply below_drew1 | refine below_set ?_ GE156.out | refine below_set ?_ GE166.out | refine below_set ?_ GE168.out) | exact HB.out)⟩⟩
                    case round =>
                     clear H'
                     try clear c1
                     try clear p1
                     try clear q1
                     try clear hx1
                     try clear c2
                     try clear p2
                     try clear c3
                     try clear c4
                     try clear c5
                     try clear p5
                     try clear q5
                     try clear hx5
                     try clear qi5
                     try clear hf5
                     try clear c6
                     try clear p6
                     try clear c7
                     try clear c9
                     try clear c10
                     try clear c10b0
                     try clear c11
                     try clear c11b0
                     try clear c11b1
                     try clear c12
                     try clear c15
                     try clear p16
                     try clear q16
                     try clear hx16
                     try clear c20
                     try clear c22
                     try clear c22b0
                     try clear c23
                     try clear c23b0
                     try clear c24
                     try clear c24b0
                     try clear c25
                     try clear c28
                     try clear c29
                     try clear c31
                     try clear c31b0
                     try clear c32
                     try clear c33
                     try clear c34
                     try clear c42
                     try clear c43
                     try clear c49
                     try clear c49b0
                     try clear c49b1
                     try clear c50
                     try clear c54
                     try clear c54b0
                     try clear c55
                     try clear c55b0
                     try clear c55b1
                     try clear c56
                     try clear c56b0
                     try clear c56b1
                     try clear p57
                     try clear q57
                     try clear hx57
                     try clear qi57
                     try clear hf57
                     try clear c58
                     try clear c58b0
                     try clear c58b1
                     try clear p59
                     try clear q59
                     try clear hx59
                     try clear qi59
                     try clear hf59
                     try clear c60
                     try clear p64
                     try clear c68
                     try clear hcz18_0
                     try clear hcz18_1
                     try clear hcz21_0
                     try clear hcz21_1
                     try clear hcz26_0
                     try clear hcz26_1
                     try clear hcz30_0
                     try clear hcz30_1
                     try clear hcz35_0
                     try clear hcz35_1
                     try clear hcz38_0
                     try clear hcz38_1
                     try clear hcz44_0
                     try clear hcz44_1
                     try clear hcz47_0
                     try clear hcz47_1
                     try clear hcz7_0
                     try clear hcz7_1
                     try clear hfz18_0
                     try clear hfz18_1
                     try clear hfz21_0
                     try clear hfz21_1
                     try clear hfz26_0
                     try clear hfz26_1
                     try clear hfz30_0
                     try clear hfz30_1
                     try clear hfz35_0
                     try clear hfz35_1
                     try clear hfz38_0
                     try clear hfz38_1
                     try clear hfz44_0
                     try clear hfz44_1
                     try clear hfz47_0
                     try clear hfz47_1
                     try clear hfz7_0
                     try clear hfz7_1
                     try clear hx167_0
                     try clear hx57_0
                     try clear hx59_0
                     try clear p1
                     try clear p16
                     try clear p167
                     try clear p2
                     try clear p57
                     try clear p59
                     try clear p6
                     try clear q1
                     try clear q16
                     try clear q167
                     try clear q57
                     try clear q59
                     obtain ⟨x12_6, x14_6, x28_6, rfl, rfl, HA, HK6, HO_12, HO_25, HO_169001, BK156, BK166, BK168, HB⟩ := hrel
                     cases gk with
                     | zero => exact absurd HA.out (by simp [drydocklaw15_LogWhole.l4])
                     | succ k6 =>
                      have H := HA.out
                      clear HA
                      simp only [drydocklaw15_LogWhole.l4] at H
                      by_cases c71 : x28_6 < (y191.length : Int)
                      ·rw [if_pos c71] at H
                       have c71b0 : decide (x28_6 < (y191.length : Int)) = true := decide_eq_true c71
                       clear c71
                       by_cases c72 : x14_6 < (wrap64 (Int.tmod a3 41))
                       ·rw [if_pos c72] at H
                        have c72b0 : decide (x14_6 < (wrap64 (Int.tmod a3 41))) = true := decide_eq_true c72
                        clear c72
                        by_cases c73 : 0 ≤ x28_6
                        ·rw [if_pos c73] at H
                         have c73b0 : decide (0 ≤ x28_6) = true := decide_eq_true c73
                         clear c73
                         obtain ⟨ji74, hji74⟩ : ∃ j_ : Int, (Int.tmod (wrap64 ((wrap64 (Int.tmod a0 40)) + x14_6)) 40) = j_ := ⟨_, rfl⟩
                         replace H : (if 0 ≤ (ji74) then (if (ji74) < (x12_6.length : Int) then (drydocklaw15_LogWhole.l4 k6 l2 a3 a4 (x12_6.set ((ji74) : Int).toNat (rd_L2 y191 x28_6)) (wrap64 (x14_6 + 1)) x15_2 x17_2 y191 (wrap64 (x28_6 + 1)) (wrap64 (Int.tmod a0 40)) (wrap64 ((wrap64 (a1)) + 1)) x167000_2 x167001_2 (wrap64 ((wrap64 ((wrap64 (a1)) + 1)) + x17_2)) x169001_3) else (none)) else (none)) = some r := by first | (rw [hji74] at H; exact H) | (simp only [hji74] at H ⊢; exact H)
                         by_cases c75 : 0 ≤ (ji74)
                         ·rw [if_pos c75] at H
                          have c75b0 : decide (0 ≤ (ji74)) = true := decide_eq_true c75
                          clear c75
                          by_cases c76 : (ji74) < (x12_6.length : Int)
                          ·rw [if_pos c76] at H
                           have c76b0 : decide ((ji74) < (x12_6.length : Int)) = true := decide_eq_true c76
                           clear c76
                           obtain ⟨y195, hy195⟩ : ∃ y_ : List (List Int), y_ = (x12_6.set ((ji74) : Int).toNat (rd_L2 y191 x28_6)) := ⟨_, rfl⟩
                           replace H : (drydocklaw15_LogWhole.l4 k6 l2 a3 a4 y195 (wrap64 (x14_6 + 1)) x15_2 x17_2 y191 (wrap64 (x28_6 + 1)) (wrap64 (Int.tmod a0 40)) (wrap64 ((wrap64 (a1)) + 1)) x167000_2 x167001_2 (wrap64 ((wrap64 ((wrap64 (a1)) + 1)) + x17_2)) x169001_3) = some r := by first | (rw [hy195]; with_reducible exact H) | (have H2_ := (Option.bind_some _ _).symm.trans H; rw [hy195]; with_reducible exact H2_) | (have H2_ := (Option.bind_some _ _).symm.trans H; with_reducible exact H2_) | with_reducible exact H | (rw [hy195]; exact H) | exact H
                           have Ny195 := Aside0.mk hy195
                           clear hy195
                           have H' := Aside0.mk H
                           clear H
                           obtain ⟨Ao78, co78, eo78⟩ := Kd.N_slice HO_25.out
                           subst eo78
                           try go_wp2
                           have n0_ := Aside0.mk (Kd.N_drew HO_12.out)
                           have n1_ := Aside0.mk (Kd.N_drew HO_25.out)
                           have n2_ := Aside0.mk (Kd.R_drew HO_169001.out)
                           have n3_ := Aside0.mk (blk_drew BK156.out)
                           have n4_ := Aside0.mk (blk_drew BK166.out)
                           have n5_ := Aside0.mk (blk_drew BK168.out)
                           have n6_ := Aside0.mk (below_drew1 HB.out)
                           clear HO_12
                           clear HO_25
                           clear HO_169001
                           clear BK156
                           clear BK166
                           clear BK168
                           clear HB
                           have HO_12 := n0_
                           have HO_25 := n1_
                           have HO_169001 := n2_
                           have BK156 := n3_
                           have BK166 := n4_
                           have BK168 := n5_
                           have HB := n6_
                           clear n0_ n1_ n2_ n3_ n4_ n5_ n6_
                           have p194 : 0 ≤ (x28_6 : Int) := of_decide_eq_true (by first | (with_reducible assumption) | assumption)
                           have q194 : x28_6 < (y191.length : Int) := of_decide_eq_true (by first | (with_reducible assumption) | assumption)
                           obtain ⟨ad194, A194_0, c194_0, e194, hx194_0, hl194_0, hi194_0⟩ := at_L2 (Kd.N_reads' HO_25.out).2.2 x28_6 p194 q194
                           cases e194
                           obtain ⟨ce194, hce194, hMe194, hcc194⟩ := Kd.N_get HO_25.out [] x28_6 p194 (by first | exact q194 | exact of_decide_eq_true (by first | (with_reducible assumption) | assumption) | (have e_ := (Kd.N_reads' HO_25.out).1; omega))
                           obtain ⟨ua194_0, uc194_0, rfl, ul194_0, ge194_0⟩ := Kd.FK_slice_open hMe194
                           have hv194_0 := hcc194 0 _ rfl
                           rw [Nat.add_zero, show ((Kd.slice 5 (Kd.int .u8))).sz = 1 from rfl, Nat.mul_one] at hv194_0
                           replace hv194_0 := Option.some.inj (hv194_0.symm.trans hx194_0)
                           injection hv194_0 with hva_ hvn_ hvc_
                           rw [hva_] at ge194_0
                           rw [hvc_] at ul194_0
                           have HL194_0 := Aside0.mk (show Kd.V (Kd.int .u8) 5 _ w.heap.size _ _ (rd_L2 y191 x28_6) from Kd.V_mk ul194_0 ge194_0)
                           clear hva_ hvn_ hvc_ ge194_0 ul194_0
                           clear hcc194 hce194
                           have HR194_0 := Aside0.mk hi194_0
                           have HC194_0 := Aside0.mk hl194_0
                           clear hi194_0 hl194_0
                           replace p194 := eq_true p194
                           replace q194 := eq_true q194
                           have p77 : 0 ≤ ((ji74) : Int) := of_decide_eq_true (by first | (with_reducible assumption) | assumption)
                           have q77 : ((ji74) : Int) < ((x12_6.length : Int) : Int) := of_decide_eq_true (by first | (with_reducible assumption) | assumption)
                           obtain ⟨go77, co77, eo77, gb77, gl77, cl77, HG77⟩ := Kd.N_form HO_12.out (by omega)
                           (first | cases eo77 | (injection eo77 with ea_ en_ ec_; (first | subst ea_ | (injection ea_ with ea_; subst ea_)); subst ec_; clear en_))
                           have GB77 := Aside0.mk gb77
                           have GG77 := Aside0.mk HG77
                           clear gb77 gl77 HG77
                           obtain ⟨ce77, hcl77, hM77, hcc77, hfr77⟩ := Kd.N_elem HO_12.out [] ((ji74) : Int) p77 q77
                           obtain ⟨ua77_0, uc77_0, rfl, ul77_0, ge77_0⟩ := Kd.FK_slice_open hM77
                           have hx77_0 := hcc77 0 _ rfl
                           have hf77_0 := hfr77 0
                           (try simp only [show ((Kd.slice 5 (Kd.int .u8))).sz = 1 from rfl, Nat.mul_one, Nat.add_zero] at hx77_0)
                           (try simp only [show ((Kd.slice 5 (Kd.int .u8))).sz = 1 from rfl, Nat.mul_one, Nat.add_zero] at hf77_0)
                           clear hcl77 hcc77 hfr77 hM77
                           replace p77 := eq_true p77
                           replace q77 := eq_true q77
                           have HX80 := Aside0.mk (show Kd.N (Kd.slice 5 (Kd.int .u8)) 25 _ w.heap.size (fun k_ => some k_ ≠ (.slice (some ad194) y191.length co78 : Value).ownBlock ∧ some k_ ≠ (.slice Ao45 x169001_3.length co45 : Value).ownBlock ∧ k_ ≠ gb156 ∧ k_ ≠ gb166 ∧ k_ ≠ gb168) (.slice (some ⟨go77, 0, none⟩) x12_6.length co77) x12_6 from (Kd.N_mono (HO_12.out) (fun k_ hk => ⟨hk.1, ⟨hk.2.1, ⟨hk.2.2.1, ⟨hk.2.2.2.1, hk.2.2.2.2⟩⟩⟩⟩)))
                           obtain ⟨ce80, hcl80, hM80, hcc80, hfr80⟩ := Kd.N_elem HX80.out [] ((ji74) : Int) (of_decide_eq_true (by first | (with_reducible assumption) | assumption)) (by have h_ : ((ji74) : Int) < ((x12_6.length : Int) : Int) := of_decide_eq_true (by first | (with_reducible assumption) | assumption); first | exact h_ | (have e_ := (Kd.N_reads' HO_12.out).1; omega) | simpa using h_)
                           obtain ⟨ua80_0, uc80_0, rfl, ul80_0, ge80_0⟩ := Kd.FK_slice_open hM80
                           have HP80 := (Kd.N_seg HX80.out ((ji74) : Int) (of_decide_eq_true (by first | (with_reducible assumption) | assumption)) (by have h_ : ((ji74) : Int) < ((x12_6.length : Int) : Int) := of_decide_eq_true (by first | (with_reducible assumption) | assumption); first | exact h_ | (have e_ := (Kd.N_reads' HO_12.out).1; omega) | simpa using h_) (seg := [.slice A194_0 (rd_L2 y191 x28_6).length c194_0]) (j := 0) hcl80 hcc80 (show 1 ≤ 1 from by decide) (x' := rd_L2 y191 x28_6) (Kd.FK_slice_mk (Kd.V_reads' (Kd.V_mono (ok' := (fun k_ => ((fun k_ => some k_ ≠ (.slice (some ad194) y191.length co78 : Value).ownBlock ∧ some k_ ≠ (.slice Ao45 x169001_3.length co45 : Value).ownBlock ∧ k_ ≠ gb156 ∧ k_ ≠ gb166 ∧ k_ ≠ gb168)) k_ ∧ k_ ≠ go77)) (HL194_0.out) (fun k_ hk => ⟨⟨hk.2, ⟨hk.1.2.1, ⟨hk.1.2.2.1, ⟨hk.1.2.2.2.1, hk.1.2.2.2.2⟩⟩⟩⟩, fun e_ => (hk.1.1) (by rw [e_]; rfl)⟩))).2.1 (Kd.V_F (Kd.V_mono (ok' := (fun k_ => ((fun k_ => some k_ ≠ (.slice (some ad194) y191.length co78 : Value).ownBlock ∧ some k_ ≠ (.slice Ao45 x169001_3.length co45 : Value).ownBlock ∧ k_ ≠ gb156 ∧ k_ ≠ gb166 ∧ k_ ≠ gb168)) k_ ∧ k_ ≠ go77)) (HL194_0.out) (fun k_ hk => ⟨⟨hk.2, ⟨hk.1.2.1, ⟨hk.1.2.2.1, ⟨hk.1.2.2.2.1, hk.1.2.2.2.2⟩⟩⟩⟩, fun e_ => (hk.1.1) (by rw [e_]; rfl)⟩)))) (fun _ hk => hk)).1
                           (try simp only [show ((Kd.slice 5 (Kd.int .u8))).sz = 1 from rfl, Nat.mul_one, Nat.add_zero] at HP80)
                           rw [← Ny195.out] at HP80
                           have HQ80 := Aside0.mk HP80
                           clear hcl80 hcc80 hfr80 hM80 HP80
                           refine start_ (n := 12) (S := fun w' => w'.cell? ⟨gb156, 0, none⟩ = some (.int .i64 (wrap64 (Int.tmod a0 40))) ∧ w'.cell? ⟨gb156, 1, none⟩ = some (.int .i64 (wrap64 ((wrap64 (a1)) + 1))) ∧ w'.cell? (ad194.add (x28_6).toNat) = some (.slice A194_0 (rd_L2 y191 x28_6).length c194_0)) (ds := [11]) #[false, false, false, false, false, false, false, false, false, false, false, false] (by kernel_rfl) rfl rfl ⟨(blk_cell BK156.out 0).trans rfl, (blk_cell BK156.out 1).trans rfl, hx194_0⟩ (fun hHeld => ?_); refine with_tabW drydocklaw15_LogWhole.tab37 drydocklaw15_LogWhole.bits37 (fun HT_ HW_ => ?_)
                           generalize wr.drew = w79 at HO_12 HO_25 HO_169001 BK156 BK166 BK168 HB GG77 HL194_0 HQ80 HR194_0 hf77_0 hx194_0 hx77_0 hHeld ⊢
                           refine pure_ (i := 0) (N := some 140) (v := ?_) (a' := ?_) #[true, false, false, false, false, false, false, false, false, false, false, false] rfl rfl (any_of HT_.out (by kernel_rfl)) (fun _ _ _ h => h) (Or.inl ⟨by rfl, ?_⟩) ?_ ?_
                           rotate_left
                           ·intro w'
                            go_simp
                            with_reducible rfl
                           rotate_left
                           ·simp only [Act.put, List.setIfInBounds_toArray, List.set_cons_zero, List.set_cons_succ, i64_w, i32_w]
                            rfl
                           refine pure_ (i := 1) (N := some 141) (v := ?_) (a' := ?_) #[true, true, false, false, false, false, false, false, false, false, false, false] rfl rfl (any_of HT_.out (by kernel_rfl)) (fun _ _ _ h => h) (Or.inl ⟨by rfl, ?_⟩) ?_ ?_
                           rotate_left
                           ·intro w'
                            go_simp
                            with_reducible rfl
                           rotate_left
                           ·simp only [Act.put, List.setIfInBounds_toArray, List.set_cons_zero, List.set_cons_succ, i64_w, i32_w]
                            rfl
                           refine pure_ (i := 3) (N := some 143) (v := ?_) (a' := ?_) #[true, true, false, true, false, false, false, false, false, false, false, false] rfl rfl (any_of HT_.out (by kernel_rfl)) (fun _ _ _ h => h) (Or.inl ⟨by rfl, ?_⟩) ?_ ?_
                           rotate_left
                           ·intro w'
                            go_simp
                            with_reducible rfl
                           rotate_left
                           ·simp only [Act.put, List.setIfInBounds_toArray, List.set_cons_zero, List.set_cons_succ, i64_w, i32_w]
                            rfl
                           refine pure_ (i := 6) (N := some 146) (v := ?_) (a' := ?_) #[true, true, false, true, false, false, true, false, false, false, false, false] rfl rfl (any_of HT_.out (by kernel_rfl)) (fun _ _ _ h => h) (Or.inl ⟨by rfl, ?_⟩) ?_ ?_
                           rotate_left
                           ·intro w'
                            go_simp
                            with_reducible rfl
                           rotate_left
                           ·simp only [Act.put, List.setIfInBounds_toArray, List.set_cons_zero, List.set_cons_succ, i64_w, i32_w]
                            rfl
                           refine pure_ (i := 7) (N := some 147) (v := ?_) (a' := ?_) #[true, true, false, true, false, false, true, true, false, false, false, false] rfl rfl (any_of HT_.out (by kernel_rfl)) (fun _ _ _ h => h) (Or.inl ⟨by rfl, ?_⟩) ?_ ?_
                           rotate_left
                           ·intro w'
                            go_simp
                            with_reducible rfl
                           rotate_left
                           ·simp only [Act.put, List.setIfInBounds_toArray, List.set_cons_zero, List.set_cons_succ, i64_w, i32_w]
                            rfl
                           refine pure_ (i := 8) (N := some 148) (v := ?_) (a' := ?_) #[true, true, false, true, false, false, true, true, true, false, false, false] rfl rfl (any_of HT_.out (by kernel_rfl)) (fun _ _ _ h => h) (Or.inl ⟨by rfl, ?_⟩) ?_ ?_
                           rotate_left
                           ·intro w'
                            go_simp
                            with_reducible rfl
                           rotate_left
                           ·simp only [Act.put, List.setIfInBounds_toArray, List.set_cons_zero, List.set_cons_succ, i64_w, i32_w]
                            rfl
                           refine take_ (i := 2) (N := some 142) (v := ?_) (a' := ?_) #[true, true, true, true, false, false, true, true, true, false, false, false] rfl rfl (take_ofW HT_.out HW_.out (by kernel_rfl)) (fun _ _ _ h => h) (Or.inl ⟨by rfl, ?_⟩) hHeld ?_ ?_
                           rotate_left
                           ·rintro w' ⟨s0, s1, s2⟩
                            go_simp
                            with_reducible rfl
                           rotate_left
                           ·simp only [Act.put, List.setIfInBounds_toArray, List.set_cons_zero, List.set_cons_succ, i64_w, i32_w]
                            rfl
                           refine pure_ (i := 4) (N := some 144) (v := ?_) (a' := ?_) #[true, true, true, true, true, false, true, true, true, false, false, false] rfl rfl (any_of HT_.out (by kernel_rfl)) (fun _ _ _ h => h) (Or.inl ⟨by rfl, ?_⟩) ?_ ?_
                           rotate_left
                           ·intro w'
                            go_simp
                            with_reducible rfl
                           rotate_left
                           ·simp only [Act.put, List.setIfInBounds_toArray, List.set_cons_zero, List.set_cons_succ, i64_w, i32_w]
                            rfl
                           refine pure_ (i := 5) (N := some 145) (v := ?_) (a' := ?_) #[true, true, true, true, true, true, true, true, true, false, false, false] rfl rfl (any_of HT_.out (by kernel_rfl)) (fun _ _ _ h => h) (Or.inl ⟨by rfl, ?_⟩) ?_ ?_
                           rotate_left
                           ·intro w'
                            go_simp
                            with_reducible rfl
                           rotate_left
                           ·simp only [Act.put, List.setIfInBounds_toArray, List.set_cons_zero, List.set_cons_succ, i64_w, i32_w]
                            rfl
                           refine take_ (i := 9) (N := some 149) (v := ?_) (a' := ?_) #[true, true, true, true, true, true, true, true, true, true, false, false] rfl rfl (take_ofW HT_.out HW_.out (by kernel_rfl)) (fun _ _ _ h => h) (Or.inl ⟨by rfl, ?_⟩) hHeld ?_ ?_
                           rotate_left
                           ·rintro w' ⟨s0, s1, s2⟩
                            go_simp
                            with_reducible rfl
                           rotate_left
                           ·simp only [Act.put, List.setIfInBounds_toArray, List.set_cons_zero, List.set_cons_succ, i64_w, i32_w]
                            rfl
                           refine pure_ (i := 10) (N := some 150) (v := ?_) (a' := ?_) #[true, true, true, true, true, true, true, true, true, true, true, false] rfl rfl (any_of HT_.out (by kernel_rfl)) (fun _ _ _ h => h) (Or.inl ⟨by rfl, ?_⟩) ?_ ?_
                           rotate_left
                           ·intro w'
                            go_simp
                            with_reducible rfl
                           rotate_left
                           ·simp only [Act.put, List.setIfInBounds_toArray, List.set_cons_zero, List.set_cons_succ, i64_w, i32_w]
                            rfl
                           refine last_ (i := 11) (N := none) #[true, true, true, true, true, true, true, true, true, true, true, true] rfl rfl (one_of HT_.out (by kernel_rfl)) (by decide) (fun K hK => ?_)
                           refine skip_ (w1 := ?_) (by rfl) rfl ?_ ?_
                           rotate_left
                           ·go_simp
                            rfl
                           refine hK.out _ _ ?_
                           clear hK K
                           refine done_ (done_of HT_.out (by kernel_rfl)) ?_
                           try go_wp2
                           go_roundg k6
                           case measure => have := HK1.out; have := HK2.out; have := HK3.out; have := HJ40.out; have := HK5.out; have := HK6.out; omega
                           case rel => exact ⟨(y195), (wrap64 (x14_6 + 1)), (wrap64 (x28_6 + 1)), (by first | rfl | (simp; done) | (simp [*]; done)), (by first | rfl | (simp; done) | (simp [*]; done)), H', ⟨by have := HK1.out; have := HK2.out; have := HK3.out; have := HJ40.out; have := HK5.out; have := HK6.out; omega⟩, ⟨by (with_reducible repeat (first | apply Kd.N_alloc | apply Kd.N_drewN | apply Kd.N_drew)); exact HQ80.out⟩, ⟨by (with_reducible repeat (first | apply Kd.N_alloc | apply Kd.N_drewN | apply Kd.N_drew)); exact Kd.N_mono (Kd.N_far (p := ⟨go77, ((ji74) : Int).toNat, none⟩) (Kd.N_mono HO_25.out (fun k_ hk => (⟨hk, fun e_ => hk.1 (by rw [e_]; rfl)⟩ : _ ∧ k_ ≠ go77))) (fun _ hk => hk.2) (.slice A194_0 (rd_L2 y191 x28_6).length c194_0)) (fun _ hk => ⟨hk.1.1, ⟨hk.1.2.1, ⟨hk.1.2.2.1, ⟨hk.1.2.2.2.1, hk.1.2.2.2.2⟩⟩⟩⟩)⟩, ⟨by (with_reducible repeat (first | apply Kd.R_alloc | apply Kd.R_drewN | apply Kd.R_drew)); exact Kd.R_mono (Kd.R_far (p := ⟨go77, ((ji74) : Int).toNat, none⟩) (Kd.R_types HO_169001.out GG77.out (by decide)) (fun _ hk => hk.2) (.slice A194_0 (rd_L2 y191 x28_6).length c194_0)) (fun _ hk => trivial)⟩, ⟨by (with_reducible repeat (first | refine blk_drewN ?_ _ | refine blk_drew ?_ | refine blk_alloc ?_ _)); refine blk_far ?_ (by have h_ := Kd.N_away HO_12.out (fun _ hk => hk.2.2.1); intro e_; exact h_ (by rw [e_]; rfl)) _; (with_reducible repeat (first | refine blk_drewN ?_ _ | refine blk_drew ?_ | refine blk_alloc ?_ _)); exact BK156.out⟩, ⟨by (with_reducible repeat (first | refine blk_drewN ?_ _ | refine blk_drew ?_ | refine blk_alloc ?_ _)); refine blk_far ?_ (by have h_ := Kd.N_away HO_12.out (fun _ hk => hk.2.2.2.1); intro e_; exact h_ (by rw [e_]; rfl)) _; (with_reducible repeat (first | refine blk_drewN ?_ _ | refine blk_drew ?_ | refine blk_alloc ?_ _)); exact BK166.out⟩, ⟨by (with_reducible repeat (first | refine blk_drewN ?_ _ | refine blk_drew ?_ | refine blk_alloc ?_ _)); refine blk_far ?_ (by have h_ := Kd.N_away HO_12.out (fun _ hk => hk.2.2.2.2); intro e_; exact h_ (by rw [e_]; rfl)) _; (with_reducible repeat (first | refine blk_drewN ?_ _ | refine blk_drew ?_ | refine blk_alloc ?_ _)); exact BK168.out⟩, ⟨by repeat (first | (with_reducible first | exact HB.out | apply below_alloc | apply pw_below_drewN | apply below_drew1 | refine below_set ?_ GB77.out | refine below_set ?_ GE156.out | refine below_set ?_ GE166.out | refine below_set ?_ GE168.out) | exact HB.out)⟩⟩
                          ·rw [if_neg c76] at H
                           exact absurd H (by simp)
                         ·rw [if_neg c75] at H
                          exact absurd H (by simp)
                        ·rw [if_neg c73] at H
                         exact absurd H (by simp)
                       ·rw [if_neg c72] at H
                        have c72b0 : decide (x14_6 < (wrap64 (Int.tmod a3 41))) = false := decide_eq_false c72
                        clear c72
                        have H' := Aside0.mk H
                        clear H
                        obtain ⟨Ao81, co81, eo81⟩ := Kd.N_slice HO_25.out
                        subst eo81
                        go_wp2
                        go_roundg k6
                        case measure => have := HK1.out; have := HK2.out; have := HK3.out; have := HJ40.out; have := HK5.out; have := HK6.out; omega
                        case rel => exact ⟨(x12_6), (wrap64 (x14_6 + 1)), (wrap64 (x28_6 + 1)), (by first | rfl | (simp; done) | (simp [*]; done)), (by first | rfl | (simp; done) | (simp [*]; done)), H', ⟨by have := HK1.out; have := HK2.out; have := HK3.out; have := HJ40.out; have := HK5.out; have := HK6.out; omega⟩, ⟨by (with_reducible repeat (first | apply Kd.N_alloc | apply Kd.N_drewN | apply Kd.N_drew)); exact HO_12.out⟩, ⟨by (with_reducible repeat (first | apply Kd.N_alloc | apply Kd.N_drewN | apply Kd.N_drew)); exact HO_25.out⟩, ⟨by (with_reducible repeat (first | apply Kd.R_alloc | apply Kd.R_drewN | apply Kd.R_drew)); exact HO_169001.out⟩, ⟨by (with_reducible repeat (first | refine blk_drewN ?_ _ | refine blk_drew ?_ | refine blk_alloc ?_ _)); exact BK156.out⟩, ⟨by (with_reducible repeat (first | refine blk_drewN ?_ _ | refine blk_drew ?_ | refine blk_alloc ?_ _)); exact BK166.out⟩, ⟨by (with_reducible repeat (first | refine blk_drewN ?_ _ | refine blk_drew ?_ | refine blk_alloc ?_ _)); exact BK168.out⟩, ⟨by repeat (first | (with_reducible first | exact HB.out | apply below_alloc | apply pw_below_drewN | apply below_drew1 | refine below_set ?_ GE156.out | refine below_set ?_ GE166.out | refine below_set ?_ GE168.out) | exact HB.out)⟩⟩
                      ·rw [if_neg c71] at H
                       have c71b0 : decide (x28_6 < (y191.length : Int)) = false := decide_eq_false c71
                       clear c71
                       by_cases c82 : x14_6 ≤ (wrap64 (Int.tmod a3 41))
                       ·rw [if_pos c82] at H
                        have c82b0 : decide (x14_6 ≤ (wrap64 (Int.tmod a3 41))) = true := decide_eq_true c82
                        clear c82
                        have H' := Aside0.mk H
                        clear H
                        obtain ⟨Ao83, co83, eo83⟩ := Kd.N_slice HO_25.out
                        subst eo83
                        have hnb84 := NB156_166.out
                        have hnc84 := NB166_156.out
                        have hnb85 := NB156_168.out
                        have hnc85 := NB168_156.out
                        have hcz86_0 : wr.cell? ⟨gb156, 0, none⟩ = some (.int .i64 (wrap64 (Int.tmod a0 40))) := (blk_cell BK156.out 0).trans rfl
                        have hcz86_1 : wr.cell? ⟨gb156, 1, none⟩ = some (.int .i64 (wrap64 ((wrap64 (a1)) + 1))) := (blk_cell BK156.out 1).trans rfl
                        have hfz86_0 := blk_frozen BK156.out 0
                        have hfz86_1 := blk_frozen BK156.out 1
                        have hnb87 := NB168_166.out
                        have hnc87 := NB166_168.out
                        have hcz88_0 : wr.cell? ⟨gb168, 0, none⟩ = some (.int .i64 (wrap64 ((wrap64 ((wrap64 (a1)) + 1)) + x17_2))) := (blk_cell BK168.out 0).trans rfl
                        have hcz88_1 : wr.cell? ⟨gb168, 1, none⟩ = some (.slice Ao45 x169001_3.length co45) := (blk_cell BK168.out 1).trans rfl
                        have hfz88_0 := blk_frozen BK168.out 0
                        have hfz88_1 := blk_frozen BK168.out 1
                        have hcz89_0 : wr.cell? ⟨gb166, 0, none⟩ = some (.int .i64 x167000_2) := (blk_cell BK166.out 0).trans rfl
                        have hcz89_1 : wr.cell? ⟨gb166, 1, none⟩ = some (.int .i64 x167001_2) := (blk_cell BK166.out 1).trans rfl
                        have hfz89_0 := blk_frozen BK166.out 0
                        have hfz89_1 := blk_frozen BK166.out 1
                        go_wp2
                        go_roundg k6
                        case measure => have := HK1.out; have := HK2.out; have := HK3.out; have := HJ40.out; have := HK5.out; have := HK6.out; omega
                        case rel => exact ⟨(x12_6), (x14_6), (wrap64 (x15_2 + 1)), (wrap64 (x17_2 + 1)), (Int.tmod (wrap64 ((wrap64 (Int.tmod a0 40)) + x14_6)) 40), (wrap64 ((wrap64 ((wrap64 ((wrap64 (a1)) + 1)) + x17_2)) + 1)), (by first | rfl | (simp; done) | (simp [*]; done)), (by first | rfl | (simp; done) | (simp [*]; done)), (by first | rfl | (simp; done) | (simp [*]; done)), H', ⟨by have := HK1.out; have := HK2.out; have := HK3.out; have := HJ40.out; have := HK5.out; have := HK6.out; omega⟩, ⟨by (with_reducible repeat (first | apply Kd.N_alloc | apply Kd.N_drewN | apply Kd.N_drew)); exact Kd.N_mono (Kd.N_far (p := ⟨gb166, 1, none⟩) (Kd.N_far (p := ⟨gb166, 0, none⟩) (Kd.N_mono HO_12.out (fun k_ hk => (⟨hk, hk.2.2.2.1⟩ : _ ∧ k_ ≠ gb166))) (fun _ hk => hk.2) (.int .i64 (Int.tmod (wrap64 ((wrap64 (Int.tmod a0 40)) + x14_6)) 40))) (fun _ hk => hk.2) (.int .i64 (wrap64 ((wrap64 ((wrap64 ((wrap64 (a1)) + 1)) + x17_2)) + 1)))) (fun _ hk => ⟨hk.1.2.2.1, hk.1.2.2.2.1⟩)⟩, ⟨by (with_reducible repeat (first | refine blk_drewN ?_ _ | refine blk_drew ?_ | refine blk_alloc ?_ _)); refine blk_far ?_ NB156_166.out _; (with_reducible repeat (first | refine blk_drewN ?_ _ | refine blk_drew ?_ | refine blk_alloc ?_ _)); refine blk_far ?_ NB156_166.out _; (with_reducible repeat (first | refine blk_drewN ?_ _ | refine blk_drew ?_ | refine blk_alloc ?_ _)); exact BK156.out⟩, ⟨by (with_reducible repeat (first | refine blk_drewN ?_ _ | refine blk_drew ?_ | refine blk_alloc ?_ _)); refine blk_put (cs := #[.int .i64 (Int.tmod (wrap64 ((wrap64 (Int.tmod a0 40)) + x14_6)) 40), .int .i64 x167001_2]) ?_ 1 _ rfl; (with_reducible repeat (first | refine blk_drewN ?_ _ | refine blk_drew ?_ | refine blk_alloc ?_ _)); refine blk_put (cs := #[.int .i64 x167000_2, .int .i64 x167001_2]) ?_ 0 _ rfl; (with_reducible repeat (first | refine blk_drewN ?_ _ | refine blk_drew ?_ | refine blk_alloc ?_ _)); exact BK166.out⟩, ⟨by repeat (first | (with_reducible first | exact HB.out | apply below_alloc | apply pw_below_drewN | apply below_drew1 | refine below_set ?_ GE156.out | refine below_set ?_ GE166.out | refine below_set ?_ GE168.out) | exact HB.out)⟩⟩
                       ·rw [if_neg c82] at H
                        have c82b0 : decide (x14_6 ≤ (wrap64 (Int.tmod a3 41))) = false := decide_eq_false c82
                        clear c82
                        have H' := Aside0.mk H
                        clear H
                        obtain ⟨Ao90, co90, eo90⟩ := Kd.N_slice HO_25.out
                        subst eo90
                        go_wp2
                        go_roundg k6
                        case measure => have := HK1.out; have := HK2.out; have := HK3.out; have := HJ40.out; have := HK5.out; have := HK6.out; omega
                        case rel => exact ⟨(x12_6), (x14_6), (x15_2), (wrap64 (x17_2 + 1)), (x167000_2), (x167001_2), (by first | rfl | (simp; done) | (simp [*]; done)), (by first | rfl | (simp; done) | (simp [*]; done)), (by first | rfl | (simp; done) | (simp [*]; done)), H', ⟨by have := HK1.out; have := HK2.out; have := HK3.out; have := HJ40.out; have := HK5.out; have := HK6.out; omega⟩, ⟨by (with_reducible repeat (first | apply Kd.N_alloc | apply Kd.N_drewN | apply Kd.N_drew)); exact Kd.N_mono HO_12.out (fun _ hk => ⟨hk.2.2.1, hk.2.2.2.1⟩)⟩, ⟨by (with_reducible repeat (first | refine blk_drewN ?_ _ | refine blk_drew ?_ | refine blk_alloc ?_ _)); exact BK156.out⟩, ⟨by (with_reducible repeat (first | refine blk_drewN ?_ _ | refine blk_drew ?_ | refine blk_alloc ?_ _)); exact BK166.out⟩, ⟨by repeat (first | (with_reducible first | exact HB.out | apply below_alloc | apply pw_below_drewN | apply below_drew1 | refine below_set ?_ GE156.out | refine below_set ?_ GE166.out | refine below_set ?_ GE168.out) | exact HB.out)⟩⟩
                   ·rw [if_neg c68] at H
                    exact absurd H (by simp)
        ·rw [if_neg c23] at H
         exact absurd H (by simp)
       ·rw [if_neg c22] at H
        have c22b0 : decide (x17_2 < (l2.length : Int)) = false := decide_eq_false c22
        clear c22
        (first | rw [c22b0] | (simp only [i64_w, i32_w]; rw [c22b0]) | skip)
        have H' := Aside0.mk H
        clear H
        go_wp2
        go_meet
        case rel => exact ⟨_, (x12_2), (x15_2), (x167000_2), (x167001_2), (by first | rfl | (simp; done) | (simp [*]; done)), H', ⟨by have := HK1.out; have := HK2.out; first | omega | exact Nat.le_refl _⟩, ⟨by (with_reducible repeat (first | apply Kd.N_alloc | apply Kd.N_drewN | apply Kd.N_drew)); exact HO_12.out⟩, ⟨by (with_reducible repeat (first | refine blk_drewN ?_ _ | refine blk_drew ?_ | refine blk_alloc ?_ _)); exact BK156.out⟩, ⟨by (with_reducible repeat (first | refine blk_drewN ?_ _ | refine blk_drew ?_ | refine blk_alloc ?_ _)); exact BK166.out⟩, ⟨by repeat (first | (with_reducible first | exact HB.out | apply below_alloc | apply pw_below_drewN | apply below_drew1 | refine below_set ?_ GE156.out | refine below_set ?_ GE166.out) | exact HB.out)⟩⟩
    case rest => as_aux_lemma =>
     clear HC17
     try clear c1
     try clear p1
     try clear q1
     try clear hx1
     try clear c2
     try clear p2
     try clear c3
     try clear c4
     try clear c5
     try clear p5
     try clear q5
     try clear hx5
     try clear qi5
     try clear hf5
     try clear c6
     try clear p6
     try clear c7
     try clear p7
     try clear q7
     try clear hx7
     try clear hf7
     try clear c8
     try clear c9
     try clear c10
     try clear c10b0
     try clear c11
     try clear c11b0
     try clear c11b1
     try clear c12
     try clear c15
     try clear p16
     try clear q16
     try clear hx16
     try clear c19
     try clear p19
     try clear q19
     try clear hx19
     try clear c20
     try clear c22
     try clear c22b0
     try clear c23
     try clear c23b0
     try clear c24
     try clear c24b0
     try clear c25
     try clear c28
     try clear c29
     try clear c31
     try clear c31b0
     try clear c32
     try clear c33
     try clear c34
     try clear c42
     try clear c43
     try clear c49
     try clear c49b0
     try clear c49b1
     try clear c50
     try clear c54
     try clear c54b0
     try clear c55
     try clear c55b0
     try clear c55b1
     try clear c56
     try clear c56b0
     try clear c56b1
     try clear p57
     try clear q57
     try clear hx57
     try clear qi57
     try clear hf57
     try clear c58
     try clear c58b0
     try clear c58b1
     try clear p59
     try clear q59
     try clear hx59
     try clear qi59
     try clear hf59
     try clear c60
     try clear p64
     try clear c68
     try clear c71
     try clear c71b0
     try clear c72
     try clear c72b0
     try clear c73
     try clear c73b0
     try clear c75
     try clear c75b0
     try clear c76
     try clear c76b0
     try clear c77
     try clear p77
     try clear q77
     try clear hx77
     try clear hf77
     try clear c80
     try clear c82
     try clear c82b0
     try clear c84
     try clear c85
     try clear c87
     try clear hcz18_0
     try clear hcz18_1
     try clear hcz21_0
     try clear hcz21_1
     try clear hcz26_0
     try clear hcz26_1
     try clear hcz30_0
     try clear hcz30_1
     try clear hcz35_0
     try clear hcz35_1
     try clear hcz38_0
     try clear hcz38_1
     try clear hcz44_0
     try clear hcz44_1
     try clear hcz47_0
     try clear hcz47_1
     try clear hcz7_0
     try clear hcz7_1
     try clear hcz86_0
     try clear hcz86_1
     try clear hcz88_0
     try clear hcz88_1
     try clear hcz89_0
     try clear hcz89_1
     try clear hfz18_0
     try clear hfz18_1
     try clear hfz21_0
     try clear hfz21_1
     try clear hfz26_0
     try clear hfz26_1
     try clear hfz30_0
     try clear hfz30_1
     try clear hfz35_0
     try clear hfz35_1
     try clear hfz38_0
     try clear hfz38_1
     try clear hfz44_0
     try clear hfz44_1
     try clear hfz47_0
     try clear hfz47_1
     try clear hfz7_0
     try clear hfz7_1
     try clear hfz86_0
     try clear hfz86_1
     try clear hfz88_0
     try clear hfz88_1
     try clear hfz89_0
     try clear hfz89_1
     try clear hx167_0
     try clear hx194_0
     try clear hx57_0
     try clear hx59_0
     try clear hx77_0
     try clear p1
     try clear p16
     try clear p167
     try clear p194
     try clear p2
     try clear p5
     try clear p57
     try clear p59
     try clear p6
     try clear p64
     try clear p77
     try clear q1
     try clear q16
     try clear q167
     try clear q194
     try clear q5
     try clear q57
     try clear q59
     try clear q77
     obtain ⟨kq, x12_16, x15_16, x167000_16, x167001_16, rfl, HA, HJ16, HO_12, BK156, BK166, HB⟩ := hcut
     cases kq with
     | zero => exact absurd HA.out (by simp [drydocklaw15_LogWhole.j6])
     | succ kj16 =>
      have H := HA.out
      clear HA
      simp only [drydocklaw15_LogWhole.j6] at H
      replace H := Option.bind_eq_some_iff.mp H
      obtain ⟨⟨t196, t199, t200, t201⟩, A910, H⟩ := H
      replace H : ((drydocklaw15_awake.f kj16).bind fun t203 => (if t203 = true then (if t201 = 0 then (if (t196.length : Int) = x15_16 then (drydocklaw15_LogWhole.j7 kj16 l2 a4 t196 (!(t199 == x167000_16) || (!(t200 == x167001_16)))) else (drydocklaw15_LogWhole.j7 kj16 l2 a4 t196 true)) else (drydocklaw15_LogWhole.j7 kj16 l2 a4 t196 true)) else (drydocklaw15_LogWhole.j7 kj16 l2 a4 t196 true))) = some r := H
      have A91 := Aside0.mk A910
      clear A910
      have HC92 := Aside0.mk H
      clear H
      have hnb93 := NB156_166.out
      have hnc93 := NB166_156.out
      have hcz94_0 : wc.cell? ⟨gb156, 0, none⟩ = some (.int .i64 (wrap64 (Int.tmod a0 40))) := (blk_cell BK156.out 0).trans rfl
      have hcz94_1 : wc.cell? ⟨gb156, 1, none⟩ = some (.int .i64 (wrap64 ((wrap64 (a1)) + 1))) := (blk_cell BK156.out 1).trans rfl
      have hfz94_0 := blk_frozen BK156.out 0
      have hfz94_1 := blk_frozen BK156.out 1
      obtain ⟨Ao95, co95, eo95⟩ := Kd.N_slice HO_12.out
      subst eo95
      go_upto_region 43 with (first | ((with_reducible refine gate_callee (f := 19) rfl ?_); refine goesL_ (some 172) rfl rfl Try.func19 (by kernel_rfl) rfl #[.slice Ao95 x12_16.length co95, .agg #[.int .i64 (wrap64 (Int.tmod a0 40)), .int .i64 (wrap64 ((wrap64 (a1)) + 1))]] rfl (by (try simp only [List.map_toArray, List.map_cons, List.map_nil]); first | done | rfl | (simp only [List.length_drop, List.length_take]; rfl)) ?_; (with_reducible refine (log_Find.calls kj16 _ _ x12_16 (wrap64 (Int.tmod a0 40)) (wrap64 ((wrap64 (a1)) + 1)) t196 t199 t200 t201 _ ?side1 ?side2 A91.out).mono ?_); (case side1 => repeat (first | exact (Kd.N_reads' HO_12.out).2.2 | (with_reducible refine Kd.C_alloc ?_ _) | (with_reducible refine Kd.C_drewN ?_ _) | (with_reducible refine Kd.C_drew ?_))); (case side2 => exact (Kd.N_reads' HO_12.out).2.1); rintro e w96 ⟨v197, rfl, ho0, hb⟩; refine ⟨_, rfl, ?_⟩; have n0_ := Aside0.mk (Kd.N_elder' (by (with_reducible repeat (first | apply Kd.N_alloc | apply Kd.N_drewN | apply Kd.N_drew)); exact HO_12.out) (Kd.R_base ho0) hb); have n1_ := Aside0.mk (Kd.N_lower (Kd.N_mono (ok' := fun k_ => some k_ ≠ (.slice Ao95 x12_16.length co95 : Value).ownBlock ∧ k_ ≠ gb156 ∧ k_ ≠ gb166) (Kd.R_N (Kd.R_bound ho0)) (fun k_ hk_ => ⟨(Kd.fresh' (Kd.N_lt (by (with_reducible repeat (first | apply Kd.N_alloc | apply Kd.N_drewN | apply Kd.N_drew)); exact HO_12.out)) k_ hk_.2.1), (Kd.freshB (g := gb156) (o := .cells #[.int .i64 (wrap64 (Int.tmod a0 40)), .int .i64 (wrap64 ((wrap64 (a1)) + 1))] 41 (0, 0)) (by (with_reducible repeat (first | refine blk_drewN ?_ _ | refine blk_drew ?_ | refine blk_alloc ?_ _)); exact BK156.out) k_ hk_.2.1), (Kd.freshB (g := gb166) (o := .cells #[.int .i64 x167000_16, .int .i64 x167001_16] 41 (0, 0)) (by (with_reducible repeat (first | refine blk_drewN ?_ _ | refine blk_drew ?_ | refine blk_alloc ?_ _)); exact BK166.out) k_ hk_.2.1)⟩)) (below_size (by repeat (first | (with_reducible first | exact HB.out | apply below_alloc | apply pw_below_drewN | apply below_drew1 | refine below_set ?_ GE156.out | refine below_set ?_ GE166.out) | exact HB.out)))); have n2_ := Aside0.mk (blk_below (g := gb156) (o := .cells #[.int .i64 (wrap64 (Int.tmod a0 40)), .int .i64 (wrap64 ((wrap64 (a1)) + 1))] 41 (0, 0)) (by (with_reducible repeat (first | refine blk_drewN ?_ _ | refine blk_drew ?_ | refine blk_alloc ?_ _)); exact BK156.out) hb); have n3_ := Aside0.mk (blk_below (g := gb166) (o := .cells #[.int .i64 x167000_16, .int .i64 x167001_16] 41 (0, 0)) (by (with_reducible repeat (first | refine blk_drewN ?_ _ | refine blk_drew ?_ | refine blk_alloc ?_ _)); exact BK166.out) hb); have n4_ := Aside0.mk (below_step (by repeat (first | (with_reducible first | exact HB.out | apply below_alloc | apply pw_below_drewN | apply below_drew1 | refine below_set ?_ GE156.out | refine below_set ?_ GE166.out) | exact HB.out)) hb); clear HO_12; clear BK156; clear BK166; clear HB; have HO_12 := n0_; have HO198 := n1_; have BK156 := n2_; have BK166 := n3_; have HB := n4_; clear n0_ n1_ n2_ n3_ n4_; (try clear hb); (try clear hb2); (try clear hk); (try clear hi); (try clear ho0)) | ((with_reducible refine gate_dst (N := 30) rfl ?_); (try (refine gate_guard (by rfl) ?_; dsimp only)); refine box_event ?hg (N := 30) ?hd (cs := #[.int .i64 0, .int .i64 0]) (t := 41) ?hr ?_; (case hd => rfl); (case hg => rfl); (case hr => first | (go_simp; done) | (go_simp; rfl)); intro gb202 hg w97 hbox hb; have n0_ := Aside0.mk (Kd.N_below (Kd.N_elderB (by (with_reducible repeat (first | apply Kd.N_alloc | apply Kd.N_drewN | apply Kd.N_drew)); exact HO_12.out) gb202 (Nat.le_of_eq hg.symm)) hb); have n1_ := Aside0.mk (Kd.N_below (Kd.N_elderB (by (with_reducible repeat (first | apply Kd.N_alloc | apply Kd.N_drewN | apply Kd.N_drew)); exact HO198.out) gb202 (Nat.le_of_eq hg.symm)) hb); have n2_ := Aside0.mk (blk_below (g := gb156) (o := .cells #[.int .i64 (wrap64 (Int.tmod a0 40)), .int .i64 (wrap64 ((wrap64 (a1)) + 1))] 41 (0, 0)) (by (with_reducible repeat (first | refine blk_drewN ?_ _ | refine blk_drew ?_ | refine blk_alloc ?_ _)); exact BK156.out) hb); have n3_ := Aside0.mk (blk_below (g := gb166) (o := .cells #[.int .i64 x167000_16, .int .i64 x167001_16] 41 (0, 0)) (by (with_reducible repeat (first | refine blk_drewN ?_ _ | refine blk_drew ?_ | refine blk_alloc ?_ _)); exact BK166.out) hb); have n4_ := Aside0.mk (below_step (by repeat (first | (with_reducible first | exact HB.out | apply below_alloc | apply pw_below_drewN | apply below_drew1 | refine below_set ?_ GE156.out | refine below_set ?_ GE166.out) | exact HB.out)) hb); have n5_ := Aside0.mk (hbox); have n6_ := Aside0.mk ((by rw [hg]; exact (below_size (by repeat (first | (with_reducible first | exact HB.out | apply below_alloc | apply pw_below_drewN | apply below_drew1 | refine below_set ?_ GE156.out | refine below_set ?_ GE166.out) | exact HB.out))) : w.heap.size ≤ gb202)); have n7_ := Aside0.mk ((by rw [hg]; exact (below_size (by repeat (first | (with_reducible first | exact HB.out | apply below_alloc | apply pw_below_drewN | apply below_drew1 | refine below_set ?_ GE156.out | refine below_set ?_ GE166.out) | exact HB.out))) : w.heap.size ≤ gb202)); have n8_ := Aside0.mk ((by rw [hg]; exact Nat.ne_of_lt (blk_lt (g := gb156) (o := .cells #[.int .i64 (wrap64 (Int.tmod a0 40)), .int .i64 (wrap64 ((wrap64 (a1)) + 1))] 41 (0, 0)) (by (with_reducible repeat (first | refine blk_drewN ?_ _ | refine blk_drew ?_ | refine blk_alloc ?_ _)); exact BK156.out)) : gb156 ≠ gb202)); have n9_ := Aside0.mk ((by rw [hg]; exact Nat.ne_of_gt (blk_lt (g := gb156) (o := .cells #[.int .i64 (wrap64 (Int.tmod a0 40)), .int .i64 (wrap64 ((wrap64 (a1)) + 1))] 41 (0, 0)) (by (with_reducible repeat (first | refine blk_drewN ?_ _ | refine blk_drew ?_ | refine blk_alloc ?_ _)); exact BK156.out)) : gb202 ≠ gb156)); have n10_ := Aside0.mk ((by rw [hg]; exact Nat.ne_of_lt (blk_lt (g := gb166) (o := .cells #[.int .i64 x167000_16, .int .i64 x167001_16] 41 (0, 0)) (by (with_reducible repeat (first | refine blk_drewN ?_ _ | refine blk_drew ?_ | refine blk_alloc ?_ _)); exact BK166.out)) : gb166 ≠ gb202)); have n11_ := Aside0.mk ((by rw [hg]; exact Nat.ne_of_gt (blk_lt (g := gb166) (o := .cells #[.int .i64 x167000_16, .int .i64 x167001_16] 41 (0, 0)) (by (with_reducible repeat (first | refine blk_drewN ?_ _ | refine blk_drew ?_ | refine blk_alloc ?_ _)); exact BK166.out)) : gb202 ≠ gb166)); clear HO_12; clear HO198; clear BK156; clear BK166; clear HB; have HO_12 := n0_; have HO198 := n1_; have BK156 := n2_; have BK166 := n3_; have HB := n4_; have BK202 := n5_; have GW202 := n6_; have GE202 := n7_; have NB156_202 := n8_; have NB202_156 := n9_; have NB166_202 := n10_; have NB202_166 := n11_; clear n0_ n1_ n2_ n3_ n4_ n5_ n6_ n7_ n8_ n9_ n10_ n11_; clear hb hbox hg; have hnb98 := NB202_156.out; have hnc98 := NB156_202.out; have hnb99 := NB202_166.out; have hnc99 := NB166_202.out; have hcz100_0 : w97.cell? ⟨gb202, 0, none⟩ = some (.int .i64 0) := (blk_cell BK202.out 0).trans rfl; have hcz100_1 : w97.cell? ⟨gb202, 1, none⟩ = some (.int .i64 0) := (blk_cell BK202.out 1).trans rfl; have hfz100_0 := blk_frozen BK202.out 0; have hfz100_1 := blk_frozen BK202.out 1))
      (try simp only [Act.put, List.setIfInBounds_toArray, List.set_cons_zero, List.set_cons_succ])
      go_cut [192] (fun v192 wc => ∃ (kq : Nat) (x192_91 : Bool), v192 = .bool x192_91 ∧ Aside0 (drydocklaw15_LogWhole.j7 kq l2 a4 t196 x192_91 = some r) ∧ Aside0 (kq ≤ kj16) ∧ Aside0 (Kd.N (Kd.slice 50 k50) 46 wc w.heap.size (fun k_ => k_ ≠ gb156 ∧ k_ ≠ gb166 ∧ k_ ≠ gb202) v197 t196) ∧ Aside0 (wc.heap[gb156]? = some (.cells #[.int .i64 (wrap64 (Int.tmod a0 40)), .int .i64 (wrap64 ((wrap64 (a1)) + 1))] 41 (0, 0))) ∧ Aside0 (wc.heap[gb166]? = some (.cells #[.int .i64 x167000_16, .int .i64 x167001_16] 41 (0, 0))) ∧ Aside0 (wc.heap[gb202]? = some (.cells #[.int .i64 t199, .int .i64 t200] 41 (0, 0))) ∧ Aside0 (Below w.heap.size w wc))
      case first =>
       have H := HC92.out
       clear HC92
       replace H := Option.bind_eq_some_iff.mp H
       obtain ⟨t203, A1010, H⟩ := H
       replace H : (if t203 = true then (if t201 = 0 then (if (t196.length : Int) = x15_16 then (drydocklaw15_LogWhole.j7 kj16 l2 a4 t196 (!(t199 == x167000_16) || (!(t200 == x167001_16)))) else (drydocklaw15_LogWhole.j7 kj16 l2 a4 t196 true)) else (drydocklaw15_LogWhole.j7 kj16 l2 a4 t196 true)) else (drydocklaw15_LogWhole.j7 kj16 l2 a4 t196 true)) = some r := H
       have A101 := Aside0.mk A1010
       clear A1010
       by_cases c102 : t203 = true
       ·subst c102
        have H1 : (if t201 = 0 then (if (t196.length : Int) = x15_16 then (drydocklaw15_LogWhole.j7 kj16 l2 a4 t196 (!(t199 == x167000_16) || (!(t200 == x167001_16)))) else (drydocklaw15_LogWhole.j7 kj16 l2 a4 t196 true)) else (drydocklaw15_LogWhole.j7 kj16 l2 a4 t196 true)) = some r := by rw [if_pos rfl] at H; exact H
        clear H
        have H := H1
        clear H1
        by_cases c103 : t201 = 0
        ·rw [if_pos c103] at H
         have c103b0 : (t201 == 0) = true := beq_iff_eq.mpr c103
         have c103b1 : (t201 != 0) = false := bne_eq_false_iff_eq.mpr c103
         clear c103
         (first | rw [c103b0] | (simp only [i64_w, i32_w]; rw [c103b0]) | skip)
         by_cases c104 : (t196.length : Int) = x15_16
         ·rw [if_pos c104] at H
          have c104b0 : ((t196.length : Int) == x15_16) = true := beq_iff_eq.mpr c104
          have c104b1 : ((t196.length : Int) != x15_16) = false := bne_eq_false_iff_eq.mpr c104
          clear c104
          have H' := Aside0.mk H
          clear H
          go_wp2_with (first | ((with_reducible refine gate_callee (f := 13) rfl ?_); refine goesL_ (some 176) rfl rfl Try.func13 (by kernel_rfl) rfl #[] rfl (by (try simp only [List.map_toArray, List.map_cons, List.map_nil]); first | done | rfl | (simp only [List.length_drop, List.length_take]; rfl)) ?_; (with_reducible refine (drydocklaw15_awake.calls kj16  true _ A101.out).mono ?_); rintro e w105 ⟨rfl, hb⟩; refine ⟨_, rfl, ?_⟩; have n0_ := Aside0.mk (Kd.N_below (by (with_reducible repeat (first | apply Kd.N_alloc | apply Kd.N_drewN | apply Kd.N_drew)); exact (Kd.N_mono (Kd.N_far (p := ⟨gb202, 1, none⟩) (Kd.N_far (p := ⟨gb202, 0, none⟩) (Kd.N_mono HO_12.out (fun k_ hk => (⟨hk, hk.2⟩ : _ ∧ k_ ≠ gb202))) (fun _ hk => hk.2) (.int .i64 t199)) (fun _ hk => hk.2) (.int .i64 t200)) (fun _ h_ => h_.1))) hb); have n1_ := Aside0.mk (Kd.N_below (by (with_reducible repeat (first | apply Kd.N_alloc | apply Kd.N_drewN | apply Kd.N_drew)); exact (Kd.N_mono (Kd.N_far (p := ⟨gb202, 1, none⟩) (Kd.N_far (p := ⟨gb202, 0, none⟩) (Kd.N_mono HO198.out (fun k_ hk => (⟨hk, hk.2⟩ : _ ∧ k_ ≠ gb202))) (fun _ hk => hk.2) (.int .i64 t199)) (fun _ hk => hk.2) (.int .i64 t200)) (fun _ h_ => h_.1))) hb); have n2_ := Aside0.mk (blk_below (g := gb156) (o := .cells #[.int .i64 (wrap64 (Int.tmod a0 40)), .int .i64 (wrap64 ((wrap64 (a1)) + 1))] 41 (0, 0)) (by (with_reducible repeat (first | refine blk_drewN ?_ _ | refine blk_drew ?_ | refine blk_alloc ?_ _)); refine blk_far ?_ NB156_202.out _; (with_reducible repeat (first | refine blk_drewN ?_ _ | refine blk_drew ?_ | refine blk_alloc ?_ _)); refine blk_far ?_ NB156_202.out _; (with_reducible repeat (first | refine blk_drewN ?_ _ | refine blk_drew ?_ | refine blk_alloc ?_ _)); exact BK156.out) hb); have n3_ := Aside0.mk (blk_below (g := gb166) (o := .cells #[.int .i64 x167000_16, .int .i64 x167001_16] 41 (0, 0)) (by (with_reducible repeat (first | refine blk_drewN ?_ _ | refine blk_drew ?_ | refine blk_alloc ?_ _)); refine blk_far ?_ NB166_202.out _; (with_reducible repeat (first | refine blk_drewN ?_ _ | refine blk_drew ?_ | refine blk_alloc ?_ _)); refine blk_far ?_ NB166_202.out _; (with_reducible repeat (first | refine blk_drewN ?_ _ | refine blk_drew ?_ | refine blk_alloc ?_ _)); exact BK166.out) hb); have n4_ := Aside0.mk (blk_below (g := gb202) (o := .cells #[.int .i64 t199, .int .i64 t200] 41 (0, 0)) (by (with_reducible repeat (first | refine blk_drewN ?_ _ | refine blk_drew ?_ | refine blk_alloc ?_ _)); refine blk_put (cs := #[.int .i64 t199, .int .i64 0]) ?_ 1 _ rfl; (with_reducible repeat (first | refine blk_drewN ?_ _ | refine blk_drew ?_ | refine blk_alloc ?_ _)); refine blk_put (cs := #[.int .i64 0, .int .i64 0]) ?_ 0 _ rfl; (with_reducible repeat (first | refine blk_drewN ?_ _ | refine blk_drew ?_ | refine blk_alloc ?_ _)); exact BK202.out) hb); have n5_ := Aside0.mk (below_step (by repeat (first | (with_reducible first | exact HB.out | apply below_alloc | apply pw_below_drewN | apply below_drew1 | refine below_set ?_ GE156.out | refine below_set ?_ GE166.out | refine below_set ?_ GE202.out) | exact HB.out)) hb); clear HO_12; clear HO198; clear BK156; clear BK166; clear BK202; clear HB; have HO_12 := n0_; have HO198 := n1_; have BK156 := n2_; have BK166 := n3_; have BK202 := n4_; have HB := n5_; clear n0_ n1_ n2_ n3_ n4_ n5_; (try clear hb); (try clear hb2); (try clear hk); (try clear hi); obtain ⟨Ao106, co106, eo106⟩ := Kd.N_slice HO198.out; subst eo106; have hnb107 := NB202_156.out; have hnc107 := NB156_202.out; have hnb108 := NB202_166.out; have hnc108 := NB166_202.out; have hcz109_0 : w105.cell? ⟨gb202, 0, none⟩ = some (.int .i64 t199) := (blk_cell BK202.out 0).trans rfl; have hcz109_1 : w105.cell? ⟨gb202, 1, none⟩ = some (.int .i64 t200) := (blk_cell BK202.out 1).trans rfl; have hfz109_0 := blk_frozen BK202.out 0; have hfz109_1 := blk_frozen BK202.out 1; have hnb110 := NB166_156.out; have hnc110 := NB156_166.out; have hcz111_0 : w105.cell? ⟨gb166, 0, none⟩ = some (.int .i64 x167000_16) := (blk_cell BK166.out 0).trans rfl; have hcz111_1 : w105.cell? ⟨gb166, 1, none⟩ = some (.int .i64 x167001_16) := (blk_cell BK166.out 1).trans rfl; have hfz111_0 := blk_frozen BK166.out 0; have hfz111_1 := blk_frozen BK166.out 1))
          go_meet
          case rel => exact ⟨_, ((!(t199 == x167000_16) || (!(t200 == x167001_16)))), (by first | rfl | (simp; done) | (simp [*]; done)), H', ⟨by have := HK1.out; have := HJ16.out; first | omega | exact Nat.le_refl _⟩, ⟨by (with_reducible repeat (first | apply Kd.N_alloc | apply Kd.N_drewN | apply Kd.N_drew)); exact Kd.N_mono HO198.out (fun _ hk => ⟨hk.1.2.1, ⟨hk.1.2.2, hk.2⟩⟩)⟩, ⟨by (with_reducible repeat (first | refine blk_drewN ?_ _ | refine blk_drew ?_ | refine blk_alloc ?_ _)); exact BK156.out⟩, ⟨by (with_reducible repeat (first | refine blk_drewN ?_ _ | refine blk_drew ?_ | refine blk_alloc ?_ _)); exact BK166.out⟩, ⟨by (with_reducible repeat (first | refine blk_drewN ?_ _ | refine blk_drew ?_ | refine blk_alloc ?_ _)); exact BK202.out⟩, ⟨by repeat (first | (with_reducible first | exact HB.out | apply below_alloc | apply pw_below_drewN | apply below_drew1 | refine below_set ?_ GE156.out | refine below_set ?_ GE166.out | refine below_set ?_ GE202.out) | exact HB.out)⟩⟩
         ·rw [if_neg c104] at H
          have c104b0 : ((t196.length : Int) == x15_16) = false := beq_eq_false_iff_ne.mpr c104
          have c104b1 : ((t196.length : Int) != x15_16) = true := bne_iff_ne.mpr c104
          have H' := Aside0.mk H
          clear H
          go_wp2_with (first | ((with_reducible refine gate_callee (f := 13) rfl ?_); refine goesL_ (some 176) rfl rfl Try.func13 (by kernel_rfl) rfl #[] rfl (by (try simp only [List.map_toArray, List.map_cons, List.map_nil]); first | done | rfl | (simp only [List.length_drop, List.length_take]; rfl)) ?_; (with_reducible refine (drydocklaw15_awake.calls kj16  true _ A101.out).mono ?_); rintro e w112 ⟨rfl, hb⟩; refine ⟨_, rfl, ?_⟩; have n0_ := Aside0.mk (Kd.N_below (by (with_reducible repeat (first | apply Kd.N_alloc | apply Kd.N_drewN | apply Kd.N_drew)); exact (Kd.N_mono (Kd.N_far (p := ⟨gb202, 1, none⟩) (Kd.N_far (p := ⟨gb202, 0, none⟩) (Kd.N_mono HO_12.out (fun k_ hk => (⟨hk, hk.2⟩ : _ ∧ k_ ≠ gb202))) (fun _ hk => hk.2) (.int .i64 t199)) (fun _ hk => hk.2) (.int .i64 t200)) (fun _ h_ => h_.1))) hb); have n1_ := Aside0.mk (Kd.N_below (by (with_reducible repeat (first | apply Kd.N_alloc | apply Kd.N_drewN | apply Kd.N_drew)); exact (Kd.N_mono (Kd.N_far (p := ⟨gb202, 1, none⟩) (Kd.N_far (p := ⟨gb202, 0, none⟩) (Kd.N_mono HO198.out (fun k_ hk => (⟨hk, hk.2⟩ : _ ∧ k_ ≠ gb202))) (fun _ hk => hk.2) (.int .i64 t199)) (fun _ hk => hk.2) (.int .i64 t200)) (fun _ h_ => h_.1))) hb); have n2_ := Aside0.mk (blk_below (g := gb156) (o := .cells #[.int .i64 (wrap64 (Int.tmod a0 40)), .int .i64 (wrap64 ((wrap64 (a1)) + 1))] 41 (0, 0)) (by (with_reducible repeat (first | refine blk_drewN ?_ _ | refine blk_drew ?_ | refine blk_alloc ?_ _)); refine blk_far ?_ NB156_202.out _; (with_reducible repeat (first | refine blk_drewN ?_ _ | refine blk_drew ?_ | refine blk_alloc ?_ _)); refine blk_far ?_ NB156_202.out _; (with_reducible repeat (first | refine blk_drewN ?_ _ | refine blk_drew ?_ | refine blk_alloc ?_ _)); exact BK156.out) hb); have n3_ := Aside0.mk (blk_below (g := gb166) (o := .cells #[.int .i64 x167000_16, .int .i64 x167001_16] 41 (0, 0)) (by (with_reducible repeat (first | refine blk_drewN ?_ _ | refine blk_drew ?_ | refine blk_alloc ?_ _)); refine blk_far ?_ NB166_202.out _; (with_reducible repeat (first | refine blk_drewN ?_ _ | refine blk_drew ?_ | refine blk_alloc ?_ _)); refine blk_far ?_ NB166_202.out _; (with_reducible repeat (first | refine blk_drewN ?_ _ | refine blk_drew ?_ | refine blk_alloc ?_ _)); exact BK166.out) hb); have n4_ := Aside0.mk (blk_below (g := gb202) (o := .cells #[.int .i64 t199, .int .i64 t200] 41 (0, 0)) (by (with_reducible repeat (first | refine blk_drewN ?_ _ | refine blk_drew ?_ | refine blk_alloc ?_ _)); refine blk_put (cs := #[.int .i64 t199, .int .i64 0]) ?_ 1 _ rfl; (with_reducible repeat (first | refine blk_drewN ?_ _ | refine blk_drew ?_ | refine blk_alloc ?_ _)); refine blk_put (cs := #[.int .i64 0, .int .i64 0]) ?_ 0 _ rfl; (with_reducible repeat (first | refine blk_drewN ?_ _ | refine blk_drew ?_ | refine blk_alloc ?_ _)); exact BK202.out) hb); have n5_ := Aside0.mk (below_step (by repeat (first | (with_reducible first | exact HB.out | apply below_alloc | apply pw_below_drewN | apply below_drew1 | refine below_set ?_ GE156.out | refine below_set ?_ GE166.out | refine below_set ?_ GE202.out) | exact HB.out)) hb); clear HO_12; clear HO198; clear BK156; clear BK166; clear BK202; clear HB; have HO_12 := n0_; have HO198 := n1_; have BK156 := n2_; have BK166 := n3_; have BK202 := n4_; have HB := n5_; clear n0_ n1_ n2_ n3_ n4_ n5_; (try clear hb); (try clear hb2); (try clear hk); (try clear hi); obtain ⟨Ao113, co113, eo113⟩ := Kd.N_slice HO198.out; subst eo113))
          go_meet
          case rel => exact ⟨_, (true), (by first | rfl | (simp; done) | (simp [*]; done)), H', ⟨by have := HK1.out; have := HJ16.out; first | omega | exact Nat.le_refl _⟩, ⟨by (with_reducible repeat (first | apply Kd.N_alloc | apply Kd.N_drewN | apply Kd.N_drew)); exact Kd.N_mono HO198.out (fun _ hk => ⟨hk.1.2.1, ⟨hk.1.2.2, hk.2⟩⟩)⟩, ⟨by (with_reducible repeat (first | refine blk_drewN ?_ _ | refine blk_drew ?_ | refine blk_alloc ?_ _)); exact BK156.out⟩, ⟨by (with_reducible repeat (first | refine blk_drewN ?_ _ | refine blk_drew ?_ | refine blk_alloc ?_ _)); exact BK166.out⟩, ⟨by (with_reducible repeat (first | refine blk_drewN ?_ _ | refine blk_drew ?_ | refine blk_alloc ?_ _)); exact BK202.out⟩, ⟨by repeat (first | (with_reducible first | exact HB.out | apply below_alloc | apply pw_below_drewN | apply below_drew1 | refine below_set ?_ GE156.out | refine below_set ?_ GE166.out | refine below_set ?_ GE202.out) | exact HB.out)⟩⟩
        ·rw [if_neg c103] at H
         have c103b0 : (t201 == 0) = false := beq_eq_false_iff_ne.mpr c103
         have c103b1 : (t201 != 0) = true := bne_iff_ne.mpr c103
         (first | rw [c103b0] | (simp only [i64_w, i32_w]; rw [c103b0]) | skip)
         have H' := Aside0.mk H
         clear H
         go_wp2_with (first | ((with_reducible refine gate_callee (f := 13) rfl ?_); refine goesL_ (some 176) rfl rfl Try.func13 (by kernel_rfl) rfl #[] rfl (by (try simp only [List.map_toArray, List.map_cons, List.map_nil]); first | done | rfl | (simp only [List.length_drop, List.length_take]; rfl)) ?_; (with_reducible refine (drydocklaw15_awake.calls kj16  true _ A101.out).mono ?_); rintro e w114 ⟨rfl, hb⟩; refine ⟨_, rfl, ?_⟩; have n0_ := Aside0.mk (Kd.N_below (by (with_reducible repeat (first | apply Kd.N_alloc | apply Kd.N_drewN | apply Kd.N_drew)); exact (Kd.N_mono (Kd.N_far (p := ⟨gb202, 1, none⟩) (Kd.N_far (p := ⟨gb202, 0, none⟩) (Kd.N_mono HO_12.out (fun k_ hk => (⟨hk, hk.2⟩ : _ ∧ k_ ≠ gb202))) (fun _ hk => hk.2) (.int .i64 t199)) (fun _ hk => hk.2) (.int .i64 t200)) (fun _ h_ => h_.1))) hb); have n1_ := Aside0.mk (Kd.N_below (by (with_reducible repeat (first | apply Kd.N_alloc | apply Kd.N_drewN | apply Kd.N_drew)); exact (Kd.N_mono (Kd.N_far (p := ⟨gb202, 1, none⟩) (Kd.N_far (p := ⟨gb202, 0, none⟩) (Kd.N_mono HO198.out (fun k_ hk => (⟨hk, hk.2⟩ : _ ∧ k_ ≠ gb202))) (fun _ hk => hk.2) (.int .i64 t199)) (fun _ hk => hk.2) (.int .i64 t200)) (fun _ h_ => h_.1))) hb); have n2_ := Aside0.mk (blk_below (g := gb156) (o := .cells #[.int .i64 (wrap64 (Int.tmod a0 40)), .int .i64 (wrap64 ((wrap64 (a1)) + 1))] 41 (0, 0)) (by (with_reducible repeat (first | refine blk_drewN ?_ _ | refine blk_drew ?_ | refine blk_alloc ?_ _)); refine blk_far ?_ NB156_202.out _; (with_reducible repeat (first | refine blk_drewN ?_ _ | refine blk_drew ?_ | refine blk_alloc ?_ _)); refine blk_far ?_ NB156_202.out _; (with_reducible repeat (first | refine blk_drewN ?_ _ | refine blk_drew ?_ | refine blk_alloc ?_ _)); exact BK156.out) hb); have n3_ := Aside0.mk (blk_below (g := gb166) (o := .cells #[.int .i64 x167000_16, .int .i64 x167001_16] 41 (0, 0)) (by (with_reducible repeat (first | refine blk_drewN ?_ _ | refine blk_drew ?_ | refine blk_alloc ?_ _)); refine blk_far ?_ NB166_202.out _; (with_reducible repeat (first | refine blk_drewN ?_ _ | refine blk_drew ?_ | refine blk_alloc ?_ _)); refine blk_far ?_ NB166_202.out _; (with_reducible repeat (first | refine blk_drewN ?_ _ | refine blk_drew ?_ | refine blk_alloc ?_ _)); exact BK166.out) hb); have n4_ := Aside0.mk (blk_below (g := gb202) (o := .cells #[.int .i64 t199, .int .i64 t200] 41 (0, 0)) (by (with_reducible repeat (first | refine blk_drewN ?_ _ | refine blk_drew ?_ | refine blk_alloc ?_ _)); refine blk_put (cs := #[.int .i64 t199, .int .i64 0]) ?_ 1 _ rfl; (with_reducible repeat (first | refine blk_drewN ?_ _ | refine blk_drew ?_ | refine blk_alloc ?_ _)); refine blk_put (cs := #[.int .i64 0, .int .i64 0]) ?_ 0 _ rfl; (with_reducible repeat (first | refine blk_drewN ?_ _ | refine blk_drew ?_ | refine blk_alloc ?_ _)); exact BK202.out) hb); have n5_ := Aside0.mk (below_step (by repeat (first | (with_reducible first | exact HB.out | apply below_alloc | apply pw_below_drewN | apply below_drew1 | refine below_set ?_ GE156.out | refine below_set ?_ GE166.out | refine below_set ?_ GE202.out) | exact HB.out)) hb); clear HO_12; clear HO198; clear BK156; clear BK166; clear BK202; clear HB; have HO_12 := n0_; have HO198 := n1_; have BK156 := n2_; have BK166 := n3_; have BK202 := n4_; have HB := n5_; clear n0_ n1_ n2_ n3_ n4_ n5_; (try clear hb); (try clear hb2); (try clear hk); (try clear hi)))
         go_meet
         case rel => exact ⟨_, (true), (by first | rfl | (simp; done) | (simp [*]; done)), H', ⟨by have := HK1.out; have := HJ16.out; first | omega | exact Nat.le_refl _⟩, ⟨by (with_reducible repeat (first | apply Kd.N_alloc | apply Kd.N_drewN | apply Kd.N_drew)); exact Kd.N_mono HO198.out (fun _ hk => ⟨hk.1.2.1, ⟨hk.1.2.2, hk.2⟩⟩)⟩, ⟨by (with_reducible repeat (first | refine blk_drewN ?_ _ | refine blk_drew ?_ | refine blk_alloc ?_ _)); exact BK156.out⟩, ⟨by (with_reducible repeat (first | refine blk_drewN ?_ _ | refine blk_drew ?_ | refine blk_alloc ?_ _)); exact BK166.out⟩, ⟨by (with_reducible repeat (first | refine blk_drewN ?_ _ | refine blk_drew ?_ | refine blk_alloc ?_ _)); exact BK202.out⟩, ⟨by repeat (first | (with_reducible first | exact HB.out | apply below_alloc | apply pw_below_drewN | apply below_drew1 | refine below_set ?_ GE156.out | refine below_set ?_ GE166.out | refine below_set ?_ GE202.out) | exact HB.out)⟩⟩
       ·replace c102 := Bool.eq_false_iff.mpr c102
        subst c102
        have H1 : (drydocklaw15_LogWhole.j7 kj16 l2 a4 t196 true) = some r := by rw [if_neg (show ¬ (false = true) by decide)] at H; exact H
        clear H
        have H := H1
        clear H1
        have H' := Aside0.mk H
        clear H
        go_wp2_with (first | ((with_reducible refine gate_callee (f := 13) rfl ?_); refine goesL_ (some 176) rfl rfl Try.func13 (by kernel_rfl) rfl #[] rfl (by (try simp only [List.map_toArray, List.map_cons, List.map_nil]); first | done | rfl | (simp only [List.length_drop, List.length_take]; rfl)) ?_; (with_reducible refine (drydocklaw15_awake.calls kj16  false _ A101.out).mono ?_); rintro e w115 ⟨rfl, hb⟩; refine ⟨_, rfl, ?_⟩; have n0_ := Aside0.mk (Kd.N_below (by (with_reducible repeat (first | apply Kd.N_alloc | apply Kd.N_drewN | apply Kd.N_drew)); exact (Kd.N_mono (Kd.N_far (p := ⟨gb202, 1, none⟩) (Kd.N_far (p := ⟨gb202, 0, none⟩) (Kd.N_mono HO_12.out (fun k_ hk => (⟨hk, hk.2⟩ : _ ∧ k_ ≠ gb202))) (fun _ hk => hk.2) (.int .i64 t199)) (fun _ hk => hk.2) (.int .i64 t200)) (fun _ h_ => h_.1))) hb); have n1_ := Aside0.mk (Kd.N_below (by (with_reducible repeat (first | apply Kd.N_alloc | apply Kd.N_drewN | apply Kd.N_drew)); exact (Kd.N_mono (Kd.N_far (p := ⟨gb202, 1, none⟩) (Kd.N_far (p := ⟨gb202, 0, none⟩) (Kd.N_mono HO198.out (fun k_ hk => (⟨hk, hk.2⟩ : _ ∧ k_ ≠ gb202))) (fun _ hk => hk.2) (.int .i64 t199)) (fun _ hk => hk.2) (.int .i64 t200)) (fun _ h_ => h_.1))) hb); have n2_ := Aside0.mk (blk_below (g := gb156) (o := .cells #[.int .i64 (wrap64 (Int.tmod a0 40)), .int .i64 (wrap64 ((wrap64 (a1)) + 1))] 41 (0, 0)) (by (with_reducible repeat (first | refine blk_drewN ?_ _ | refine blk_drew ?_ | refine blk_alloc ?_ _)); refine blk_far ?_ NB156_202.out _; (with_reducible repeat (first | refine blk_drewN ?_ _ | refine blk_drew ?_ | refine blk_alloc ?_ _)); refine blk_far ?_ NB156_202.out _; (with_reducible repeat (first | refine blk_drewN ?_ _ | refine blk_drew ?_ | refine blk_alloc ?_ _)); exact BK156.out) hb); have n3_ := Aside0.mk (blk_below (g := gb166) (o := .cells #[.int .i64 x167000_16, .int .i64 x167001_16] 41 (0, 0)) (by (with_reducible repeat (first | refine blk_drewN ?_ _ | refine blk_drew ?_ | refine blk_alloc ?_ _)); refine blk_far ?_ NB166_202.out _; (with_reducible repeat (first | refine blk_drewN ?_ _ | refine blk_drew ?_ | refine blk_alloc ?_ _)); refine blk_far ?_ NB166_202.out _; (with_reducible repeat (first | refine blk_drewN ?_ _ | refine blk_drew ?_ | refine blk_alloc ?_ _)); exact BK166.out) hb); have n4_ := Aside0.mk (blk_below (g := gb202) (o := .cells #[.int .i64 t199, .int .i64 t200] 41 (0, 0)) (by (with_reducible repeat (first | refine blk_drewN ?_ _ | refine blk_drew ?_ | refine blk_alloc ?_ _)); refine blk_put (cs := #[.int .i64 t199, .int .i64 0]) ?_ 1 _ rfl; (with_reducible repeat (first | refine blk_drewN ?_ _ | refine blk_drew ?_ | refine blk_alloc ?_ _)); refine blk_put (cs := #[.int .i64 0, .int .i64 0]) ?_ 0 _ rfl; (with_reducible repeat (first | refine blk_drewN ?_ _ | refine blk_drew ?_ | refine blk_alloc ?_ _)); exact BK202.out) hb); have n5_ := Aside0.mk (below_step (by repeat (first | (with_reducible first | exact HB.out | apply below_alloc | apply pw_below_drewN | apply below_drew1 | refine below_set ?_ GE156.out | refine below_set ?_ GE166.out | refine below_set ?_ GE202.out) | exact HB.out)) hb); clear HO_12; clear HO198; clear BK156; clear BK166; clear BK202; clear HB; have HO_12 := n0_; have HO198 := n1_; have BK156 := n2_; have BK166 := n3_; have BK202 := n4_; have HB := n5_; clear n0_ n1_ n2_ n3_ n4_ n5_; (try clear hb); (try clear hb2); (try clear hk); (try clear hi)))
        go_meet
        case rel => exact ⟨_, (true), (by first | rfl | (simp; done) | (simp [*]; done)), H', ⟨by have := HK1.out; have := HJ16.out; first | omega | exact Nat.le_refl _⟩, ⟨by (with_reducible repeat (first | apply Kd.N_alloc | apply Kd.N_drewN | apply Kd.N_drew)); exact Kd.N_mono HO198.out (fun _ hk => ⟨hk.1.2.1, ⟨hk.1.2.2, hk.2⟩⟩)⟩, ⟨by (with_reducible repeat (first | refine blk_drewN ?_ _ | refine blk_drew ?_ | refine blk_alloc ?_ _)); exact BK156.out⟩, ⟨by (with_reducible repeat (first | refine blk_drewN ?_ _ | refine blk_drew ?_ | refine blk_alloc ?_ _)); exact BK166.out⟩, ⟨by (with_reducible repeat (first | refine blk_drewN ?_ _ | refine blk_drew ?_ | refine blk_alloc ?_ _)); exact BK202.out⟩, ⟨by repeat (first | (with_reducible first | exact HB.out | apply below_alloc | apply pw_below_drewN | apply below_drew1 | refine below_set ?_ GE156.out | refine below_set ?_ GE166.out | refine below_set ?_ GE202.out) | exact HB.out)⟩⟩
      case rest => as_aux_lemma =>
       clear HC92
       try clear c1
       try clear p1
       try clear q1
       try clear hx1
       try clear c2
       try clear p2
       try clear c3
       try clear c4
       try clear c5
       try clear p5
       try clear q5
       try clear hx5
       try clear qi5
       try clear hf5
       try clear c6
       try clear p6
       try clear c7
       try clear p7
       try clear q7
       try clear hx7
       try clear hf7
       try clear c8
       try clear c9
       try clear c10
       try clear c10b0
       try clear c11
       try clear c11b0
       try clear c11b1
       try clear c12
       try clear c13
       try clear c15
       try clear p16
       try clear q16
       try clear hx16
       try clear c19
       try clear p19
       try clear q19
       try clear hx19
       try clear c20
       try clear c22
       try clear c22b0
       try clear c23
       try clear c23b0
       try clear c24
       try clear c24b0
       try clear c25
       try clear c28
       try clear c29
       try clear c31
       try clear c31b0
       try clear c32
       try clear c33
       try clear c34
       try clear c42
       try clear c43
       try clear c49
       try clear c49b0
       try clear c49b1
       try clear c50
       try clear c54
       try clear c54b0
       try clear c55
       try clear c55b0
       try clear c55b1
       try clear c56
       try clear c56b0
       try clear c56b1
       try clear p57
       try clear q57
       try clear hx57
       try clear qi57
       try clear hf57
       try clear c58
       try clear c58b0
       try clear c58b1
       try clear p59
       try clear q59
       try clear hx59
       try clear qi59
       try clear hf59
       try clear c60
       try clear p64
       try clear c68
       try clear c71
       try clear c71b0
       try clear c72
       try clear c72b0
       try clear c73
       try clear c73b0
       try clear c75
       try clear c75b0
       try clear c76
       try clear c76b0
       try clear c77
       try clear p77
       try clear q77
       try clear hx77
       try clear hf77
       try clear c80
       try clear c82
       try clear c82b0
       try clear c84
       try clear c85
       try clear c87
       try clear c93
       try clear c98
       try clear c99
       try clear c102
       try clear c103
       try clear c103b0
       try clear c103b1
       try clear c104
       try clear c104b0
       try clear c104b1
       try clear c107
       try clear c108
       try clear c110
       try clear hcz100_0
       try clear hcz100_1
       try clear hcz109_0
       try clear hcz109_1
       try clear hcz111_0
       try clear hcz111_1
       try clear hcz18_0
       try clear hcz18_1
       try clear hcz21_0
       try clear hcz21_1
       try clear hcz26_0
       try clear hcz26_1
       try clear hcz30_0
       try clear hcz30_1
       try clear hcz35_0
       try clear hcz35_1
       try clear hcz38_0
       try clear hcz38_1
       try clear hcz44_0
       try clear hcz44_1
       try clear hcz47_0
       try clear hcz47_1
       try clear hcz7_0
       try clear hcz7_1
       try clear hcz86_0
       try clear hcz86_1
       try clear hcz88_0
       try clear hcz88_1
       try clear hcz89_0
       try clear hcz89_1
       try clear hcz94_0
       try clear hcz94_1
       try clear hfz100_0
       try clear hfz100_1
       try clear hfz109_0
       try clear hfz109_1
       try clear hfz111_0
       try clear hfz111_1
       try clear hfz18_0
       try clear hfz18_1
       try clear hfz21_0
       try clear hfz21_1
       try clear hfz26_0
       try clear hfz26_1
       try clear hfz30_0
       try clear hfz30_1
       try clear hfz35_0
       try clear hfz35_1
       try clear hfz38_0
       try clear hfz38_1
       try clear hfz44_0
       try clear hfz44_1
       try clear hfz47_0
       try clear hfz47_1
       try clear hfz7_0
       try clear hfz7_1
       try clear hfz86_0
       try clear hfz86_1
       try clear hfz88_0
       try clear hfz88_1
       try clear hfz89_0
       try clear hfz89_1
       try clear hfz94_0
       try clear hfz94_1
       try clear hx167_0
       try clear hx194_0
       try clear hx57_0
       try clear hx59_0
       try clear hx77_0
       try clear p1
       try clear p16
       try clear p167
       try clear p19
       try clear p194
       try clear p2
       try clear p5
       try clear p57
       try clear p59
       try clear p6
       try clear p64
       try clear p7
       try clear p77
       try clear q1
       try clear q16
       try clear q167
       try clear q19
       try clear q194
       try clear q5
       try clear q57
       try clear q59
       try clear q7
       try clear q77
       obtain ⟨kq, x192_91, rfl, HA, HJ91, HO_29, BK156, BK166, BK202, HB⟩ := hcut
       cases kq with
       | zero => exact absurd HA.out (by simp [drydocklaw15_LogWhole.j7])
       | succ kj91 =>
        have H := HA.out
        clear HA
        simp only [drydocklaw15_LogWhole.j7] at H
        by_cases c116 : x192_91 = true
        ·subst c116
         have H1 : (some false) = some r := by rw [if_pos rfl] at H; exact H
         clear H
         have H := H1
         clear H1
         obtain rfl := Option.some.inj H
         go_wp2
         go_ret
         exact ⟨by first | rfl | (simp [errW_none, errW_some] <;> rfl) | (simp [*, errW_none, errW_some] <;> rfl), by repeat (first | (with_reducible first | exact HB.out | apply below_alloc | apply pw_below_drewN | apply below_drew1 | refine below_set ?_ GE156.out | refine below_set ?_ GE166.out | refine below_set ?_ GE202.out) | exact HB.out)⟩
        ·replace c116 := Bool.eq_false_iff.mpr c116
         subst c116
         have H1 : (drydocklaw15_LogWhole.l5 kj91 l2 a4 t196 0) = some r := by rw [if_neg (show ¬ (false = true) by decide)] at H; exact H
         clear H
         have H := H1
         clear H1
         have H' := Aside0.mk H
         clear H
         go_wp2
         go_loopg [32] kj91 (fun kq v32 w' => ∃ (x32_4 : Int), v32 = .int .i64 x32_4 ∧ Aside0 (drydocklaw15_LogWhole.l5 kq l2 a4 t196 x32_4 = some r) ∧ Aside0 (kq ≤ kj91) ∧ Aside0 (Kd.N (Kd.slice 50 k50) 46 w' w.heap.size (fun k_ => k_ ≠ gb156 ∧ k_ ≠ gb166 ∧ k_ ≠ gb202) v197 t196) ∧ Aside0 (w'.heap[gb156]? = some (.cells #[.int .i64 (wrap64 (Int.tmod a0 40)), .int .i64 (wrap64 ((wrap64 (a1)) + 1))] 41 (0, 0))) ∧ Aside0 (w'.heap[gb166]? = some (.cells #[.int .i64 x167000_16, .int .i64 x167001_16] 41 (0, 0))) ∧ Aside0 (w'.heap[gb202]? = some (.cells #[.int .i64 t199, .int .i64 t200] 41 (0, 0))) ∧ Aside0 (Below w.heap.size w w'))
         case atStart => exact ⟨(0), (by first | rfl | (simp; done) | (simp [*]; done)), H', ⟨Nat.le_refl _⟩, ⟨by (with_reducible repeat (first | apply Kd.N_alloc | apply Kd.N_drewN | apply Kd.N_drew)); exact HO_29.out⟩, ⟨by (with_reducible repeat (first | refine blk_drewN ?_ _ | refine blk_drew ?_ | refine blk_alloc ?_ _)); exact BK156.out⟩, ⟨by (with_reducible repeat (first | refine blk_drewN ?_ _ | refine blk_drew ?_ | refine blk_alloc ?_ _)); exact BK166.out⟩, ⟨by (with_reducible repeat (first | refine blk_drewN ?_ _ | refine blk_drew ?_ | refine blk_alloc ?_ _)); exact BK202.out⟩, ⟨by repeat (first | (with_reducible first | exact HB.out | apply below_alloc | apply pw_below_drewN | apply below_drew1 | refine below_set ?_ GE156.out | refine below_set ?_ GE166.out | refine below_set ?_ GE202.out) | exact HB.out)⟩⟩
         case round =>
          clear H'
          try clear c1
          try clear p1
          try clear q1
          try clear hx1
          try clear c2
          try clear p2
          try clear c3
          try clear c4
          try clear c5
          try clear p5
          try clear q5
          try clear hx5
          try clear qi5
          try clear hf5
          try clear c6
          try clear p6
          try clear c7
          try clear p7
          try clear q7
          try clear hx7
          try clear hf7
          try clear c8
          try clear c9
          try clear c10
          try clear c10b0
          try clear c11
          try clear c11b0
          try clear c11b1
          try clear c12
          try clear c13
          try clear c15
          try clear p16
          try clear q16
          try clear hx16
          try clear c19
          try clear p19
          try clear q19
          try clear hx19
          try clear c20
          try clear c22
          try clear c22b0
          try clear c23
          try clear c23b0
          try clear c24
          try clear c24b0
          try clear c25
          try clear c28
          try clear c29
          try clear c31
          try clear c31b0
          try clear c32
          try clear c33
          try clear c34
          try clear c42
          try clear c43
          try clear c49
          try clear c49b0
          try clear c49b1
          try clear c50
          try clear c54
          try clear c54b0
          try clear c55
          try clear c55b0
          try clear c55b1
          try clear c56
          try clear c56b0
          try clear c56b1
          try clear p57
          try clear q57
          try clear hx57
          try clear qi57
          try clear hf57
          try clear c58
          try clear c58b0
          try clear c58b1
          try clear p59
          try clear q59
          try clear hx59
          try clear qi59
          try clear hf59
          try clear c60
          try clear p64
          try clear c68
          try clear c71
          try clear c71b0
          try clear c72
          try clear c72b0
          try clear c73
          try clear c73b0
          try clear c75
          try clear c75b0
          try clear c76
          try clear c76b0
          try clear c77
          try clear p77
          try clear q77
          try clear hx77
          try clear hf77
          try clear c80
          try clear c82
          try clear c82b0
          try clear c84
          try clear c85
          try clear c87
          try clear c93
          try clear c98
          try clear c99
          try clear c102
          try clear c103
          try clear c103b0
          try clear c103b1
          try clear c104
          try clear c104b0
          try clear c104b1
          try clear c107
          try clear c108
          try clear c110
          try clear c116
          try clear hcz100_0
          try clear hcz100_1
          try clear hcz109_0
          try clear hcz109_1
          try clear hcz111_0
          try clear hcz111_1
          try clear hcz18_0
          try clear hcz18_1
          try clear hcz21_0
          try clear hcz21_1
          try clear hcz26_0
          try clear hcz26_1
          try clear hcz30_0
          try clear hcz30_1
          try clear hcz35_0
          try clear hcz35_1
          try clear hcz38_0
          try clear hcz38_1
          try clear hcz44_0
          try clear hcz44_1
          try clear hcz47_0
          try clear hcz47_1
          try clear hcz7_0
          try clear hcz7_1
          try clear hcz86_0
          try clear hcz86_1
          try clear hcz88_0
          try clear hcz88_1
          try clear hcz89_0
          try clear hcz89_1
          try clear hcz94_0
          try clear hcz94_1
          try clear hfz100_0
          try clear hfz100_1
          try clear hfz109_0
          try clear hfz109_1
          try clear hfz111_0
          try clear hfz111_1
          try clear hfz18_0
          try clear hfz18_1
          try clear hfz21_0
          try clear hfz21_1
          try clear hfz26_0
          try clear hfz26_1
          try clear hfz30_0
          try clear hfz30_1
          try clear hfz35_0
          try clear hfz35_1
          try clear hfz38_0
          try clear hfz38_1
          try clear hfz44_0
          try clear hfz44_1
          try clear hfz47_0
          try clear hfz47_1
          try clear hfz7_0
          try clear hfz7_1
          try clear hfz86_0
          try clear hfz86_1
          try clear hfz88_0
          try clear hfz88_1
          try clear hfz89_0
          try clear hfz89_1
          try clear hfz94_0
          try clear hfz94_1
          try clear hx167_0
          try clear hx194_0
          try clear hx57_0
          try clear hx59_0
          try clear hx77_0
          try clear p1
          try clear p16
          try clear p167
          try clear p19
          try clear p194
          try clear p2
          try clear p5
          try clear p57
          try clear p59
          try clear p6
          try clear p64
          try clear p7
          try clear p77
          try clear q1
          try clear q16
          try clear q167
          try clear q19
          try clear q194
          try clear q5
          try clear q57
          try clear q59
          try clear q7
          try clear q77
          obtain ⟨x32_4, rfl, HA, HK4, HO_29, BK156, BK166, BK202, HB⟩ := hrel
          cases gk with
          | zero => exact absurd HA.out (by simp [drydocklaw15_LogWhole.l5])
          | succ k4 =>
           have H := HA.out
           clear HA
           simp only [drydocklaw15_LogWhole.l5] at H
           by_cases c117 : x32_4 < (t196.length : Int)
           ·rw [if_pos c117] at H
            have c117b0 : decide (x32_4 < (t196.length : Int)) = true := decide_eq_true c117
            clear c117
            have HC118 := Aside0.mk H
            clear H
            obtain ⟨Ao119, co119, eo119⟩ := Kd.N_slice HO_29.out
            subst eo119
            go_upto_region 48 with (fail)
            go_cut [251] (fun v251 wc => ∃ (kq : Nat) (x251_117 : Bool), v251 = .bool x251_117 ∧ Aside0 (drydocklaw15_LogWhole.j9 kq l2 a4 t196 x32_4 x251_117 = some r) ∧ Aside0 (kq ≤ k4) ∧ Aside0 (Kd.N (Kd.slice 50 k50) 46 wc w.heap.size (fun k_ => k_ ≠ gb156 ∧ k_ ≠ gb166 ∧ k_ ≠ gb202) (.slice Ao119 t196.length co119) t196) ∧ Aside0 (wc.heap[gb156]? = some (.cells #[.int .i64 (wrap64 (Int.tmod a0 40)), .int .i64 (wrap64 ((wrap64 (a1)) + 1))] 41 (0, 0))) ∧ Aside0 (wc.heap[gb166]? = some (.cells #[.int .i64 x167000_16, .int .i64 x167001_16] 41 (0, 0))) ∧ Aside0 (wc.heap[gb202]? = some (.cells #[.int .i64 t199, .int .i64 t200] 41 (0, 0))) ∧ Aside0 (Below w.heap.size w wc))
            case first =>
             have H := HC118.out
             clear HC118
             by_cases c120 : 0 ≤ x32_4
             ·rw [if_pos c120] at H
              have c120b0 : decide (0 ≤ x32_4) = true := decide_eq_true c120
              clear c120
              (first | rw [c120b0] | (simp only [i64_w, i32_w]; rw [c120b0]) | skip)
              by_cases c121 : x32_4 < (l2.length : Int)
              ·rw [if_pos c121] at H
               have c121b0 : decide (x32_4 < (l2.length : Int)) = true := decide_eq_true c121
               clear c121
               by_cases c122 : ((rd_L4 t196 x32_4).length : Int) = (wrap64 ((wrap64 (Int.tmod (rd l2 x32_4) 5)) + 1))
               ·rw [if_pos c122] at H
                have c122b0 : (((rd_L4 t196 x32_4).length : Int) == (wrap64 ((wrap64 (Int.tmod (rd l2 x32_4) 5)) + 1))) = true := beq_iff_eq.mpr c122
                have c122b1 : (((rd_L4 t196 x32_4).length : Int) != (wrap64 ((wrap64 (Int.tmod (rd l2 x32_4) 5)) + 1))) = false := bne_eq_false_iff_eq.mpr c122
                clear c122
                by_cases c123 : 0 < ((rd_L4 t196 x32_4).length : Int)
                ·rw [if_pos c123] at H
                 have c123b0 : decide (0 < ((rd_L4 t196 x32_4).length : Int)) = true := decide_eq_true c123
                 have c123b1 : decide (0 < (rd_L4 t196 x32_4).length) = true := decide_eq_true (by omega)
                 clear c123
                 by_cases c124 : ((rd_T50 (rd_L4 t196 x32_4) 0).f0) = (wrap64 (60 + (wrap64 (7 * x32_4))))
                 ·rw [if_pos c124] at H
                  have c124b0 : (((rd_T50 (rd_L4 t196 x32_4) 0).f0) == (wrap64 (60 + (wrap64 (7 * x32_4))))) = true := beq_iff_eq.mpr c124
                  have c124b1 : (((rd_T50 (rd_L4 t196 x32_4) 0).f0) != (wrap64 (60 + (wrap64 (7 * x32_4))))) = false := bne_eq_false_iff_eq.mpr c124
                  clear c124
                  by_cases c125 : 0 < (((rd_T50 (rd_L4 t196 x32_4) 0).f1).length : Int)
                  ·rw [if_pos c125] at H
                   have c125b0 : decide (0 < (((rd_T50 (rd_L4 t196 x32_4) 0).f1).length : Int)) = true := decide_eq_true c125
                   have c125b1 : decide (0 < ((rd_T50 (rd_L4 t196 x32_4) 0).f1).length) = true := decide_eq_true (by omega)
                   clear c125
                   by_cases c126 : (rd ((rd_T50 (rd_L4 t196 x32_4) 0).f1) 0) = a4
                   ·rw [if_pos c126] at H
                    have c126b0 : ((rd ((rd_T50 (rd_L4 t196 x32_4) 0).f1) 0) == a4) = true := beq_iff_eq.mpr c126
                    have c126b1 : ((rd ((rd_T50 (rd_L4 t196 x32_4) 0).f1) 0) != a4) = false := bne_eq_false_iff_eq.mpr c126
                    clear c126
                    by_cases c127 : 1 < (((rd_T50 (rd_L4 t196 x32_4) 0).f1).length : Int)
                    ·rw [if_pos c127] at H
                     have c127b0 : decide (1 < (((rd_T50 (rd_L4 t196 x32_4) 0).f1).length : Int)) = true := decide_eq_true c127
                     have c127b1 : decide (1 < ((rd_T50 (rd_L4 t196 x32_4) 0).f1).length) = true := decide_eq_true (by omega)
                     clear c127
                     have H' := Aside0.mk H
                     clear H
                     try go_wp2
                     have p204 : 0 ≤ (x32_4 : Int) := of_decide_eq_true (by first | (with_reducible assumption) | assumption)
                     have q204 : x32_4 < (t196.length : Int) := of_decide_eq_true (by first | (with_reducible assumption) | assumption)
                     obtain ⟨ad204, A204_0, c204_0, e204, hx204_0, hl204_0, hi204_0⟩ := at_L4 (Kd.N_reads' HO_29.out).2.2 x32_4 p204 q204
                     cases e204
                     obtain ⟨ce204, hce204, hMe204, hcc204⟩ := Kd.N_get HO_29.out [] x32_4 p204 (by first | exact q204 | exact of_decide_eq_true (by first | (with_reducible assumption) | assumption) | (have e_ := (Kd.N_reads' HO_29.out).1; omega))
                     obtain ⟨ua204_0, uc204_0, rfl, ul204_0, ge204_0⟩ := Kd.FK_slice_open hMe204
                     have hv204_0 := hcc204 0 _ rfl
                     rw [Nat.add_zero, show ((Kd.slice 50 k50)).sz = 1 from rfl, Nat.mul_one] at hv204_0
                     replace hv204_0 := Option.some.inj (hv204_0.symm.trans hx204_0)
                     injection hv204_0 with hva_ hvn_ hvc_
                     rw [hva_] at ge204_0
                     rw [hvc_] at ul204_0
                     have HL204_0 := Aside0.mk (show Kd.V k50 50 _ w.heap.size _ _ (rd_L4 t196 x32_4) from Kd.V_mk ul204_0 ge204_0)
                     clear hva_ hvn_ hvc_ ge204_0 ul204_0
                     clear hcc204 hce204
                     have HR204_0 := Aside0.mk hi204_0
                     have HC204_0 := Aside0.mk hl204_0
                     clear hi204_0 hl204_0
                     replace p204 := eq_true p204
                     replace q204 := eq_true q204
                     have p205 : 0 ≤ (x32_4 : Int) := of_decide_eq_true (by first | (with_reducible assumption) | assumption)
                     have q205 : x32_4 < (l2.length : Int) := of_decide_eq_true (by first | (with_reducible assumption) | assumption)
                     obtain ⟨ad205, e205, hx205_0⟩ := Kd.at_int HR2.out x32_4 p205 q205
                     have hw205_0 := hx205_0
                     cases e205
                     replace hx205_0 := (HB.out.cell (World.block_lt_of_cell? w _ hx205_0)).trans hx205_0
                     replace p205 := eq_true p205
                     replace q205 := eq_true q205
                     have p206 : 0 ≤ (x32_4 : Int) := of_decide_eq_true (by first | (with_reducible assumption) | assumption)
                     have q206 : x32_4 < (t196.length : Int) := of_decide_eq_true (by first | (with_reducible assumption) | assumption)
                     obtain ⟨ad206, A206_0, c206_0, e206, hx206_0, hl206_0, hi206_0⟩ := at_L4 (Kd.N_reads' HO_29.out).2.2 x32_4 p206 q206
                     obtain rfl : ad204 = ad206 := (by injection e206)
                     obtain ⟨ce206, hce206, hMe206, hcc206⟩ := Kd.N_get HO_29.out [] x32_4 p206 (by first | exact q206 | exact of_decide_eq_true (by first | (with_reducible assumption) | assumption) | (have e_ := (Kd.N_reads' HO_29.out).1; omega))
                     obtain ⟨ua206_0, uc206_0, rfl, ul206_0, ge206_0⟩ := Kd.FK_slice_open hMe206
                     have hv206_0 := hcc206 0 _ rfl
                     rw [Nat.add_zero, show ((Kd.slice 50 k50)).sz = 1 from rfl, Nat.mul_one] at hv206_0
                     replace hv206_0 := Option.some.inj (hv206_0.symm.trans hx206_0)
                     injection hv206_0 with hva_ hvn_ hvc_
                     rw [hva_] at ge206_0
                     rw [hvc_] at ul206_0
                     have HL206_0 := Aside0.mk (show Kd.V k50 50 _ w.heap.size _ _ (rd_L4 t196 x32_4) from Kd.V_mk ul206_0 ge206_0)
                     clear hva_ hvn_ hvc_ ge206_0 ul206_0
                     clear hcc206 hce206
                     have HR206_0 := Aside0.mk hi206_0
                     have HC206_0 := Aside0.mk hl206_0
                     clear hi206_0 hl206_0
                     replace p206 := eq_true p206
                     replace q206 := eq_true q206
                     have ea_ := Option.some.inj (hx204_0.symm.trans hx206_0)
                     injection ea_ with ea_ en_ ec_
                     subst ea_
                     subst ec_
                     clear en_
                     have p207 : 0 ≤ (0 : Int) := (by omega)
                     have q207 : 0 < ((rd_L4 t196 x32_4).length : Int) := of_decide_eq_true (by first | (with_reducible assumption) | assumption)
                     obtain ⟨ad207, A207_1, c207_1, e207, hx207_0, hx207_1, hl207_1, hi207_1⟩ := at_T50 (by repeat (first | (with_reducible exact HR206_0.out) | (with_reducible refine Kd.C_alloc ?_ _) | (with_reducible refine Kd.C_drewN ?_ _) | (with_reducible refine Kd.C_drew ?_) | exact HR206_0.out)) 0 p207 q207
                     cases e207
                     obtain ⟨ce207, hce207, hMe207, hcc207⟩ := Kd.V_get HL206_0.out z50 0 p207 (by first | exact q207 | exact of_decide_eq_true (by first | (with_reducible assumption) | assumption) | (have e_ := (Kd.V_reads' HL206_0.out).1; omega))
                     obtain ⟨ua207_1, uc207_1, rfl, ul207_1, ge207_1⟩ := k50_openF hMe207
                     have hv207_1 := hcc207 1 _ rfl
                     rw [add_field _ _ 1 (by omega)] at hv207_1
                     replace hv207_1 := Option.some.inj (hv207_1.symm.trans hx207_1)
                     injection hv207_1 with hva_ hvn_ hvc_
                     rw [hva_] at ge207_1
                     rw [hvc_] at ul207_1
                     have HL207_1 := Aside0.mk (show Kd.V (Kd.int .u8) 5 _ w.heap.size _ _ ((rd_T50 (rd_L4 t196 x32_4) 0).f1) from Kd.V_mk ul207_1 ge207_1)
                     clear hva_ hvn_ hvc_ ge207_1 ul207_1
                     clear hcc207 hce207
                     have qi207 : (0 < (rd_L4 t196 x32_4).length) = True := eq_true (by omega)
                     (try rw [show ((0 : Int)).toNat = 0 from rfl] at hx207_0)
                     (try rw [show 0 * 2 = 0 from rfl] at hx207_0)
                     (try rw [Addr.add_zero'] at hx207_0)
                     (try rw [show ((0 : Int)).toNat = 0 from rfl] at hx207_1)
                     (try rw [show 0 * 2 = 0 from rfl] at hx207_1)
                     (try rw [Addr.add_zero'] at hx207_1)
                     have HR207_1 := Aside0.mk hi207_1
                     have HC207_1 := Aside0.mk hl207_1
                     clear hi207_1 hl207_1
                     replace p207 := eq_true p207
                     replace q207 := eq_true q207
                     have p208 : 0 ≤ (x32_4 : Int) := of_decide_eq_true (by first | (with_reducible assumption) | assumption)
                     have q208 : x32_4 < (t196.length : Int) := of_decide_eq_true (by first | (with_reducible assumption) | assumption)
                     obtain ⟨ad208, A208_0, c208_0, e208, hx208_0, hl208_0, hi208_0⟩ := at_L4 (Kd.N_reads' HO_29.out).2.2 x32_4 p208 q208
                     obtain rfl : ad204 = ad208 := (by injection e208)
                     obtain ⟨ce208, hce208, hMe208, hcc208⟩ := Kd.N_get HO_29.out [] x32_4 p208 (by first | exact q208 | exact of_decide_eq_true (by first | (with_reducible assumption) | assumption) | (have e_ := (Kd.N_reads' HO_29.out).1; omega))
                     obtain ⟨ua208_0, uc208_0, rfl, ul208_0, ge208_0⟩ := Kd.FK_slice_open hMe208
                     have hv208_0 := hcc208 0 _ rfl
                     rw [Nat.add_zero, show ((Kd.slice 50 k50)).sz = 1 from rfl, Nat.mul_one] at hv208_0
                     replace hv208_0 := Option.some.inj (hv208_0.symm.trans hx208_0)
                     injection hv208_0 with hva_ hvn_ hvc_
                     rw [hva_] at ge208_0
                     rw [hvc_] at ul208_0
                     have HL208_0 := Aside0.mk (show Kd.V k50 50 _ w.heap.size _ _ (rd_L4 t196 x32_4) from Kd.V_mk ul208_0 ge208_0)
                     clear hva_ hvn_ hvc_ ge208_0 ul208_0
                     clear hcc208 hce208
                     have HR208_0 := Aside0.mk hi208_0
                     have HC208_0 := Aside0.mk hl208_0
                     clear hi208_0 hl208_0
                     replace p208 := eq_true p208
                     replace q208 := eq_true q208
                     have ea_ := Option.some.inj (hx204_0.symm.trans hx208_0)
                     injection ea_ with ea_ en_ ec_
                     subst ea_
                     subst ec_
                     clear en_
                     have p209 : 0 ≤ (0 : Int) := (by omega)
                     have q209 : 0 < ((rd_L4 t196 x32_4).length : Int) := of_decide_eq_true (by first | (with_reducible assumption) | assumption)
                     obtain ⟨ad209, A209_1, c209_1, e209, hx209_0, hx209_1, hl209_1, hi209_1⟩ := at_T50 (by repeat (first | (with_reducible exact HR208_0.out) | (with_reducible refine Kd.C_alloc ?_ _) | (with_reducible refine Kd.C_drewN ?_ _) | (with_reducible refine Kd.C_drew ?_) | exact HR208_0.out)) 0 p209 q209
                     cases e209
                     obtain ⟨ce209, hce209, hMe209, hcc209⟩ := Kd.V_get HL208_0.out z50 0 p209 (by first | exact q209 | exact of_decide_eq_true (by first | (with_reducible assumption) | assumption) | (have e_ := (Kd.V_reads' HL208_0.out).1; omega))
                     obtain ⟨ua209_1, uc209_1, rfl, ul209_1, ge209_1⟩ := k50_openF hMe209
                     have hv209_1 := hcc209 1 _ rfl
                     rw [add_field _ _ 1 (by omega)] at hv209_1
                     replace hv209_1 := Option.some.inj (hv209_1.symm.trans hx209_1)
                     injection hv209_1 with hva_ hvn_ hvc_
                     rw [hva_] at ge209_1
                     rw [hvc_] at ul209_1
                     have HL209_1 := Aside0.mk (show Kd.V (Kd.int .u8) 5 _ w.heap.size _ _ ((rd_T50 (rd_L4 t196 x32_4) 0).f1) from Kd.V_mk ul209_1 ge209_1)
                     clear hva_ hvn_ hvc_ ge209_1 ul209_1
                     clear hcc209 hce209
                     have qi209 : (0 < (rd_L4 t196 x32_4).length) = True := eq_true (by omega)
                     (try rw [show ((0 : Int)).toNat = 0 from rfl] at hx209_0)
                     (try rw [show 0 * 2 = 0 from rfl] at hx209_0)
                     (try rw [Addr.add_zero'] at hx209_0)
                     (try rw [show ((0 : Int)).toNat = 0 from rfl] at hx209_1)
                     (try rw [show 0 * 2 = 0 from rfl] at hx209_1)
                     (try rw [Addr.add_zero'] at hx209_1)
                     have HR209_1 := Aside0.mk hi209_1
                     have HC209_1 := Aside0.mk hl209_1
                     clear hi209_1 hl209_1
                     replace p209 := eq_true p209
                     replace q209 := eq_true q209
                     have p210 : 0 ≤ (0 : Int) := (by omega)
                     have q210 : 0 < (((rd_T50 (rd_L4 t196 x32_4) 0).f1).length : Int) := of_decide_eq_true (by first | (with_reducible assumption) | assumption)
                     obtain ⟨ad210, e210, hx210_0⟩ := Kd.at_int (by repeat (first | (with_reducible exact HR209_1.out) | (with_reducible refine Kd.C_alloc ?_ _) | (with_reducible refine Kd.C_drewN ?_ _) | (with_reducible refine Kd.C_drew ?_) | exact HR209_1.out)) 0 p210 q210
                     cases e210
                     have qi210 : (0 < ((rd_T50 (rd_L4 t196 x32_4) 0).f1).length) = True := eq_true (by omega)
                     (try rw [show ((0 : Int)).toNat = 0 from rfl] at hx210_0)
                     (try rw [Addr.add_zero'] at hx210_0)
                     replace p210 := eq_true p210
                     replace q210 := eq_true q210
                     have p211 : 0 ≤ (x32_4 : Int) := of_decide_eq_true (by first | (with_reducible assumption) | assumption)
                     have q211 : x32_4 < (t196.length : Int) := of_decide_eq_true (by first | (with_reducible assumption) | assumption)
                     obtain ⟨ad211, A211_0, c211_0, e211, hx211_0, hl211_0, hi211_0⟩ := at_L4 (Kd.N_reads' HO_29.out).2.2 x32_4 p211 q211
                     obtain rfl : ad204 = ad211 := (by injection e211)
                     obtain ⟨ce211, hce211, hMe211, hcc211⟩ := Kd.N_get HO_29.out [] x32_4 p211 (by first | exact q211 | exact of_decide_eq_true (by first | (with_reducible assumption) | assumption) | (have e_ := (Kd.N_reads' HO_29.out).1; omega))
                     obtain ⟨ua211_0, uc211_0, rfl, ul211_0, ge211_0⟩ := Kd.FK_slice_open hMe211
                     have hv211_0 := hcc211 0 _ rfl
                     rw [Nat.add_zero, show ((Kd.slice 50 k50)).sz = 1 from rfl, Nat.mul_one] at hv211_0
                     replace hv211_0 := Option.some.inj (hv211_0.symm.trans hx211_0)
                     injection hv211_0 with hva_ hvn_ hvc_
                     rw [hva_] at ge211_0
                     rw [hvc_] at ul211_0
                     have HL211_0 := Aside0.mk (show Kd.V k50 50 _ w.heap.size _ _ (rd_L4 t196 x32_4) from Kd.V_mk ul211_0 ge211_0)
                     clear hva_ hvn_ hvc_ ge211_0 ul211_0
                     clear hcc211 hce211
                     have HR211_0 := Aside0.mk hi211_0
                     have HC211_0 := Aside0.mk hl211_0
                     clear hi211_0 hl211_0
                     replace p211 := eq_true p211
                     replace q211 := eq_true q211
                     have ea_ := Option.some.inj (hx204_0.symm.trans hx211_0)
                     injection ea_ with ea_ en_ ec_
                     subst ea_
                     subst ec_
                     clear en_
                     have p212 : 0 ≤ (0 : Int) := (by omega)
                     have q212 : 0 < ((rd_L4 t196 x32_4).length : Int) := of_decide_eq_true (by first | (with_reducible assumption) | assumption)
                     obtain ⟨ad212, A212_1, c212_1, e212, hx212_0, hx212_1, hl212_1, hi212_1⟩ := at_T50 (by repeat (first | (with_reducible exact HR211_0.out) | (with_reducible refine Kd.C_alloc ?_ _) | (with_reducible refine Kd.C_drewN ?_ _) | (with_reducible refine Kd.C_drew ?_) | exact HR211_0.out)) 0 p212 q212
                     cases e212
                     obtain ⟨ce212, hce212, hMe212, hcc212⟩ := Kd.V_get HL211_0.out z50 0 p212 (by first | exact q212 | exact of_decide_eq_true (by first | (with_reducible assumption) | assumption) | (have e_ := (Kd.V_reads' HL211_0.out).1; omega))
                     obtain ⟨ua212_1, uc212_1, rfl, ul212_1, ge212_1⟩ := k50_openF hMe212
                     have hv212_1 := hcc212 1 _ rfl
                     rw [add_field _ _ 1 (by omega)] at hv212_1
                     replace hv212_1 := Option.some.inj (hv212_1.symm.trans hx212_1)
                     injection hv212_1 with hva_ hvn_ hvc_
                     rw [hva_] at ge212_1
                     rw [hvc_] at ul212_1
                     have HL212_1 := Aside0.mk (show Kd.V (Kd.int .u8) 5 _ w.heap.size _ _ ((rd_T50 (rd_L4 t196 x32_4) 0).f1) from Kd.V_mk ul212_1 ge212_1)
                     clear hva_ hvn_ hvc_ ge212_1 ul212_1
                     clear hcc212 hce212
                     have qi212 : (0 < (rd_L4 t196 x32_4).length) = True := eq_true (by omega)
                     (try rw [show ((0 : Int)).toNat = 0 from rfl] at hx212_0)
                     (try rw [show 0 * 2 = 0 from rfl] at hx212_0)
                     (try rw [Addr.add_zero'] at hx212_0)
                     (try rw [show ((0 : Int)).toNat = 0 from rfl] at hx212_1)
                     (try rw [show 0 * 2 = 0 from rfl] at hx212_1)
                     (try rw [Addr.add_zero'] at hx212_1)
                     have HR212_1 := Aside0.mk hi212_1
                     have HC212_1 := Aside0.mk hl212_1
                     clear hi212_1 hl212_1
                     replace p212 := eq_true p212
                     replace q212 := eq_true q212
                     have p213 : 0 ≤ (1 : Int) := (by omega)
                     have q213 : 1 < (((rd_T50 (rd_L4 t196 x32_4) 0).f1).length : Int) := of_decide_eq_true (by first | (with_reducible assumption) | assumption)
                     obtain ⟨ad213, e213, hx213_0⟩ := Kd.at_int (by repeat (first | (with_reducible exact HR212_1.out) | (with_reducible refine Kd.C_alloc ?_ _) | (with_reducible refine Kd.C_drewN ?_ _) | (with_reducible refine Kd.C_drew ?_) | exact HR212_1.out)) 1 p213 q213
                     cases e213
                     (try simp only [show (1 : Int).toNat = 1 from rfl, Nat.reduceMul, Nat.reduceEqDiff, Go.Addr.add, ↓reduceIte] at hx213_0)
                     have qi213 : (1 < ((rd_T50 (rd_L4 t196 x32_4) 0).f1).length) = True := eq_true (by omega)
                     (try rw [show ((1 : Int)).toNat = 1 from rfl] at hx213_0)
                     replace p213 := eq_true p213
                     replace q213 := eq_true q213
                     have ea_ := Option.some.inj (hx207_1.symm.trans hx209_1)
                     injection ea_ with ea_ en_ ec_
                     subst ea_
                     subst ec_
                     clear en_ hx207_1 hx209_0
                     have ea_ := Option.some.inj (hx209_1.symm.trans hx212_1)
                     injection ea_ with ea_ en_ ec_
                     injection ea_ with ea_
                     subst ea_
                     subst ec_
                     clear en_ hx209_1 hx212_0 hx211_0
                     go_quiet (fail)
                     try go_wp2
                     go_meet
                     case rel => exact ⟨_, (((rd ((rd_T50 (rd_L4 t196 x32_4) 0).f1) 1) != ((x32_4) % 256))), (by first | rfl | (simp; done) | (simp [*]; done)), H', ⟨by have := HK1.out; have := HJ16.out; have := HJ91.out; have := HK4.out; first | omega | exact Nat.le_refl _⟩, ⟨by (with_reducible repeat (first | apply Kd.N_alloc | apply Kd.N_drewN | apply Kd.N_drew)); exact HO_29.out⟩, ⟨by (with_reducible repeat (first | refine blk_drewN ?_ _ | refine blk_drew ?_ | refine blk_alloc ?_ _)); exact BK156.out⟩, ⟨by (with_reducible repeat (first | refine blk_drewN ?_ _ | refine blk_drew ?_ | refine blk_alloc ?_ _)); exact BK166.out⟩, ⟨by (with_reducible repeat (first | refine blk_drewN ?_ _ | refine blk_drew ?_ | refine blk_alloc ?_ _)); exact BK202.out⟩, ⟨by repeat (first | (with_reducible first | exact HB.out | apply below_alloc | apply pw_below_drewN | apply below_drew1 | refine below_set ?_ GE156.out | refine below_set ?_ GE166.out | refine below_set ?_ GE202.out) | exact HB.out)⟩⟩
                    ·rw [if_neg c127] at H
                     exact absurd H (by simp)
                   ·rw [if_neg c126] at H
                    have c126b0 : ((rd ((rd_T50 (rd_L4 t196 x32_4) 0).f1) 0) == a4) = false := beq_eq_false_iff_ne.mpr c126
                    have c126b1 : ((rd ((rd_T50 (rd_L4 t196 x32_4) 0).f1) 0) != a4) = true := bne_iff_ne.mpr c126
                    have H' := Aside0.mk H
                    clear H
                    try go_wp2
                    have p204 : 0 ≤ (x32_4 : Int) := of_decide_eq_true (by first | (with_reducible assumption) | assumption)
                    have q204 : x32_4 < (t196.length : Int) := of_decide_eq_true (by first | (with_reducible assumption) | assumption)
                    obtain ⟨ad204, A204_0, c204_0, e204, hx204_0, hl204_0, hi204_0⟩ := at_L4 (Kd.N_reads' HO_29.out).2.2 x32_4 p204 q204
                    cases e204
                    obtain ⟨ce204, hce204, hMe204, hcc204⟩ := Kd.N_get HO_29.out [] x32_4 p204 (by first | exact q204 | exact of_decide_eq_true (by first | (with_reducible assumption) | assumption) | (have e_ := (Kd.N_reads' HO_29.out).1; omega))
                    obtain ⟨ua204_0, uc204_0, rfl, ul204_0, ge204_0⟩ := Kd.FK_slice_open hMe204
                    have hv204_0 := hcc204 0 _ rfl
                    rw [Nat.add_zero, show ((Kd.slice 50 k50)).sz = 1 from rfl, Nat.mul_one] at hv204_0
                    replace hv204_0 := Option.some.inj (hv204_0.symm.trans hx204_0)
                    injection hv204_0 with hva_ hvn_ hvc_
                    rw [hva_] at ge204_0
                    rw [hvc_] at ul204_0
                    have HL204_0 := Aside0.mk (show Kd.V k50 50 _ w.heap.size _ _ (rd_L4 t196 x32_4) from Kd.V_mk ul204_0 ge204_0)
                    clear hva_ hvn_ hvc_ ge204_0 ul204_0
                    clear hcc204 hce204
                    have HR204_0 := Aside0.mk hi204_0
                    have HC204_0 := Aside0.mk hl204_0
                    clear hi204_0 hl204_0
                    replace p204 := eq_true p204
                    replace q204 := eq_true q204
                    have p205 : 0 ≤ (x32_4 : Int) := of_decide_eq_true (by first | (with_reducible assumption) | assumption)
                    have q205 : x32_4 < (l2.length : Int) := of_decide_eq_true (by first | (with_reducible assumption) | assumption)
                    obtain ⟨ad205, e205, hx205_0⟩ := Kd.at_int HR2.out x32_4 p205 q205
                    have hw205_0 := hx205_0
                    cases e205
                    replace hx205_0 := (HB.out.cell (World.block_lt_of_cell? w _ hx205_0)).trans hx205_0
                    replace p205 := eq_true p205
                    replace q205 := eq_true q205
                    have p206 : 0 ≤ (x32_4 : Int) := of_decide_eq_true (by first | (with_reducible assumption) | assumption)
                    have q206 : x32_4 < (t196.length : Int) := of_decide_eq_true (by first | (with_reducible assumption) | assumption)
                    obtain ⟨ad206, A206_0, c206_0, e206, hx206_0, hl206_0, hi206_0⟩ := at_L4 (Kd.N_reads' HO_29.out).2.2 x32_4 p206 q206
                    obtain rfl : ad204 = ad206 := (by injection e206)
                    obtain ⟨ce206, hce206, hMe206, hcc206⟩ := Kd.N_get HO_29.out [] x32_4 p206 (by first | exact q206 | exact of_decide_eq_true (by first | (with_reducible assumption) | assumption) | (have e_ := (Kd.N_reads' HO_29.out).1; omega))
                    obtain ⟨ua206_0, uc206_0, rfl, ul206_0, ge206_0⟩ := Kd.FK_slice_open hMe206
                    have hv206_0 := hcc206 0 _ rfl
                    rw [Nat.add_zero, show ((Kd.slice 50 k50)).sz = 1 from rfl, Nat.mul_one] at hv206_0
                    replace hv206_0 := Option.some.inj (hv206_0.symm.trans hx206_0)
                    injection hv206_0 with hva_ hvn_ hvc_
                    rw [hva_] at ge206_0
                    rw [hvc_] at ul206_0
                    have HL206_0 := Aside0.mk (show Kd.V k50 50 _ w.heap.size _ _ (rd_L4 t196 x32_4) from Kd.V_mk ul206_0 ge206_0)
                    clear hva_ hvn_ hvc_ ge206_0 ul206_0
                    clear hcc206 hce206
                    have HR206_0 := Aside0.mk hi206_0
                    have HC206_0 := Aside0.mk hl206_0
                    clear hi206_0 hl206_0
                    replace p206 := eq_true p206
                    replace q206 := eq_true q206
                    have ea_ := Option.some.inj (hx204_0.symm.trans hx206_0)
                    injection ea_ with ea_ en_ ec_
                    subst ea_
                    subst ec_
                    clear en_
                    have p207 : 0 ≤ (0 : Int) := (by omega)
                    have q207 : 0 < ((rd_L4 t196 x32_4).length : Int) := of_decide_eq_true (by first | (with_reducible assumption) | assumption)
                    obtain ⟨ad207, A207_1, c207_1, e207, hx207_0, hx207_1, hl207_1, hi207_1⟩ := at_T50 (by repeat (first | (with_reducible exact HR206_0.out) | (with_reducible refine Kd.C_alloc ?_ _) | (with_reducible refine Kd.C_drewN ?_ _) | (with_reducible refine Kd.C_drew ?_) | exact HR206_0.out)) 0 p207 q207
                    cases e207
                    obtain ⟨ce207, hce207, hMe207, hcc207⟩ := Kd.V_get HL206_0.out z50 0 p207 (by first | exact q207 | exact of_decide_eq_true (by first | (with_reducible assumption) | assumption) | (have e_ := (Kd.V_reads' HL206_0.out).1; omega))
                    obtain ⟨ua207_1, uc207_1, rfl, ul207_1, ge207_1⟩ := k50_openF hMe207
                    have hv207_1 := hcc207 1 _ rfl
                    rw [add_field _ _ 1 (by omega)] at hv207_1
                    replace hv207_1 := Option.some.inj (hv207_1.symm.trans hx207_1)
                    injection hv207_1 with hva_ hvn_ hvc_
                    rw [hva_] at ge207_1
                    rw [hvc_] at ul207_1
                    have HL207_1 := Aside0.mk (show Kd.V (Kd.int .u8) 5 _ w.heap.size _ _ ((rd_T50 (rd_L4 t196 x32_4) 0).f1) from Kd.V_mk ul207_1 ge207_1)
                    clear hva_ hvn_ hvc_ ge207_1 ul207_1
                    clear hcc207 hce207
                    have qi207 : (0 < (rd_L4 t196 x32_4).length) = True := eq_true (by omega)
                    (try rw [show ((0 : Int)).toNat = 0 from rfl] at hx207_0)
                    (try rw [show 0 * 2 = 0 from rfl] at hx207_0)
                    (try rw [Addr.add_zero'] at hx207_0)
                    (try rw [show ((0 : Int)).toNat = 0 from rfl] at hx207_1)
                    (try rw [show 0 * 2 = 0 from rfl] at hx207_1)
                    (try rw [Addr.add_zero'] at hx207_1)
                    have HR207_1 := Aside0.mk hi207_1
                    have HC207_1 := Aside0.mk hl207_1
                    clear hi207_1 hl207_1
                    replace p207 := eq_true p207
                    replace q207 := eq_true q207
                    have p208 : 0 ≤ (x32_4 : Int) := of_decide_eq_true (by first | (with_reducible assumption) | assumption)
                    have q208 : x32_4 < (t196.length : Int) := of_decide_eq_true (by first | (with_reducible assumption) | assumption)
                    obtain ⟨ad208, A208_0, c208_0, e208, hx208_0, hl208_0, hi208_0⟩ := at_L4 (Kd.N_reads' HO_29.out).2.2 x32_4 p208 q208
                    obtain rfl : ad204 = ad208 := (by injection e208)
                    obtain ⟨ce208, hce208, hMe208, hcc208⟩ := Kd.N_get HO_29.out [] x32_4 p208 (by first | exact q208 | exact of_decide_eq_true (by first | (with_reducible assumption) | assumption) | (have e_ := (Kd.N_reads' HO_29.out).1; omega))
                    obtain ⟨ua208_0, uc208_0, rfl, ul208_0, ge208_0⟩ := Kd.FK_slice_open hMe208
                    have hv208_0 := hcc208 0 _ rfl
                    rw [Nat.add_zero, show ((Kd.slice 50 k50)).sz = 1 from rfl, Nat.mul_one] at hv208_0
                    replace hv208_0 := Option.some.inj (hv208_0.symm.trans hx208_0)
                    injection hv208_0 with hva_ hvn_ hvc_
                    rw [hva_] at ge208_0
                    rw [hvc_] at ul208_0
                    have HL208_0 := Aside0.mk (show Kd.V k50 50 _ w.heap.size _ _ (rd_L4 t196 x32_4) from Kd.V_mk ul208_0 ge208_0)
                    clear hva_ hvn_ hvc_ ge208_0 ul208_0
                    clear hcc208 hce208
                    have HR208_0 := Aside0.mk hi208_0
                    have HC208_0 := Aside0.mk hl208_0
                    clear hi208_0 hl208_0
                    replace p208 := eq_true p208
                    replace q208 := eq_true q208
                    have ea_ := Option.some.inj (hx204_0.symm.trans hx208_0)
                    injection ea_ with ea_ en_ ec_
                    subst ea_
                    subst ec_
                    clear en_
                    have p209 : 0 ≤ (0 : Int) := (by omega)
                    have q209 : 0 < ((rd_L4 t196 x32_4).length : Int) := of_decide_eq_true (by first | (with_reducible assumption) | assumption)
                    obtain ⟨ad209, A209_1, c209_1, e209, hx209_0, hx209_1, hl209_1, hi209_1⟩ := at_T50 (by repeat (first | (with_reducible exact HR208_0.out) | (with_reducible refine Kd.C_alloc ?_ _) | (with_reducible refine Kd.C_drewN ?_ _) | (with_reducible refine Kd.C_drew ?_) | exact HR208_0.out)) 0 p209 q209
                    cases e209
                    obtain ⟨ce209, hce209, hMe209, hcc209⟩ := Kd.V_get HL208_0.out z50 0 p209 (by first | exact q209 | exact of_decide_eq_true (by first | (with_reducible assumption) | assumption) | (have e_ := (Kd.V_reads' HL208_0.out).1; omega))
                    obtain ⟨ua209_1, uc209_1, rfl, ul209_1, ge209_1⟩ := k50_openF hMe209
                    have hv209_1 := hcc209 1 _ rfl
                    rw [add_field _ _ 1 (by omega)] at hv209_1
                    replace hv209_1 := Option.some.inj (hv209_1.symm.trans hx209_1)
                    injection hv209_1 with hva_ hvn_ hvc_
                    rw [hva_] at ge209_1
                    rw [hvc_] at ul209_1
                    have HL209_1 := Aside0.mk (show Kd.V (Kd.int .u8) 5 _ w.heap.size _ _ ((rd_T50 (rd_L4 t196 x32_4) 0).f1) from Kd.V_mk ul209_1 ge209_1)
                    clear hva_ hvn_ hvc_ ge209_1 ul209_1
                    clear hcc209 hce209
                    have qi209 : (0 < (rd_L4 t196 x32_4).length) = True := eq_true (by omega)
                    (try rw [show ((0 : Int)).toNat = 0 from rfl] at hx209_0)
                    (try rw [show 0 * 2 = 0 from rfl] at hx209_0)
                    (try rw [Addr.add_zero'] at hx209_0)
                    (try rw [show ((0 : Int)).toNat = 0 from rfl] at hx209_1)
                    (try rw [show 0 * 2 = 0 from rfl] at hx209_1)
                    (try rw [Addr.add_zero'] at hx209_1)
                    have HR209_1 := Aside0.mk hi209_1
                    have HC209_1 := Aside0.mk hl209_1
                    clear hi209_1 hl209_1
                    replace p209 := eq_true p209
                    replace q209 := eq_true q209
                    have p210 : 0 ≤ (0 : Int) := (by omega)
                    have q210 : 0 < (((rd_T50 (rd_L4 t196 x32_4) 0).f1).length : Int) := of_decide_eq_true (by first | (with_reducible assumption) | assumption)
                    obtain ⟨ad210, e210, hx210_0⟩ := Kd.at_int (by repeat (first | (with_reducible exact HR209_1.out) | (with_reducible refine Kd.C_alloc ?_ _) | (with_reducible refine Kd.C_drewN ?_ _) | (with_reducible refine Kd.C_drew ?_) | exact HR209_1.out)) 0 p210 q210
                    cases e210
                    have qi210 : (0 < ((rd_T50 (rd_L4 t196 x32_4) 0).f1).length) = True := eq_true (by omega)
                    (try rw [show ((0 : Int)).toNat = 0 from rfl] at hx210_0)
                    (try rw [Addr.add_zero'] at hx210_0)
                    replace p210 := eq_true p210
                    replace q210 := eq_true q210
                    have ea_ := Option.some.inj (hx207_1.symm.trans hx209_1)
                    injection ea_ with ea_ en_ ec_
                    subst ea_
                    subst ec_
                    clear en_ hx207_1 hx209_0
                    go_quiet (fail)
                    try go_wp2
                    go_meet
                    case rel => exact ⟨_, (true), (by first | rfl | (simp; done) | (simp [*]; done)), H', ⟨by have := HK1.out; have := HJ16.out; have := HJ91.out; have := HK4.out; first | omega | exact Nat.le_refl _⟩, ⟨by (with_reducible repeat (first | apply Kd.N_alloc | apply Kd.N_drewN | apply Kd.N_drew)); exact HO_29.out⟩, ⟨by (with_reducible repeat (first | refine blk_drewN ?_ _ | refine blk_drew ?_ | refine blk_alloc ?_ _)); exact BK156.out⟩, ⟨by (with_reducible repeat (first | refine blk_drewN ?_ _ | refine blk_drew ?_ | refine blk_alloc ?_ _)); exact BK166.out⟩, ⟨by (with_reducible repeat (first | refine blk_drewN ?_ _ | refine blk_drew ?_ | refine blk_alloc ?_ _)); exact BK202.out⟩, ⟨by repeat (first | (with_reducible first | exact HB.out | apply below_alloc | apply pw_below_drewN | apply below_drew1 | refine below_set ?_ GE156.out | refine below_set ?_ GE166.out | refine below_set ?_ GE202.out) | exact HB.out)⟩⟩
                  ·rw [if_neg c125] at H
                   exact absurd H (by simp)
                 ·rw [if_neg c124] at H
                  have c124b0 : (((rd_T50 (rd_L4 t196 x32_4) 0).f0) == (wrap64 (60 + (wrap64 (7 * x32_4))))) = false := beq_eq_false_iff_ne.mpr c124
                  have c124b1 : (((rd_T50 (rd_L4 t196 x32_4) 0).f0) != (wrap64 (60 + (wrap64 (7 * x32_4))))) = true := bne_iff_ne.mpr c124
                  have H' := Aside0.mk H
                  clear H
                  try go_wp2
                  have p204 : 0 ≤ (x32_4 : Int) := of_decide_eq_true (by first | (with_reducible assumption) | assumption)
                  have q204 : x32_4 < (t196.length : Int) := of_decide_eq_true (by first | (with_reducible assumption) | assumption)
                  obtain ⟨ad204, A204_0, c204_0, e204, hx204_0, hl204_0, hi204_0⟩ := at_L4 (Kd.N_reads' HO_29.out).2.2 x32_4 p204 q204
                  cases e204
                  obtain ⟨ce204, hce204, hMe204, hcc204⟩ := Kd.N_get HO_29.out [] x32_4 p204 (by first | exact q204 | exact of_decide_eq_true (by first | (with_reducible assumption) | assumption) | (have e_ := (Kd.N_reads' HO_29.out).1; omega))
                  obtain ⟨ua204_0, uc204_0, rfl, ul204_0, ge204_0⟩ := Kd.FK_slice_open hMe204
                  have hv204_0 := hcc204 0 _ rfl
                  rw [Nat.add_zero, show ((Kd.slice 50 k50)).sz = 1 from rfl, Nat.mul_one] at hv204_0
                  replace hv204_0 := Option.some.inj (hv204_0.symm.trans hx204_0)
                  injection hv204_0 with hva_ hvn_ hvc_
                  rw [hva_] at ge204_0
                  rw [hvc_] at ul204_0
                  have HL204_0 := Aside0.mk (show Kd.V k50 50 _ w.heap.size _ _ (rd_L4 t196 x32_4) from Kd.V_mk ul204_0 ge204_0)
                  clear hva_ hvn_ hvc_ ge204_0 ul204_0
                  clear hcc204 hce204
                  have HR204_0 := Aside0.mk hi204_0
                  have HC204_0 := Aside0.mk hl204_0
                  clear hi204_0 hl204_0
                  replace p204 := eq_true p204
                  replace q204 := eq_true q204
                  have p205 : 0 ≤ (x32_4 : Int) := of_decide_eq_true (by first | (with_reducible assumption) | assumption)
                  have q205 : x32_4 < (l2.length : Int) := of_decide_eq_true (by first | (with_reducible assumption) | assumption)
                  obtain ⟨ad205, e205, hx205_0⟩ := Kd.at_int HR2.out x32_4 p205 q205
                  have hw205_0 := hx205_0
                  cases e205
                  replace hx205_0 := (HB.out.cell (World.block_lt_of_cell? w _ hx205_0)).trans hx205_0
                  replace p205 := eq_true p205
                  replace q205 := eq_true q205
                  have p206 : 0 ≤ (x32_4 : Int) := of_decide_eq_true (by first | (with_reducible assumption) | assumption)
                  have q206 : x32_4 < (t196.length : Int) := of_decide_eq_true (by first | (with_reducible assumption) | assumption)
                  obtain ⟨ad206, A206_0, c206_0, e206, hx206_0, hl206_0, hi206_0⟩ := at_L4 (Kd.N_reads' HO_29.out).2.2 x32_4 p206 q206
                  obtain rfl : ad204 = ad206 := (by injection e206)
                  obtain ⟨ce206, hce206, hMe206, hcc206⟩ := Kd.N_get HO_29.out [] x32_4 p206 (by first | exact q206 | exact of_decide_eq_true (by first | (with_reducible assumption) | assumption) | (have e_ := (Kd.N_reads' HO_29.out).1; omega))
                  obtain ⟨ua206_0, uc206_0, rfl, ul206_0, ge206_0⟩ := Kd.FK_slice_open hMe206
                  have hv206_0 := hcc206 0 _ rfl
                  rw [Nat.add_zero, show ((Kd.slice 50 k50)).sz = 1 from rfl, Nat.mul_one] at hv206_0
                  replace hv206_0 := Option.some.inj (hv206_0.symm.trans hx206_0)
                  injection hv206_0 with hva_ hvn_ hvc_
                  rw [hva_] at ge206_0
                  rw [hvc_] at ul206_0
                  have HL206_0 := Aside0.mk (show Kd.V k50 50 _ w.heap.size _ _ (rd_L4 t196 x32_4) from Kd.V_mk ul206_0 ge206_0)
                  clear hva_ hvn_ hvc_ ge206_0 ul206_0
                  clear hcc206 hce206
                  have HR206_0 := Aside0.mk hi206_0
                  have HC206_0 := Aside0.mk hl206_0
                  clear hi206_0 hl206_0
                  replace p206 := eq_true p206
                  replace q206 := eq_true q206
                  have ea_ := Option.some.inj (hx204_0.symm.trans hx206_0)
                  injection ea_ with ea_ en_ ec_
                  subst ea_
                  subst ec_
                  clear en_
                  have p207 : 0 ≤ (0 : Int) := (by omega)
                  have q207 : 0 < ((rd_L4 t196 x32_4).length : Int) := of_decide_eq_true (by first | (with_reducible assumption) | assumption)
                  obtain ⟨ad207, A207_1, c207_1, e207, hx207_0, hx207_1, hl207_1, hi207_1⟩ := at_T50 (by repeat (first | (with_reducible exact HR206_0.out) | (with_reducible refine Kd.C_alloc ?_ _) | (with_reducible refine Kd.C_drewN ?_ _) | (with_reducible refine Kd.C_drew ?_) | exact HR206_0.out)) 0 p207 q207
                  cases e207
                  obtain ⟨ce207, hce207, hMe207, hcc207⟩ := Kd.V_get HL206_0.out z50 0 p207 (by first | exact q207 | exact of_decide_eq_true (by first | (with_reducible assumption) | assumption) | (have e_ := (Kd.V_reads' HL206_0.out).1; omega))
                  obtain ⟨ua207_1, uc207_1, rfl, ul207_1, ge207_1⟩ := k50_openF hMe207
                  have hv207_1 := hcc207 1 _ rfl
                  rw [add_field _ _ 1 (by omega)] at hv207_1
                  replace hv207_1 := Option.some.inj (hv207_1.symm.trans hx207_1)
                  injection hv207_1 with hva_ hvn_ hvc_
                  rw [hva_] at ge207_1
                  rw [hvc_] at ul207_1
                  have HL207_1 := Aside0.mk (show Kd.V (Kd.int .u8) 5 _ w.heap.size _ _ ((rd_T50 (rd_L4 t196 x32_4) 0).f1) from Kd.V_mk ul207_1 ge207_1)
                  clear hva_ hvn_ hvc_ ge207_1 ul207_1
                  clear hcc207 hce207
                  have qi207 : (0 < (rd_L4 t196 x32_4).length) = True := eq_true (by omega)
                  (try rw [show ((0 : Int)).toNat = 0 from rfl] at hx207_0)
                  (try rw [show 0 * 2 = 0 from rfl] at hx207_0)
                  (try rw [Addr.add_zero'] at hx207_0)
                  (try rw [show ((0 : Int)).toNat = 0 from rfl] at hx207_1)
                  (try rw [show 0 * 2 = 0 from rfl] at hx207_1)
                  (try rw [Addr.add_zero'] at hx207_1)
                  have HR207_1 := Aside0.mk hi207_1
                  have HC207_1 := Aside0.mk hl207_1
                  clear hi207_1 hl207_1
                  replace p207 := eq_true p207
                  replace q207 := eq_true q207
                  go_quiet (fail)
                  try go_wp2
                  go_meet
                  case rel => exact ⟨_, (true), (by first | rfl | (simp; done) | (simp [*]; done)), H', ⟨by have := HK1.out; have := HJ16.out; have := HJ91.out; have := HK4.out; first | omega | exact Nat.le_refl _⟩, ⟨by (with_reducible repeat (first | apply Kd.N_alloc | apply Kd.N_drewN | apply Kd.N_drew)); exact HO_29.out⟩, ⟨by (with_reducible repeat (first | refine blk_drewN ?_ _ | refine blk_drew ?_ | refine blk_alloc ?_ _)); exact BK156.out⟩, ⟨by (with_reducible repeat (first | refine blk_drewN ?_ _ | refine blk_drew ?_ | refine blk_alloc ?_ _)); exact BK166.out⟩, ⟨by (with_reducible repeat (first | refine blk_drewN ?_ _ | refine blk_drew ?_ | refine blk_alloc ?_ _)); exact BK202.out⟩, ⟨by repeat (first | (with_reducible first | exact HB.out | apply below_alloc | apply pw_below_drewN | apply below_drew1 | refine below_set ?_ GE156.out | refine below_set ?_ GE166.out | refine below_set ?_ GE202.out) | exact HB.out)⟩⟩
                ·rw [if_neg c123] at H
                 exact absurd H (by simp)
               ·rw [if_neg c122] at H
                have c122b0 : (((rd_L4 t196 x32_4).length : Int) == (wrap64 ((wrap64 (Int.tmod (rd l2 x32_4) 5)) + 1))) = false := beq_eq_false_iff_ne.mpr c122
                have c122b1 : (((rd_L4 t196 x32_4).length : Int) != (wrap64 ((wrap64 (Int.tmod (rd l2 x32_4) 5)) + 1))) = true := bne_iff_ne.mpr c122
                have H' := Aside0.mk H
                clear H
                try go_wp2
                have p204 : 0 ≤ (x32_4 : Int) := of_decide_eq_true (by first | (with_reducible assumption) | assumption)
                have q204 : x32_4 < (t196.length : Int) := of_decide_eq_true (by first | (with_reducible assumption) | assumption)
                obtain ⟨ad204, A204_0, c204_0, e204, hx204_0, hl204_0, hi204_0⟩ := at_L4 (Kd.N_reads' HO_29.out).2.2 x32_4 p204 q204
                cases e204
                obtain ⟨ce204, hce204, hMe204, hcc204⟩ := Kd.N_get HO_29.out [] x32_4 p204 (by first | exact q204 | exact of_decide_eq_true (by first | (with_reducible assumption) | assumption) | (have e_ := (Kd.N_reads' HO_29.out).1; omega))
                obtain ⟨ua204_0, uc204_0, rfl, ul204_0, ge204_0⟩ := Kd.FK_slice_open hMe204
                have hv204_0 := hcc204 0 _ rfl
                rw [Nat.add_zero, show ((Kd.slice 50 k50)).sz = 1 from rfl, Nat.mul_one] at hv204_0
                replace hv204_0 := Option.some.inj (hv204_0.symm.trans hx204_0)
                injection hv204_0 with hva_ hvn_ hvc_
                rw [hva_] at ge204_0
                rw [hvc_] at ul204_0
                have HL204_0 := Aside0.mk (show Kd.V k50 50 _ w.heap.size _ _ (rd_L4 t196 x32_4) from Kd.V_mk ul204_0 ge204_0)
                clear hva_ hvn_ hvc_ ge204_0 ul204_0
                clear hcc204 hce204
                have HR204_0 := Aside0.mk hi204_0
                have HC204_0 := Aside0.mk hl204_0
                clear hi204_0 hl204_0
                replace p204 := eq_true p204
                replace q204 := eq_true q204
                have p205 : 0 ≤ (x32_4 : Int) := of_decide_eq_true (by first | (with_reducible assumption) | assumption)
                have q205 : x32_4 < (l2.length : Int) := of_decide_eq_true (by first | (with_reducible assumption) | assumption)
                obtain ⟨ad205, e205, hx205_0⟩ := Kd.at_int HR2.out x32_4 p205 q205
                have hw205_0 := hx205_0
                cases e205
                replace hx205_0 := (HB.out.cell (World.block_lt_of_cell? w _ hx205_0)).trans hx205_0
                replace p205 := eq_true p205
                replace q205 := eq_true q205
                go_quiet (fail)
                try go_wp2
                go_meet
                case rel => exact ⟨_, (true), (by first | rfl | (simp; done) | (simp [*]; done)), H', ⟨by have := HK1.out; have := HJ16.out; have := HJ91.out; have := HK4.out; first | omega | exact Nat.le_refl _⟩, ⟨by (with_reducible repeat (first | apply Kd.N_alloc | apply Kd.N_drewN | apply Kd.N_drew)); exact HO_29.out⟩, ⟨by (with_reducible repeat (first | refine blk_drewN ?_ _ | refine blk_drew ?_ | refine blk_alloc ?_ _)); exact BK156.out⟩, ⟨by (with_reducible repeat (first | refine blk_drewN ?_ _ | refine blk_drew ?_ | refine blk_alloc ?_ _)); exact BK166.out⟩, ⟨by (with_reducible repeat (first | refine blk_drewN ?_ _ | refine blk_drew ?_ | refine blk_alloc ?_ _)); exact BK202.out⟩, ⟨by repeat (first | (with_reducible first | exact HB.out | apply below_alloc | apply pw_below_drewN | apply below_drew1 | refine below_set ?_ GE156.out | refine below_set ?_ GE166.out | refine below_set ?_ GE202.out) | exact HB.out)⟩⟩
              ·rw [if_neg c121] at H
               exact absurd H (by simp)
             ·rw [if_neg c120] at H
              exact absurd H (by simp)
            case rest => as_aux_lemma =>
             clear HC118
             try clear c1
             try clear c2
             try clear p2
             try clear q2
             try clear hx2
             try clear p6
             try clear c12
             try clear c20
             try clear p20
             try clear q20
             try clear hx20
             try clear p64
             try clear c120
             try clear c121
             try clear c122
             try clear c122b0
             try clear c122b1
             try clear c123
             try clear hx204_0
             try clear hx205_0
             try clear p204
             try clear p205
             try clear q204
             try clear q205
             obtain ⟨kq, x251_117, rfl, HA, HJ117, HO_29, BK156, BK166, BK202, HB⟩ := hcut
             cases kq with
             | zero => exact absurd HA.out (by simp [drydocklaw15_LogWhole.j9])
             | succ kj117 =>
              have H := HA.out
              clear HA
              simp only [drydocklaw15_LogWhole.j9] at H
              by_cases c132 : x251_117 = true
              ·subst c132
               have H1 : (some false) = some r := by rw [if_pos rfl] at H; exact H
               clear H
               have H := H1
               clear H1
               obtain rfl := Option.some.inj H
               go_wp2
               go_ret
               exact ⟨by first | rfl | (simp [errW_none, errW_some] <;> rfl) | (simp [*, errW_none, errW_some] <;> rfl), by repeat (first | (with_reducible first | exact HB.out | apply below_alloc | apply pw_below_drewN | apply below_drew1 | refine below_set ?_ GE156.out | refine below_set ?_ GE166.out | refine below_set ?_ GE202.out) | exact HB.out)⟩
              ·replace c132 := Bool.eq_false_iff.mpr c132
               subst c132
               have H1 : (drydocklaw15_LogWhole.l5 kj117 l2 a4 t196 (wrap64 (x32_4 + 1))) = some r := by rw [if_neg (show ¬ (false = true) by decide)] at H; exact H
               clear H
               have H := H1
               clear H1
               have H' := Aside0.mk H
               clear H
               go_wp2
               go_roundg kj117
               case measure => have := HK1.out; have := HJ16.out; have := HJ91.out; have := HK4.out; have := HJ117.out; omega
               case rel => exact ⟨(wrap64 (x32_4 + 1)), (by first | rfl | (simp; done) | (simp [*]; done)), H', ⟨by have := HK1.out; have := HJ16.out; have := HJ91.out; have := HK4.out; have := HJ117.out; omega⟩, ⟨by (with_reducible repeat (first | apply Kd.N_alloc | apply Kd.N_drewN | apply Kd.N_drew)); exact HO_29.out⟩, ⟨by (with_reducible repeat (first | refine blk_drewN ?_ _ | refine blk_drew ?_ | refine blk_alloc ?_ _)); exact BK156.out⟩, ⟨by (with_reducible repeat (first | refine blk_drewN ?_ _ | refine blk_drew ?_ | refine blk_alloc ?_ _)); exact BK166.out⟩, ⟨by (with_reducible repeat (first | refine blk_drewN ?_ _ | refine blk_drew ?_ | refine blk_alloc ?_ _)); exact BK202.out⟩, ⟨by repeat (first | (with_reducible first | exact HB.out | apply below_alloc | apply pw_below_drewN | apply below_drew1 | refine below_set ?_ GE156.out | refine below_set ?_ GE166.out | refine below_set ?_ GE202.out) | exact HB.out)⟩⟩
           ·rw [if_neg c117] at H
            have c117b0 : decide (x32_4 < (t196.length : Int)) = false := decide_eq_false c117
            clear c117
            obtain rfl := Option.some.inj H
            obtain ⟨Ao133, co133, eo133⟩ := Kd.N_slice HO_29.out
            subst eo133
            go_wp2
            go_ret
            exact ⟨by first | rfl | (simp [errW_none, errW_some] <;> rfl) | (simp [*, errW_none, errW_some] <;> rfl), by repeat (first | (with_reducible first | exact HB.out | apply below_alloc | apply pw_below_drewN | apply below_drew1 | refine below_set ?_ GE156.out | refine below_set ?_ GE166.out | refine below_set ?_ GE202.out) | exact HB.out)⟩

/-- THE ONE PURE STATEMENT of drydocklaw15_LogWhole: yours. -/
def drydocklaw15_LogWhole.Pure : Prop := ∀ (a0 : Int) (a1 : Int) (l2 : List Int) (a3 : Int) (a4 : Int), (Lit.int .u8 a0).wf = true → (Lit.int .u16 a1).wf = true → l2.length ≤ maxLen → l2.length * 1 ≤ 140737488351232 → (∀ x ∈ l2, (Lit.int .u8 x).wf = true) → (Lit.int .u8 a3).wf = true → (Lit.int .u8 a4).wf = true → ∃ k, drydocklaw15_LogWhole.f k a0 a1 l2 a3 a4 = some true
theorem drydocklaw15_LogWhole.walk (P : drydocklaw15_LogWhole.Pure) (a0 : Int) (a1 : Int) (a2 : Option Addr) (len2 cap2 : Nat) (z2 : List Int) (a3 : Int) (a4 : Int) (w : World) (w0 : (Lit.int .u8 a0).wf = true) (w1 : (Lit.int .u16 a1).wf = true) (w2 : (a2 = none ∧ len2 = 0 ∧ cap2 = 0 ∧ z2 = []) ∨ ∃ x, a2 = some x ∧ len2 ≤ cap2 ∧ cap2 ≤ maxLen ∧ z2.length = cap2 ∧ (∀ i, i < z2.length → w.cell? (x.add i) = some (.int .u8 (z2.getD i 0))) ∧ ∀ n ∈ z2, (Lit.int .u8 n).wf = true) (y2 : len2 * 1 ≤ 140737488351232) (w3 : (Lit.int .u8 a3).wf = true) (w4 : (Lit.int .u8 a4).wf = true) :
  Calls Try.prog 7 #[.int .u8 a0, .int .u16 a1, .slice a2 len2 cap2, .int .u8 a3, .int .u8 a4] w fun e w' => e = .returned (.bool true) ∧ Below w.heap.size w w' := by
 obtain ⟨l2, rfl, hr2, hm2, hw2, hc2⟩ := ReadsInt.ofRowC w2
 obtain ⟨k, h⟩ := P a0 a1 l2 a3 a4 w0 w1 hm2 y2 hw2 w3 w4
 refine (drydocklaw15_LogWhole.calls k a0 a1 _ _ l2 a3 a4 true w (Kd.C_of_reads (d := (0 : Int)) (h1 := fun _ => rfl) hr2) hc2 h).mono ?_
 rintro e w' ⟨rfl, hd⟩
 exact ⟨rfl, hd⟩

end Go.Proofs.Ytefhjfaojbjjaaa.PAll
