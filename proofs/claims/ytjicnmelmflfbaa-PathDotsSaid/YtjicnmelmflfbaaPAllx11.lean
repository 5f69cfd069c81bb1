-- Printed out of the translation by a program; functions that were proved by hand stand among them. Lean checks it.
import Derived.Test.YtjicnmelmflfbaaPAllx0
import Derived.Test.YtjicnmelmflfbaaPAllx2
import Derived.Test.YtjicnmelmflfbaaPAllx5
import Derived.Test.YtjicnmelmflfbaaPAllx6
namespace Go.Proofs.Ytjicnmelmflfbaa.PAll
open Go.RowKit Go.Proofs.YtjicnmelmflfbaaW.PrintWords Go.Proofs.YtjicnmelmflfbaaW.PrintLast Go.Proofs.YtjicnmelmflfbaaW.PrintMore
attribute [local go_sem] max2_int min2_int max_two min_two max_three min_three max_four min_four   -- for this text's walks alone
set_option linter.unusedVariables false
set_option linter.unusedSimpArgs false

/-! ### drydocklaw14_PathDots: function 8 -/
mutual
def drydocklaw14_PathDots.j0 : Nat → List ByteArray → List Int → ByteArray → Bool → Option (Bool)
  | 0, _, _, _, _ => none
  | k + 1, x0, x1, x5, x24 => if x24 = true then ((drydocklaw14_awake.f k).bind fun t222 => (some t222)) else (drydocklaw14_PathDots.l0 k x0 x1 x5 (⟨#[]⟩ : ByteArray) 0)
def drydocklaw14_PathDots.l0 : Nat → List ByteArray → List Int → ByteArray → ByteArray → Int → Option (Bool)
  | 0, _, _, _, _, _ => none
  | k + 1, x0, x1, x5, x7, x8 => if x8 < (x0.length : Int) then (if x8 < (x1.length : Int) then (if 0 ≤ x8 then ((some (([(⟨#[47]⟩ : ByteArray), (⟨#[47, 47]⟩ : ByteArray), (⟨#[47, 46, 47]⟩ : ByteArray), (⟨#[47, 120, 47, 46, 46, 47]⟩ : ByteArray)] : List ByteArray) : List ByteArray)).bind fun y224 => (if 0 ≤ (wrap64 (Int.tmod (rd x1 x8) 4)) then (if (wrap64 (Int.tmod (rd x1 x8) 4)) < (y224.length : Int) then (if (rdOf ByteArray.empty y224 (wrap64 (Int.tmod (rd x1 x8) 4))).size + (rdOf ByteArray.empty x0 x8).size ≤ 9223372036854775807 then (if x7.size + ((rdOf ByteArray.empty y224 (wrap64 (Int.tmod (rd x1 x8) 4))) ++ (rdOf ByteArray.empty x0 x8)).size ≤ 9223372036854775807 then (drydocklaw14_PathDots.l0 k x0 x1 x5 (x7 ++ ((rdOf ByteArray.empty y224 (wrap64 (Int.tmod (rd x1 x8) 4))) ++ (rdOf ByteArray.empty x0 x8))) (wrap64 (x8 + 1))) else (none)) else (none)) else (none)) else (none))) else (none)) else ((some (([(⟨#[47]⟩ : ByteArray), (⟨#[47, 47]⟩ : ByteArray), (⟨#[47, 46, 47]⟩ : ByteArray), (⟨#[47, 120, 47, 46, 46, 47]⟩ : ByteArray)] : List ByteArray) : List ByteArray)).bind fun y229 => (if 0 < (y229.length : Int) then (if 0 ≤ x8 then (if (rdOf ByteArray.empty y229 0).size + (rdOf ByteArray.empty x0 x8).size ≤ 9223372036854775807 then (if x7.size + ((rdOf ByteArray.empty y229 0) ++ (rdOf ByteArray.empty x0 x8)).size ≤ 9223372036854775807 then (drydocklaw14_PathDots.l0 k x0 x1 x5 (x7 ++ ((rdOf ByteArray.empty y229 0) ++ (rdOf ByteArray.empty x0 x8))) (wrap64 (x8 + 1))) else (none)) else (none)) else (none)) else (none)))) else (if x7.toList = ([] : List UInt8) then (drydocklaw14_PathDots.j2 k x0 x5 (⟨#[47]⟩ : ByteArray)) else (drydocklaw14_PathDots.j2 k x0 x5 x7))
def drydocklaw14_PathDots.j2 : Nat → List ByteArray → ByteArray → ByteArray → Option (Bool)
  | 0, _, _, _ => none
  | k + 1, x0, x5, x7 => (path_Split.f k x7).bind fun bt234 => ((path_Split.f k x5).bind fun bt238 => (if bt234.2 = 11 then (some (decide ((x0.length : Int) ≥ 16))) else (if bt234.2 = 0 then (if bt238.2 = 0 then ((drydockref14_Same.f k bt234.1 bt238.1).bind fun t242 => (some t242)) else (some false)) else (some false))))
end
def drydocklaw14_PathDots.f (k : Nat) (l0 : List ByteArray) (l1 : List Int) : Option (Bool) := (path_Join.f l0).bind fun bt219 => ((drydocklaw14_awake.f k).bind fun t221 => (if t221 = true then (drydocklaw14_PathDots.j0 k l0 l1 bt219.1 (bt219.2 != 0)) else (drydocklaw14_PathDots.j0 k l0 l1 bt219.1 true)))
theorem drydocklaw14_PathDots.mono_l : ∀ k, (∀ y0 y1 y2 y3, LeO (drydocklaw14_PathDots.j0 k y0 y1 y2 y3) (drydocklaw14_PathDots.j0 (k + 1) y0 y1 y2 y3)) ∧ (∀ y0 y1 y2 y3 y4, LeO (drydocklaw14_PathDots.l0 k y0 y1 y2 y3 y4) (drydocklaw14_PathDots.l0 (k + 1) y0 y1 y2 y3 y4)) ∧ (∀ y0 y1 y2, LeO (drydocklaw14_PathDots.j2 k y0 y1 y2) (drydocklaw14_PathDots.j2 (k + 1) y0 y1 y2))
  | 0 => ⟨fun _ _ _ _ r h => by simp [drydocklaw14_PathDots.j0] at h, fun _ _ _ _ _ r h => by simp [drydocklaw14_PathDots.l0] at h, fun _ _ _ r h => by simp [drydocklaw14_PathDots.j2] at h⟩
  | k + 1 => by
    obtain ⟨ih0, ih1, ih2⟩ := drydocklaw14_PathDots.mono_l k
    refine ⟨?_, ?_, ?_⟩
    · intro y0 y1 y2 y3
      unfold drydocklaw14_PathDots.j0
      repeat' first
      | (with_reducible exact ih0 _ _ _ _)
      | (with_reducible exact ih1 _ _ _ _ _)
      | (with_reducible exact ih2 _ _ _)
      | (with_reducible exact drydocklaw14_awake.mono _)
      | (with_reducible exact drydockref14_Same.mono _ _ _)
      | (with_reducible exact path_Split.mono _ _)
      | (with_reducible exact LeO.refl _)
      | (with_reducible exact LeO.none _)
      | (with_reducible refine LeO.ite ?_ ?_)
      | (with_reducible refine LeO.bind ?_ (fun _ => ?_))
      | exact ih0 _ _ _ _
      | exact ih1 _ _ _ _ _
      | exact ih2 _ _ _
      | exact drydocklaw14_awake.mono _
      | exact drydockref14_Same.mono _ _ _
      | exact path_Split.mono _ _
      | exact LeO.none _
      | refine LeO.ite ?_ ?_
      | refine LeO.bind ?_ (fun _ => ?_)
    · intro y0 y1 y2 y3 y4
      unfold drydocklaw14_PathDots.l0
      repeat' first
      | (with_reducible exact ih0 _ _ _ _)
      | (with_reducible exact ih1 _ _ _ _ _)
      | (with_reducible exact ih2 _ _ _)
      | (with_reducible exact drydocklaw14_awake.mono _)
      | (with_reducible exact drydockref14_Same.mono _ _ _)
      | (with_reducible exact path_Split.mono _ _)
      | (with_reducible exact LeO.refl _)
      | (with_reducible exact LeO.none _)
      | (with_reducible refine LeO.ite ?_ ?_)
      | (with_reducible refine LeO.bind ?_ (fun _ => ?_))
      | exact ih0 _ _ _ _
      | exact ih1 _ _ _ _ _
      | exact ih2 _ _ _
      | exact drydocklaw14_awake.mono _
      | exact drydockref14_Same.mono _ _ _
      | exact path_Split.mono _ _
      | exact LeO.none _
      | refine LeO.ite ?_ ?_
      | refine LeO.bind ?_ (fun _ => ?_)
    · intro y0 y1 y2
      unfold drydocklaw14_PathDots.j2
      repeat' first
      | (with_reducible exact ih0 _ _ _ _)
      | (with_reducible exact ih1 _ _ _ _ _)
      | (with_reducible exact ih2 _ _ _)
      | (with_reducible exact drydocklaw14_awake.mono _)
      | (with_reducible exact drydockref14_Same.mono _ _ _)
      | (with_reducible exact path_Split.mono _ _)
      | (with_reducible exact LeO.refl _)
      | (with_reducible exact LeO.none _)
      | (with_reducible refine LeO.ite ?_ ?_)
      | (with_reducible refine LeO.bind ?_ (fun _ => ?_))
      | exact ih0 _ _ _ _
      | exact ih1 _ _ _ _ _
      | exact ih2 _ _ _
      | exact drydocklaw14_awake.mono _
      | exact drydockref14_Same.mono _ _ _
      | exact path_Split.mono _ _
      | exact LeO.none _
      | refine LeO.ite ?_ ?_
      | refine LeO.bind ?_ (fun _ => ?_)
theorem drydocklaw14_PathDots.mono : ∀ a0 a1 k, LeO (drydocklaw14_PathDots.f k a0 a1) (drydocklaw14_PathDots.f (k + 1) a0 a1) := by
  intro a0 a1 k
  obtain ⟨ih0, ih1, ih2⟩ := drydocklaw14_PathDots.mono_l k
  unfold drydocklaw14_PathDots.f
  repeat' first
      | (with_reducible exact ih0 _ _ _ _)
      | (with_reducible exact ih1 _ _ _ _ _)
      | (with_reducible exact ih2 _ _ _)
      | (with_reducible exact drydocklaw14_awake.mono _)
      | (with_reducible exact drydockref14_Same.mono _ _ _)
      | (with_reducible exact path_Split.mono _ _)
      | (with_reducible exact LeO.refl _)
      | (with_reducible exact LeO.none _)
      | (with_reducible refine LeO.ite ?_ ?_)
      | (with_reducible refine LeO.bind ?_ (fun _ => ?_))
      | exact ih0 _ _ _ _
      | exact ih1 _ _ _ _ _
      | exact ih2 _ _ _
      | exact drydocklaw14_awake.mono _
      | exact drydockref14_Same.mono _ _ _
      | exact path_Split.mono _ _
      | exact LeO.none _
      | refine LeO.ite ?_ ?_
      | refine LeO.bind ?_ (fun _ => ?_)
def drydocklaw14_PathDots.T11 : Bool × List (List Nat × List Nat) := (true, [([], []), ([], []), ([], []), ([1, 2], [1, 2]), ([3], [3]), ([], []), ([], []), ([5, 6], [5, 6]), ([7], [7]), ([4, 8], [4, 8]), ([0, 9], [0, 9]), ([10, 0, 1, 2, 3, 4, 5, 6, 7, 8, 9, 10], [0, 10])])
def drydocklaw14_PathDots.B11 : List Nat := [0, 0, 0, 6, 14, 0, 0, 96, 224, 510, 1023, 2047]
theorem drydocklaw14_PathDots.tab11 : rtab .any (opsOf Try.f8 11) = drydocklaw14_PathDots.T11 := by kernel_rfl
theorem drydocklaw14_PathDots.bits11 : waitsOk drydocklaw14_PathDots.T11.2 drydocklaw14_PathDots.B11 = true := by kernel_rfl
set_option maxHeartbeats 8000000 in
set_option maxRecDepth 100000 in
theorem drydocklaw14_PathDots.calls (k : Nat) (A0 : Option Addr) (c0 : Nat) (l0 : List ByteArray) (A1 : Option Addr) (c1 : Nat) (l1 : List Int) (r : Bool) (w : World) (hr0 : Kd.C Kd.string w A0 l0.length l0) (hc0 : l0.length ≤ c0) (hr1 : Kd.C (Kd.int .u8) w A1 l1.length l1) (hc1 : l1.length ≤ c1) (h : drydocklaw14_PathDots.f k l0 l1 = some r) :
    Calls Try.prog 8 #[.slice A0 l0.length c0, .slice A1 l1.length c1] w fun e w' => e = .returned (.bool r) ∧ Below w.heap.size w w' := by
  have HR0 := Aside0.mk hr0
  have HC0 := Aside0.mk hc0
  clear hr0 hc0
  have HR1 := Aside0.mk hr1
  have HC1 := Aside0.mk hc1
  clear hr1 hc1
  have HB := Aside0.mk (Below.refl w.heap.size w)
  have H : ((path_Join.f l0).bind fun bt219 => ((drydocklaw14_awake.f k).bind fun t221 => (if t221 = true then (drydocklaw14_PathDots.j0 k l0 l1 bt219.1 (bt219.2 != 0)) else (drydocklaw14_PathDots.j0 k l0 l1 bt219.1 true)))) = some r := h
  clear h
  replace H := Option.bind_eq_some_iff.mp H
  obtain ⟨⟨t219, t220⟩, A30, H⟩ := H
  replace H : ((drydocklaw14_awake.f k).bind fun t221 => (if t221 = true then (drydocklaw14_PathDots.j0 k l0 l1 t219 (t220 != 0)) else (drydocklaw14_PathDots.j0 k l0 l1 t219 true))) = some r := H
  have A3 := Aside0.mk A30
  clear A30
  have HC4 := Aside0.mk H
  clear H
  go_enter Try.func8, Try.ntmps8
  go_upto_region 2 with (first | ((with_reducible refine gate_callee (f := 13) rfl ?_); refine goesL_ (some 16) rfl rfl Try.func13 (by kernel_rfl) rfl #[.slice A0 l0.length c0] rfl (by (try simp only [List.map_toArray, List.map_cons, List.map_nil]); first | done | rfl | (simp only [List.length_drop, List.length_take]; rfl)) ?_; (with_reducible refine (path_Join.calls _ _ l0 t219 t220 _ ?side1 ?side2 A3.out).mono ?_); (case side1 => repeat (first | exact HR0.out | (with_reducible refine Kd.C_alloc ?_ _) | (with_reducible refine Kd.C_drewN ?_ _) | (with_reducible refine Kd.C_drew ?_))); (case side2 => exact HC0.out); rintro e w5 ⟨rfl, hb⟩; refine ⟨_, rfl, ?_⟩; have n0_ := Aside0.mk (below_step (by repeat (first | (with_reducible first | exact HB.out | apply below_alloc | apply pw_below_drewN | apply below_drew1) | exact HB.out)) hb); clear HB; have HB := n0_; clear n0_; (try clear hb); (try clear hb2); (try clear hk); (try clear hi)))
  (try simp only [Act.put, List.setIfInBounds_toArray, List.set_cons_zero, List.set_cons_succ])
  go_cut [24] (fun v24 wc => ∃ (kq : Nat) (x24_3 : Bool), v24 = .bool x24_3 ∧ Aside0 (drydocklaw14_PathDots.j0 kq l0 l1 t219 x24_3 = some r) ∧ Aside0 (kq ≤ k) ∧ Aside0 (Below w.heap.size w wc))
  case first =>
    have H := HC4.out
    clear HC4
    replace H := Option.bind_eq_some_iff.mp H
    obtain ⟨t221, A60, H⟩ := H
    replace H : (if t221 = true then (drydocklaw14_PathDots.j0 k l0 l1 t219 (t220 != 0)) else (drydocklaw14_PathDots.j0 k l0 l1 t219 true)) = some r := H
    have A6 := Aside0.mk A60
    clear A60
    by_cases c7 : t221 = true
    · subst c7
      have H1 : (drydocklaw14_PathDots.j0 k l0 l1 t219 (t220 != 0)) = some r := by rw [if_pos rfl] at H; exact H
      clear H
      have H := H1
      clear H1
      have H' := Aside0.mk H
      clear H
      go_wp2_with (first | ((with_reducible refine gate_callee (f := 11) rfl ?_); refine goesL_ (some 19) rfl rfl Try.func11 (by kernel_rfl) rfl #[] rfl (by (try simp only [List.map_toArray, List.map_cons, List.map_nil]); first | done | rfl | (simp only [List.length_drop, List.length_take]; rfl)) ?_; (with_reducible refine (drydocklaw14_awake.calls k  true _ A6.out).mono ?_); rintro e w8 ⟨rfl, hb⟩; refine ⟨_, rfl, ?_⟩; have n0_ := Aside0.mk (below_step (by repeat (first | (with_reducible first | exact HB.out | apply below_alloc | apply pw_below_drewN | apply below_drew1) | exact HB.out)) hb); clear HB; have HB := n0_; clear n0_; (try clear hb); (try clear hb2); (try clear hk); (try clear hi)))
      go_meet
      case rel => exact ⟨_, ((t220 != 0)), (by first | rfl | (simp; done) | (simp [*]; done)), H', ⟨by first | omega | exact Nat.le_refl _⟩, ⟨by repeat (first | (with_reducible first | exact HB.out | apply below_alloc | apply pw_below_drewN | apply below_drew1) | exact HB.out)⟩⟩
    · replace c7 := Bool.eq_false_iff.mpr c7
      subst c7
      have H1 : (drydocklaw14_PathDots.j0 k l0 l1 t219 true) = some r := by rw [if_neg (show ¬ (false = true) by decide)] at H; exact H
      clear H
      have H := H1
      clear H1
      have H' := Aside0.mk H
      clear H
      go_wp2_with (first | ((with_reducible refine gate_callee (f := 11) rfl ?_); refine goesL_ (some 19) rfl rfl Try.func11 (by kernel_rfl) rfl #[] rfl (by (try simp only [List.map_toArray, List.map_cons, List.map_nil]); first | done | rfl | (simp only [List.length_drop, List.length_take]; rfl)) ?_; (with_reducible refine (drydocklaw14_awake.calls k  false _ A6.out).mono ?_); rintro e w9 ⟨rfl, hb⟩; refine ⟨_, rfl, ?_⟩; have n0_ := Aside0.mk (below_step (by repeat (first | (with_reducible first | exact HB.out | apply below_alloc | apply pw_below_drewN | apply below_drew1) | exact HB.out)) hb); clear HB; have HB := n0_; clear n0_; (try clear hb); (try clear hb2); (try clear hk); (try clear hi)))
      go_meet
      case rel => exact ⟨_, (true), (by first | rfl | (simp; done) | (simp [*]; done)), H', ⟨by first | omega | exact Nat.le_refl _⟩, ⟨by repeat (first | (with_reducible first | exact HB.out | apply below_alloc | apply pw_below_drewN | apply below_drew1) | exact HB.out)⟩⟩
  case rest =>
    clear HC4
    try clear c1
    try clear p2
    try clear c7
    try clear c8
    obtain ⟨kq, x24_3, rfl, HA, HJ3, HB⟩ := hcut
    cases kq with
    | zero => exact absurd HA.out (by simp [drydocklaw14_PathDots.j0])
    | succ kj3 =>
      have H := HA.out
      clear HA
      simp only [drydocklaw14_PathDots.j0] at H
      by_cases c10 : x24_3 = true
      · subst c10
        have H1 : ((drydocklaw14_awake.f kj3).bind fun t222 => (some t222)) = some r := by rw [if_pos rfl] at H; exact H
        clear H
        have H := H1
        clear H1
        replace H := Option.bind_eq_some_iff.mp H
        obtain ⟨t222, A110, H⟩ := H
        replace H : (some t222) = some r := H
        have A11 := Aside0.mk A110
        clear A110
        obtain rfl := Option.some.inj H
        go_wp2_with (first | ((with_reducible refine gate_callee (f := 11) rfl ?_); refine goesL_ (some 25) rfl rfl Try.func11 (by kernel_rfl) rfl #[] rfl (by (try simp only [List.map_toArray, List.map_cons, List.map_nil]); first | done | rfl | (simp only [List.length_drop, List.length_take]; rfl)) ?_; (with_reducible refine (drydocklaw14_awake.calls kj3  t222 _ A11.out).mono ?_); rintro e w12 ⟨rfl, hb⟩; refine ⟨_, rfl, ?_⟩; have n0_ := Aside0.mk (below_step (by repeat (first | (with_reducible first | exact HB.out | apply below_alloc | apply pw_below_drewN | apply below_drew1) | exact HB.out)) hb); clear HB; have HB := n0_; clear n0_; (try clear hb); (try clear hb2); (try clear hk); (try clear hi)))
        go_ret
        exact ⟨by first | rfl | (simp [errW_none, errW_some] <;> rfl) | (simp [*, errW_none, errW_some] <;> rfl), by repeat (first | (with_reducible first | exact HB.out | apply below_alloc | apply pw_below_drewN | apply below_drew1) | exact HB.out)⟩
      · replace c10 := Bool.eq_false_iff.mpr c10
        subst c10
        have H1 : (drydocklaw14_PathDots.l0 kj3 l0 l1 t219 (⟨#[]⟩ : ByteArray) 0) = some r := by rw [if_neg (show ¬ (false = true) by decide)] at H; exact H
        clear H
        have H := H1
        clear H1
        have H' := Aside0.mk H
        clear H
        go_wp2
        go_loopg [7, 8] kj3 (fun kq v7 v8 w' => ∃ (x7_2 : ByteArray) (x8_2 : Int), v7 = .string x7_2 ∧ v8 = .int .i64 x8_2 ∧ Aside0 (drydocklaw14_PathDots.l0 kq l0 l1 t219 x7_2 x8_2 = some r) ∧ Aside0 (kq ≤ kj3) ∧ Aside0 (Below w.heap.size w w'))
        case atStart => exact ⟨((⟨#[]⟩ : ByteArray)), (0), (by first | rfl | (simp; done) | (simp [*]; done)), (by first | rfl | (simp; done) | (simp [*]; done)), H', ⟨Nat.le_refl _⟩, ⟨by repeat (first | (with_reducible first | exact HB.out | apply below_alloc | apply pw_below_drewN | apply below_drew1) | exact HB.out)⟩⟩
        case round =>
          clear H'
          try clear c1
          try clear p2
          try clear c7
          try clear c8
          try clear c10
          try clear c11
          try clear p2
          obtain ⟨x7_2, x8_2, rfl, rfl, HA, HK2, HB⟩ := hrel
          cases gk with
          | zero => exact absurd HA.out (by simp [drydocklaw14_PathDots.l0])
          | succ k2 =>
            have H := HA.out
            clear HA
            simp only [drydocklaw14_PathDots.l0] at H
            by_cases c13 : x8_2 < (l0.length : Int)
            · rw [if_pos c13] at H
              have c13b0 : decide (x8_2 < (l0.length : Int)) = true := decide_eq_true c13
              clear c13
              by_cases c14 : x8_2 < (l1.length : Int)
              · rw [if_pos c14] at H
                have c14b0 : decide (x8_2 < (l1.length : Int)) = true := decide_eq_true c14
                clear c14
                by_cases c15 : 0 ≤ x8_2
                · rw [if_pos c15] at H
                  have c15b0 : decide (0 ≤ x8_2) = true := decide_eq_true c15
                  clear c15
                  obtain ⟨y224, hy224⟩ : ∃ y_ : List ByteArray, y_ = (([(⟨#[47]⟩ : ByteArray), (⟨#[47, 47]⟩ : ByteArray), (⟨#[47, 46, 47]⟩ : ByteArray), (⟨#[47, 120, 47, 46, 46, 47]⟩ : ByteArray)] : List ByteArray)) := ⟨_, rfl⟩
                  replace H : (if 0 ≤ (wrap64 (Int.tmod (rd l1 x8_2) 4)) then (if (wrap64 (Int.tmod (rd l1 x8_2) 4)) < (y224.length : Int) then (if (rdOf ByteArray.empty y224 (wrap64 (Int.tmod (rd l1 x8_2) 4))).size + (rdOf ByteArray.empty l0 x8_2).size ≤ 9223372036854775807 then (if x7_2.size + ((rdOf ByteArray.empty y224 (wrap64 (Int.tmod (rd l1 x8_2) 4))) ++ (rdOf ByteArray.empty l0 x8_2)).size ≤ 9223372036854775807 then (drydocklaw14_PathDots.l0 k2 l0 l1 t219 (x7_2 ++ ((rdOf ByteArray.empty y224 (wrap64 (Int.tmod (rd l1 x8_2) 4))) ++ (rdOf ByteArray.empty l0 x8_2))) (wrap64 (x8_2 + 1))) else (none)) else (none)) else (none)) else (none)) = some r := by first | (rw [hy224]; with_reducible exact H) | (have H2_ := (Option.bind_some _ _).symm.trans H; rw [hy224]; with_reducible exact H2_) | (have H2_ := (Option.bind_some _ _).symm.trans H; with_reducible exact H2_) | with_reducible exact H | (rw [hy224]; exact H) | exact H
                  have Ny224 := Aside0.mk hy224
                  clear hy224
                  obtain ⟨ji16, hji16⟩ : ∃ j_ : Int, (wrap64 (Int.tmod (rd l1 x8_2) 4)) = j_ := ⟨_, rfl⟩
                  replace H : (if 0 ≤ (ji16) then (if (ji16) < (y224.length : Int) then (if (rdOf ByteArray.empty y224 (ji16)).size + (rdOf ByteArray.empty l0 x8_2).size ≤ 9223372036854775807 then (if x7_2.size + ((rdOf ByteArray.empty y224 (ji16)) ++ (rdOf ByteArray.empty l0 x8_2)).size ≤ 9223372036854775807 then (drydocklaw14_PathDots.l0 k2 l0 l1 t219 (x7_2 ++ ((rdOf ByteArray.empty y224 (ji16)) ++ (rdOf ByteArray.empty l0 x8_2))) (wrap64 (x8_2 + 1))) else (none)) else (none)) else (none)) else (none)) = some r := by first | (rw [hji16] at H; exact H) | (simp only [hji16] at H ⊢; exact H)
                  have hji16w : (IntKind.i64.wrap (Int.tmod (rd l1 x8_2) 4)) = ji16 := (i64_w _).trans hji16
                  by_cases c17 : 0 ≤ (ji16)
                  · rw [if_pos c17] at H
                    have c17b0 : decide (0 ≤ (ji16)) = true := decide_eq_true c17
                    clear c17
                    by_cases c18 : (ji16) < (y224.length : Int)
                    · rw [if_pos c18] at H
                      have c18b0 : decide ((ji16) < (y224.length : Int)) = true := decide_eq_true c18
                      clear c18
                      by_cases c19 : (rdOf ByteArray.empty y224 (ji16)).size + (rdOf ByteArray.empty l0 x8_2).size ≤ 9223372036854775807
                      · rw [if_pos c19] at H
                        have c19b0 := eq_true c19
                        have c19b1 : decide ((rdOf ByteArray.empty y224 (ji16)).size + (rdOf ByteArray.empty l0 x8_2).size ≤ 9223372036854775807) = true := decide_eq_true c19
                        try have c19b2 : (9223372036854775807 < (rdOf ByteArray.empty y224 (ji16)).size + (rdOf ByteArray.empty l0 x8_2).size) = False := eq_false (Nat.not_lt.2 c19)
                        by_cases c20 : x7_2.size + ((rdOf ByteArray.empty y224 (ji16)) ++ (rdOf ByteArray.empty l0 x8_2)).size ≤ 9223372036854775807
                        · rw [if_pos c20] at H
                          have c20b0 := eq_true c20
                          have c20b1 : decide (x7_2.size + ((rdOf ByteArray.empty y224 (ji16)) ++ (rdOf ByteArray.empty l0 x8_2)).size ≤ 9223372036854775807) = true := decide_eq_true c20
                          try have c20b2 : (9223372036854775807 < x7_2.size + ((rdOf ByteArray.empty y224 (ji16)) ++ (rdOf ByteArray.empty l0 x8_2)).size) = False := eq_false (Nat.not_lt.2 c20)
                          have c20b3 : (9223372036854775807 < x7_2.size + ((rdOf ByteArray.empty y224 (ji16)).size + (rdOf ByteArray.empty l0 x8_2).size)) = False := eq_false (by have h_ := c20; rw [ByteArray.size_append] at h_; omega)
                          have c20b4 : (x7_2.size + ((rdOf ByteArray.empty y224 (ji16)).size + (rdOf ByteArray.empty l0 x8_2).size) ≤ 9223372036854775807) = True := eq_true (by have h_ := c20; rw [ByteArray.size_append] at h_; omega)
                          have H' := Aside0.mk H
                          clear H
                          have p223 : 0 ≤ (x8_2 : Int) := of_decide_eq_true (by first | (with_reducible assumption) | assumption)
                          have q223 : x8_2 < (l1.length : Int) := of_decide_eq_true (by first | (with_reducible assumption) | assumption)
                          obtain ⟨ad223, e223, hx223_0⟩ := Kd.at_int HR1.out x8_2 p223 q223
                          cases e223
                          replace hx223_0 := (HB.out.cell (World.block_lt_of_cell? w _ hx223_0)).trans hx223_0
                          replace p223 := eq_true p223
                          replace q223 := eq_true q223
                          try go_wp2
                          have pi227 : (0 ≤ ((ji16) : Int)) = True := eq_true (of_decide_eq_true (by first | (with_reducible assumption) | assumption))
                          have qi227 : ((ji16) < (y224.length : Int)) = True := eq_true (of_decide_eq_true (by first | (with_reducible assumption) | assumption))
                          have n0_ := Aside0.mk (below_drew1 HB.out)
                          clear HB
                          have HB := n0_
                          clear n0_
                          have p228 : 0 ≤ (x8_2 : Int) := of_decide_eq_true (by first | (with_reducible assumption) | assumption)
                          have q228 : x8_2 < (l0.length : Int) := of_decide_eq_true (by first | (with_reducible assumption) | assumption)
                          obtain ⟨ad228, e228, hx228_0⟩ := Kd.at_string HR0.out x8_2 p228 q228
                          have hw228_0 := hx228_0
                          cases e228
                          replace hx228_0 := (HB.out.cell (World.block_lt_of_cell? w _ hx228_0)).trans hx228_0
                          replace p228 := eq_true p228
                          replace q228 := eq_true q228
                          refine start_ (n := 12) (S := fun w' => w'.cell? (ad228.add (x8_2).toNat) = some (.string (rdOf ByteArray.empty l0 x8_2))) (ds := []) #[false, false, false, false, false, false, false, false, false, false, false, false] (by kernel_rfl) rfl rfl (((HB.out.cell (World.block_lt_of_cell? w _ hw228_0)).trans hw228_0)) (fun hHeld => ?_); refine with_tabW drydocklaw14_PathDots.tab11 drydocklaw14_PathDots.bits11 (fun HT_ HW_ => ?_)
                          generalize wr.drew = w21 at HB hx228_0 hHeld ⊢
                          refine pure_ (i := 0) (N := some 42) (v := ?_) (a' := ?_) #[true, false, false, false, false, false, false, false, false, false, false, false] rfl rfl (any_of HT_.out (by kernel_rfl)) (fun _ _ _ h => h) (Or.inl ⟨by rfl, ?_⟩) ?_ ?_
                          rotate_left
                          · intro w'
                            go_simp
                            with_reducible rfl
                          rotate_left
                          · simp only [Act.put, List.setIfInBounds_toArray, List.set_cons_zero, List.set_cons_succ, i64_w, i32_w]
                            rfl
                          refine pure_ (i := 2) (N := some 44) (v := ?_) (a' := ?_) #[true, false, true, false, false, false, false, false, false, false, false, false] rfl rfl (any_of HT_.out (by kernel_rfl)) (fun _ _ _ h => h) (Or.inl ⟨by rfl, ?_⟩) ?_ ?_
                          rotate_left
                          · intro w'
                            go_simp
                            with_reducible rfl
                          rotate_left
                          · simp only [Act.put, List.setIfInBounds_toArray, List.set_cons_zero, List.set_cons_succ, i64_w, i32_w]
                            rfl
                          refine pure_ (i := 5) (N := some 47) (v := ?_) (a' := ?_) #[true, false, true, false, false, true, false, false, false, false, false, false] rfl rfl (any_of HT_.out (by kernel_rfl)) (fun _ _ _ h => h) (Or.inl ⟨by rfl, ?_⟩) ?_ ?_
                          rotate_left
                          · intro w'
                            go_simp
                            with_reducible rfl
                          rotate_left
                          · simp only [Act.put, List.setIfInBounds_toArray, List.set_cons_zero, List.set_cons_succ, i64_w, i32_w]
                            rfl
                          refine pure_ (i := 6) (N := some 48) (v := ?_) (a' := ?_) #[true, false, true, false, false, true, true, false, false, false, false, false] rfl rfl (any_of HT_.out (by kernel_rfl)) (fun _ _ _ h => h) (Or.inl ⟨by rfl, ?_⟩) ?_ ?_
                          rotate_left
                          · intro w'
                            go_simp
                            with_reducible rfl
                          rotate_left
                          · simp only [Act.put, List.setIfInBounds_toArray, List.set_cons_zero, List.set_cons_succ, i64_w, i32_w]
                            rfl
                          refine pure_ (i := 7) (N := some 49) (v := ?_) (a' := ?_) #[true, false, true, false, false, true, true, true, false, false, false, false] rfl rfl (any_of HT_.out (by kernel_rfl)) (fun _ _ _ h => h) (Or.inl ⟨by rfl, ?_⟩) ?_ ?_
                          rotate_left
                          · intro w'
                            go_simp
                            with_reducible rfl
                          rotate_left
                          · simp only [Act.put, List.setIfInBounds_toArray, List.set_cons_zero, List.set_cons_succ, i64_w, i32_w]
                            rfl
                          refine take_ (i := 8) (N := some 50) (v := ?_) (a' := ?_) #[true, false, true, false, false, true, true, true, true, false, false, false] rfl rfl (take_ofW HT_.out HW_.out (by kernel_rfl)) (fun _ _ _ h => h) (Or.inl ⟨by rfl, ?_⟩) hHeld ?_ ?_
                          rotate_left
                          · intro w' s0
                            go_simp
                            with_reducible rfl
                          rotate_left
                          · simp only [Act.put, List.setIfInBounds_toArray, List.set_cons_zero, List.set_cons_succ, i64_w, i32_w]
                            rfl
                          refine one_ (i := 1) (N := some 43) #[true, true, true, false, false, true, true, true, true, false, false, false] rfl rfl (one_of HT_.out (by kernel_rfl)) (by decide) (fun K hK => ?_)
                          refine Kd.R_lit_step Kd.string _ 9 ?hg (N := 43) ?hd (xs := ([(⟨#[47]⟩ : ByteArray), (⟨#[47, 47]⟩ : ByteArray), (⟨#[47, 46, 47]⟩ : ByteArray), (⟨#[47, 120, 47, 46, 46, 47]⟩ : ByteArray)] : List ByteArray)) (inner := [.string (⟨#[47]⟩ : ByteArray), .string (⟨#[47, 47]⟩ : ByteArray), .string (⟨#[47, 46, 47]⟩ : ByteArray), .string (⟨#[47, 120, 47, 46, 46, 47]⟩ : ByteArray)]) (ok := fun _ => True) (okp := fun _ => True) ?hr ?hp (fun _ hk => hk) trivial (Below.refl _ _) (Nat.le_refl _) (by simp) ?_; (case hd => rfl); (case hg => rfl); (case hr => first | (go_simp; done) | (go_simp; rfl)); (case hp => exact (Reps.one (show Kd.M Kd.string _ _ _ (⟨#[47]⟩ : ByteArray) [.string (⟨#[47]⟩ : ByteArray)] from rfl) (Reps.one (show Kd.M Kd.string _ _ _ (⟨#[47, 47]⟩ : ByteArray) [.string (⟨#[47, 47]⟩ : ByteArray)] from rfl) (Reps.one (show Kd.M Kd.string _ _ _ (⟨#[47, 46, 47]⟩ : ByteArray) [.string (⟨#[47, 46, 47]⟩ : ByteArray)] from rfl) (Reps.one (show Kd.M Kd.string _ _ _ (⟨#[47, 120, 47, 46, 46, 47]⟩ : ByteArray) [.string (⟨#[47, 120, 47, 46, 46, 47]⟩ : ByteArray)] from rfl) (Reps.none _ _))))))
                          intro v225 w22 ho23 hb hg_ hnew_
                          clear hg_ hnew_
                          (first | rw [← Ny224.out] at ho23 | (simp only [Int.reduceToNat] at ho23; rw [← Ny224.out] at ho23))
                          have n0_ := Aside0.mk (Kd.R_lower ho23 (below_size (by repeat (first | (with_reducible first | exact HB.out | apply below_alloc | apply pw_below_drewN | apply below_drew1) | exact HB.out))))
                          have n1_ := Aside0.mk (below_step (by repeat (first | (with_reducible first | exact HB.out | apply below_alloc | apply pw_below_drewN | apply below_drew1) | exact HB.out)) hb)
                          clear HB
                          have HO226 := n0_
                          have HB := n1_
                          clear n0_ n1_
                          clear hb ho23
                          obtain ⟨Ao24, co24, eo24⟩ := Kd.R_slice HO226.out
                          subst eo24
                          obtain ⟨ado24, fo24, _⟩ := Kd.at_string (Kd.R_reads' HO226.out).2.2 0 (by decide) (by rw [Ny224.out]; simp)
                          cases fo24
                          refine hK.out _ _ (((HB.out.cell (World.block_lt_of_cell? w _ hw228_0)).trans hw228_0)) (fun hHeld => ?_)
                          clear hK K
                          refine norm_ (a' := ?_) ?_ ?_
                          rotate_left
                          · show Act.put _ (some 43) _ = _
                            simp only [Act.put, List.setIfInBounds_toArray, List.set_cons_zero, List.set_cons_succ, i64_w, i32_w]
                            rfl
                          refine pure_ (i := 3) (N := some 45) (v := ?_) (a' := ?_) #[true, true, true, true, false, true, true, true, true, false, false, false] rfl rfl (any_of HT_.out (by kernel_rfl)) (fun _ _ _ h => h) (Or.inl ⟨by rfl, ?_⟩) ?_ ?_
                          rotate_left
                          · intro w'
                            go_simp
                            with_reducible rfl
                          rotate_left
                          · simp only [Act.put, List.setIfInBounds_toArray, List.set_cons_zero, List.set_cons_succ, i64_w, i32_w]
                            rfl
                          refine one_ (i := 4) (N := some 46) #[true, true, true, true, true, true, true, true, true, false, false, false] rfl rfl (one_of HT_.out (by kernel_rfl)) (by decide) (fun K hK => ?_)
                          (have p227 : 0 ≤ ((ji16) : Int) := of_decide_eq_true (by first | (with_reducible assumption) | assumption); have q227 : (ji16) < (y224.length : Int) := of_decide_eq_true (by first | (with_reducible assumption) | assumption); obtain ⟨ad227, e227, hx227_0⟩ := Kd.at_string (Kd.R_reads' HO226.out).2.2 (ji16) p227 q227; obtain rfl : ado24 = ad227 := (by injection e227))
                          refine value_ (w1 := ?_) (v := ?_) (by rfl) rfl ?_ ?_
                          rotate_left 2
                          · go_simp
                            constructor
                            · rfl
                            · rfl
                          clear hx227_0
                          refine hK.out _ _ (((HB.out.cell (World.block_lt_of_cell? w _ hw228_0)).trans hw228_0)) (fun hHeld => ?_)
                          clear hK K
                          refine norm_ (a' := ?_) ?_ ?_
                          rotate_left
                          · show Act.put _ (some 46) _ = _
                            simp only [Act.put, List.setIfInBounds_toArray, List.set_cons_zero, List.set_cons_succ, i64_w, i32_w]
                            rfl
                          refine pure_ (i := 9) (N := some 51) (v := ?_) (a' := ?_) #[true, true, true, true, true, true, true, true, true, true, false, false] rfl rfl (any_of HT_.out (by kernel_rfl)) (fun _ _ _ h => h) (Or.inl ⟨by rfl, ?_⟩) ?_ ?_
                          rotate_left
                          · intro w'
                            go_simp
                            with_reducible rfl
                          rotate_left
                          · simp only [Act.put, List.setIfInBounds_toArray, List.set_cons_zero, List.set_cons_succ, i64_w, i32_w]
                            rfl
                          refine pure_ (i := 10) (N := some 52) (v := ?_) (a' := ?_) #[true, true, true, true, true, true, true, true, true, true, true, false] rfl rfl (any_of HT_.out (by kernel_rfl)) (fun _ _ _ h => h) (Or.inl ⟨by rfl, ?_⟩) ?_ ?_
                          rotate_left
                          · intro w'
                            go_simp
                            with_reducible rfl
                          rotate_left
                          · simp only [Act.put, List.setIfInBounds_toArray, List.set_cons_zero, List.set_cons_succ, i64_w, i32_w]
                            rfl
                          refine pure_ (i := 11) (N := some 7) (v := ?_) (a' := ?_) #[true, true, true, true, true, true, true, true, true, true, true, true] rfl rfl (any_of HT_.out (by kernel_rfl)) (fun _ _ _ h => h) (Or.inl ⟨by rfl, ?_⟩) ?_ ?_
                          rotate_left
                          · intro w'
                            go_simp
                            with_reducible rfl
                          rotate_left
                          · simp only [Act.put, List.setIfInBounds_toArray, List.set_cons_zero, List.set_cons_succ, i64_w, i32_w]
                            rfl
                          refine done_ (done_of HT_.out (by kernel_rfl)) ?_
                          try go_wp2
                          go_roundg k2
                          case measure => have := HJ3.out; have := HK2.out; omega
                          case rel => exact ⟨(x7_2 ++ ((rdOf ByteArray.empty y224 (ji16)) ++ (rdOf ByteArray.empty l0 x8_2))), (wrap64 (x8_2 + 1)), (by first | rfl | (simp; done) | (simp only [← hji16] <;> (first | rfl | simp)) | (simp [*]; done)), (by first | rfl | (simp; done) | (simp [*]; done)), H', ⟨by have := HJ3.out; have := HK2.out; omega⟩, ⟨by repeat (first | (with_reducible first | exact HB.out | apply below_alloc | apply pw_below_drewN | apply below_drew1) | exact HB.out)⟩⟩
                        · rw [if_neg c20] at H
                          exact absurd H (by simp)
                      · rw [if_neg c19] at H
                        exact absurd H (by simp)
                    · rw [if_neg c18] at H
                      exact absurd H (by simp)
                  · rw [if_neg c17] at H
                    exact absurd H (by simp)
                · rw [if_neg c15] at H
                  exact absurd H (by simp)
              · rw [if_neg c14] at H
                have c14b0 : decide (x8_2 < (l1.length : Int)) = false := decide_eq_false c14
                clear c14
                obtain ⟨y229, hy229⟩ : ∃ y_ : List ByteArray, y_ = (([(⟨#[47]⟩ : ByteArray), (⟨#[47, 47]⟩ : ByteArray), (⟨#[47, 46, 47]⟩ : ByteArray), (⟨#[47, 120, 47, 46, 46, 47]⟩ : ByteArray)] : List ByteArray)) := ⟨_, rfl⟩
                replace H : (if 0 < (y229.length : Int) then (if 0 ≤ x8_2 then (if (rdOf ByteArray.empty y229 0).size + (rdOf ByteArray.empty l0 x8_2).size ≤ 9223372036854775807 then (if x7_2.size + ((rdOf ByteArray.empty y229 0) ++ (rdOf ByteArray.empty l0 x8_2)).size ≤ 9223372036854775807 then (drydocklaw14_PathDots.l0 k2 l0 l1 t219 (x7_2 ++ ((rdOf ByteArray.empty y229 0) ++ (rdOf ByteArray.empty l0 x8_2))) (wrap64 (x8_2 + 1))) else (none)) else (none)) else (none)) else (none)) = some r := by first | (rw [hy229]; with_reducible exact H) | (have H2_ := (Option.bind_some _ _).symm.trans H; rw [hy229]; with_reducible exact H2_) | (have H2_ := (Option.bind_some _ _).symm.trans H; with_reducible exact H2_) | with_reducible exact H | (rw [hy229]; exact H) | exact H
                have Ny229 := Aside0.mk hy229
                clear hy229
                by_cases c25 : 0 < (y229.length : Int)
                · rw [if_pos c25] at H
                  have c25b0 : decide (0 < (y229.length : Int)) = true := decide_eq_true c25
                  have c25b1 : decide (0 < y229.length) = true := decide_eq_true (by omega)
                  have c25b5 : (0 < y229.length) = True := eq_true (of_decide_eq_true c25b1)
                  clear c25
                  by_cases c26 : 0 ≤ x8_2
                  · rw [if_pos c26] at H
                    have c26b0 : decide (0 ≤ x8_2) = true := decide_eq_true c26
                    clear c26
                    by_cases c27 : (rdOf ByteArray.empty y229 0).size + (rdOf ByteArray.empty l0 x8_2).size ≤ 9223372036854775807
                    · rw [if_pos c27] at H
                      have c27b0 := eq_true c27
                      have c27b1 : decide ((rdOf ByteArray.empty y229 0).size + (rdOf ByteArray.empty l0 x8_2).size ≤ 9223372036854775807) = true := decide_eq_true c27
                      try have c27b2 : (9223372036854775807 < (rdOf ByteArray.empty y229 0).size + (rdOf ByteArray.empty l0 x8_2).size) = False := eq_false (Nat.not_lt.2 c27)
                      by_cases c28 : x7_2.size + ((rdOf ByteArray.empty y229 0) ++ (rdOf ByteArray.empty l0 x8_2)).size ≤ 9223372036854775807
                      · rw [if_pos c28] at H
                        have c28b0 := eq_true c28
                        have c28b1 : decide (x7_2.size + ((rdOf ByteArray.empty y229 0) ++ (rdOf ByteArray.empty l0 x8_2)).size ≤ 9223372036854775807) = true := decide_eq_true c28
                        try have c28b2 : (9223372036854775807 < x7_2.size + ((rdOf ByteArray.empty y229 0) ++ (rdOf ByteArray.empty l0 x8_2)).size) = False := eq_false (Nat.not_lt.2 c28)
                        have c28b3 : (9223372036854775807 < x7_2.size + ((rdOf ByteArray.empty y229 0).size + (rdOf ByteArray.empty l0 x8_2).size)) = False := eq_false (by have h_ := c28; rw [ByteArray.size_append] at h_; omega)
                        have c28b4 : (x7_2.size + ((rdOf ByteArray.empty y229 0).size + (rdOf ByteArray.empty l0 x8_2).size) ≤ 9223372036854775807) = True := eq_true (by have h_ := c28; rw [ByteArray.size_append] at h_; omega)
                        have H' := Aside0.mk H
                        clear H
                        try go_wp2
                        have pi232 : (0 ≤ (0 : Int)) = True := eq_true (by omega)
                        have qi232 : (0 < (y229.length : Int)) = True := eq_true (of_decide_eq_true (by first | (with_reducible assumption) | assumption))
                        have n0_ := Aside0.mk (below_drew1 HB.out)
                        clear HB
                        have HB := n0_
                        clear n0_
                        have p233 : 0 ≤ (x8_2 : Int) := of_decide_eq_true (by first | (with_reducible assumption) | assumption)
                        have q233 : x8_2 < (l0.length : Int) := of_decide_eq_true (by first | (with_reducible assumption) | assumption)
                        obtain ⟨ad233, e233, hx233_0⟩ := Kd.at_string HR0.out x8_2 p233 q233
                        have hw233_0 := hx233_0
                        cases e233
                        replace hx233_0 := (HB.out.cell (World.block_lt_of_cell? w _ hx233_0)).trans hx233_0
                        replace p233 := eq_true p233
                        replace q233 := eq_true q233
                        refine start_ (n := 12) (S := fun w' => w'.cell? (ad233.add (x8_2).toNat) = some (.string (rdOf ByteArray.empty l0 x8_2))) (ds := []) #[false, false, false, false, false, false, false, false, false, false, false, false] (by kernel_rfl) rfl rfl (((HB.out.cell (World.block_lt_of_cell? w _ hw233_0)).trans hw233_0)) (fun hHeld => ?_); refine with_tabW drydocklaw14_PathDots.tab11 drydocklaw14_PathDots.bits11 (fun HT_ HW_ => ?_)
                        generalize wr.drew = w29 at HB hx233_0 hHeld ⊢
                        refine pure_ (i := 0) (N := some 42) (v := ?_) (a' := ?_) #[true, false, false, false, false, false, false, false, false, false, false, false] rfl rfl (any_of HT_.out (by kernel_rfl)) (fun _ _ _ h => h) (Or.inl ⟨by rfl, ?_⟩) ?_ ?_
                        rotate_left
                        · intro w'
                          go_simp
                          with_reducible rfl
                        rotate_left
                        · simp only [Act.put, List.setIfInBounds_toArray, List.set_cons_zero, List.set_cons_succ, i64_w, i32_w]
                          rfl
                        refine pure_ (i := 2) (N := some 44) (v := ?_) (a' := ?_) #[true, false, true, false, false, false, false, false, false, false, false, false] rfl rfl (any_of HT_.out (by kernel_rfl)) (fun _ _ _ h => h) (Or.inl ⟨by rfl, ?_⟩) ?_ ?_
                        rotate_left
                        · intro w'
                          go_simp
                          with_reducible rfl
                        rotate_left
                        · simp only [Act.put, List.setIfInBounds_toArray, List.set_cons_zero, List.set_cons_succ, i64_w, i32_w]
                          rfl
                        refine pure_ (i := 5) (N := some 47) (v := ?_) (a' := ?_) #[true, false, true, false, false, true, false, false, false, false, false, false] rfl rfl (any_of HT_.out (by kernel_rfl)) (fun _ _ _ h => h) (Or.inl ⟨by rfl, ?_⟩) ?_ ?_
                        rotate_left
                        · intro w'
                          go_simp
                          with_reducible rfl
                        rotate_left
                        · simp only [Act.put, List.setIfInBounds_toArray, List.set_cons_zero, List.set_cons_succ, i64_w, i32_w]
                          rfl
                        refine pure_ (i := 6) (N := some 48) (v := ?_) (a' := ?_) #[true, false, true, false, false, true, true, false, false, false, false, false] rfl rfl (any_of HT_.out (by kernel_rfl)) (fun _ _ _ h => h) (Or.inl ⟨by rfl, ?_⟩) ?_ ?_
                        rotate_left
                        · intro w'
                          go_simp
                          with_reducible rfl
                        rotate_left
                        · simp only [Act.put, List.setIfInBounds_toArray, List.set_cons_zero, List.set_cons_succ, i64_w, i32_w]
                          rfl
                        refine pure_ (i := 7) (N := some 49) (v := ?_) (a' := ?_) #[true, false, true, false, false, true, true, true, false, false, false, false] rfl rfl (any_of HT_.out (by kernel_rfl)) (fun _ _ _ h => h) (Or.inl ⟨by rfl, ?_⟩) ?_ ?_
                        rotate_left
                        · intro w'
                          go_simp
                          with_reducible rfl
                        rotate_left
                        · simp only [Act.put, List.setIfInBounds_toArray, List.set_cons_zero, List.set_cons_succ, i64_w, i32_w]
                          rfl
                        refine take_ (i := 8) (N := some 50) (v := ?_) (a' := ?_) #[true, false, true, false, false, true, true, true, true, false, false, false] rfl rfl (take_ofW HT_.out HW_.out (by kernel_rfl)) (fun _ _ _ h => h) (Or.inl ⟨by rfl, ?_⟩) hHeld ?_ ?_
                        rotate_left
                        · intro w' s0
                          go_simp
                          with_reducible rfl
                        rotate_left
                        · simp only [Act.put, List.setIfInBounds_toArray, List.set_cons_zero, List.set_cons_succ, i64_w, i32_w]
                          rfl
                        refine one_ (i := 1) (N := some 43) #[true, true, true, false, false, true, true, true, true, false, false, false] rfl rfl (one_of HT_.out (by kernel_rfl)) (by decide) (fun K hK => ?_)
                        refine Kd.R_lit_step Kd.string _ 9 ?hg (N := 43) ?hd (xs := ([(⟨#[47]⟩ : ByteArray), (⟨#[47, 47]⟩ : ByteArray), (⟨#[47, 46, 47]⟩ : ByteArray), (⟨#[47, 120, 47, 46, 46, 47]⟩ : ByteArray)] : List ByteArray)) (inner := [.string (⟨#[47]⟩ : ByteArray), .string (⟨#[47, 47]⟩ : ByteArray), .string (⟨#[47, 46, 47]⟩ : ByteArray), .string (⟨#[47, 120, 47, 46, 46, 47]⟩ : ByteArray)]) (ok := fun _ => True) (okp := fun _ => True) ?hr ?hp (fun _ hk => hk) trivial (Below.refl _ _) (Nat.le_refl _) (by simp) ?_; (case hd => rfl); (case hg => rfl); (case hr => first | (go_simp; done) | (go_simp; rfl)); (case hp => exact (Reps.one (show Kd.M Kd.string _ _ _ (⟨#[47]⟩ : ByteArray) [.string (⟨#[47]⟩ : ByteArray)] from rfl) (Reps.one (show Kd.M Kd.string _ _ _ (⟨#[47, 47]⟩ : ByteArray) [.string (⟨#[47, 47]⟩ : ByteArray)] from rfl) (Reps.one (show Kd.M Kd.string _ _ _ (⟨#[47, 46, 47]⟩ : ByteArray) [.string (⟨#[47, 46, 47]⟩ : ByteArray)] from rfl) (Reps.one (show Kd.M Kd.string _ _ _ (⟨#[47, 120, 47, 46, 46, 47]⟩ : ByteArray) [.string (⟨#[47, 120, 47, 46, 46, 47]⟩ : ByteArray)] from rfl) (Reps.none _ _))))))
                        intro v230 w30 ho31 hb hg_ hnew_
                        clear hg_ hnew_
                        (first | rw [← Ny229.out] at ho31 | (simp only [Int.reduceToNat] at ho31; rw [← Ny229.out] at ho31))
                        have n0_ := Aside0.mk (Kd.R_lower ho31 (below_size (by repeat (first | (with_reducible first | exact HB.out | apply below_alloc | apply pw_below_drewN | apply below_drew1) | exact HB.out))))
                        have n1_ := Aside0.mk (below_step (by repeat (first | (with_reducible first | exact HB.out | apply below_alloc | apply pw_below_drewN | apply below_drew1) | exact HB.out)) hb)
                        clear HB
                        have HO231 := n0_
                        have HB := n1_
                        clear n0_ n1_
                        clear hb ho31
                        obtain ⟨Ao32, co32, eo32⟩ := Kd.R_slice HO231.out
                        subst eo32
                        obtain ⟨ado32, fo32, _⟩ := Kd.at_string (Kd.R_reads' HO231.out).2.2 0 (by decide) (by rw [Ny229.out]; simp)
                        cases fo32
                        refine hK.out _ _ (((HB.out.cell (World.block_lt_of_cell? w _ hw233_0)).trans hw233_0)) (fun hHeld => ?_)
                        clear hK K
                        refine norm_ (a' := ?_) ?_ ?_
                        rotate_left
                        · show Act.put _ (some 43) _ = _
                          simp only [Act.put, List.setIfInBounds_toArray, List.set_cons_zero, List.set_cons_succ, i64_w, i32_w]
                          rfl
                        refine pure_ (i := 3) (N := some 45) (v := ?_) (a' := ?_) #[true, true, true, true, false, true, true, true, true, false, false, false] rfl rfl (any_of HT_.out (by kernel_rfl)) (fun _ _ _ h => h) (Or.inl ⟨by rfl, ?_⟩) ?_ ?_
                        rotate_left
                        · intro w'
                          go_simp
                          with_reducible rfl
                        rotate_left
                        · simp only [Act.put, List.setIfInBounds_toArray, List.set_cons_zero, List.set_cons_succ, i64_w, i32_w]
                          rfl
                        refine one_ (i := 4) (N := some 46) #[true, true, true, true, true, true, true, true, true, false, false, false] rfl rfl (one_of HT_.out (by kernel_rfl)) (by decide) (fun K hK => ?_)
                        (have p232 : 0 ≤ (0 : Int) := (by omega); have q232 : 0 < (y229.length : Int) := of_decide_eq_true (by first | (with_reducible assumption) | assumption); obtain ⟨ad232, e232, hx232_0⟩ := Kd.at_string (Kd.R_reads' HO231.out).2.2 0 p232 q232; obtain rfl : ado32 = ad232 := (by injection e232); (try rw [show ((0 : Int)).toNat = 0 from rfl] at hx232_0); (try rw [Addr.add_zero'] at hx232_0))
                        refine value_ (w1 := ?_) (v := ?_) (by rfl) rfl ?_ ?_
                        rotate_left 2
                        · go_simp
                          constructor
                          · rfl
                          · rfl
                        clear hx232_0
                        refine hK.out _ _ (((HB.out.cell (World.block_lt_of_cell? w _ hw233_0)).trans hw233_0)) (fun hHeld => ?_)
                        clear hK K
                        refine norm_ (a' := ?_) ?_ ?_
                        rotate_left
                        · show Act.put _ (some 46) _ = _
                          simp only [Act.put, List.setIfInBounds_toArray, List.set_cons_zero, List.set_cons_succ, i64_w, i32_w]
                          rfl
                        refine pure_ (i := 9) (N := some 51) (v := ?_) (a' := ?_) #[true, true, true, true, true, true, true, true, true, true, false, false] rfl rfl (any_of HT_.out (by kernel_rfl)) (fun _ _ _ h => h) (Or.inl ⟨by rfl, ?_⟩) ?_ ?_
                        rotate_left
                        · intro w'
                          go_simp
                          with_reducible rfl
                        rotate_left
                        · simp only [Act.put, List.setIfInBounds_toArray, List.set_cons_zero, List.set_cons_succ, i64_w, i32_w]
                          rfl
                        refine pure_ (i := 10) (N := some 52) (v := ?_) (a' := ?_) #[true, true, true, true, true, true, true, true, true, true, true, false] rfl rfl (any_of HT_.out (by kernel_rfl)) (fun _ _ _ h => h) (Or.inl ⟨by rfl, ?_⟩) ?_ ?_
                        rotate_left
                        · intro w'
                          go_simp
                          with_reducible rfl
                        rotate_left
                        · simp only [Act.put, List.setIfInBounds_toArray, List.set_cons_zero, List.set_cons_succ, i64_w, i32_w]
                          rfl
                        refine pure_ (i := 11) (N := some 7) (v := ?_) (a' := ?_) #[true, true, true, true, true, true, true, true, true, true, true, true] rfl rfl (any_of HT_.out (by kernel_rfl)) (fun _ _ _ h => h) (Or.inl ⟨by rfl, ?_⟩) ?_ ?_
                        rotate_left
                        · intro w'
                          go_simp
                          with_reducible rfl
                        rotate_left
                        · simp only [Act.put, List.setIfInBounds_toArray, List.set_cons_zero, List.set_cons_succ, i64_w, i32_w]
                          rfl
                        refine done_ (done_of HT_.out (by kernel_rfl)) ?_
                        try go_wp2
                        go_roundg k2
                        case measure => have := HJ3.out; have := HK2.out; omega
                        case rel => exact ⟨(x7_2 ++ ((rdOf ByteArray.empty y229 0) ++ (rdOf ByteArray.empty l0 x8_2))), (wrap64 (x8_2 + 1)), (by first | rfl | (simp; done) | (simp [*]; done)), (by first | rfl | (simp; done) | (simp [*]; done)), H', ⟨by have := HJ3.out; have := HK2.out; omega⟩, ⟨by repeat (first | (with_reducible first | exact HB.out | apply below_alloc | apply pw_below_drewN | apply below_drew1) | exact HB.out)⟩⟩
                      · rw [if_neg c28] at H
                        exact absurd H (by simp)
                    · rw [if_neg c27] at H
                      exact absurd H (by simp)
                  · rw [if_neg c26] at H
                    exact absurd H (by simp)
                · rw [if_neg c25] at H
                  exact absurd H (by simp)
            · rw [if_neg c13] at H
              have c13b0 : decide (x8_2 < (l0.length : Int)) = false := decide_eq_false c13
              clear c13
              have HC33 := Aside0.mk H
              clear H
              go_upto_if 54 with (fail)
              go_cut [7] (fun v7 wc => ∃ (kq : Nat) (x7_32 : ByteArray), v7 = .string x7_32 ∧ Aside0 (drydocklaw14_PathDots.j2 kq l0 t219 x7_32 = some r) ∧ Aside0 (kq ≤ k2) ∧ Aside0 (Below w.heap.size w wc))
              case first =>
                have H := HC33.out
                clear HC33
                by_cases c34 : x7_2.toList = ([] : List UInt8)
                · rw [if_pos c34] at H
                  have c34b0 : (x7_2.toList == ([] : List UInt8)) = true := beq_iff_eq.mpr c34
                  have c34b1 : (x7_2.toList != ([] : List UInt8)) = false := bne_eq_false_iff_eq.mpr c34
                  have c34b6 : x7_2.toList.isEmpty = true := List.isEmpty_iff.2 (beq_iff_eq.1 c34b0)
                  clear c34
                  (first | rw [c34b0] | (simp only [i64_w, i32_w]; rw [c34b0]) | skip)
                  have H' := Aside0.mk H
                  clear H
                  go_wp2
                  all_goals first | (exfalso; rename_i h_; rw [c34b6] at h_; cases h_; done) | skip
                  go_meet
                  case rel => exact ⟨_, ((⟨#[47]⟩ : ByteArray)), (by first | rfl | (simp; done) | (simp [*]; done)), H', ⟨by have := HJ3.out; have := HK2.out; first | omega | exact Nat.le_refl _⟩, ⟨by repeat (first | (with_reducible first | exact HB.out | apply below_alloc | apply pw_below_drewN | apply below_drew1) | exact HB.out)⟩⟩
                · rw [if_neg c34] at H
                  have c34b0 : (x7_2.toList == ([] : List UInt8)) = false := beq_eq_false_iff_ne.mpr c34
                  have c34b1 : (x7_2.toList != ([] : List UInt8)) = true := bne_iff_ne.mpr c34
                  have c34b6 : x7_2.toList.isEmpty = false := List.isEmpty_eq_false_iff.2 (bne_iff_ne.1 c34b1)
                  (first | rw [c34b0] | (simp only [i64_w, i32_w]; rw [c34b0]) | skip)
                  have H' := Aside0.mk H
                  clear H
                  go_wp2
                  all_goals first | (exfalso; rename_i h_; rw [c34b6] at h_; cases h_; done) | skip
                  go_meet
                  case rel => exact ⟨_, (x7_2), (by first | rfl | (simp; done) | (simp [*]; done)), H', ⟨by have := HJ3.out; have := HK2.out; first | omega | exact Nat.le_refl _⟩, ⟨by repeat (first | (with_reducible first | exact HB.out | apply below_alloc | apply pw_below_drewN | apply below_drew1) | exact HB.out)⟩⟩
              case rest =>
                clear HC33
                try clear c1
                try clear c2
                try clear p2
                try clear q2
                try clear hx2
                try clear qi2
                try clear c3
                try clear p6
                try clear c7
                try clear c8
                try clear c10
                try clear c11
                try clear c13
                try clear c13b0
                try clear c14
                try clear c14b0
                try clear c15
                try clear c15b0
                try clear c17
                try clear c17b0
                try clear c18
                try clear c18b0
                try clear c19
                try clear c19b0
                try clear c19b1
                try clear c19b2
                try clear c20
                try clear c20b0
                try clear c20b1
                try clear c20b2
                try clear p22
                try clear q22
                try clear hx22
                try clear qi22
                try clear p23
                try clear q23
                try clear hx23
                try clear qi23
                try clear c25
                try clear c25b0
                try clear c25b1
                try clear c26
                try clear c26b0
                try clear c27
                try clear c27b0
                try clear c27b1
                try clear c27b2
                try clear c28
                try clear c28b0
                try clear c28b1
                try clear c28b2
                try clear c34
                try clear c34b0
                try clear c34b1
                try clear hx223_0
                try clear hx227_0
                try clear hx228_0
                try clear hx232_0
                try clear hx233_0
                try clear p2
                try clear p223
                try clear p227
                try clear p228
                try clear p232
                try clear p233
                try clear q223
                try clear q227
                try clear q228
                try clear q232
                try clear q233
                obtain ⟨kq, x7_32, rfl, HA, HJ32, HB⟩ := hcut
                cases kq with
                | zero => exact absurd HA.out (by simp [drydocklaw14_PathDots.j2])
                | succ kj32 =>
                  have H := HA.out
                  clear HA
                  simp only [drydocklaw14_PathDots.j2] at H
                  replace H := Option.bind_eq_some_iff.mp H
                  obtain ⟨⟨t234, t235⟩, A350, H⟩ := H
                  replace H : ((path_Split.f kj32 t219).bind fun bt238 => (if t235 = 11 then (some (decide ((l0.length : Int) ≥ 16))) else (if t235 = 0 then (if bt238.2 = 0 then ((drydockref14_Same.f kj32 t234 bt238.1).bind fun t242 => (some t242)) else (some false)) else (some false)))) = some r := H
                  have A35 := Aside0.mk A350
                  clear A350
                  replace H := Option.bind_eq_some_iff.mp H
                  obtain ⟨⟨t238, t239⟩, A360, H⟩ := H
                  replace H : (if t235 = 11 then (some (decide ((l0.length : Int) ≥ 16))) else (if t235 = 0 then (if t239 = 0 then ((drydockref14_Same.f kj32 t234 t238).bind fun t242 => (some t242)) else (some false)) else (some false))) = some r := H
                  have A36 := Aside0.mk A360
                  clear A360
                  by_cases c37 : t235 = 11
                  · rw [if_pos c37] at H
                    have c37b0 : (t235 == 11) = true := beq_iff_eq.mpr c37
                    have c37b1 : (t235 != 11) = false := bne_eq_false_iff_eq.mpr c37
                    clear c37
                    obtain rfl := Option.some.inj H
                    go_wp2_with (first | ((with_reducible refine gate_callee (f := 9) rfl ?_); refine goesL_ (some 57) rfl rfl Try.func9 (by kernel_rfl) rfl #[.string x7_32] rfl (by (try simp only [List.map_toArray, List.map_cons, List.map_nil]); first | done | rfl | (simp only [List.length_drop, List.length_take]; rfl)) ?_; (with_reducible refine (path_Split.calls kj32 x7_32 t234 t235 _ A35.out).mono ?_); rintro e w38 ⟨v236, rfl, ho0, hb⟩; refine ⟨_, rfl, ?_⟩; have n0_ := Aside0.mk (Kd.R_lower ho0 (below_size (by repeat (first | (with_reducible first | exact HB.out | apply below_alloc | apply pw_below_drewN | apply below_drew1) | exact HB.out)))); have n1_ := Aside0.mk (below_step (by repeat (first | (with_reducible first | exact HB.out | apply below_alloc | apply pw_below_drewN | apply below_drew1) | exact HB.out)) hb); clear HB; have HO237 := n0_; have HB := n1_; clear n0_ n1_; (try clear hb); (try clear hb2); (try clear hk); (try clear hi); (try clear ho0)) | ((with_reducible refine gate_callee (f := 9) rfl ?_); refine goesL_ (some 62) rfl rfl Try.func9 (by kernel_rfl) rfl #[.string t219] rfl (by (try simp only [List.map_toArray, List.map_cons, List.map_nil]); first | done | rfl | (simp only [List.length_drop, List.length_take]; rfl)) ?_; (with_reducible refine (path_Split.calls kj32 t219 t238 t239 _ A36.out).mono ?_); rintro e w39 ⟨v240, rfl, ho0, hb⟩; refine ⟨_, rfl, ?_⟩; have n0_ := Aside0.mk (Kd.R_elder' (by (with_reducible repeat (first | apply Kd.R_alloc | apply Kd.R_drewN | apply Kd.R_drew)); exact HO237.out) (Kd.R_base ho0) hb); have n1_ := Aside0.mk (Kd.R_lower (Kd.R_new' ho0 (Kd.R_lt (by (with_reducible repeat (first | apply Kd.R_alloc | apply Kd.R_drewN | apply Kd.R_drew)); exact HO237.out))) (below_size (by repeat (first | (with_reducible first | exact HB.out | apply below_alloc | apply pw_below_drewN | apply below_drew1) | exact HB.out)))); have n2_ := Aside0.mk (below_step (by repeat (first | (with_reducible first | exact HB.out | apply below_alloc | apply pw_below_drewN | apply below_drew1) | exact HB.out)) hb); clear HO237; clear HB; have HO237 := n0_; have HO241 := n1_; have HB := n2_; clear n0_ n1_ n2_; (try clear hb); (try clear hb2); (try clear hk); (try clear hi); (try clear ho0)))
                    go_ret
                    exact ⟨by first | rfl | (simp [errW_none, errW_some] <;> rfl) | (simp [*, errW_none, errW_some] <;> rfl), by repeat (first | (with_reducible first | exact HB.out | apply below_alloc | apply pw_below_drewN | apply below_drew1) | exact HB.out)⟩
                  · rw [if_neg c37] at H
                    have c37b0 : (t235 == 11) = false := beq_eq_false_iff_ne.mpr c37
                    have c37b1 : (t235 != 11) = true := bne_iff_ne.mpr c37
                    by_cases c40 : t235 = 0
                    · rw [if_pos c40] at H
                      have c40b0 : (t235 == 0) = true := beq_iff_eq.mpr c40
                      have c40b1 : (t235 != 0) = false := bne_eq_false_iff_eq.mpr c40
                      clear c40
                      by_cases c41 : t239 = 0
                      · rw [if_pos c41] at H
                        have c41b0 : (t239 == 0) = true := beq_iff_eq.mpr c41
                        have c41b1 : (t239 != 0) = false := bne_eq_false_iff_eq.mpr c41
                        clear c41
                        replace H := Option.bind_eq_some_iff.mp H
                        obtain ⟨t242, A420, H⟩ := H
                        replace H : (some t242) = some r := H
                        have A42 := Aside0.mk A420
                        clear A420
                        obtain rfl := Option.some.inj H
                        go_wp2_with (first | ((with_reducible refine gate_callee (f := 9) rfl ?_); refine goesL_ (some 57) rfl rfl Try.func9 (by kernel_rfl) rfl #[.string x7_32] rfl (by (try simp only [List.map_toArray, List.map_cons, List.map_nil]); first | done | rfl | (simp only [List.length_drop, List.length_take]; rfl)) ?_; (with_reducible refine (path_Split.calls kj32 x7_32 t234 t235 _ A35.out).mono ?_); rintro e w43 ⟨v236, rfl, ho0, hb⟩; refine ⟨_, rfl, ?_⟩; have n0_ := Aside0.mk (Kd.R_lower ho0 (below_size (by repeat (first | (with_reducible first | exact HB.out | apply below_alloc | apply pw_below_drewN | apply below_drew1) | exact HB.out)))); have n1_ := Aside0.mk (below_step (by repeat (first | (with_reducible first | exact HB.out | apply below_alloc | apply pw_below_drewN | apply below_drew1) | exact HB.out)) hb); clear HB; have HO237 := n0_; have HB := n1_; clear n0_ n1_; (try clear hb); (try clear hb2); (try clear hk); (try clear hi); (try clear ho0)) | ((with_reducible refine gate_callee (f := 9) rfl ?_); refine goesL_ (some 62) rfl rfl Try.func9 (by kernel_rfl) rfl #[.string t219] rfl (by (try simp only [List.map_toArray, List.map_cons, List.map_nil]); first | done | rfl | (simp only [List.length_drop, List.length_take]; rfl)) ?_; (with_reducible refine (path_Split.calls kj32 t219 t238 t239 _ A36.out).mono ?_); rintro e w44 ⟨v240, rfl, ho0, hb⟩; refine ⟨_, rfl, ?_⟩; have n0_ := Aside0.mk (Kd.R_elder' (by (with_reducible repeat (first | apply Kd.R_alloc | apply Kd.R_drewN | apply Kd.R_drew)); exact HO237.out) (Kd.R_base ho0) hb); have n1_ := Aside0.mk (Kd.R_lower (Kd.R_new' ho0 (Kd.R_lt (by (with_reducible repeat (first | apply Kd.R_alloc | apply Kd.R_drewN | apply Kd.R_drew)); exact HO237.out))) (below_size (by repeat (first | (with_reducible first | exact HB.out | apply below_alloc | apply pw_below_drewN | apply below_drew1) | exact HB.out)))); have n2_ := Aside0.mk (below_step (by repeat (first | (with_reducible first | exact HB.out | apply below_alloc | apply pw_below_drewN | apply below_drew1) | exact HB.out)) hb); clear HO237; clear HB; have HO237 := n0_; have HO241 := n1_; have HB := n2_; clear n0_ n1_ n2_; (try clear hb); (try clear hb2); (try clear hk); (try clear hi); (try clear ho0); obtain ⟨Ao45, co45, eo45⟩ := Kd.R_slice HO237.out; subst eo45; obtain ⟨Ao46, co46, eo46⟩ := Kd.R_slice HO241.out; subst eo46) | (go_at_call 12; (with_reducible refine (drydockref14_Same.calls kj32 _ _ t234 _ _ t238 t242 _ ?side1 ?side2 ?side3 ?side4 A42.out).mono ?_); (case side1 => repeat (first | exact (Kd.R_reads' HO237.out).2.2 | (with_reducible refine Kd.C_alloc ?_ _) | (with_reducible refine Kd.C_drewN ?_ _) | (with_reducible refine Kd.C_drew ?_))); (case side2 => exact (Kd.R_reads' HO237.out).2.1); (case side3 => repeat (first | exact (Kd.R_reads' HO241.out).2.2 | (with_reducible refine Kd.C_alloc ?_ _) | (with_reducible refine Kd.C_drewN ?_ _) | (with_reducible refine Kd.C_drew ?_))); (case side4 => exact (Kd.R_reads' HO241.out).2.1); rintro e w' ⟨rfl, ⟨nd, rfl⟩⟩))
                        go_ret
                        exact ⟨by first | rfl | (simp [errW_none, errW_some] <;> rfl) | (simp [*, errW_none, errW_some] <;> rfl), by repeat (first | (with_reducible first | exact HB.out | apply below_alloc | apply pw_below_drewN | apply below_drew1) | exact HB.out)⟩
                      · rw [if_neg c41] at H
                        have c41b0 : (t239 == 0) = false := beq_eq_false_iff_ne.mpr c41
                        have c41b1 : (t239 != 0) = true := bne_iff_ne.mpr c41
                        obtain rfl := Option.some.inj H
                        go_wp2_with (first | ((with_reducible refine gate_callee (f := 9) rfl ?_); refine goesL_ (some 57) rfl rfl Try.func9 (by kernel_rfl) rfl #[.string x7_32] rfl (by (try simp only [List.map_toArray, List.map_cons, List.map_nil]); first | done | rfl | (simp only [List.length_drop, List.length_take]; rfl)) ?_; (with_reducible refine (path_Split.calls kj32 x7_32 t234 t235 _ A35.out).mono ?_); rintro e w47 ⟨v236, rfl, ho0, hb⟩; refine ⟨_, rfl, ?_⟩; have n0_ := Aside0.mk (Kd.R_lower ho0 (below_size (by repeat (first | (with_reducible first | exact HB.out | apply below_alloc | apply pw_below_drewN | apply below_drew1) | exact HB.out)))); have n1_ := Aside0.mk (below_step (by repeat (first | (with_reducible first | exact HB.out | apply below_alloc | apply pw_below_drewN | apply below_drew1) | exact HB.out)) hb); clear HB; have HO237 := n0_; have HB := n1_; clear n0_ n1_; (try clear hb); (try clear hb2); (try clear hk); (try clear hi); (try clear ho0)) | ((with_reducible refine gate_callee (f := 9) rfl ?_); refine goesL_ (some 62) rfl rfl Try.func9 (by kernel_rfl) rfl #[.string t219] rfl (by (try simp only [List.map_toArray, List.map_cons, List.map_nil]); first | done | rfl | (simp only [List.length_drop, List.length_take]; rfl)) ?_; (with_reducible refine (path_Split.calls kj32 t219 t238 t239 _ A36.out).mono ?_); rintro e w48 ⟨v240, rfl, ho0, hb⟩; refine ⟨_, rfl, ?_⟩; have n0_ := Aside0.mk (Kd.R_elder' (by (with_reducible repeat (first | apply Kd.R_alloc | apply Kd.R_drewN | apply Kd.R_drew)); exact HO237.out) (Kd.R_base ho0) hb); have n1_ := Aside0.mk (Kd.R_lower (Kd.R_new' ho0 (Kd.R_lt (by (with_reducible repeat (first | apply Kd.R_alloc | apply Kd.R_drewN | apply Kd.R_drew)); exact HO237.out))) (below_size (by repeat (first | (with_reducible first | exact HB.out | apply below_alloc | apply pw_below_drewN | apply below_drew1) | exact HB.out)))); have n2_ := Aside0.mk (below_step (by repeat (first | (with_reducible first | exact HB.out | apply below_alloc | apply pw_below_drewN | apply below_drew1) | exact HB.out)) hb); clear HO237; clear HB; have HO237 := n0_; have HO241 := n1_; have HB := n2_; clear n0_ n1_ n2_; (try clear hb); (try clear hb2); (try clear hk); (try clear hi); (try clear ho0)))
                        go_ret
                        exact ⟨by first | rfl | (simp [errW_none, errW_some] <;> rfl) | (simp [*, errW_none, errW_some] <;> rfl), by repeat (first | (with_reducible first | exact HB.out | apply below_alloc | apply pw_below_drewN | apply below_drew1) | exact HB.out)⟩
                    · rw [if_neg c40] at H
                      have c40b0 : (t235 == 0) = false := beq_eq_false_iff_ne.mpr c40
                      have c40b1 : (t235 != 0) = true := bne_iff_ne.mpr c40
                      obtain rfl := Option.some.inj H
                      go_wp2_with (first | ((with_reducible refine gate_callee (f := 9) rfl ?_); refine goesL_ (some 57) rfl rfl Try.func9 (by kernel_rfl) rfl #[.string x7_32] rfl (by (try simp only [List.map_toArray, List.map_cons, List.map_nil]); first | done | rfl | (simp only [List.length_drop, List.length_take]; rfl)) ?_; (with_reducible refine (path_Split.calls kj32 x7_32 t234 t235 _ A35.out).mono ?_); rintro e w49 ⟨v236, rfl, ho0, hb⟩; refine ⟨_, rfl, ?_⟩; have n0_ := Aside0.mk (Kd.R_lower ho0 (below_size (by repeat (first | (with_reducible first | exact HB.out | apply below_alloc | apply pw_below_drewN | apply below_drew1) | exact HB.out)))); have n1_ := Aside0.mk (below_step (by repeat (first | (with_reducible first | exact HB.out | apply below_alloc | apply pw_below_drewN | apply below_drew1) | exact HB.out)) hb); clear HB; have HO237 := n0_; have HB := n1_; clear n0_ n1_; (try clear hb); (try clear hb2); (try clear hk); (try clear hi); (try clear ho0)) | ((with_reducible refine gate_callee (f := 9) rfl ?_); refine goesL_ (some 62) rfl rfl Try.func9 (by kernel_rfl) rfl #[.string t219] rfl (by (try simp only [List.map_toArray, List.map_cons, List.map_nil]); first | done | rfl | (simp only [List.length_drop, List.length_take]; rfl)) ?_; (with_reducible refine (path_Split.calls kj32 t219 t238 t239 _ A36.out).mono ?_); rintro e w50 ⟨v240, rfl, ho0, hb⟩; refine ⟨_, rfl, ?_⟩; have n0_ := Aside0.mk (Kd.R_elder' (by (with_reducible repeat (first | apply Kd.R_alloc | apply Kd.R_drewN | apply Kd.R_drew)); exact HO237.out) (Kd.R_base ho0) hb); have n1_ := Aside0.mk (Kd.R_lower (Kd.R_new' ho0 (Kd.R_lt (by (with_reducible repeat (first | apply Kd.R_alloc | apply Kd.R_drewN | apply Kd.R_drew)); exact HO237.out))) (below_size (by repeat (first | (with_reducible first | exact HB.out | apply below_alloc | apply pw_below_drewN | apply below_drew1) | exact HB.out)))); have n2_ := Aside0.mk (below_step (by repeat (first | (with_reducible first | exact HB.out | apply below_alloc | apply pw_below_drewN | apply below_drew1) | exact HB.out)) hb); clear HO237; clear HB; have HO237 := n0_; have HO241 := n1_; have HB := n2_; clear n0_ n1_ n2_; (try clear hb); (try clear hb2); (try clear hk); (try clear hi); (try clear ho0)))
                      go_ret
                      exact ⟨by first | rfl | (simp [errW_none, errW_some] <;> rfl) | (simp [*, errW_none, errW_some] <;> rfl), by repeat (first | (with_reducible first | exact HB.out | apply below_alloc | apply pw_below_drewN | apply below_drew1) | exact HB.out)⟩

end Go.Proofs.Ytjicnmelmflfbaa.PAll
