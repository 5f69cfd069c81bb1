-- Printed out of the translation by a program; functions that were proved by hand stand among them. Lean checks it.
import Derived.Test.YtcihfmehbmficaaPAllx0
namespace Go.Proofs.Ytcihfmehbmficaa.PAll
open Go.RowKit Go.Proofs.YtcihfmehbmficaaW.PrintWords Go.Proofs.YtcihfmehbmficaaW.PrintLast Go.Proofs.YtcihfmehbmficaaW.PrintMore
attribute [local go_sem] max2_int min2_int max_two min_two max_three min_three max_four min_four   -- for this text's walks alone
set_option linter.unusedVariables false
set_option linter.unusedSimpArgs false

/-! ### drydockref04_Num: function 29 -/
def drydockref04_Num.l0 : Nat → List Int → Int → Int → Int → Option (Int)
  | 0, _, _, _, _ => none
  | k + 1, x0, x1, x7, x8 => if x8 ≥ 0 then (if 0 ≤ (wrap64 (x1 + x8)) then (if (wrap64 (x1 + x8)) < (x0.length : Int) then (drydockref04_Num.l0 k x0 x1 (wrap64 ((wrap64 (x7 * 256)) + (wrap64 (rd x0 (wrap64 (x1 + x8)))))) (wrap64 (x8 - 1))) else (none)) else (none)) else (some x7)
def drydockref04_Num.f (k : Nat) (l0 : List Int) (a1 : Int) (a2 : Int) : Option (Int) := drydockref04_Num.l0 k l0 a1 0 (wrap64 (a2 - 1))
theorem drydockref04_Num.mono_l : ∀ k, (∀ y0 y1 y2 y3, LeO (drydockref04_Num.l0 k y0 y1 y2 y3) (drydockref04_Num.l0 (k + 1) y0 y1 y2 y3))
  | 0 => fun _ _ _ _ r h => by simp [drydockref04_Num.l0] at h
  | k + 1 => by
    have ih0 := drydockref04_Num.mono_l k
    · intro y0 y1 y2 y3
      unfold drydockref04_Num.l0
      repeat' first
      | (with_reducible exact ih0 _ _ _ _)
      | (with_reducible exact LeO.refl _)
      | (with_reducible exact LeO.none _)
      | (with_reducible refine LeO.ite ?_ ?_)
      | (with_reducible refine LeO.bind ?_ (fun _ => ?_))
      | exact ih0 _ _ _ _
      | exact LeO.none _
      | refine LeO.ite ?_ ?_
      | refine LeO.bind ?_ (fun _ => ?_)
theorem drydockref04_Num.mono : ∀ a0 a1 a2 k, LeO (drydockref04_Num.f k a0 a1 a2) (drydockref04_Num.f (k + 1) a0 a1 a2) := by
  intro a0 a1 a2 k
  have ih0 := drydockref04_Num.mono_l k
  unfold drydockref04_Num.f
  repeat' first
      | (with_reducible exact ih0 _ _ _ _)
      | (with_reducible exact LeO.refl _)
      | (with_reducible exact LeO.none _)
      | (with_reducible refine LeO.ite ?_ ?_)
      | (with_reducible refine LeO.bind ?_ (fun _ => ?_))
      | exact ih0 _ _ _ _
      | exact LeO.none _
      | refine LeO.ite ?_ ?_
      | refine LeO.bind ?_ (fun _ => ?_)
set_option maxHeartbeats 8000000 in
set_option maxRecDepth 100000 in
theorem drydockref04_Num.calls (k : Nat) (A0 : Option Addr) (c0 : Nat) (l0 : List Int) (a1 : Int) (a2 : Int) (r : Int) (w : World) (hr0 : Kd.C (Kd.int .u8) w A0 l0.length l0) (hc0 : l0.length ≤ c0) (h : drydockref04_Num.f k l0 a1 a2 = some r) :
    Calls Try.prog 29 #[.slice A0 l0.length c0, .int .i64 a1, .int .i64 a2] w fun e w' => e = .returned (.int .i64 r) ∧ Drawn0 w w' := by
  have HR0 := Aside0.mk hr0
  have HC0 := Aside0.mk hc0
  clear hr0 hc0
  have H : (drydockref04_Num.l0 k l0 a1 0 (wrap64 (a2 - 1))) = some r := h
  clear h
  have H' := Aside0.mk H
  clear H
  go_enter Try.func29, Try.ntmps29
  go_wp2
  go_loopg [7, 8] k (fun kq v7 v8 w' => ∃ (x7_1 : Int) (x8_1 : Int), v7 = .int .i64 x7_1 ∧ v8 = .int .i64 x8_1 ∧ Aside0 (drydockref04_Num.l0 kq l0 a1 x7_1 x8_1 = some r) ∧ Aside0 (kq ≤ k) ∧ Drawn0 w w')
  case atStart => exact ⟨(0), (wrap64 (a2 - 1)), (by first | rfl | (simp; done) | (simp [*]; done)), (by first | rfl | (simp; done) | (simp [*]; done)), H', ⟨Nat.le_refl _⟩, by repeat (first | exact Drawn0.refl _ | apply Drawn0.step)⟩
  case round =>
    clear H'
    try clear c2
    try clear p2
    obtain ⟨x7_1, x8_1, rfl, rfl, HA, HK1, ⟨m1, rfl⟩⟩ := hrel
    cases gk with
    | zero => exact absurd HA.out (by simp [drydockref04_Num.l0])
    | succ k1 =>
      have H := HA.out
      clear HA
      simp only [drydockref04_Num.l0] at H
      by_cases c4 : x8_1 ≥ 0
      · rw [if_pos c4] at H
        have c4b0 : decide (0 ≤ x8_1) = true := decide_eq_true c4
        clear c4
        obtain ⟨ji5, hji5⟩ : ∃ j_ : Int, (wrap64 (a1 + x8_1)) = j_ := ⟨_, rfl⟩
        replace H : (if 0 ≤ (ji5) then (if (ji5) < (l0.length : Int) then (drydockref04_Num.l0 k1 l0 a1 (wrap64 ((wrap64 (x7_1 * 256)) + (wrap64 (rd l0 (ji5))))) (wrap64 (x8_1 - 1))) else (none)) else (none)) = some r := by first | (rw [hji5] at H; exact H) | (simp only [hji5] at H ⊢; exact H)
        have hji5w : (IntKind.i64.wrap (a1 + x8_1)) = ji5 := (i64_w _).trans hji5
        by_cases c6 : 0 ≤ (ji5)
        · rw [if_pos c6] at H
          have c6b0 : decide (0 ≤ (ji5)) = true := decide_eq_true c6
          clear c6
          by_cases c7 : (ji5) < (l0.length : Int)
          · rw [if_pos c7] at H
            have c7b0 : decide ((ji5) < (l0.length : Int)) = true := decide_eq_true c7
            clear c7
            have H' := Aside0.mk H
            clear H
            have p167 : 0 ≤ ((ji5) : Int) := of_decide_eq_true (by first | (with_reducible assumption) | assumption)
            have q167 : (ji5) < (l0.length : Int) := of_decide_eq_true (by first | (with_reducible assumption) | assumption)
            obtain ⟨ad167, e167, hx167_0⟩ := Kd.at_int HR0.out (ji5) p167 q167
            cases e167
            replace p167 := eq_true p167
            replace q167 := eq_true q167
            go_wp2
            go_roundg k1
            case measure => have := HK1.out; omega
            case rel => exact ⟨(wrap64 ((wrap64 (x7_1 * 256)) + (wrap64 (rd l0 (ji5))))), (wrap64 (x8_1 - 1)), (by first | rfl | (simp; done) | (simp only [← hji5] <;> (first | rfl | simp)) | (simp [*]; done)), (by first | rfl | (simp; done) | (simp [*]; done)), H', ⟨by have := HK1.out; omega⟩, by repeat (first | exact Drawn0.refl _ | apply Drawn0.step)⟩
          · rw [if_neg c7] at H
            exact absurd H (by simp)
        · rw [if_neg c6] at H
          exact absurd H (by simp)
      · rw [if_neg c4] at H
        have c4b0 : decide (0 ≤ x8_1) = false := decide_eq_false c4
        clear c4
        obtain rfl := Option.some.inj H
        go_wp2
        go_ret
        exact ⟨by first | rfl | (simp; done) | (simp [*]; done), by repeat (first | exact Drawn0.refl _ | apply Drawn0.step)⟩

end Go.Proofs.Ytcihfmehbmficaa.PAll
