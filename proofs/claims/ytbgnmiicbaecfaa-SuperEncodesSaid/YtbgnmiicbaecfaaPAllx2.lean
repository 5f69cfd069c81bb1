-- Printed out of the translation by a program; functions that were proved by hand stand among them. Lean checks it.
import Derived.Test.YtbgnmiicbaecfaaPAllx0
import Derived.Test.YtbgnmiicbaecfaaPAllx1
namespace Go.Proofs.Ytbgnmiicbaecfaa.PAll
open Go.RowKit Go.Proofs.YtbgnmiicbaecfaaW.PrintWords Go.Proofs.YtbgnmiicbaecfaaW.PrintLast Go.Proofs.YtbgnmiicbaecfaaW.PrintMore
open Go.Proofs.YtbgnmiicbaecfaaW.PrintWords renaming blk_drewN → zN, blk_drew → zD, blk_alloc → zA, below_alloc → zB, pw_below_drewN → zP, below_drew1 → zE, below_set → zS
attribute [local go_sem] max2_int min2_int max_two min_two max_three min_three max_four min_four   -- for this text's walks alone
set_option linter.unusedVariables false
set_option linter.unusedSimpArgs false

/-! ### drydockref08_Encode: function 26 -/
def drydockref08_Encode.j0 : Nat → Bool → Int → Int → Int → Int → Int → Option (List Int × Int)
  | 0, _, _, _, _, _, _ => none
  | k + 1, x32, x105000, x105001, x105002, x105003, x105004 => if x32 = true then (some (([] : List Int), 2)) else ((some (([] : List Int) : List Int)).bind fun y110 => (if y110.length + 4 < 140737488355328 then ((drydockref04_Put.f k (y110 ++ bytesOf (⟨#[68, 82, 89, 68]⟩ : ByteArray)) x105000 2).bind fun t116 => ((drydockref04_Put.f k t116 x105001 1).bind fun t119 => ((drydockref04_Put.f k t119 x105002 1).bind fun t122 => ((drydockref04_Put.f k t122 x105003 2).bind fun t125 => ((drydockref04_Put.f k t125 x105004 2).bind fun t128 => ((drydockref04_Seal.f t128).bind fun t131 => (some (t131, 0)))))))) else (none)))
def drydockref08_Encode.f (k : Nat) (a0_0 : Int) (a0_1 : Int) (a0_2 : Int) (a0_3 : Int) (a0_4 : Int) : Option (List Int × Int) := (drydockref08_in.f a0_0 64 480).bind fun t105 => (if t105 = true then ((drydockref08_in.f a0_1 1 3).bind fun t106 => (if t106 = true then ((drydockref08_in.f a0_2 0 3).bind fun t107 => (if t107 = true then ((drydockref08_in.f a0_3 0 32).bind fun t108 => (if t108 = true then ((drydockref08_in.f a0_4 0 480).bind fun t109 => (drydockref08_Encode.j0 k (!t109) a0_0 a0_1 a0_2 a0_3 a0_4)) else (drydockref08_Encode.j0 k true a0_0 a0_1 a0_2 a0_3 a0_4))) else (drydockref08_Encode.j0 k true a0_0 a0_1 a0_2 a0_3 a0_4))) else (drydockref08_Encode.j0 k true a0_0 a0_1 a0_2 a0_3 a0_4))) else (drydockref08_Encode.j0 k true a0_0 a0_1 a0_2 a0_3 a0_4))
theorem drydockref08_Encode.mono_l : ∀ k, (∀ y0 y1 y2 y3 y4 y5, LeO (drydockref08_Encode.j0 k y0 y1 y2 y3 y4 y5) (drydockref08_Encode.j0 (k + 1) y0 y1 y2 y3 y4 y5))
  | 0 => fun _ _ _ _ _ _ r h => by simp [drydockref08_Encode.j0] at h
  | k + 1 => by
    have ih0 := drydockref08_Encode.mono_l k
    · intro y0 y1 y2 y3 y4 y5
      unfold drydockref08_Encode.j0
      repeat' first
      | (with_reducible exact ih0 _ _ _ _ _ _)
      | (with_reducible exact drydockref04_Put.mono _ _ _ _)
      | (with_reducible exact LeO.refl _)
      | (with_reducible exact LeO.none _)
      | (with_reducible refine LeO.ite ?_ ?_)
      | (with_reducible refine LeO.bind ?_ (fun _ => ?_))
      | exact ih0 _ _ _ _ _ _
      | exact drydockref04_Put.mono _ _ _ _
      | exact LeO.none _
      | refine LeO.ite ?_ ?_
      | refine LeO.bind ?_ (fun _ => ?_)
theorem drydockref08_Encode.mono : ∀ a0 a1 a2 a3 a4 k, LeO (drydockref08_Encode.f k a0 a1 a2 a3 a4) (drydockref08_Encode.f (k + 1) a0 a1 a2 a3 a4) := by
  intro a0 a1 a2 a3 a4 k
  have ih0 := drydockref08_Encode.mono_l k
  unfold drydockref08_Encode.f
  repeat' first
      | (with_reducible exact ih0 _ _ _ _ _ _)
      | (with_reducible exact drydockref04_Put.mono _ _ _ _)
      | (with_reducible exact LeO.refl _)
      | (with_reducible exact LeO.none _)
      | (with_reducible refine LeO.ite ?_ ?_)
      | (with_reducible refine LeO.bind ?_ (fun _ => ?_))
      | exact ih0 _ _ _ _ _ _
      | exact drydockref04_Put.mono _ _ _ _
      | exact LeO.none _
      | refine LeO.ite ?_ ?_
      | refine LeO.bind ?_ (fun _ => ?_)
set_option maxHeartbeats 8000000 in
set_option maxRecDepth 100000 in
theorem drydockref08_Encode.calls (k : Nat) (a0_0 : Int) (a0_1 : Int) (a0_2 : Int) (a0_3 : Int) (a0_4 : Int) (r1 : List Int) (r2 : Int) (w : World) (h : drydockref08_Encode.f k a0_0 a0_1 a0_2 a0_3 a0_4 = some (r1, r2)) :
    Calls Try.prog 26 #[.agg #[.int .i64 a0_0, .int .i64 a0_1, .int .i64 a0_2, .int .i64 a0_3, .int .i64 a0_4]] w fun e w' => ∃ v0_ : Value, e = .returned (.tuple #[v0_, .int .i64 r2]) ∧ Kd.R (Kd.int .u8) 5 w' w.heap.size (fun _ => True) v0_ r1 ∧ Below w.heap.size w w' := by
  have hu40 := Try.underlying40
  have HB := Aside0.mk (Below.refl w.heap.size w)
  have H : ((drydockref08_in.f a0_0 64 480).bind fun t105 => (if t105 = true then ((drydockref08_in.f a0_1 1 3).bind fun t106 => (if t106 = true then ((drydockref08_in.f a0_2 0 3).bind fun t107 => (if t107 = true then ((drydockref08_in.f a0_3 0 32).bind fun t108 => (if t108 = true then ((drydockref08_in.f a0_4 0 480).bind fun t109 => (drydockref08_Encode.j0 k (!t109) a0_0 a0_1 a0_2 a0_3 a0_4)) else (drydockref08_Encode.j0 k true a0_0 a0_1 a0_2 a0_3 a0_4))) else (drydockref08_Encode.j0 k true a0_0 a0_1 a0_2 a0_3 a0_4))) else (drydockref08_Encode.j0 k true a0_0 a0_1 a0_2 a0_3 a0_4))) else (drydockref08_Encode.j0 k true a0_0 a0_1 a0_2 a0_3 a0_4))) = some (r1, r2) := h
  clear h
  have HC2 := Aside0.mk H
  clear H
  go_enter Try.func26, Try.ntmps26
  go_upto_region 1 with (first | ((with_reducible refine gate_dst (N := 1) rfl ?_); refine box_event ?hg (N := 1) ?hd (cs := #[.int .i64 a0_0, .int .i64 a0_1, .int .i64 a0_2, .int .i64 a0_3, .int .i64 a0_4]) (t := 40) ?hr ?_; (case hd => rfl); (case hg => rfl); (case hr => first | (go_simp; done) | (go_simp; rfl)); intro gb104 hg w3 hbox hb; have n0_ := Aside0.mk (below_step (by repeat (first | (with_reducible first | exact HB.out | apply zB | apply zP | apply zE) | exact HB.out)) hb); have n1_ := Aside0.mk (hbox); have n2_ := Aside0.mk ((by rw [hg]; exact (below_size (by repeat (first | (with_reducible first | exact HB.out | apply zB | apply zP | apply zE) | exact HB.out))) : w.heap.size ≤ gb104)); have n3_ := Aside0.mk ((by rw [hg]; exact (below_size (by repeat (first | (with_reducible first | exact HB.out | apply zB | apply zP | apply zE) | exact HB.out))) : w.heap.size ≤ gb104)); clear HB; have HB := n0_; have BK104 := n1_; have GW104 := n2_; have GE104 := n3_; clear n0_ n1_ n2_ n3_; clear hb hbox hg))
  (try simp only [Act.put, List.setIfInBounds_toArray, List.set_cons_zero, List.set_cons_succ])
  go_cut [32] (fun v32 wc => ∃ (kq : Nat) (x32_1 : Bool), v32 = .bool x32_1 ∧ Aside0 (drydockref08_Encode.j0 kq x32_1 a0_0 a0_1 a0_2 a0_3 a0_4 = some (r1, r2)) ∧ Aside0 (kq ≤ k) ∧ Aside0 (wc.heap[gb104]? = some (.cells #[.int .i64 a0_0, .int .i64 a0_1, .int .i64 a0_2, .int .i64 a0_3, .int .i64 a0_4] 40 (0, 0))) ∧ Aside0 (Below w.heap.size w wc))
  case first =>
    have H := HC2.out
    clear HC2
    replace H := Option.bind_eq_some_iff.mp H
    obtain ⟨t105, A40, H⟩ := H
    replace H : (if t105 = true then ((drydockref08_in.f a0_1 1 3).bind fun t106 => (if t106 = true then ((drydockref08_in.f a0_2 0 3).bind fun t107 => (if t107 = true then ((drydockref08_in.f a0_3 0 32).bind fun t108 => (if t108 = true then ((drydockref08_in.f a0_4 0 480).bind fun t109 => (drydockref08_Encode.j0 k (!t109) a0_0 a0_1 a0_2 a0_3 a0_4)) else (drydockref08_Encode.j0 k true a0_0 a0_1 a0_2 a0_3 a0_4))) else (drydockref08_Encode.j0 k true a0_0 a0_1 a0_2 a0_3 a0_4))) else (drydockref08_Encode.j0 k true a0_0 a0_1 a0_2 a0_3 a0_4))) else (drydockref08_Encode.j0 k true a0_0 a0_1 a0_2 a0_3 a0_4)) = some (r1, r2) := H
    have A4 := Aside0.mk A40
    clear A40
    by_cases c5 : t105 = true
    · subst c5
      have H1 : ((drydockref08_in.f a0_1 1 3).bind fun t106 => (if t106 = true then ((drydockref08_in.f a0_2 0 3).bind fun t107 => (if t107 = true then ((drydockref08_in.f a0_3 0 32).bind fun t108 => (if t108 = true then ((drydockref08_in.f a0_4 0 480).bind fun t109 => (drydockref08_Encode.j0 k (!t109) a0_0 a0_1 a0_2 a0_3 a0_4)) else (drydockref08_Encode.j0 k true a0_0 a0_1 a0_2 a0_3 a0_4))) else (drydockref08_Encode.j0 k true a0_0 a0_1 a0_2 a0_3 a0_4))) else (drydockref08_Encode.j0 k true a0_0 a0_1 a0_2 a0_3 a0_4))) = some (r1, r2) := by rw [if_pos rfl] at H; exact H
      clear H
      have H := H1
      clear H1
      replace H := Option.bind_eq_some_iff.mp H
      obtain ⟨t106, A60, H⟩ := H
      replace H : (if t106 = true then ((drydockref08_in.f a0_2 0 3).bind fun t107 => (if t107 = true then ((drydockref08_in.f a0_3 0 32).bind fun t108 => (if t108 = true then ((drydockref08_in.f a0_4 0 480).bind fun t109 => (drydockref08_Encode.j0 k (!t109) a0_0 a0_1 a0_2 a0_3 a0_4)) else (drydockref08_Encode.j0 k true a0_0 a0_1 a0_2 a0_3 a0_4))) else (drydockref08_Encode.j0 k true a0_0 a0_1 a0_2 a0_3 a0_4))) else (drydockref08_Encode.j0 k true a0_0 a0_1 a0_2 a0_3 a0_4)) = some (r1, r2) := H
      have A6 := Aside0.mk A60
      clear A60
      by_cases c7 : t106 = true
      · subst c7
        have H1 : ((drydockref08_in.f a0_2 0 3).bind fun t107 => (if t107 = true then ((drydockref08_in.f a0_3 0 32).bind fun t108 => (if t108 = true then ((drydockref08_in.f a0_4 0 480).bind fun t109 => (drydockref08_Encode.j0 k (!t109) a0_0 a0_1 a0_2 a0_3 a0_4)) else (drydockref08_Encode.j0 k true a0_0 a0_1 a0_2 a0_3 a0_4))) else (drydockref08_Encode.j0 k true a0_0 a0_1 a0_2 a0_3 a0_4))) = some (r1, r2) := by rw [if_pos rfl] at H; exact H
        clear H
        have H := H1
        clear H1
        replace H := Option.bind_eq_some_iff.mp H
        obtain ⟨t107, A80, H⟩ := H
        replace H : (if t107 = true then ((drydockref08_in.f a0_3 0 32).bind fun t108 => (if t108 = true then ((drydockref08_in.f a0_4 0 480).bind fun t109 => (drydockref08_Encode.j0 k (!t109) a0_0 a0_1 a0_2 a0_3 a0_4)) else (drydockref08_Encode.j0 k true a0_0 a0_1 a0_2 a0_3 a0_4))) else (drydockref08_Encode.j0 k true a0_0 a0_1 a0_2 a0_3 a0_4)) = some (r1, r2) := H
        have A8 := Aside0.mk A80
        clear A80
        by_cases c9 : t107 = true
        · subst c9
          have H1 : ((drydockref08_in.f a0_3 0 32).bind fun t108 => (if t108 = true then ((drydockref08_in.f a0_4 0 480).bind fun t109 => (drydockref08_Encode.j0 k (!t109) a0_0 a0_1 a0_2 a0_3 a0_4)) else (drydockref08_Encode.j0 k true a0_0 a0_1 a0_2 a0_3 a0_4))) = some (r1, r2) := by rw [if_pos rfl] at H; exact H
          clear H
          have H := H1
          clear H1
          replace H := Option.bind_eq_some_iff.mp H
          obtain ⟨t108, A100, H⟩ := H
          replace H : (if t108 = true then ((drydockref08_in.f a0_4 0 480).bind fun t109 => (drydockref08_Encode.j0 k (!t109) a0_0 a0_1 a0_2 a0_3 a0_4)) else (drydockref08_Encode.j0 k true a0_0 a0_1 a0_2 a0_3 a0_4)) = some (r1, r2) := H
          have A10 := Aside0.mk A100
          clear A100
          by_cases c11 : t108 = true
          · subst c11
            have H1 : ((drydockref08_in.f a0_4 0 480).bind fun t109 => (drydockref08_Encode.j0 k (!t109) a0_0 a0_1 a0_2 a0_3 a0_4)) = some (r1, r2) := by rw [if_pos rfl] at H; exact H
            clear H
            have H := H1
            clear H1
            replace H := Option.bind_eq_some_iff.mp H
            obtain ⟨t109, A120, H⟩ := H
            replace H : (drydockref08_Encode.j0 k (!t109) a0_0 a0_1 a0_2 a0_3 a0_4) = some (r1, r2) := H
            have A12 := Aside0.mk A120
            clear A120
            have H' := Aside0.mk H
            clear H
            have hcz13_0 : w3.cell? ⟨gb104, 0, none⟩ = some (.int .i64 a0_0) := (blk_cell BK104.out 0).trans rfl
            have hcz13_1 : w3.cell? ⟨gb104, 1, none⟩ = some (.int .i64 a0_1) := (blk_cell BK104.out 1).trans rfl
            have hcz13_2 : w3.cell? ⟨gb104, 2, none⟩ = some (.int .i64 a0_2) := (blk_cell BK104.out 2).trans rfl
            have hcz13_3 : w3.cell? ⟨gb104, 3, none⟩ = some (.int .i64 a0_3) := (blk_cell BK104.out 3).trans rfl
            have hcz13_4 : w3.cell? ⟨gb104, 4, none⟩ = some (.int .i64 a0_4) := (blk_cell BK104.out 4).trans rfl
            have hfz13_0 := blk_frozen BK104.out 0
            have hfz13_1 := blk_frozen BK104.out 1
            have hfz13_2 := blk_frozen BK104.out 2
            have hfz13_3 := blk_frozen BK104.out 3
            have hfz13_4 := blk_frozen BK104.out 4
            go_wp2_with (first | ((with_reducible refine gate_callee (f := 47) rfl ?_); refine goesL_ (some 7) rfl rfl Try.func47 (by kernel_rfl) rfl #[.int .i64 a0_0, .int .i64 64, .int .i64 480] rfl (by (try simp only [List.map_toArray, List.map_cons, List.map_nil]); first | done | rfl | (simp only [List.length_drop, List.length_take]; rfl)) ?_; (with_reducible refine (drydockref08_in.calls a0_0 64 480 true _ A4.out).mono ?_); rintro e w' ⟨rfl, ⟨nd, rfl⟩⟩; refine ⟨_, rfl, ?_⟩) | (go_at_call 47; (with_reducible refine (drydockref08_in.calls a0_1 1 3 true _ A6.out).mono ?_); rintro e w' ⟨rfl, ⟨nd, rfl⟩⟩) | (go_at_call 47; (with_reducible refine (drydockref08_in.calls a0_2 0 3 true _ A8.out).mono ?_); rintro e w' ⟨rfl, ⟨nd, rfl⟩⟩) | (go_at_call 47; (with_reducible refine (drydockref08_in.calls a0_3 0 32 true _ A10.out).mono ?_); rintro e w' ⟨rfl, ⟨nd, rfl⟩⟩) | (go_at_call 47; (with_reducible refine (drydockref08_in.calls a0_4 0 480 t109 _ A12.out).mono ?_); rintro e w' ⟨rfl, ⟨nd, rfl⟩⟩))
            go_meet
            case rel => exact ⟨_, (!t109), (by first | rfl | (simp; done) | (simp [*]; done)), H', ⟨by first | omega | exact Nat.le_refl _⟩, ⟨by (with_reducible repeat (first | refine zN ?_ _ | refine zD ?_ | refine zA ?_ _)); exact BK104.out⟩, ⟨by repeat (first | (with_reducible first | exact HB.out | apply zB | apply zP | apply zE | refine zS ?_ GE104.out) | exact HB.out)⟩⟩
          · replace c11 := Bool.eq_false_iff.mpr c11
            subst c11
            have H1 : (drydockref08_Encode.j0 k true a0_0 a0_1 a0_2 a0_3 a0_4) = some (r1, r2) := by rw [if_neg (show ¬ (false = true) by decide)] at H; exact H
            clear H
            have H := H1
            clear H1
            have H' := Aside0.mk H
            clear H
            have hcz14_0 : w3.cell? ⟨gb104, 0, none⟩ = some (.int .i64 a0_0) := (blk_cell BK104.out 0).trans rfl
            have hcz14_1 : w3.cell? ⟨gb104, 1, none⟩ = some (.int .i64 a0_1) := (blk_cell BK104.out 1).trans rfl
            have hcz14_2 : w3.cell? ⟨gb104, 2, none⟩ = some (.int .i64 a0_2) := (blk_cell BK104.out 2).trans rfl
            have hcz14_3 : w3.cell? ⟨gb104, 3, none⟩ = some (.int .i64 a0_3) := (blk_cell BK104.out 3).trans rfl
            have hcz14_4 : w3.cell? ⟨gb104, 4, none⟩ = some (.int .i64 a0_4) := (blk_cell BK104.out 4).trans rfl
            have hfz14_0 := blk_frozen BK104.out 0
            have hfz14_1 := blk_frozen BK104.out 1
            have hfz14_2 := blk_frozen BK104.out 2
            have hfz14_3 := blk_frozen BK104.out 3
            have hfz14_4 := blk_frozen BK104.out 4
            go_wp2_with (first | ((with_reducible refine gate_callee (f := 47) rfl ?_); refine goesL_ (some 7) rfl rfl Try.func47 (by kernel_rfl) rfl #[.int .i64 a0_0, .int .i64 64, .int .i64 480] rfl (by (try simp only [List.map_toArray, List.map_cons, List.map_nil]); first | done | rfl | (simp only [List.length_drop, List.length_take]; rfl)) ?_; (with_reducible refine (drydockref08_in.calls a0_0 64 480 true _ A4.out).mono ?_); rintro e w' ⟨rfl, ⟨nd, rfl⟩⟩; refine ⟨_, rfl, ?_⟩) | (go_at_call 47; (with_reducible refine (drydockref08_in.calls a0_1 1 3 true _ A6.out).mono ?_); rintro e w' ⟨rfl, ⟨nd, rfl⟩⟩) | (go_at_call 47; (with_reducible refine (drydockref08_in.calls a0_2 0 3 true _ A8.out).mono ?_); rintro e w' ⟨rfl, ⟨nd, rfl⟩⟩) | (go_at_call 47; (with_reducible refine (drydockref08_in.calls a0_3 0 32 false _ A10.out).mono ?_); rintro e w' ⟨rfl, ⟨nd, rfl⟩⟩))
            go_meet
            case rel => exact ⟨_, (true), (by first | rfl | (simp; done) | (simp [*]; done)), H', ⟨by first | omega | exact Nat.le_refl _⟩, ⟨by (with_reducible repeat (first | refine zN ?_ _ | refine zD ?_ | refine zA ?_ _)); exact BK104.out⟩, ⟨by repeat (first | (with_reducible first | exact HB.out | apply zB | apply zP | apply zE | refine zS ?_ GE104.out) | exact HB.out)⟩⟩
        · replace c9 := Bool.eq_false_iff.mpr c9
          subst c9
          have H1 : (drydockref08_Encode.j0 k true a0_0 a0_1 a0_2 a0_3 a0_4) = some (r1, r2) := by rw [if_neg (show ¬ (false = true) by decide)] at H; exact H
          clear H
          have H := H1
          clear H1
          have H' := Aside0.mk H
          clear H
          have hcz15_0 : w3.cell? ⟨gb104, 0, none⟩ = some (.int .i64 a0_0) := (blk_cell BK104.out 0).trans rfl
          have hcz15_1 : w3.cell? ⟨gb104, 1, none⟩ = some (.int .i64 a0_1) := (blk_cell BK104.out 1).trans rfl
          have hcz15_2 : w3.cell? ⟨gb104, 2, none⟩ = some (.int .i64 a0_2) := (blk_cell BK104.out 2).trans rfl
          have hcz15_3 : w3.cell? ⟨gb104, 3, none⟩ = some (.int .i64 a0_3) := (blk_cell BK104.out 3).trans rfl
          have hcz15_4 : w3.cell? ⟨gb104, 4, none⟩ = some (.int .i64 a0_4) := (blk_cell BK104.out 4).trans rfl
          have hfz15_0 := blk_frozen BK104.out 0
          have hfz15_1 := blk_frozen BK104.out 1
          have hfz15_2 := blk_frozen BK104.out 2
          have hfz15_3 := blk_frozen BK104.out 3
          have hfz15_4 := blk_frozen BK104.out 4
          go_wp2_with (first | ((with_reducible refine gate_callee (f := 47) rfl ?_); refine goesL_ (some 7) rfl rfl Try.func47 (by kernel_rfl) rfl #[.int .i64 a0_0, .int .i64 64, .int .i64 480] rfl (by (try simp only [List.map_toArray, List.map_cons, List.map_nil]); first | done | rfl | (simp only [List.length_drop, List.length_take]; rfl)) ?_; (with_reducible refine (drydockref08_in.calls a0_0 64 480 true _ A4.out).mono ?_); rintro e w' ⟨rfl, ⟨nd, rfl⟩⟩; refine ⟨_, rfl, ?_⟩) | (go_at_call 47; (with_reducible refine (drydockref08_in.calls a0_1 1 3 true _ A6.out).mono ?_); rintro e w' ⟨rfl, ⟨nd, rfl⟩⟩) | (go_at_call 47; (with_reducible refine (drydockref08_in.calls a0_2 0 3 false _ A8.out).mono ?_); rintro e w' ⟨rfl, ⟨nd, rfl⟩⟩))
          go_meet
          case rel => exact ⟨_, (true), (by first | rfl | (simp; done) | (simp [*]; done)), H', ⟨by first | omega | exact Nat.le_refl _⟩, ⟨by (with_reducible repeat (first | refine zN ?_ _ | refine zD ?_ | refine zA ?_ _)); exact BK104.out⟩, ⟨by repeat (first | (with_reducible first | exact HB.out | apply zB | apply zP | apply zE | refine zS ?_ GE104.out) | exact HB.out)⟩⟩
      · replace c7 := Bool.eq_false_iff.mpr c7
        subst c7
        have H1 : (drydockref08_Encode.j0 k true a0_0 a0_1 a0_2 a0_3 a0_4) = some (r1, r2) := by rw [if_neg (show ¬ (false = true) by decide)] at H; exact H
        clear H
        have H := H1
        clear H1
        have H' := Aside0.mk H
        clear H
        have hcz16_0 : w3.cell? ⟨gb104, 0, none⟩ = some (.int .i64 a0_0) := (blk_cell BK104.out 0).trans rfl
        have hcz16_1 : w3.cell? ⟨gb104, 1, none⟩ = some (.int .i64 a0_1) := (blk_cell BK104.out 1).trans rfl
        have hcz16_2 : w3.cell? ⟨gb104, 2, none⟩ = some (.int .i64 a0_2) := (blk_cell BK104.out 2).trans rfl
        have hcz16_3 : w3.cell? ⟨gb104, 3, none⟩ = some (.int .i64 a0_3) := (blk_cell BK104.out 3).trans rfl
        have hcz16_4 : w3.cell? ⟨gb104, 4, none⟩ = some (.int .i64 a0_4) := (blk_cell BK104.out 4).trans rfl
        have hfz16_0 := blk_frozen BK104.out 0
        have hfz16_1 := blk_frozen BK104.out 1
        have hfz16_2 := blk_frozen BK104.out 2
        have hfz16_3 := blk_frozen BK104.out 3
        have hfz16_4 := blk_frozen BK104.out 4
        go_wp2_with (first | ((with_reducible refine gate_callee (f := 47) rfl ?_); refine goesL_ (some 7) rfl rfl Try.func47 (by kernel_rfl) rfl #[.int .i64 a0_0, .int .i64 64, .int .i64 480] rfl (by (try simp only [List.map_toArray, List.map_cons, List.map_nil]); first | done | rfl | (simp only [List.length_drop, List.length_take]; rfl)) ?_; (with_reducible refine (drydockref08_in.calls a0_0 64 480 true _ A4.out).mono ?_); rintro e w' ⟨rfl, ⟨nd, rfl⟩⟩; refine ⟨_, rfl, ?_⟩) | (go_at_call 47; (with_reducible refine (drydockref08_in.calls a0_1 1 3 false _ A6.out).mono ?_); rintro e w' ⟨rfl, ⟨nd, rfl⟩⟩))
        go_meet
        case rel => exact ⟨_, (true), (by first | rfl | (simp; done) | (simp [*]; done)), H', ⟨by first | omega | exact Nat.le_refl _⟩, ⟨by (with_reducible repeat (first | refine zN ?_ _ | refine zD ?_ | refine zA ?_ _)); exact BK104.out⟩, ⟨by repeat (first | (with_reducible first | exact HB.out | apply zB | apply zP | apply zE | refine zS ?_ GE104.out) | exact HB.out)⟩⟩
    · replace c5 := Bool.eq_false_iff.mpr c5
      subst c5
      have H1 : (drydockref08_Encode.j0 k true a0_0 a0_1 a0_2 a0_3 a0_4) = some (r1, r2) := by rw [if_neg (show ¬ (false = true) by decide)] at H; exact H
      clear H
      have H := H1
      clear H1
      have H' := Aside0.mk H
      clear H
      have hcz17_0 : w3.cell? ⟨gb104, 0, none⟩ = some (.int .i64 a0_0) := (blk_cell BK104.out 0).trans rfl
      have hcz17_1 : w3.cell? ⟨gb104, 1, none⟩ = some (.int .i64 a0_1) := (blk_cell BK104.out 1).trans rfl
      have hcz17_2 : w3.cell? ⟨gb104, 2, none⟩ = some (.int .i64 a0_2) := (blk_cell BK104.out 2).trans rfl
      have hcz17_3 : w3.cell? ⟨gb104, 3, none⟩ = some (.int .i64 a0_3) := (blk_cell BK104.out 3).trans rfl
      have hcz17_4 : w3.cell? ⟨gb104, 4, none⟩ = some (.int .i64 a0_4) := (blk_cell BK104.out 4).trans rfl
      have hfz17_0 := blk_frozen BK104.out 0
      have hfz17_1 := blk_frozen BK104.out 1
      have hfz17_2 := blk_frozen BK104.out 2
      have hfz17_3 := blk_frozen BK104.out 3
      have hfz17_4 := blk_frozen BK104.out 4
      go_wp2_with (first | ((with_reducible refine gate_callee (f := 47) rfl ?_); refine goesL_ (some 7) rfl rfl Try.func47 (by kernel_rfl) rfl #[.int .i64 a0_0, .int .i64 64, .int .i64 480] rfl (by (try simp only [List.map_toArray, List.map_cons, List.map_nil]); first | done | rfl | (simp only [List.length_drop, List.length_take]; rfl)) ?_; (with_reducible refine (drydockref08_in.calls a0_0 64 480 false _ A4.out).mono ?_); rintro e w' ⟨rfl, ⟨nd, rfl⟩⟩; refine ⟨_, rfl, ?_⟩))
      go_meet
      case rel => exact ⟨_, (true), (by first | rfl | (simp; done) | (simp [*]; done)), H', ⟨by first | omega | exact Nat.le_refl _⟩, ⟨by (with_reducible repeat (first | refine zN ?_ _ | refine zD ?_ | refine zA ?_ _)); exact BK104.out⟩, ⟨by repeat (first | (with_reducible first | exact HB.out | apply zB | apply zP | apply zE | refine zS ?_ GE104.out) | exact HB.out)⟩⟩
  case rest =>
    clear HC2
    try clear c1
    try clear c2
    try clear p2
    try clear c4
    try clear c5
    try clear c7
    try clear c9
    try clear c11
    try clear hcz13_0
    try clear hcz13_1
    try clear hcz13_2
    try clear hcz13_3
    try clear hcz13_4
    try clear hcz14_0
    try clear hcz14_1
    try clear hcz14_2
    try clear hcz14_3
    try clear hcz14_4
    try clear hcz15_0
    try clear hcz15_1
    try clear hcz15_2
    try clear hcz15_3
    try clear hcz15_4
    try clear hcz16_0
    try clear hcz16_1
    try clear hcz16_2
    try clear hcz16_3
    try clear hcz16_4
    try clear hcz17_0
    try clear hcz17_1
    try clear hcz17_2
    try clear hcz17_3
    try clear hcz17_4
    try clear hfz13_0
    try clear hfz13_1
    try clear hfz13_2
    try clear hfz13_3
    try clear hfz13_4
    try clear hfz14_0
    try clear hfz14_1
    try clear hfz14_2
    try clear hfz14_3
    try clear hfz14_4
    try clear hfz15_0
    try clear hfz15_1
    try clear hfz15_2
    try clear hfz15_3
    try clear hfz15_4
    try clear hfz16_0
    try clear hfz16_1
    try clear hfz16_2
    try clear hfz16_3
    try clear hfz16_4
    try clear hfz17_0
    try clear hfz17_1
    try clear hfz17_2
    try clear hfz17_3
    try clear hfz17_4
    obtain ⟨kq, x32_1, rfl, HA, HJ1, BK104, HB⟩ := hcut
    cases kq with
    | zero => exact absurd HA.out (by simp [drydockref08_Encode.j0])
    | succ kj1 =>
      have H := HA.out
      clear HA
      simp only [drydockref08_Encode.j0] at H
      by_cases c18 : x32_1 = true
      · subst c18
        have H1 : (some (([] : List Int), 2)) = some (r1, r2) := by rw [if_pos rfl] at H; exact H
        clear H
        have H := H1
        clear H1
        simp only [Option.some.injEq, Prod.mk.injEq] at H
        obtain ⟨rfl, rfl⟩ := H
        go_wp2
        go_ret2
        exact ⟨_, by first | rfl | (simp [errW_none, errW_some] <;> rfl) | (simp [*, errW_none, errW_some] <;> rfl), by first | exact Kd.R_nil _ _ _ _ _ | exact Kd.N_nil _ _ _ _ _ | exact Kd.V_nil _ _ _ _ _ | exact Kd.Q_nil _ _ _ _ _ | exact Kd.S_nil _ _ _ _ _, by repeat (first | (with_reducible first | exact HB.out | apply zB | apply zP | apply zE | refine zS ?_ GE104.out) | exact HB.out)⟩
      · replace c18 := Bool.eq_false_iff.mpr c18
        subst c18
        have H1 : ((some (([] : List Int) : List Int)).bind fun y110 => (if y110.length + 4 < 140737488355328 then ((drydockref04_Put.f kj1 (y110 ++ bytesOf (⟨#[68, 82, 89, 68]⟩ : ByteArray)) a0_0 2).bind fun t116 => ((drydockref04_Put.f kj1 t116 a0_1 1).bind fun t119 => ((drydockref04_Put.f kj1 t119 a0_2 1).bind fun t122 => ((drydockref04_Put.f kj1 t122 a0_3 2).bind fun t125 => ((drydockref04_Put.f kj1 t125 a0_4 2).bind fun t128 => ((drydockref04_Seal.f t128).bind fun t131 => (some (t131, 0)))))))) else (none))) = some (r1, r2) := by rw [if_neg (show ¬ (false = true) by decide)] at H; exact H
        clear H
        have H := H1
        clear H1
        obtain ⟨y110, hy110⟩ : ∃ y_ : List Int, y_ = (([] : List Int)) := ⟨_, rfl⟩
        replace H : (if y110.length + 4 < 140737488355328 then ((drydockref04_Put.f kj1 (y110 ++ bytesOf (⟨#[68, 82, 89, 68]⟩ : ByteArray)) a0_0 2).bind fun t116 => ((drydockref04_Put.f kj1 t116 a0_1 1).bind fun t119 => ((drydockref04_Put.f kj1 t119 a0_2 1).bind fun t122 => ((drydockref04_Put.f kj1 t122 a0_3 2).bind fun t125 => ((drydockref04_Put.f kj1 t125 a0_4 2).bind fun t128 => ((drydockref04_Seal.f t128).bind fun t131 => (some (t131, 0)))))))) else (none)) = some (r1, r2) := by first | (rw [hy110]; with_reducible exact H) | (have H2_ := (Option.bind_some _ _).symm.trans H; rw [hy110]; with_reducible exact H2_) | (have H2_ := (Option.bind_some _ _).symm.trans H; with_reducible exact H2_) | with_reducible exact H | (rw [hy110]; exact H) | exact H
        have Ny110 := Aside0.mk hy110
        clear hy110
        by_cases c19 : y110.length + 4 < 140737488355328
        · rw [if_pos c19] at H
          have LMc19 := Aside0.mk c19
          clear c19
          obtain ⟨y113, hy113⟩ : ∃ y_ : List Int, y_ = (y110 ++ bytesOf (⟨#[68, 82, 89, 68]⟩ : ByteArray)) := ⟨_, rfl⟩
          replace H : ((drydockref04_Put.f kj1 y113 a0_0 2).bind fun t116 => ((drydockref04_Put.f kj1 t116 a0_1 1).bind fun t119 => ((drydockref04_Put.f kj1 t119 a0_2 1).bind fun t122 => ((drydockref04_Put.f kj1 t122 a0_3 2).bind fun t125 => ((drydockref04_Put.f kj1 t125 a0_4 2).bind fun t128 => ((drydockref04_Seal.f t128).bind fun t131 => (some (t131, 0)))))))) = some (r1, r2) := by first | (rw [hy113]; with_reducible exact H) | (have H2_ := (Option.bind_some _ _).symm.trans H; rw [hy113]; with_reducible exact H2_) | (have H2_ := (Option.bind_some _ _).symm.trans H; with_reducible exact H2_) | with_reducible exact H | (rw [hy113]; exact H) | exact H
          have Ny113 := Aside0.mk hy113
          clear hy113
          replace H := Option.bind_eq_some_iff.mp H
          obtain ⟨t116, A200, H⟩ := H
          replace H : ((drydockref04_Put.f kj1 t116 a0_1 1).bind fun t119 => ((drydockref04_Put.f kj1 t119 a0_2 1).bind fun t122 => ((drydockref04_Put.f kj1 t122 a0_3 2).bind fun t125 => ((drydockref04_Put.f kj1 t125 a0_4 2).bind fun t128 => ((drydockref04_Seal.f t128).bind fun t131 => (some (t131, 0))))))) = some (r1, r2) := H
          have A20 := Aside0.mk A200
          clear A200
          replace H := Option.bind_eq_some_iff.mp H
          obtain ⟨t119, A210, H⟩ := H
          replace H : ((drydockref04_Put.f kj1 t119 a0_2 1).bind fun t122 => ((drydockref04_Put.f kj1 t122 a0_3 2).bind fun t125 => ((drydockref04_Put.f kj1 t125 a0_4 2).bind fun t128 => ((drydockref04_Seal.f t128).bind fun t131 => (some (t131, 0)))))) = some (r1, r2) := H
          have A21 := Aside0.mk A210
          clear A210
          replace H := Option.bind_eq_some_iff.mp H
          obtain ⟨t122, A220, H⟩ := H
          replace H : ((drydockref04_Put.f kj1 t122 a0_3 2).bind fun t125 => ((drydockref04_Put.f kj1 t125 a0_4 2).bind fun t128 => ((drydockref04_Seal.f t128).bind fun t131 => (some (t131, 0))))) = some (r1, r2) := H
          have A22 := Aside0.mk A220
          clear A220
          replace H := Option.bind_eq_some_iff.mp H
          obtain ⟨t125, A230, H⟩ := H
          replace H : ((drydockref04_Put.f kj1 t125 a0_4 2).bind fun t128 => ((drydockref04_Seal.f t128).bind fun t131 => (some (t131, 0)))) = some (r1, r2) := H
          have A23 := Aside0.mk A230
          clear A230
          replace H := Option.bind_eq_some_iff.mp H
          obtain ⟨t128, A240, H⟩ := H
          replace H : ((drydockref04_Seal.f t128).bind fun t131 => (some (t131, 0))) = some (r1, r2) := H
          have A24 := Aside0.mk A240
          clear A240
          replace H := Option.bind_eq_some_iff.mp H
          obtain ⟨t131, A250, H⟩ := H
          replace H : (some (t131, 0)) = some (r1, r2) := H
          have A25 := Aside0.mk A250
          clear A250
          simp only [Option.some.injEq, Prod.mk.injEq] at H
          obtain ⟨rfl, rfl⟩ := H
          go_wp2_with (first | ((with_reducible refine gate_dst (N := 33) rfl ?_); refine Kd.R_lit (Kd.int .u8) _ 5 ?hg (N := 33) ?hd (xs := ([] : List Int)) (inner := []) (ok := fun _ => True) (okp := fun _ => True) ?hr ?hp (fun _ hk => hk) trivial (Below.refl _ _) (Nat.le_refl _) (by simp) ?_; (case hd => rfl); (case hg => rfl); (case hr => first | (go_simp; done) | (go_simp; rfl)); (case hp => exact (Reps.none _ _)); intro v111 w26 ho27 hb hg_ hnew_; clear hg_ hnew_; (first | rw [← Ny110.out] at ho27 | (simp only [Int.reduceToNat] at ho27; rw [← Ny110.out] at ho27)); have n0_ := Aside0.mk (Kd.R_lower ho27 (below_size (by repeat (first | (with_reducible first | exact HB.out | apply zB | apply zP | apply zE | refine zS ?_ GE104.out) | exact HB.out)))); have n1_ := Aside0.mk (blk_below (g := gb104) (o := .cells #[.int .i64 a0_0, .int .i64 a0_1, .int .i64 a0_2, .int .i64 a0_3, .int .i64 a0_4] 40 (0, 0)) (by (with_reducible repeat (first | refine zN ?_ _ | refine zD ?_ | refine zA ?_ _)); exact BK104.out) hb); have n2_ := Aside0.mk (below_step (by repeat (first | (with_reducible first | exact HB.out | apply zB | apply zP | apply zE | refine zS ?_ GE104.out) | exact HB.out)) hb); clear BK104; clear HB; have HO112 := n0_; have BK104 := n1_; have HB := n2_; clear n0_ n1_ n2_; clear hb ho27) | (at_builtin; refine print_append_str (w0 := w) w.heap.size rfl (.tmp 33) _ 22 9 5 rfl Try.underlying22 Try.underlying9 info5 v111 y110 (⟨#[68, 82, 89, 68]⟩ : ByteArray) rfl rfl ?aO ?aB ?aS ?aL ?_; (case aB => exact (by repeat (first | (with_reducible first | exact HB.out | apply zB | apply zP | apply zE | refine zS ?_ GE104.out) | exact HB.out))); (case aO => exact (Kd.own_of_R (by (with_reducible repeat (first | apply Kd.R_alloc | apply Kd.R_drewN | apply Kd.R_drew)); exact HO112.out))); (case aS => exact (below_size (by repeat (first | (with_reducible first | exact HB.out | apply zB | apply zP | apply zE | refine zS ?_ GE104.out) | exact HB.out)))); (case aL => have hL_ := LMc19.out; first | omega | exact Nat.le_of_lt hL_); intro v114 w28 ho0 hb hg; have ho := Kd.R_of_own (h1 := fun _ => rfl) (ok := fun _ => True) ho0 (fun _ _ => trivial); clear ho0; have hat := True.intro; rw [← Ny113.out] at ho; change Kd.R (Kd.int .u8) 5 w28 w.heap.size (fun _ => True) v114 y113 at ho; have n0_ := Aside0.mk (blk_grown (g := gb104) (o := .cells #[.int .i64 a0_0, .int .i64 a0_1, .int .i64 a0_2, .int .i64 a0_3, .int .i64 a0_4] 40 (0, 0)) (by (with_reducible repeat (first | refine zN ?_ _ | refine zD ?_ | refine zA ?_ _)); exact BK104.out) hg (Kd.R_ne HO112.out BK104.out (by decide))); have n1_ := Aside0.mk (hb); have n2_ := Aside0.mk (ho); clear BK104; clear HB; clear HO112; have BK104 := n0_; have HB := n1_; have HO115 := n2_; clear n0_ n1_ n2_; clear ho hb hg hat; have hcz29_0 : w28.cell? ⟨gb104, 0, none⟩ = some (.int .i64 a0_0) := (blk_cell BK104.out 0).trans rfl; have hcz29_1 : w28.cell? ⟨gb104, 1, none⟩ = some (.int .i64 a0_1) := (blk_cell BK104.out 1).trans rfl; have hcz29_2 : w28.cell? ⟨gb104, 2, none⟩ = some (.int .i64 a0_2) := (blk_cell BK104.out 2).trans rfl; have hcz29_3 : w28.cell? ⟨gb104, 3, none⟩ = some (.int .i64 a0_3) := (blk_cell BK104.out 3).trans rfl; have hcz29_4 : w28.cell? ⟨gb104, 4, none⟩ = some (.int .i64 a0_4) := (blk_cell BK104.out 4).trans rfl; have hfz29_0 := blk_frozen BK104.out 0; have hfz29_1 := blk_frozen BK104.out 1; have hfz29_2 := blk_frozen BK104.out 2; have hfz29_3 := blk_frozen BK104.out 3; have hfz29_4 := blk_frozen BK104.out 4; obtain ⟨Ao30, co30, eo30⟩ := Kd.R_slice HO115.out; subst eo30) | ((with_reducible refine gate_callee (f := 41) rfl ?_); refine goesL_ (some 38) rfl rfl Try.func41 (by kernel_rfl) rfl #[.slice Ao30 y113.length co30, .int .i64 a0_0, .int .i64 2] rfl (by (try simp only [List.map_toArray, List.map_cons, List.map_nil]); first | done | rfl | (simp only [List.length_drop, List.length_take]; rfl)) ?_; (with_reducible refine (drydockref04_Put.calls kj1 (fun k_ => some k_ = (.slice Ao30 y113.length co30 : Value).ownBlock) (.slice Ao30 y113.length co30) y113 a0_0 2 t116 w _ ?side1 ?side2 A20.out).mono ?_); (case side1 => repeat (first | (with_reducible first | exact HB.out | apply zB | apply zP | apply zE | refine zS ?_ GE104.out) | exact HB.out)); (case side2 => exact Kd.R_tight rfl HO115.out); rintro e w31 ⟨v117, rfl, ho0, hb, hkp⟩; refine ⟨_, rfl, ?_⟩; have n0_ := Aside0.mk (blk_kept (by (with_reducible repeat (first | refine zN ?_ _ | refine zD ?_ | refine zA ?_ _)); exact BK104.out) hkp (fun hs_ => (fun e_ => (Kd.R_ne HO115.out BK104.out (by decide)) e_) hs_)); have n1_ := Aside0.mk (Kd.R_mono (ok' := fun k_ => True) ho0 (fun k_ hk_ => trivial)); have n2_ := Aside0.mk (hb); clear BK104; clear HB; clear HO115; have BK104 := n0_; have HO118 := n1_; have HB := n2_; clear n0_ n1_ n2_; (try clear hb); (try clear hkp); (try clear ho0); have hcz32_0 : w31.cell? ⟨gb104, 0, none⟩ = some (.int .i64 a0_0) := (blk_cell BK104.out 0).trans rfl; have hcz32_1 : w31.cell? ⟨gb104, 1, none⟩ = some (.int .i64 a0_1) := (blk_cell BK104.out 1).trans rfl; have hcz32_2 : w31.cell? ⟨gb104, 2, none⟩ = some (.int .i64 a0_2) := (blk_cell BK104.out 2).trans rfl; have hcz32_3 : w31.cell? ⟨gb104, 3, none⟩ = some (.int .i64 a0_3) := (blk_cell BK104.out 3).trans rfl; have hcz32_4 : w31.cell? ⟨gb104, 4, none⟩ = some (.int .i64 a0_4) := (blk_cell BK104.out 4).trans rfl; have hfz32_0 := blk_frozen BK104.out 0; have hfz32_1 := blk_frozen BK104.out 1; have hfz32_2 := blk_frozen BK104.out 2; have hfz32_3 := blk_frozen BK104.out 3; have hfz32_4 := blk_frozen BK104.out 4; obtain ⟨Ao33, co33, eo33⟩ := Kd.R_slice HO118.out; subst eo33) | ((with_reducible refine gate_callee (f := 41) rfl ?_); refine goesL_ (some 42) rfl rfl Try.func41 (by kernel_rfl) rfl #[.slice Ao33 t116.length co33, .int .i64 a0_1, .int .i64 1] rfl (by (try simp only [List.map_toArray, List.map_cons, List.map_nil]); first | done | rfl | (simp only [List.length_drop, List.length_take]; rfl)) ?_; (with_reducible refine (drydockref04_Put.calls kj1 (fun k_ => some k_ = (.slice Ao33 t116.length co33 : Value).ownBlock) (.slice Ao33 t116.length co33) t116 a0_1 1 t119 w _ ?side1 ?side2 A21.out).mono ?_); (case side1 => repeat (first | (with_reducible first | exact HB.out | apply zB | apply zP | apply zE | refine zS ?_ GE104.out) | exact HB.out)); (case side2 => exact Kd.R_tight rfl HO118.out); rintro e w34 ⟨v120, rfl, ho0, hb, hkp⟩; refine ⟨_, rfl, ?_⟩; have n0_ := Aside0.mk (blk_kept (by (with_reducible repeat (first | refine zN ?_ _ | refine zD ?_ | refine zA ?_ _)); exact BK104.out) hkp (fun hs_ => (fun e_ => (Kd.R_ne HO118.out BK104.out (by decide)) e_) hs_)); have n1_ := Aside0.mk (Kd.R_mono (ok' := fun k_ => True) ho0 (fun k_ hk_ => trivial)); have n2_ := Aside0.mk (hb); clear BK104; clear HB; clear HO118; have BK104 := n0_; have HO121 := n1_; have HB := n2_; clear n0_ n1_ n2_; (try clear hb); (try clear hkp); (try clear ho0); have hcz35_0 : w34.cell? ⟨gb104, 0, none⟩ = some (.int .i64 a0_0) := (blk_cell BK104.out 0).trans rfl; have hcz35_1 : w34.cell? ⟨gb104, 1, none⟩ = some (.int .i64 a0_1) := (blk_cell BK104.out 1).trans rfl; have hcz35_2 : w34.cell? ⟨gb104, 2, none⟩ = some (.int .i64 a0_2) := (blk_cell BK104.out 2).trans rfl; have hcz35_3 : w34.cell? ⟨gb104, 3, none⟩ = some (.int .i64 a0_3) := (blk_cell BK104.out 3).trans rfl; have hcz35_4 : w34.cell? ⟨gb104, 4, none⟩ = some (.int .i64 a0_4) := (blk_cell BK104.out 4).trans rfl; have hfz35_0 := blk_frozen BK104.out 0; have hfz35_1 := blk_frozen BK104.out 1; have hfz35_2 := blk_frozen BK104.out 2; have hfz35_3 := blk_frozen BK104.out 3; have hfz35_4 := blk_frozen BK104.out 4; obtain ⟨Ao36, co36, eo36⟩ := Kd.R_slice HO121.out; subst eo36) | ((with_reducible refine gate_callee (f := 41) rfl ?_); refine goesL_ (some 46) rfl rfl Try.func41 (by kernel_rfl) rfl #[.slice Ao36 t119.length co36, .int .i64 a0_2, .int .i64 1] rfl (by (try simp only [List.map_toArray, List.map_cons, List.map_nil]); first | done | rfl | (simp only [List.length_drop, List.length_take]; rfl)) ?_; (with_reducible refine (drydockref04_Put.calls kj1 (fun k_ => some k_ = (.slice Ao36 t119.length co36 : Value).ownBlock) (.slice Ao36 t119.length co36) t119 a0_2 1 t122 w _ ?side1 ?side2 A22.out).mono ?_); (case side1 => repeat (first | (with_reducible first | exact HB.out | apply zB | apply zP | apply zE | refine zS ?_ GE104.out) | exact HB.out)); (case side2 => exact Kd.R_tight rfl HO121.out); rintro e w37 ⟨v123, rfl, ho0, hb, hkp⟩; refine ⟨_, rfl, ?_⟩; have n0_ := Aside0.mk (blk_kept (by (with_reducible repeat (first | refine zN ?_ _ | refine zD ?_ | refine zA ?_ _)); exact BK104.out) hkp (fun hs_ => (fun e_ => (Kd.R_ne HO121.out BK104.out (by decide)) e_) hs_)); have n1_ := Aside0.mk (Kd.R_mono (ok' := fun k_ => True) ho0 (fun k_ hk_ => trivial)); have n2_ := Aside0.mk (hb); clear BK104; clear HB; clear HO121; have BK104 := n0_; have HO124 := n1_; have HB := n2_; clear n0_ n1_ n2_; (try clear hb); (try clear hkp); (try clear ho0); have hcz38_0 : w37.cell? ⟨gb104, 0, none⟩ = some (.int .i64 a0_0) := (blk_cell BK104.out 0).trans rfl; have hcz38_1 : w37.cell? ⟨gb104, 1, none⟩ = some (.int .i64 a0_1) := (blk_cell BK104.out 1).trans rfl; have hcz38_2 : w37.cell? ⟨gb104, 2, none⟩ = some (.int .i64 a0_2) := (blk_cell BK104.out 2).trans rfl; have hcz38_3 : w37.cell? ⟨gb104, 3, none⟩ = some (.int .i64 a0_3) := (blk_cell BK104.out 3).trans rfl; have hcz38_4 : w37.cell? ⟨gb104, 4, none⟩ = some (.int .i64 a0_4) := (blk_cell BK104.out 4).trans rfl; have hfz38_0 := blk_frozen BK104.out 0; have hfz38_1 := blk_frozen BK104.out 1; have hfz38_2 := blk_frozen BK104.out 2; have hfz38_3 := blk_frozen BK104.out 3; have hfz38_4 := blk_frozen BK104.out 4; obtain ⟨Ao39, co39, eo39⟩ := Kd.R_slice HO124.out; subst eo39) | ((with_reducible refine gate_callee (f := 41) rfl ?_); refine goesL_ (some 50) rfl rfl Try.func41 (by kernel_rfl) rfl #[.slice Ao39 t122.length co39, .int .i64 a0_3, .int .i64 2] rfl (by (try simp only [List.map_toArray, List.map_cons, List.map_nil]); first | done | rfl | (simp only [List.length_drop, List.length_take]; rfl)) ?_; (with_reducible refine (drydockref04_Put.calls kj1 (fun k_ => some k_ = (.slice Ao39 t122.length co39 : Value).ownBlock) (.slice Ao39 t122.length co39) t122 a0_3 2 t125 w _ ?side1 ?side2 A23.out).mono ?_); (case side1 => repeat (first | (with_reducible first | exact HB.out | apply zB | apply zP | apply zE | refine zS ?_ GE104.out) | exact HB.out)); (case side2 => exact Kd.R_tight rfl HO124.out); rintro e w40 ⟨v126, rfl, ho0, hb, hkp⟩; refine ⟨_, rfl, ?_⟩; have n0_ := Aside0.mk (blk_kept (by (with_reducible repeat (first | refine zN ?_ _ | refine zD ?_ | refine zA ?_ _)); exact BK104.out) hkp (fun hs_ => (fun e_ => (Kd.R_ne HO124.out BK104.out (by decide)) e_) hs_)); have n1_ := Aside0.mk (Kd.R_mono (ok' := fun k_ => True) ho0 (fun k_ hk_ => trivial)); have n2_ := Aside0.mk (hb); clear BK104; clear HB; clear HO124; have BK104 := n0_; have HO127 := n1_; have HB := n2_; clear n0_ n1_ n2_; (try clear hb); (try clear hkp); (try clear ho0); have hcz41_0 : w40.cell? ⟨gb104, 0, none⟩ = some (.int .i64 a0_0) := (blk_cell BK104.out 0).trans rfl; have hcz41_1 : w40.cell? ⟨gb104, 1, none⟩ = some (.int .i64 a0_1) := (blk_cell BK104.out 1).trans rfl; have hcz41_2 : w40.cell? ⟨gb104, 2, none⟩ = some (.int .i64 a0_2) := (blk_cell BK104.out 2).trans rfl; have hcz41_3 : w40.cell? ⟨gb104, 3, none⟩ = some (.int .i64 a0_3) := (blk_cell BK104.out 3).trans rfl; have hcz41_4 : w40.cell? ⟨gb104, 4, none⟩ = some (.int .i64 a0_4) := (blk_cell BK104.out 4).trans rfl; have hfz41_0 := blk_frozen BK104.out 0; have hfz41_1 := blk_frozen BK104.out 1; have hfz41_2 := blk_frozen BK104.out 2; have hfz41_3 := blk_frozen BK104.out 3; have hfz41_4 := blk_frozen BK104.out 4; obtain ⟨Ao42, co42, eo42⟩ := Kd.R_slice HO127.out; subst eo42) | ((with_reducible refine gate_callee (f := 41) rfl ?_); refine goesL_ (some 54) rfl rfl Try.func41 (by kernel_rfl) rfl #[.slice Ao42 t125.length co42, .int .i64 a0_4, .int .i64 2] rfl (by (try simp only [List.map_toArray, List.map_cons, List.map_nil]); first | done | rfl | (simp only [List.length_drop, List.length_take]; rfl)) ?_; (with_reducible refine (drydockref04_Put.calls kj1 (fun k_ => some k_ = (.slice Ao42 t125.length co42 : Value).ownBlock) (.slice Ao42 t125.length co42) t125 a0_4 2 t128 w _ ?side1 ?side2 A24.out).mono ?_); (case side1 => repeat (first | (with_reducible first | exact HB.out | apply zB | apply zP | apply zE | refine zS ?_ GE104.out) | exact HB.out)); (case side2 => exact Kd.R_tight rfl HO127.out); rintro e w43 ⟨v129, rfl, ho0, hb, hkp⟩; refine ⟨_, rfl, ?_⟩; have n0_ := Aside0.mk (blk_kept (by (with_reducible repeat (first | refine zN ?_ _ | refine zD ?_ | refine zA ?_ _)); exact BK104.out) hkp (fun hs_ => (fun e_ => (Kd.R_ne HO127.out BK104.out (by decide)) e_) hs_)); have n1_ := Aside0.mk (Kd.R_mono (ok' := fun k_ => True) ho0 (fun k_ hk_ => trivial)); have n2_ := Aside0.mk (hb); clear BK104; clear HB; clear HO127; have BK104 := n0_; have HO130 := n1_; have HB := n2_; clear n0_ n1_ n2_; (try clear hb); (try clear hkp); (try clear ho0); obtain ⟨Ao44, co44, eo44⟩ := Kd.R_slice HO130.out; subst eo44) | ((with_reducible refine gate_callee (f := 21) rfl ?_); refine goesL_ (some 55) rfl rfl Try.func21 (by kernel_rfl) rfl #[.slice Ao44 t128.length co44] rfl (by (try simp only [List.map_toArray, List.map_cons, List.map_nil]); first | done | rfl | (simp only [List.length_drop, List.length_take]; rfl)) ?_; (with_reducible refine (drydockref04_Seal.calls _ _ t128 t131 _ ?side1 ?side2 A25.out).mono ?_); (case side1 => repeat (first | exact (Kd.R_reads' HO130.out).2.2 | (with_reducible refine Kd.C_alloc ?_ _) | (with_reducible refine Kd.C_drewN ?_ _) | (with_reducible refine Kd.C_drew ?_))); (case side2 => exact (Kd.R_reads' HO130.out).2.1); rintro e w45 ⟨v132, rfl, ho0, hb⟩; refine ⟨_, rfl, ?_⟩; have n0_ := Aside0.mk (Kd.R_elder' (by (with_reducible repeat (first | apply Kd.R_alloc | apply Kd.R_drewN | apply Kd.R_drew)); exact HO130.out) (Kd.R_base ho0) hb); have n1_ := Aside0.mk (Kd.R_lower (Kd.R_new' ho0 (Kd.R_lt (by (with_reducible repeat (first | apply Kd.R_alloc | apply Kd.R_drewN | apply Kd.R_drew)); exact HO130.out))) (below_size (by repeat (first | (with_reducible first | exact HB.out | apply zB | apply zP | apply zE | refine zS ?_ GE104.out) | exact HB.out)))); have n2_ := Aside0.mk (blk_below (g := gb104) (o := .cells #[.int .i64 a0_0, .int .i64 a0_1, .int .i64 a0_2, .int .i64 a0_3, .int .i64 a0_4] 40 (0, 0)) (by (with_reducible repeat (first | refine zN ?_ _ | refine zD ?_ | refine zA ?_ _)); exact BK104.out) hb); have n3_ := Aside0.mk (below_step (by repeat (first | (with_reducible first | exact HB.out | apply zB | apply zP | apply zE | refine zS ?_ GE104.out) | exact HB.out)) hb); clear HO130; clear BK104; clear HB; have HO130 := n0_; have HO133 := n1_; have BK104 := n2_; have HB := n3_; clear n0_ n1_ n2_ n3_; (try clear hb); (try clear hb2); (try clear hk); (try clear hi); (try clear ho0)))
          go_ret2
          exact ⟨_, by first | rfl | (simp [errW_none, errW_some] <;> rfl) | (simp [*, errW_none, errW_some] <;> rfl), by (with_reducible repeat (first | apply Kd.R_alloc | apply Kd.R_drewN | apply Kd.R_drew)); exact Kd.R_mono HO133.out (fun _ hk => trivial), by repeat (first | (with_reducible first | exact HB.out | apply zB | apply zP | apply zE | refine zS ?_ GE104.out) | exact HB.out)⟩
        · rw [if_neg c19] at H
          exact absurd H (by simp)

/-! ### super_PutHead: function 27 -/
def super_PutHead.f (a0_0 : Int) (a0_1 : Int) : Option (List Int × Int) := Go.Proofs.Ytbgnmiicbaecfaa.Super.headF a0_0 a0_1
theorem super_PutHead.calls (a0_0 : Int) (a0_1 : Int) (r1 : List Int) (r2 : Int) (w : World) (h : super_PutHead.f a0_0 a0_1 = some (r1, r2)) :
    Calls Try.prog 27 #[.agg #[.int .i64 a0_0, .int .i64 a0_1]] w fun e w' => ∃ v0_ : Value, e = .returned (.tuple #[v0_, .int .i64 r2]) ∧ Kd.R (Kd.int .u8) 5 w' w.heap.size (fun _ => True) v0_ r1 ∧ Below w.heap.size w w' := Go.Proofs.Ytbgnmiicbaecfaa.Super.head_of_calls a0_0 a0_1 r1 r2 w h

end Go.Proofs.Ytbgnmiicbaecfaa.PAll
