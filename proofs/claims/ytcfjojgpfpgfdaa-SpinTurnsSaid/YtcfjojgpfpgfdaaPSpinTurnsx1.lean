-- Printed out of the translation by a program; functions that were proved by hand stand among them. Lean checks it.
import Derived.Test.YtcfjojgpfpgfdaaPSpinTurnsx0
namespace Go.Proofs.Ytcfjojgpfpgfdaa.PSpinTurns
open Go.RowKit Go.Proofs.YtcfjojgpfpgfdaaW.PrintWords Go.Proofs.YtcfjojgpfpgfdaaW.PrintLast Go.Proofs.YtcfjojgpfpgfdaaW.PrintMore
attribute [local go_sem] max2_int min2_int max_two min_two max_three min_three max_four min_four   -- for this text's walks alone
set_option linter.unusedVariables false
set_option linter.unusedSimpArgs false

-- NOT PRINTED: function 21 (spin_mod)

-- NOT PRINTED: function 20 (spin_register_reduce)

-- NOT PRINTED: function 17 (spin_from)

-- NOT PRINTED: function 18 (spin_register_step)

-- NOT PRINTED: function 19 (spin_register_sum)

/-! ### spin_More: function 13 -/
def spin_More.f (a0 : Int) (l1 : List Int) : Option (Int) := Go.Proofs.Ytcfjojgpfpgfdaa.Spin.moreF a0 l1
theorem spin_More.calls (a0 : Int) (A1 : Option Addr) (c1 : Nat) (l1 : List Int) (r : Int) (w : World) (hr1 : Kd.C (Kd.int .u8) w A1 l1.length l1) (hc1 : l1.length ≤ c1) (h : spin_More.f a0 l1 = some r) :
    Calls Try.prog 13 #[.int .u32 a0, .slice A1 l1.length c1] w fun e w' => e = .returned (.int .u32 r) ∧ Drawn0 w w' := Go.Proofs.Ytcfjojgpfpgfdaa.Spin.more_calls a0 A1 c1 l1 r w hr1 hc1 h

/-! ### spin_Sum: function 11 -/
def spin_Sum.f (l0 : List Int) : Option (Int) := Go.Proofs.Ytcfjojgpfpgfdaa.Spin.sumF l0
theorem spin_Sum.calls (A0 : Option Addr) (c0 : Nat) (l0 : List Int) (r : Int) (w : World) (hr0 : Kd.C (Kd.int .u8) w A0 l0.length l0) (hc0 : l0.length ≤ c0) (h : spin_Sum.f l0 = some r) :
    Calls Try.prog 11 #[.slice A0 l0.length c0] w fun e w' => e = .returned (.int .u32 r) ∧ Drawn0 w w' := Go.Proofs.Ytcfjojgpfpgfdaa.Spin.sum_of_calls A0 c0 l0 r w hr0 hc0 h

/-! ### drydocklaw03_awake: function 10 -/
def drydocklaw03_awake.f  : Option (Bool) := (spin_Sum.f ([] : List Int)).bind fun t101 => (if t101 = 65536 then ((spin_Sum.f (([5] : List Int))).bind fun t105 => (some (t105 == 458753))) else (some false))
set_option maxHeartbeats 8000000 in
set_option maxRecDepth 100000 in
theorem drydocklaw03_awake.calls  (r : Bool) (w : World) (h : drydocklaw03_awake.f  = some r) :
    Calls Try.prog 10 #[] w fun e w' => e = .returned (.bool r) ∧ Below w.heap.size w w' := by
  have HB := Aside0.mk (Below.refl w.heap.size w)
  have H : ((spin_Sum.f ([] : List Int)).bind fun t101 => (if t101 = 65536 then ((spin_Sum.f (([5] : List Int))).bind fun t105 => (some (t105 == 458753))) else (some false))) = some r := h
  clear h
  replace H := Option.bind_eq_some_iff.mp H
  obtain ⟨t101, A10, H⟩ := H
  replace H : (if t101 = 65536 then ((spin_Sum.f (([5] : List Int))).bind fun t105 => (some (t105 == 458753))) else (some false)) = some r := H
  have A1 := Aside0.mk A10
  clear A10
  by_cases c2 : t101 = 65536
  · rw [if_pos c2] at H
    have c2b0 : (t101 == 65536) = true := beq_iff_eq.mpr c2
    have c2b1 : (t101 != 65536) = false := bne_eq_false_iff_eq.mpr c2
    clear c2
    obtain ⟨y102, hy102⟩ : ∃ y_ : List Int, y_ = (([5] : List Int)) := ⟨_, rfl⟩
    replace H : ((spin_Sum.f y102).bind fun t105 => (some (t105 == 458753))) = some r := by first | (rw [hy102]; with_reducible exact H) | (have H2_ := (Option.bind_some _ _).symm.trans H; rw [hy102]; with_reducible exact H2_) | (have H2_ := (Option.bind_some _ _).symm.trans H; with_reducible exact H2_) | with_reducible exact H | (rw [hy102]; exact H) | exact H
    have Ny102 := Aside0.mk hy102
    clear hy102
    replace H := Option.bind_eq_some_iff.mp H
    obtain ⟨t105, A30, H⟩ := H
    replace H : (some (t105 == 458753)) = some r := H
    have A3 := Aside0.mk A30
    clear A30
    obtain rfl := Option.some.inj H
    go_enter Try.func10, Try.ntmps10
    go_wp2_with (first | ((with_reducible refine gate_callee (f := 11) rfl ?_); refine goesL_ (some 1) rfl rfl Try.func11 (by kernel_rfl) rfl #[.slice none 0 0] rfl (by (try simp only [List.map_toArray, List.map_cons, List.map_nil]); first | done | rfl | (simp only [List.length_drop, List.length_take]; rfl)) ?_; (refine (spin_Sum.calls _ _ ([] : List Int) t101 _ ?side1 ?side2 A1.out).mono ?_); (case side1 => exact Kd.C_nil _ _); (case side2 => exact Nat.le_refl _); rintro e w' ⟨rfl, ⟨nd, rfl⟩⟩; refine ⟨_, rfl, ?_⟩) | ((with_reducible refine gate_dst (N := 4) rfl ?_); (try (refine gate_guard (by rfl) ?_; dsimp only)); refine Kd.R_lit (Kd.int .u8) _ 5 ?hg (N := 4) ?hd (xs := ([5] : List Int)) (inner := [.int .u8 5]) (ok := fun _ => True) (okp := fun _ => True) ?hr ?hp (fun _ hk => hk) trivial (Below.refl _ _) (Nat.le_refl _) (by simp) ?_; (case hd => rfl); (case hg => rfl); (case hr => first | (go_simp; done) | (go_simp; rfl)); (case hp => exact (Reps.one (show Kd.M (Kd.int .u8) _ _ _ 5 [.int .u8 5] from rfl) (Reps.none _ _))); intro v103 w4 ho5 hb hg_ hnew_; clear hg_ hnew_; (first | rw [← Ny102.out] at ho5 | (simp only [Int.reduceToNat] at ho5; rw [← Ny102.out] at ho5)); have n0_ := Aside0.mk (Kd.R_lower ho5 (below_size (by repeat (first | (with_reducible first | exact HB.out | apply below_alloc | apply pw_below_drewN | apply below_drew1) | exact HB.out)))); have n1_ := Aside0.mk (below_step (by repeat (first | (with_reducible first | exact HB.out | apply below_alloc | apply pw_below_drewN | apply below_drew1) | exact HB.out)) hb); clear HB; have HO104 := n0_; have HB := n1_; clear n0_ n1_; clear hb ho5; obtain ⟨Ao6, co6, eo6⟩ := Kd.R_slice HO104.out; subst eo6) | (go_at_call 11; (with_reducible refine (spin_Sum.calls _ _ y102 t105 _ ?side1 ?side2 A3.out).mono ?_); (case side1 => repeat (first | exact (Kd.R_reads' HO104.out).2.2 | (with_reducible refine Kd.C_alloc ?_ _) | (with_reducible refine Kd.C_drewN ?_ _) | (with_reducible refine Kd.C_drew ?_))); (case side2 => exact (Kd.R_reads' HO104.out).2.1); rintro e w' ⟨rfl, ⟨nd, rfl⟩⟩))
    go_ret
    exact ⟨by first | rfl | (simp [errW_none, errW_some] <;> rfl) | (simp [*, errW_none, errW_some] <;> rfl), by repeat (first | (with_reducible first | exact HB.out | apply below_alloc | apply pw_below_drewN | apply below_drew1) | exact HB.out)⟩
  · rw [if_neg c2] at H
    have c2b0 : (t101 == 65536) = false := beq_eq_false_iff_ne.mpr c2
    have c2b1 : (t101 != 65536) = true := bne_iff_ne.mpr c2
    obtain rfl := Option.some.inj H
    go_enter Try.func10, Try.ntmps10
    go_wp2_with (first | ((with_reducible refine gate_callee (f := 11) rfl ?_); refine goesL_ (some 1) rfl rfl Try.func11 (by kernel_rfl) rfl #[.slice none 0 0] rfl (by (try simp only [List.map_toArray, List.map_cons, List.map_nil]); first | done | rfl | (simp only [List.length_drop, List.length_take]; rfl)) ?_; (refine (spin_Sum.calls _ _ ([] : List Int) t101 _ ?side1 ?side2 A1.out).mono ?_); (case side1 => exact Kd.C_nil _ _); (case side2 => exact Nat.le_refl _); rintro e w' ⟨rfl, ⟨nd, rfl⟩⟩; refine ⟨_, rfl, ?_⟩))
    go_ret
    exact ⟨by first | rfl | (simp [errW_none, errW_some] <;> rfl) | (simp [*, errW_none, errW_some] <;> rfl), by repeat (first | (with_reducible first | exact HB.out | apply below_alloc | apply pw_below_drewN | apply below_drew1) | exact HB.out)⟩

/-! ### drydocklaw03_SpinTurns: function 4 -/
def drydocklaw03_SpinTurns.f (l0 : List Int) (a1 : Int) (a2 : Int) : Option (Bool) := if (l0.length : Int) = 0 then ((drydocklaw03_awake.f).bind fun t106 => (some t106)) else ((some (([] : List Int) : List Int)).bind fun y107 => (if y107.length + l0.length < 140737488355328 then ((some (y107 ++ l0 : List Int)).bind fun y110 => (if (y110.length : Int) = 0 then (none) else (if 0 ≤ (Int.tmod (wrap64 (a1)) (y110.length : Int)) then (if (Int.tmod (wrap64 (a1)) (y110.length : Int)) < (y110.length : Int) then ((drydocklaw03_awake.f).bind fun t115 => (if t115 = true then ((spin_Sum.f (y110.set ((Int.tmod (wrap64 (a1)) (y110.length : Int)) : Int).toNat (Go.bits .xor .u8 (rd y110 (Int.tmod (wrap64 (a1)) (y110.length : Int))) a2))).bind fun t116 => ((spin_Sum.f l0).bind fun t117 => (some ((t116 == t117) == (a2 == 0))))) else (some false))) else (none)) else (none)))) else (none)))
set_option maxHeartbeats 8000000 in
set_option maxRecDepth 100000 in
theorem drydocklaw03_SpinTurns.calls (A0 : Option Addr) (c0 : Nat) (l0 : List Int) (a1 : Int) (a2 : Int) (r : Bool) (w : World) (hr0 : Kd.C (Kd.int .u8) w A0 l0.length l0) (hc0 : l0.length ≤ c0) (h : drydocklaw03_SpinTurns.f l0 a1 a2 = some r) :
    Calls Try.prog 4 #[.slice A0 l0.length c0, .int .u16 a1, .int .u8 a2] w fun e w' => e = .returned (.bool r) ∧ Below w.heap.size w w' := by
  have HR0 := Aside0.mk hr0
  have HC0 := Aside0.mk hc0
  clear hr0 hc0
  have HB := Aside0.mk (Below.refl w.heap.size w)
  have H : (if (l0.length : Int) = 0 then ((drydocklaw03_awake.f).bind fun t106 => (some t106)) else ((some (([] : List Int) : List Int)).bind fun y107 => (if y107.length + l0.length < 140737488355328 then ((some (y107 ++ l0 : List Int)).bind fun y110 => (if (y110.length : Int) = 0 then (none) else (if 0 ≤ (Int.tmod (wrap64 (a1)) (y110.length : Int)) then (if (Int.tmod (wrap64 (a1)) (y110.length : Int)) < (y110.length : Int) then ((drydocklaw03_awake.f).bind fun t115 => (if t115 = true then ((spin_Sum.f (y110.set ((Int.tmod (wrap64 (a1)) (y110.length : Int)) : Int).toNat (Go.bits .xor .u8 (rd y110 (Int.tmod (wrap64 (a1)) (y110.length : Int))) a2))).bind fun t116 => ((spin_Sum.f l0).bind fun t117 => (some ((t116 == t117) == (a2 == 0))))) else (some false))) else (none)) else (none)))) else (none)))) = some r := h
  clear h
  by_cases c4 : (l0.length : Int) = 0
  · rw [if_pos c4] at H
    have c4b0 : ((l0.length : Int) == 0) = true := beq_iff_eq.mpr c4
    have c4b1 : ((l0.length : Int) != 0) = false := bne_eq_false_iff_eq.mpr c4
    clear c4
    replace H := Option.bind_eq_some_iff.mp H
    obtain ⟨t106, A50, H⟩ := H
    replace H : (some t106) = some r := H
    have A5 := Aside0.mk A50
    clear A50
    obtain rfl := Option.some.inj H
    go_enter Try.func4, Try.ntmps4
    go_wp2_with (first | ((with_reducible refine gate_callee (f := 10) rfl ?_); refine goesL_ (some 11) rfl rfl Try.func10 (by kernel_rfl) rfl #[] rfl (by (try simp only [List.map_toArray, List.map_cons, List.map_nil]); first | done | rfl | (simp only [List.length_drop, List.length_take]; rfl)) ?_; (with_reducible refine (drydocklaw03_awake.calls  t106 _ A5.out).mono ?_); rintro e w6 ⟨rfl, hb⟩; refine ⟨_, rfl, ?_⟩; have n0_ := Aside0.mk (below_step (by repeat (first | (with_reducible first | exact HB.out | apply below_alloc | apply pw_below_drewN | apply below_drew1) | exact HB.out)) hb); clear HB; have HB := n0_; clear n0_; (try clear hb); (try clear hb2); (try clear hk); (try clear hi)))
    go_ret
    exact ⟨by first | rfl | (simp [errW_none, errW_some] <;> rfl) | (simp [*, errW_none, errW_some] <;> rfl), by repeat (first | (with_reducible first | exact HB.out | apply below_alloc | apply pw_below_drewN | apply below_drew1) | exact HB.out)⟩
  · rw [if_neg c4] at H
    have c4b0 : ((l0.length : Int) == 0) = false := beq_eq_false_iff_ne.mpr c4
    have c4b1 : ((l0.length : Int) != 0) = true := bne_iff_ne.mpr c4
    have c4b2 : ¬ (l0 = []) := fun h_ => c4 (by rw [h_]; rfl)
    obtain ⟨y107, hy107⟩ : ∃ y_ : List Int, y_ = (([] : List Int)) := ⟨_, rfl⟩
    replace H : (if y107.length + l0.length < 140737488355328 then ((some (y107 ++ l0 : List Int)).bind fun y110 => (if (y110.length : Int) = 0 then (none) else (if 0 ≤ (Int.tmod (wrap64 (a1)) (y110.length : Int)) then (if (Int.tmod (wrap64 (a1)) (y110.length : Int)) < (y110.length : Int) then ((drydocklaw03_awake.f).bind fun t115 => (if t115 = true then ((spin_Sum.f (y110.set ((Int.tmod (wrap64 (a1)) (y110.length : Int)) : Int).toNat (Go.bits .xor .u8 (rd y110 (Int.tmod (wrap64 (a1)) (y110.length : Int))) a2))).bind fun t116 => ((spin_Sum.f l0).bind fun t117 => (some ((t116 == t117) == (a2 == 0))))) else (some false))) else (none)) else (none)))) else (none)) = some r := by first | (rw [hy107]; with_reducible exact H) | (have H2_ := (Option.bind_some _ _).symm.trans H; rw [hy107]; with_reducible exact H2_) | (have H2_ := (Option.bind_some _ _).symm.trans H; with_reducible exact H2_) | with_reducible exact H | (rw [hy107]; exact H) | exact H
    have Ny107 := Aside0.mk hy107
    clear hy107
    by_cases c7 : y107.length + l0.length < 140737488355328
    · rw [if_pos c7] at H
      have LMc7 := Aside0.mk c7
      clear c7
      obtain ⟨y110, hy110⟩ : ∃ y_ : List Int, y_ = (y107 ++ l0) := ⟨_, rfl⟩
      replace H : (if (y110.length : Int) = 0 then (none) else (if 0 ≤ (Int.tmod (wrap64 (a1)) (y110.length : Int)) then (if (Int.tmod (wrap64 (a1)) (y110.length : Int)) < (y110.length : Int) then ((drydocklaw03_awake.f).bind fun t115 => (if t115 = true then ((spin_Sum.f (y110.set ((Int.tmod (wrap64 (a1)) (y110.length : Int)) : Int).toNat (Go.bits .xor .u8 (rd y110 (Int.tmod (wrap64 (a1)) (y110.length : Int))) a2))).bind fun t116 => ((spin_Sum.f l0).bind fun t117 => (some ((t116 == t117) == (a2 == 0))))) else (some false))) else (none)) else (none))) = some r := by first | (rw [hy110]; with_reducible exact H) | (have H2_ := (Option.bind_some _ _).symm.trans H; rw [hy110]; with_reducible exact H2_) | (have H2_ := (Option.bind_some _ _).symm.trans H; with_reducible exact H2_) | with_reducible exact H | (rw [hy110]; exact H) | exact H
      have Ny110 := Aside0.mk hy110
      clear hy110
      by_cases c8 : (y110.length : Int) = 0
      · rw [if_pos c8] at H
        exact absurd H (by simp)
      · rw [if_neg c8] at H
        have c8b0 : ((y110.length : Int) == 0) = false := beq_eq_false_iff_ne.mpr c8
        have c8b1 : ((y110.length : Int) != 0) = true := bne_iff_ne.mpr c8
        have c8b2 : ¬ (y110 = []) := fun h_ => c8 (by rw [h_]; rfl)
        obtain ⟨ji9, hji9⟩ : ∃ j_ : Int, (Int.tmod (wrap64 (a1)) (y110.length : Int)) = j_ := ⟨_, rfl⟩
        replace H : (if 0 ≤ (ji9) then (if (ji9) < (y110.length : Int) then ((drydocklaw03_awake.f).bind fun t115 => (if t115 = true then ((spin_Sum.f (y110.set ((ji9) : Int).toNat (Go.bits .xor .u8 (rd y110 (ji9)) a2))).bind fun t116 => ((spin_Sum.f l0).bind fun t117 => (some ((t116 == t117) == (a2 == 0))))) else (some false))) else (none)) else (none)) = some r := by first | (rw [hji9] at H; exact H) | (simp only [hji9] at H ⊢; exact H)
        by_cases c10 : 0 ≤ (ji9)
        · rw [if_pos c10] at H
          have c10b0 : decide (0 ≤ (ji9)) = true := decide_eq_true c10
          clear c10
          by_cases c11 : (ji9) < (y110.length : Int)
          · rw [if_pos c11] at H
            have c11b0 : decide ((ji9) < (y110.length : Int)) = true := decide_eq_true c11
            clear c11
            obtain ⟨y114, hy114⟩ : ∃ y_ : List Int, y_ = (y110.set ((ji9) : Int).toNat (Go.bits .xor .u8 (rd y110 (ji9)) a2)) := ⟨_, rfl⟩
            replace H : ((drydocklaw03_awake.f).bind fun t115 => (if t115 = true then ((spin_Sum.f y114).bind fun t116 => ((spin_Sum.f l0).bind fun t117 => (some ((t116 == t117) == (a2 == 0))))) else (some false))) = some r := by first | (rw [hy114]; with_reducible exact H) | (have H2_ := (Option.bind_some _ _).symm.trans H; rw [hy114]; with_reducible exact H2_) | (have H2_ := (Option.bind_some _ _).symm.trans H; with_reducible exact H2_) | with_reducible exact H | (rw [hy114]; exact H) | exact H
            have Ny114 := Aside0.mk hy114
            clear hy114
            replace H := Option.bind_eq_some_iff.mp H
            obtain ⟨t115, A130, H⟩ := H
            replace H : (if t115 = true then ((spin_Sum.f y114).bind fun t116 => ((spin_Sum.f l0).bind fun t117 => (some ((t116 == t117) == (a2 == 0))))) else (some false)) = some r := H
            have A13 := Aside0.mk A130
            clear A130
            by_cases c14 : t115 = true
            · subst c14
              have H1 : ((spin_Sum.f y114).bind fun t116 => ((spin_Sum.f l0).bind fun t117 => (some ((t116 == t117) == (a2 == 0))))) = some r := by rw [if_pos rfl] at H; exact H
              clear H
              have H := H1
              clear H1
              replace H := Option.bind_eq_some_iff.mp H
              obtain ⟨t116, A150, H⟩ := H
              replace H : ((spin_Sum.f l0).bind fun t117 => (some ((t116 == t117) == (a2 == 0)))) = some r := H
              have A15 := Aside0.mk A150
              clear A150
              replace H := Option.bind_eq_some_iff.mp H
              obtain ⟨t117, A160, H⟩ := H
              replace H : (some ((t116 == t117) == (a2 == 0))) = some r := H
              have A16 := Aside0.mk A160
              clear A160
              obtain rfl := Option.some.inj H
              go_enter Try.func4, Try.ntmps4
              go_wp2_with (first | ((with_reducible refine gate_dst (N := 12) rfl ?_); refine Kd.R_lit (Kd.int .u8) _ 5 ?hg (N := 12) ?hd (xs := ([] : List Int)) (inner := []) (ok := fun _ => True) (okp := fun _ => True) ?hr ?hp (fun _ hk => hk) trivial (Below.refl _ _) (Nat.le_refl _) (by simp) ?_; (case hd => rfl); (case hg => rfl); (case hr => first | (go_simp; done) | (go_simp; rfl)); (case hp => exact (Reps.none _ _)); intro v108 w17 ho18 hb hg_ hnew_; clear hg_ hnew_; (first | rw [← Ny107.out] at ho18 | (simp only [Int.reduceToNat] at ho18; rw [← Ny107.out] at ho18)); have n0_ := Aside0.mk (Kd.R_lower ho18 (below_size (by repeat (first | (with_reducible first | exact HB.out | apply below_alloc | apply pw_below_drewN | apply below_drew1) | exact HB.out)))); have n1_ := Aside0.mk (below_step (by repeat (first | (with_reducible first | exact HB.out | apply below_alloc | apply pw_below_drewN | apply below_drew1) | exact HB.out)) hb); clear HB; have HO109 := n0_; have HB := n1_; clear n0_ n1_; clear hb ho18) | ((with_reducible refine gate_builtin (b := .append) (xs := #[.tmp 12, .tmp 13]) rfl ?_); at_builtin; refine Kd.R_append_rows (Kd.int .u8) (w0 := w) w.heap.size rfl (.tmp 12) (.tmp 13) 23 5 (.int .u8 0) 1 rfl Try.underlying23 info5 rfl (by decide) (by omega) v108 y107 l0 _ _ _ (fun _ => True) (fun _ => False) rfl rfl ?aO ?aR (fun _ _ h => h) (fun _ h => h.elim) ?aF ?aB ?aS ?aL ?_; (case aR => repeat (first | exact (Kd.C_below HR0.out HB.out) | (with_reducible refine Kd.C_alloc ?_ _) | (with_reducible refine Kd.C_drewN ?_ _) | (with_reducible refine Kd.C_drew ?_))); (case aB => exact (by repeat (first | (with_reducible first | exact HB.out | apply below_alloc | apply pw_below_drewN | apply below_drew1) | exact HB.out))); (case aF => exact (fun _ _ => trivial)); (case aO => exact (by (with_reducible repeat (first | apply Kd.R_alloc | apply Kd.R_drewN | apply Kd.R_drew)); exact HO109.out)); (case aS => exact (below_size (by repeat (first | (with_reducible first | exact HB.out | apply below_alloc | apply pw_below_drewN | apply below_drew1) | exact HB.out)))); (case aL => have := LMc7.out; omega); intro v111 w19 ho hb hg hat; rw [← Ny110.out] at ho; have n0_ := Aside0.mk (hb); have n1_ := Aside0.mk (ho); clear HB; clear HO109; have HB := n0_; have HO112 := n1_; clear n0_ n1_; clear ho hb hg hat; obtain ⟨Ao20, co20, eo20⟩ := Kd.R_slice HO112.out; subst eo20; have p113 : 0 ≤ ((ji9) : Int) := of_decide_eq_true (by first | (with_reducible assumption) | assumption); have q113 : (ji9) < (y110.length : Int) := of_decide_eq_true (by first | (with_reducible assumption) | assumption); obtain ⟨ad113, e113, hx113_0⟩ := Kd.at_int (Kd.R_reads' HO112.out).2.2 (ji9) p113 q113; cases e113; replace p113 := eq_true p113; replace q113 := eq_true q113; have p12 : 0 ≤ ((ji9) : Int) := of_decide_eq_true (by first | (with_reducible assumption) | assumption); have q12 : ((ji9) : Int) < ((y110.length : Int) : Int) := of_decide_eq_true (by first | (with_reducible assumption) | assumption); obtain ⟨go12, co12, eo12, gb12, gl12, cl12, HG12⟩ := Kd.R_form HO112.out (by omega); (first | cases eo12 | (injection eo12 with ea_ en_ ec_; (first | subst ea_ | (injection ea_ with ea_; subst ea_)); subst ec_; clear en_)); have GB12 := Aside0.mk gb12; have GG12 := Aside0.mk HG12; clear gb12 gl12 HG12; (first | simp only [add_plain] at hx113_0 | skip); obtain ⟨hx12_0, hf12_0⟩ := Kd.R_celln 0 HO112.out ((ji9) : Int) p12 q12; replace p12 := eq_true p12; replace q12 := eq_true q12; obtain ⟨hy21_, hz21_⟩ := Kd.R_celln 0 HO112.out ((ji9) : Int) (of_decide_eq_true (by first | (with_reducible assumption) | assumption)) (of_decide_eq_true (by first | (with_reducible assumption) | assumption)); have HP21 := Kd.R_putg HO112.out ((ji9) : Int) (Go.bits .xor .u8 (rd y110 (ji9)) a2)) | ((with_reducible refine gate_store (t := 5) (p := 25) rfl ?_); refine store_event (t := 5) (p := 25) (v := ?vo_w22) (w1 := (w19.setCell ⟨go12, ((ji9) : Int).toNat, none⟩ (.int .u8 (Go.bits .xor .u8 (rd y110 (ji9)) a2)))) ?hg ?ho ?hn ?hr ?_; (case ho => rfl); (case hg => rfl); (case hn => rfl); (case hr => first | (go_simp; done) | (go_simp; rfl)); intro w22 hw; have hg : w19.grownBy w22 (some go12) := (by rw [hw]; exact HP21.2); have hp_ : Kd.R (Kd.int .u8) 5 w22 w.heap.size (fun _ => True) (.slice (some ⟨go12, 0, none⟩) y110.length co20) y114 := (by rw [hw, Ny114.out]; exact HP21.1); clear HP21; have n0_ := Aside0.mk (hp_); have n1_ := Aside0.mk ((by rw [hw]; exact below_set (HB.out) GB12.out : Below w.heap.size w w22)); clear HO112; clear HB; have HO112 := n0_; have HB := n1_; clear n0_ n1_; clear hg hw hp_) | ((with_reducible refine gate_callee (f := 10) rfl ?_); refine goesL_ (some 26) rfl rfl Try.func10 (by kernel_rfl) rfl #[] rfl (by (try simp only [List.map_toArray, List.map_cons, List.map_nil]); first | done | rfl | (simp only [List.length_drop, List.length_take]; rfl)) ?_; (with_reducible refine (drydocklaw03_awake.calls  true _ A13.out).mono ?_); rintro e w23 ⟨rfl, hb⟩; refine ⟨_, rfl, ?_⟩; have n0_ := Aside0.mk (Kd.R_below (by (with_reducible repeat (first | apply Kd.R_alloc | apply Kd.R_drewN | apply Kd.R_drew)); exact HO112.out) hb); have n1_ := Aside0.mk (below_step (by repeat (first | (with_reducible first | exact HB.out | apply below_alloc | apply pw_below_drewN | apply below_drew1) | exact HB.out)) hb); clear HO112; clear HB; have HO112 := n0_; have HB := n1_; clear n0_ n1_; (try clear hb); (try clear hb2); (try clear hk); (try clear hi)) | (go_at_call 11; refine calls_of_args (args' := #[.slice (some ⟨go12, 0, none⟩) y114.length co20]) (by first | (rw [show y114.length = y110.length from (Kd.R_reads' HO112.out).1.symm] <;> rfl) | rfl) ?_; (with_reducible refine (spin_Sum.calls _ _ y114 t116 _ ?side1 ?side2 A15.out).mono ?_); (case side1 => repeat (first | exact (Kd.R_reads' HO112.out).2.2 | (with_reducible refine Kd.C_alloc ?_ _) | (with_reducible refine Kd.C_drewN ?_ _) | (with_reducible refine Kd.C_drew ?_))); (case side2 => rw [show y114.length = y110.length from (Kd.R_reads' HO112.out).1.symm]; exact (Kd.R_reads' HO112.out).2.1); rintro e w' ⟨rfl, ⟨nd, rfl⟩⟩) | (go_at_call 11; (with_reducible refine (spin_Sum.calls _ _ l0 t117 _ ?side1 ?side2 A16.out).mono ?_); (case side1 => repeat (first | exact (Kd.C_below HR0.out (by repeat (first | (with_reducible first | exact HB.out | apply below_alloc | apply pw_below_drewN | apply below_drew1) | exact HB.out))) | (with_reducible refine Kd.C_alloc ?_ _) | (with_reducible refine Kd.C_drewN ?_ _) | (with_reducible refine Kd.C_drew ?_))); (case side2 => exact HC0.out); rintro e w' ⟨rfl, ⟨nd, rfl⟩⟩))
              go_ret
              exact ⟨by first | rfl | (simp [errW_none, errW_some] <;> rfl) | (simp only [← hji9]; first | rfl | (simp [errW_none, errW_some] <;> rfl)) | (simp [*, errW_none, errW_some] <;> rfl), by repeat (first | (with_reducible first | exact HB.out | apply below_alloc | apply pw_below_drewN | apply below_drew1) | exact HB.out)⟩
            · replace c14 := Bool.eq_false_iff.mpr c14
              subst c14
              have H1 : (some false) = some r := by rw [if_neg (show ¬ (false = true) by decide)] at H; exact H
              clear H
              have H := H1
              clear H1
              obtain rfl := Option.some.inj H
              go_enter Try.func4, Try.ntmps4
              go_wp2_with (first | ((with_reducible refine gate_dst (N := 12) rfl ?_); refine Kd.R_lit (Kd.int .u8) _ 5 ?hg (N := 12) ?hd (xs := ([] : List Int)) (inner := []) (ok := fun _ => True) (okp := fun _ => True) ?hr ?hp (fun _ hk => hk) trivial (Below.refl _ _) (Nat.le_refl _) (by simp) ?_; (case hd => rfl); (case hg => rfl); (case hr => first | (go_simp; done) | (go_simp; rfl)); (case hp => exact (Reps.none _ _)); intro v108 w24 ho25 hb hg_ hnew_; clear hg_ hnew_; (first | rw [← Ny107.out] at ho25 | (simp only [Int.reduceToNat] at ho25; rw [← Ny107.out] at ho25)); have n0_ := Aside0.mk (Kd.R_lower ho25 (below_size (by repeat (first | (with_reducible first | exact HB.out | apply below_alloc | apply pw_below_drewN | apply below_drew1) | exact HB.out)))); have n1_ := Aside0.mk (below_step (by repeat (first | (with_reducible first | exact HB.out | apply below_alloc | apply pw_below_drewN | apply below_drew1) | exact HB.out)) hb); clear HB; have HO109 := n0_; have HB := n1_; clear n0_ n1_; clear hb ho25) | ((with_reducible refine gate_builtin (b := .append) (xs := #[.tmp 12, .tmp 13]) rfl ?_); at_builtin; refine Kd.R_append_rows (Kd.int .u8) (w0 := w) w.heap.size rfl (.tmp 12) (.tmp 13) 23 5 (.int .u8 0) 1 rfl Try.underlying23 info5 rfl (by decide) (by omega) v108 y107 l0 _ _ _ (fun _ => True) (fun _ => False) rfl rfl ?aO ?aR (fun _ _ h => h) (fun _ h => h.elim) ?aF ?aB ?aS ?aL ?_; (case aR => repeat (first | exact (Kd.C_below HR0.out HB.out) | (with_reducible refine Kd.C_alloc ?_ _) | (with_reducible refine Kd.C_drewN ?_ _) | (with_reducible refine Kd.C_drew ?_))); (case aB => exact (by repeat (first | (with_reducible first | exact HB.out | apply below_alloc | apply pw_below_drewN | apply below_drew1) | exact HB.out))); (case aF => exact (fun _ _ => trivial)); (case aO => exact (by (with_reducible repeat (first | apply Kd.R_alloc | apply Kd.R_drewN | apply Kd.R_drew)); exact HO109.out)); (case aS => exact (below_size (by repeat (first | (with_reducible first | exact HB.out | apply below_alloc | apply pw_below_drewN | apply below_drew1) | exact HB.out)))); (case aL => have := LMc7.out; omega); intro v111 w26 ho hb hg hat; rw [← Ny110.out] at ho; have n0_ := Aside0.mk (hb); have n1_ := Aside0.mk (ho); clear HB; clear HO109; have HB := n0_; have HO112 := n1_; clear n0_ n1_; clear ho hb hg hat; obtain ⟨Ao27, co27, eo27⟩ := Kd.R_slice HO112.out; subst eo27; have p113 : 0 ≤ ((ji9) : Int) := of_decide_eq_true (by first | (with_reducible assumption) | assumption); have q113 : (ji9) < (y110.length : Int) := of_decide_eq_true (by first | (with_reducible assumption) | assumption); obtain ⟨ad113, e113, hx113_0⟩ := Kd.at_int (Kd.R_reads' HO112.out).2.2 (ji9) p113 q113; cases e113; replace p113 := eq_true p113; replace q113 := eq_true q113; have p12 : 0 ≤ ((ji9) : Int) := of_decide_eq_true (by first | (with_reducible assumption) | assumption); have q12 : ((ji9) : Int) < ((y110.length : Int) : Int) := of_decide_eq_true (by first | (with_reducible assumption) | assumption); obtain ⟨go12, co12, eo12, gb12, gl12, cl12, HG12⟩ := Kd.R_form HO112.out (by omega); (first | cases eo12 | (injection eo12 with ea_ en_ ec_; (first | subst ea_ | (injection ea_ with ea_; subst ea_)); subst ec_; clear en_)); have GB12 := Aside0.mk gb12; have GG12 := Aside0.mk HG12; clear gb12 gl12 HG12; (first | simp only [add_plain] at hx113_0 | skip); obtain ⟨hx12_0, hf12_0⟩ := Kd.R_celln 0 HO112.out ((ji9) : Int) p12 q12; replace p12 := eq_true p12; replace q12 := eq_true q12; obtain ⟨hy28_, hz28_⟩ := Kd.R_celln 0 HO112.out ((ji9) : Int) (of_decide_eq_true (by first | (with_reducible assumption) | assumption)) (of_decide_eq_true (by first | (with_reducible assumption) | assumption)); have HP28 := Kd.R_putg HO112.out ((ji9) : Int) (Go.bits .xor .u8 (rd y110 (ji9)) a2)) | ((with_reducible refine gate_store (t := 5) (p := 25) rfl ?_); refine store_event (t := 5) (p := 25) (v := ?vo_w29) (w1 := (w26.setCell ⟨go12, ((ji9) : Int).toNat, none⟩ (.int .u8 (Go.bits .xor .u8 (rd y110 (ji9)) a2)))) ?hg ?ho ?hn ?hr ?_; (case ho => rfl); (case hg => rfl); (case hn => rfl); (case hr => first | (go_simp; done) | (go_simp; rfl)); intro w29 hw; have hg : w26.grownBy w29 (some go12) := (by rw [hw]; exact HP28.2); have hp_ : Kd.R (Kd.int .u8) 5 w29 w.heap.size (fun _ => True) (.slice (some ⟨go12, 0, none⟩) y110.length co27) y114 := (by rw [hw, Ny114.out]; exact HP28.1); clear HP28; have n0_ := Aside0.mk (hp_); have n1_ := Aside0.mk ((by rw [hw]; exact below_set (HB.out) GB12.out : Below w.heap.size w w29)); clear HO112; clear HB; have HO112 := n0_; have HB := n1_; clear n0_ n1_; clear hg hw hp_) | ((with_reducible refine gate_callee (f := 10) rfl ?_); refine goesL_ (some 26) rfl rfl Try.func10 (by kernel_rfl) rfl #[] rfl (by (try simp only [List.map_toArray, List.map_cons, List.map_nil]); first | done | rfl | (simp only [List.length_drop, List.length_take]; rfl)) ?_; (with_reducible refine (drydocklaw03_awake.calls  false _ A13.out).mono ?_); rintro e w30 ⟨rfl, hb⟩; refine ⟨_, rfl, ?_⟩; have n0_ := Aside0.mk (Kd.R_below (by (with_reducible repeat (first | apply Kd.R_alloc | apply Kd.R_drewN | apply Kd.R_drew)); exact HO112.out) hb); have n1_ := Aside0.mk (below_step (by repeat (first | (with_reducible first | exact HB.out | apply below_alloc | apply pw_below_drewN | apply below_drew1) | exact HB.out)) hb); clear HO112; clear HB; have HO112 := n0_; have HB := n1_; clear n0_ n1_; (try clear hb); (try clear hb2); (try clear hk); (try clear hi)))
              go_ret
              exact ⟨by first | rfl | (simp [errW_none, errW_some] <;> rfl) | (simp only [← hji9]; first | rfl | (simp [errW_none, errW_some] <;> rfl)) | (simp [*, errW_none, errW_some] <;> rfl), by repeat (first | (with_reducible first | exact HB.out | apply below_alloc | apply pw_below_drewN | apply below_drew1) | exact HB.out)⟩
          · rw [if_neg c11] at H
            exact absurd H (by simp)
        · rw [if_neg c10] at H
          exact absurd H (by simp)
    · rw [if_neg c7] at H
      exact absurd H (by simp)

/-- THE ONE PURE STATEMENT of drydocklaw03_SpinTurns: yours. -/
def drydocklaw03_SpinTurns.Pure : Prop := ∀ (l0 : List Int) (a1 : Int) (a2 : Int), l0.length ≤ maxLen → l0.length * 1 ≤ 140737488351232 → (∀ x ∈ l0, (Lit.int .u8 x).wf = true) → (Lit.int .u16 a1).wf = true → (Lit.int .u8 a2).wf = true → drydocklaw03_SpinTurns.f l0 a1 a2 = some true
theorem drydocklaw03_SpinTurns.walk (P : drydocklaw03_SpinTurns.Pure) (a0 : Option Addr) (len0 cap0 : Nat) (z0 : List Int) (a1 : Int) (a2 : Int) (w : World) (w0 : (a0 = none ∧ len0 = 0 ∧ cap0 = 0 ∧ z0 = []) ∨ ∃ x, a0 = some x ∧ len0 ≤ cap0 ∧ cap0 ≤ maxLen ∧ z0.length = cap0 ∧ (∀ i, i < z0.length → w.cell? (x.add i) = some (.int .u8 (z0.getD i 0))) ∧ ∀ n ∈ z0, (Lit.int .u8 n).wf = true) (y0 : len0 * 1 ≤ 140737488351232) (w1 : (Lit.int .u16 a1).wf = true) (w2 : (Lit.int .u8 a2).wf = true) :
    Calls Try.prog 4 #[.slice a0 len0 cap0, .int .u16 a1, .int .u8 a2] w fun e w' => e = .returned (.bool true) ∧ Below w.heap.size w w' := by
  obtain ⟨l0, rfl, hr0, hm0, hw0, hc0⟩ := ReadsInt.ofRowC w0
  have h := P l0 a1 a2 hm0 y0 hw0 w1 w2
  refine (drydocklaw03_SpinTurns.calls _ _ l0 a1 a2 true w (Kd.C_of_reads (d := (0 : Int)) (h1 := fun _ => rfl) hr0) hc0 h).mono ?_
  rintro e w' ⟨rfl, hd⟩
  exact ⟨rfl, hd⟩

end Go.Proofs.Ytcfjojgpfpgfdaa.PSpinTurns
