-- Printed out of the translation by a program; functions that were proved by hand stand among them. Lean checks it.
import Derived.Test.YtnccbebjligpdaaPAllx0
import Derived.Test.YtnccbebjligpdaaPAllx12
namespace Go.Proofs.Ytnccbebjligpdaa.PAll
open Go.RowKit Go.Proofs.YtnccbebjligpdaaW.PrintWords Go.Proofs.YtnccbebjligpdaaW.PrintLast Go.Proofs.YtnccbebjligpdaaW.PrintMore
open Go.Proofs.YtnccbebjligpdaaW.PrintWords renaming blk_drewN → zN, blk_drew → zD, blk_alloc → zA, below_alloc → zB, pw_below_drewN → zP, below_drew1 → zE, below_set → zS
attribute [local go_sem] max2_int min2_int max_two min_two max_three min_three max_four min_four   -- for this text's walks alone
set_option linter.unusedVariables false
set_option linter.unusedSimpArgs false

/-! ### drydockref10_Copy: function 42 -/
def drydockref10_Copy.l0 : Nat → List (List (S41)) → List (List (S41)) → Int → Option ((List (List (S41))))
  | 0, _, _, _ => none
  | k + 1, x0, x3, x4 => if x4 < (x0.length : Int) then ((some (([] : List (S41)) : List (S41))).bind fun y190 => (if 0 ≤ x4 then (if y190.length + (rd_L4 x0 x4).length < 5864062014805 then (if x3.length < 5864062014805 then (drydockref10_Copy.l0 k x0 (x3 ++ [(y190 ++ (rd_L4 x0 x4))]) (wrap64 (x4 + 1))) else (none)) else (none)) else (none))) else (some x3)
def drydockref10_Copy.f (k : Nat) (l0 : List (List (S41))) : Option ((List (List (S41)))) := drydockref10_Copy.l0 k l0 (([] : List (List (S41)))) 0
theorem drydockref10_Copy.mono_l : ∀ k, (∀ y0 y1 y2, LeO (drydockref10_Copy.l0 k y0 y1 y2) (drydockref10_Copy.l0 (k + 1) y0 y1 y2))
  | 0 => fun _ _ _ r h => by simp [drydockref10_Copy.l0] at h
  | k + 1 => by
    have ih0 := drydockref10_Copy.mono_l k
    · intro y0 y1 y2
      unfold drydockref10_Copy.l0
      repeat' first
      | (with_reducible exact ih0 _ _ _)
      | (with_reducible exact LeO.refl _)
      | (with_reducible exact LeO.none _)
      | (with_reducible refine LeO.ite ?_ ?_)
      | (with_reducible refine LeO.bind ?_ (fun _ => ?_))
      | exact ih0 _ _ _
      | exact LeO.none _
      | refine LeO.ite ?_ ?_
      | refine LeO.bind ?_ (fun _ => ?_)
theorem drydockref10_Copy.mono : ∀ a0 k, LeO (drydockref10_Copy.f k a0) (drydockref10_Copy.f (k + 1) a0) := by
  intro a0 k
  have ih0 := drydockref10_Copy.mono_l k
  unfold drydockref10_Copy.f
  repeat' first
      | (with_reducible exact ih0 _ _ _)
      | (with_reducible exact LeO.refl _)
      | (with_reducible exact LeO.none _)
      | (with_reducible refine LeO.ite ?_ ?_)
      | (with_reducible refine LeO.bind ?_ (fun _ => ?_))
      | exact ih0 _ _ _
      | exact LeO.none _
      | refine LeO.ite ?_ ?_
      | refine LeO.bind ?_ (fun _ => ?_)
set_option maxHeartbeats 8000000 in
set_option maxRecDepth 100000 in
theorem drydockref10_Copy.calls (k : Nat) (A0 : Option Addr) (c0 : Nat) (l0 : List (List (S41))) (r : List (List (S41))) (w : World) (hr0 : Kd.C (Kd.slice 41 k41) w A0 l0.length l0) (hc0 : l0.length ≤ c0) (h : drydockref10_Copy.f k l0 = some r) :
    Calls Try.prog 42 #[.slice A0 l0.length c0] w fun e w' => ∃ v0_ : Value, e = .returned (v0_) ∧ Kd.S (Kd.slice 41 k41) 22 w' w.heap.size (fun _ => True) v0_ r ∧ Below w.heap.size w w' := by
  have HR0 := Aside0.mk hr0
  have HC0 := Aside0.mk hc0
  clear hr0 hc0
  have HB := Aside0.mk (Below.refl w.heap.size w)
  have H : (drydockref10_Copy.l0 k l0 (([] : List (List (S41)))) 0) = some r := h
  clear h
  obtain ⟨y187, hy187⟩ : ∃ y_ : List (List (S41)), y_ = (([] : List (List (S41)))) := ⟨_, rfl⟩
  replace H : (drydockref10_Copy.l0 k l0 y187 0) = some r := by first | (rw [hy187]; with_reducible exact H) | (have H2_ := (Option.bind_some _ _).symm.trans H; rw [hy187]; with_reducible exact H2_) | (have H2_ := (Option.bind_some _ _).symm.trans H; with_reducible exact H2_) | with_reducible exact H | (rw [hy187]; exact H) | exact H
  have Ny187 := Aside0.mk hy187
  clear hy187
  have H' := Aside0.mk H
  clear H
  go_enter Try.func42, Try.ntmps42
  go_wp2_with (first | ((with_reducible refine gate_dst (N := 5) rfl ?_); refine Kd.S_lit (Kd.slice 41 k41) _ 22 ?hg (N := 5) ?hd (xs := ([] : List (List (S41)))) (inner := []) (ok := fun _ => True) (okp := fun _ => True) ?hr ?hp (fun _ hk => hk) trivial (Below.refl _ _) (Nat.le_refl _) (by simp) ?_; (case hd => rfl); (case hg => rfl); (case hr => first | (go_simp; done) | (go_simp; rfl)); (case hp => exact (Reps.none _ _)); intro v188 w2 ho3 hb hg_ hnew_; clear hg_ hnew_; (first | rw [← Ny187.out] at ho3 | (simp only [Int.reduceToNat] at ho3; rw [← Ny187.out] at ho3)); have n0_ := Aside0.mk (Kd.S_lower ho3 (below_size (by repeat (first | (with_reducible first | exact HB.out | apply zB | apply zP | apply zE) | exact HB.out)))); have n1_ := Aside0.mk (below_step (by repeat (first | (with_reducible first | exact HB.out | apply zB | apply zP | apply zE) | exact HB.out)) hb); clear HB; have HO189 := n0_; have HB := n1_; clear n0_ n1_; clear hb ho3))
  go_loopg [3, 4] k (fun kq v3 v4 w' => ∃ (x3_1 : List (List (S41))) (x4_1 : Int), v4 = .int .i64 x4_1 ∧ Aside0 (drydockref10_Copy.l0 kq l0 x3_1 x4_1 = some r) ∧ Aside0 (kq ≤ k) ∧ Aside0 (Kd.S (Kd.slice 41 k41) 22 w' w.heap.size (fun _ => True) v3 x3_1) ∧ Aside0 (Below w.heap.size w w'))
  case atStart => exact ⟨(y187), (0), (by first | rfl | (simp; done) | (simp [*]; done)), H', ⟨Nat.le_refl _⟩, ⟨by (with_reducible repeat (first | apply Kd.S_alloc | apply Kd.S_drewN | apply Kd.S_drew)); exact HO189.out⟩, ⟨by repeat (first | (with_reducible first | exact HB.out | apply zB | apply zP | apply zE) | exact HB.out)⟩⟩
  case round =>
    clear H'
    try clear p2
    obtain ⟨x3_1, x4_1, rfl, HA, HK1, HO_3, HB⟩ := hrel
    cases gk with
    | zero => exact absurd HA.out (by simp [drydockref10_Copy.l0])
    | succ k1 =>
      have H := HA.out
      clear HA
      simp only [drydockref10_Copy.l0] at H
      by_cases c4 : x4_1 < (l0.length : Int)
      · rw [if_pos c4] at H
        have c4b0 : decide (x4_1 < (l0.length : Int)) = true := decide_eq_true c4
        clear c4
        obtain ⟨y190, hy190⟩ : ∃ y_ : List (S41), y_ = (([] : List (S41))) := ⟨_, rfl⟩
        replace H : (if 0 ≤ x4_1 then (if y190.length + (rd_L4 l0 x4_1).length < 5864062014805 then (if x3_1.length < 5864062014805 then (drydockref10_Copy.l0 k1 l0 (x3_1 ++ [(y190 ++ (rd_L4 l0 x4_1))]) (wrap64 (x4_1 + 1))) else (none)) else (none)) else (none)) = some r := by first | (rw [hy190]; with_reducible exact H) | (have H2_ := (Option.bind_some _ _).symm.trans H; rw [hy190]; with_reducible exact H2_) | (have H2_ := (Option.bind_some _ _).symm.trans H; with_reducible exact H2_) | with_reducible exact H | (rw [hy190]; exact H) | exact H
        have Ny190 := Aside0.mk hy190
        clear hy190
        by_cases c5 : 0 ≤ x4_1
        · rw [if_pos c5] at H
          have c5b0 : decide (0 ≤ x4_1) = true := decide_eq_true c5
          clear c5
          by_cases c6 : y190.length + (rd_L4 l0 x4_1).length < 5864062014805
          · rw [if_pos c6] at H
            have LMc6 := Aside0.mk c6
            clear c6
            obtain ⟨y194, hy194⟩ : ∃ y_ : List (S41), y_ = (y190 ++ (rd_L4 l0 x4_1)) := ⟨_, rfl⟩
            replace H : (if x3_1.length < 5864062014805 then (drydockref10_Copy.l0 k1 l0 (x3_1 ++ [y194]) (wrap64 (x4_1 + 1))) else (none)) = some r := by first | (rw [hy194]; with_reducible exact H) | (have H2_ := (Option.bind_some _ _).symm.trans H; rw [hy194]; with_reducible exact H2_) | (have H2_ := (Option.bind_some _ _).symm.trans H; with_reducible exact H2_) | with_reducible exact H | (rw [hy194]; exact H) | exact H
            have Ny194 := Aside0.mk hy194
            clear hy194
            by_cases c7 : x3_1.length < 5864062014805
            · rw [if_pos c7] at H
              have LMc7 := Aside0.mk c7
              clear c7
              obtain ⟨y197, hy197⟩ : ∃ y_ : List (List (S41)), y_ = (x3_1 ++ [y194]) := ⟨_, rfl⟩
              replace H : (drydockref10_Copy.l0 k1 l0 y197 (wrap64 (x4_1 + 1))) = some r := by first | (rw [hy197]; with_reducible exact H) | (have H2_ := (Option.bind_some _ _).symm.trans H; rw [hy197]; with_reducible exact H2_) | (have H2_ := (Option.bind_some _ _).symm.trans H; with_reducible exact H2_) | with_reducible exact H | (rw [hy197]; exact H) | exact H
              have Ny197 := Aside0.mk hy197
              clear hy197
              have H' := Aside0.mk H
              clear H
              go_wp2_with (first | ((with_reducible refine gate_dst (N := 13) rfl ?_); refine Kd.R_lit k41 _ 41 ?hg (N := 13) ?hd (xs := ([] : List (S41))) (inner := []) (ok := fun _ => True) (okp := fun _ => True) ?hr ?hp (fun _ hk => hk) trivial (Below.refl _ _) (Nat.le_refl _) (by simp) ?_; (case hd => rfl); (case hg => rfl); (case hr => first | (go_simp; done) | (go_simp; rfl)); (case hp => exact (Reps.none _ _)); intro v191 w8 ho9 hb hg_ hnew_; clear hg_ hnew_; (first | rw [← Ny190.out] at ho9 | (simp only [Int.reduceToNat] at ho9; rw [← Ny190.out] at ho9)); have n0_ := Aside0.mk (Kd.S_elder' (by (with_reducible repeat (first | apply Kd.S_alloc | apply Kd.S_drewN | apply Kd.S_drew)); exact HO_3.out) (Kd.R_base ho9) hb); have n1_ := Aside0.mk (Kd.R_lower ho9 (below_size (by repeat (first | (with_reducible first | exact HB.out | apply zB | apply zP | apply zE) | exact HB.out)))); have n2_ := Aside0.mk (below_step (by repeat (first | (with_reducible first | exact HB.out | apply zB | apply zP | apply zE) | exact HB.out)) hb); clear HO_3; clear HB; have HO_3 := n0_; have HO192 := n1_; have HB := n2_; clear n0_ n1_ n2_; clear hb ho9; have p193 : 0 ≤ (x4_1 : Int) := of_decide_eq_true (by first | (with_reducible assumption) | assumption); have q193 : x4_1 < (l0.length : Int) := of_decide_eq_true (by first | (with_reducible assumption) | assumption); obtain ⟨ad193, A193_0, c193_0, e193, hx193_0, hl193_0, hi193_0⟩ := at_L4 HR0.out x4_1 p193 q193; cases e193; replace hx193_0 := (HB.out.cell (World.block_lt_of_cell? w _ hx193_0)).trans hx193_0; have HR193_0 := Aside0.mk hi193_0; have HC193_0 := Aside0.mk hl193_0; clear hi193_0 hl193_0; replace p193 := eq_true p193; replace q193 := eq_true q193) | ((with_reducible refine gate_builtin (b := .append) (xs := #[.tmp 13, .tmp 17]) rfl ?_); at_builtin; refine Kd.R_append_rows k41 (w0 := w) w.heap.size rfl (.tmp 13) (.tmp 17) 22 41 (.agg #[(.int .i64 0), (.string ⟨#[]⟩)]) 24 rfl Try.underlying22 info41 rfl (by decide) (by omega) v191 y190 (rd_L4 l0 x4_1) _ _ _ (fun _ => True) (fun _ => False) rfl rfl ?aO ?aR (fun _ _ h => h) (fun _ h => h.elim) ?aF ?aB ?aS ?aL ?_; (case aR => repeat (first | exact (Kd.C_below HR193_0.out HB.out) | (with_reducible refine Kd.C_alloc ?_ _) | (with_reducible refine Kd.C_drewN ?_ _) | (with_reducible refine Kd.C_drew ?_))); (case aB => exact (by repeat (first | (with_reducible first | exact HB.out | apply zB | apply zP | apply zE) | exact HB.out))); (case aF => exact (fun _ _ => trivial)); (case aO => exact (by (with_reducible repeat (first | apply Kd.R_alloc | apply Kd.R_drewN | apply Kd.R_drew)); exact HO192.out)); (case aS => exact (below_size (by repeat (first | (with_reducible first | exact HB.out | apply zB | apply zP | apply zE) | exact HB.out)))); (case aL => have hL_ := LMc6.out; first | omega | exact Nat.le_of_lt hL_); intro v195 w10 ho hb hg hat; rw [← Ny194.out] at ho; have n0_ := Aside0.mk (Kd.S_after (ok := (fun _ => True)) (by (with_reducible repeat (first | apply Kd.S_alloc | apply Kd.S_drewN | apply Kd.S_drew)); exact HO_3.out) hg hat); have n1_ := Aside0.mk (hb); have n2_ := Aside0.mk (ho); clear HO_3; clear HB; clear HO192; have HO_3 := n0_; have HB := n1_; have HO196 := n2_; clear n0_ n1_ n2_; clear ho hb hg hat; obtain ⟨Ao12, co12, eo12⟩ := Kd.R_slice HO196.out; subst eo12) | ((with_reducible refine gate_builtin (b := .append) (xs := #[.tmp 12, .tmp 19]) rfl ?_); at_builtin; refine Kd.S_append (Kd.slice 41 k41) (w0 := w) w.heap.size rfl (.tmp 12) (.tmp 19) 33 22 (.slice none 0 0) 24 rfl Try.underlying33 info22 rfl (by decide) (by omega) u3 x3_1 y194 [.slice Ao12 y194.length co12] (fun _ => True) (fun k_ => some k_ = (.slice Ao12 y194.length co12 : Value).ownBlock) rfl rfl ?aP (fun k_ hk_ => ((Kd.R_mono (ok' := fun k_ => ((fun _ => True)) k_ ∧ some k_ ≠ (u3 : Value).ownBlock) (Kd.R_apart' (HO196.out) (Kd.S_typed HO_3.out) (by decide)) (fun k_ hk => ⟨trivial, hk.2⟩))).1 k_ hk_.symm) ?aF ?aO ?aB ?aS ?aL ?_; (case aP => exact Kd.M_row (Kd.R_mono (Kd.R_tight rfl (Kd.R_mono (ok' := fun k_ => ((fun _ => True)) k_ ∧ some k_ ≠ (u3 : Value).ownBlock) (Kd.R_apart' (HO196.out) (Kd.S_typed HO_3.out) (by decide)) (fun k_ hk => ⟨trivial, hk.2⟩))) (fun _ h_ => h_))); (case aB => exact (by repeat (first | (with_reducible first | exact HB.out | apply zB | apply zP | apply zE) | exact HB.out))); (case aF => exact (fun _ _ => trivial)); (case aO => exact (by (with_reducible repeat (first | apply Kd.S_alloc | apply Kd.S_drewN | apply Kd.S_drew)); exact Kd.S_mono HO_3.out (fun k_ hk => ⟨trivial, fun e_ => hk.2 e_⟩))); (case aS => exact (below_size (by repeat (first | (with_reducible first | exact HB.out | apply zB | apply zP | apply zE) | exact HB.out)))); (case aL => have hL_ := LMc7.out; first | omega | exact Nat.le_of_lt hL_); intro v198 w11 ho hb hg hat; rw [← Ny197.out] at ho; have n0_ := Aside0.mk (hb); have n1_ := Aside0.mk (ho); clear HB; clear HO_3; clear HO196; have HB := n0_; have HO199 := n1_; clear n0_ n1_; clear ho hb hg hat))
              go_roundg k1
              case measure => have := HK1.out; omega
              case rel => exact ⟨(y197), (wrap64 (x4_1 + 1)), (by first | rfl | (simp; done) | (simp [*]; done)), H', ⟨by have := HK1.out; omega⟩, ⟨by (with_reducible repeat (first | apply Kd.S_alloc | apply Kd.S_drewN | apply Kd.S_drew)); exact HO199.out⟩, ⟨by repeat (first | (with_reducible first | exact HB.out | apply zB | apply zP | apply zE) | exact HB.out)⟩⟩
            · rw [if_neg c7] at H
              exact absurd H (by simp)
          · rw [if_neg c6] at H
            exact absurd H (by simp)
        · rw [if_neg c5] at H
          exact absurd H (by simp)
      · rw [if_neg c4] at H
        have c4b0 : decide (x4_1 < (l0.length : Int)) = false := decide_eq_false c4
        clear c4
        obtain rfl := Option.some.inj H
        go_wp2
        go_ret
        exact ⟨_, by first | rfl | (simp [errW_none, errW_some] <;> rfl) | (simp [*, errW_none, errW_some] <;> rfl), by (with_reducible repeat (first | apply Kd.S_alloc | apply Kd.S_drewN | apply Kd.S_drew)); exact HO_3.out, by repeat (first | (with_reducible first | exact HB.out | apply zB | apply zP | apply zE) | exact HB.out)⟩

/-! ### drydockref10_Remove: function 25 -/
def drydockref10_Remove.f (k : Nat) (l0 : List (List (S41))) (a1 : ByteArray) : Option ((List (List (S41))) × Int × Int) := (drydockref10_Find.f k l0 a1).bind fun bt200 => (if bt200.2.2 = 0 then ((drydockref10_Copy.f k l0).bind fun t203 => ((some (([] : List (S41)) : List (S41))).bind fun y206 => (if 0 ≤ bt200.1 then (if bt200.1 < (t203.length : Int) then (if 0 ≤ bt200.2.1 then (if bt200.2.1 ≤ ((rd_L4 t203 bt200.1).length : Int) then ((some ((rd_L4 t203 bt200.1).take (bt200.2.1 : Int).toNat : List (S41))).bind fun y210 => (if y206.length + y210.length < 5864062014805 then ((some (y206 ++ y210 : List (S41))).bind fun y214 => (if 0 ≤ (wrap64 (bt200.2.1 + 1)) then (if (wrap64 (bt200.2.1 + 1)) ≤ ((rd_L4 t203 bt200.1).length : Int) then ((some ((rd_L4 t203 bt200.1).drop ((wrap64 (bt200.2.1 + 1)) : Int).toNat : List (S41))).bind fun y218 => (if y214.length + y218.length < 5864062014805 then (some ((t203.set (bt200.1 : Int).toNat (y214 ++ y218)), bt200.1, 0)) else (none))) else (none)) else (none))) else (none))) else (none)) else (none)) else (none)) else (none)))) else (some (([] : List (List (S41))), 0, bt200.2.2)))
theorem drydockref10_Remove.mono : ∀ a0 a1 k, LeO (drydockref10_Remove.f k a0 a1) (drydockref10_Remove.f (k + 1) a0 a1) := by
  intro a0 a1 k
  unfold drydockref10_Remove.f
  repeat' first
      | (with_reducible exact drydockref10_Copy.mono _ _)
      | (with_reducible exact drydockref10_Find.mono _ _ _)
      | (with_reducible exact LeO.refl _)
      | (with_reducible exact LeO.none _)
      | (with_reducible refine LeO.ite ?_ ?_)
      | (with_reducible refine LeO.bind ?_ (fun _ => ?_))
      | exact drydockref10_Copy.mono _ _
      | exact drydockref10_Find.mono _ _ _
      | exact LeO.none _
      | refine LeO.ite ?_ ?_
      | refine LeO.bind ?_ (fun _ => ?_)
set_option maxHeartbeats 8000000 in
set_option maxRecDepth 100000 in
theorem drydockref10_Remove.calls (k : Nat) (A0 : Option Addr) (c0 : Nat) (l0 : List (List (S41))) (a1 : ByteArray) (r1 : List (List (S41))) (r2 : Int) (r3 : Int) (w : World) (hr0 : Kd.C (Kd.slice 41 k41) w A0 l0.length l0) (hc0 : l0.length ≤ c0) (h : drydockref10_Remove.f k l0 a1 = some (r1, r2, r3)) :
    Calls Try.prog 25 #[.slice A0 l0.length c0, .string a1] w fun e w' => ∃ v0_ : Value, e = .returned (.tuple #[v0_, .int .i64 r2, .int .i64 r3]) ∧ Kd.S (Kd.slice 41 k41) 22 w' w.heap.size (fun _ => True) v0_ r1 ∧ Below w.heap.size w w' := by
  have HR0 := Aside0.mk hr0
  have HC0 := Aside0.mk hc0
  clear hr0 hc0
  have HB := Aside0.mk (Below.refl w.heap.size w)
  have H : ((drydockref10_Find.f k l0 a1).bind fun bt200 => (if bt200.2.2 = 0 then ((drydockref10_Copy.f k l0).bind fun t203 => ((some (([] : List (S41)) : List (S41))).bind fun y206 => (if 0 ≤ bt200.1 then (if bt200.1 < (t203.length : Int) then (if 0 ≤ bt200.2.1 then (if bt200.2.1 ≤ ((rd_L4 t203 bt200.1).length : Int) then ((some ((rd_L4 t203 bt200.1).take (bt200.2.1 : Int).toNat : List (S41))).bind fun y210 => (if y206.length + y210.length < 5864062014805 then ((some (y206 ++ y210 : List (S41))).bind fun y214 => (if 0 ≤ (wrap64 (bt200.2.1 + 1)) then (if (wrap64 (bt200.2.1 + 1)) ≤ ((rd_L4 t203 bt200.1).length : Int) then ((some ((rd_L4 t203 bt200.1).drop ((wrap64 (bt200.2.1 + 1)) : Int).toNat : List (S41))).bind fun y218 => (if y214.length + y218.length < 5864062014805 then (some ((t203.set (bt200.1 : Int).toNat (y214 ++ y218)), bt200.1, 0)) else (none))) else (none)) else (none))) else (none))) else (none)) else (none)) else (none)) else (none)))) else (some (([] : List (List (S41))), 0, bt200.2.2)))) = some (r1, r2, r3) := h
  clear h
  replace H := Option.bind_eq_some_iff.mp H
  obtain ⟨⟨t200, t201, t202⟩, A30, H⟩ := H
  replace H : (if t202 = 0 then ((drydockref10_Copy.f k l0).bind fun t203 => ((some (([] : List (S41)) : List (S41))).bind fun y206 => (if 0 ≤ t200 then (if t200 < (t203.length : Int) then (if 0 ≤ t201 then (if t201 ≤ ((rd_L4 t203 t200).length : Int) then ((some ((rd_L4 t203 t200).take (t201 : Int).toNat : List (S41))).bind fun y210 => (if y206.length + y210.length < 5864062014805 then ((some (y206 ++ y210 : List (S41))).bind fun y214 => (if 0 ≤ (wrap64 (t201 + 1)) then (if (wrap64 (t201 + 1)) ≤ ((rd_L4 t203 t200).length : Int) then ((some ((rd_L4 t203 t200).drop ((wrap64 (t201 + 1)) : Int).toNat : List (S41))).bind fun y218 => (if y214.length + y218.length < 5864062014805 then (some ((t203.set (t200 : Int).toNat (y214 ++ y218)), t200, 0)) else (none))) else (none)) else (none))) else (none))) else (none)) else (none)) else (none)) else (none)))) else (some (([] : List (List (S41))), 0, t202))) = some (r1, r2, r3) := H
  have A3 := Aside0.mk A30
  clear A30
  by_cases c4 : t202 = 0
  · rw [if_pos c4] at H
    have c4b0 : (t202 == 0) = true := beq_iff_eq.mpr c4
    have c4b1 : (t202 != 0) = false := bne_eq_false_iff_eq.mpr c4
    clear c4
    replace H := Option.bind_eq_some_iff.mp H
    obtain ⟨t203, A50, H⟩ := H
    replace H : ((some (([] : List (S41)) : List (S41))).bind fun y206 => (if 0 ≤ t200 then (if t200 < (t203.length : Int) then (if 0 ≤ t201 then (if t201 ≤ ((rd_L4 t203 t200).length : Int) then ((some ((rd_L4 t203 t200).take (t201 : Int).toNat : List (S41))).bind fun y210 => (if y206.length + y210.length < 5864062014805 then ((some (y206 ++ y210 : List (S41))).bind fun y214 => (if 0 ≤ (wrap64 (t201 + 1)) then (if (wrap64 (t201 + 1)) ≤ ((rd_L4 t203 t200).length : Int) then ((some ((rd_L4 t203 t200).drop ((wrap64 (t201 + 1)) : Int).toNat : List (S41))).bind fun y218 => (if y214.length + y218.length < 5864062014805 then (some ((t203.set (t200 : Int).toNat (y214 ++ y218)), t200, 0)) else (none))) else (none)) else (none))) else (none))) else (none)) else (none)) else (none)) else (none))) = some (r1, r2, r3) := H
    have A5 := Aside0.mk A50
    clear A50
    obtain ⟨y206, hy206⟩ : ∃ y_ : List (S41), y_ = (([] : List (S41))) := ⟨_, rfl⟩
    replace H : (if 0 ≤ t200 then (if t200 < (t203.length : Int) then (if 0 ≤ t201 then (if t201 ≤ ((rd_L4 t203 t200).length : Int) then ((some ((rd_L4 t203 t200).take (t201 : Int).toNat : List (S41))).bind fun y210 => (if y206.length + y210.length < 5864062014805 then ((some (y206 ++ y210 : List (S41))).bind fun y214 => (if 0 ≤ (wrap64 (t201 + 1)) then (if (wrap64 (t201 + 1)) ≤ ((rd_L4 t203 t200).length : Int) then ((some ((rd_L4 t203 t200).drop ((wrap64 (t201 + 1)) : Int).toNat : List (S41))).bind fun y218 => (if y214.length + y218.length < 5864062014805 then (some ((t203.set (t200 : Int).toNat (y214 ++ y218)), t200, 0)) else (none))) else (none)) else (none))) else (none))) else (none)) else (none)) else (none)) else (none)) = some (r1, r2, r3) := by first | (rw [hy206]; with_reducible exact H) | (have H2_ := (Option.bind_some _ _).symm.trans H; rw [hy206]; with_reducible exact H2_) | (have H2_ := (Option.bind_some _ _).symm.trans H; with_reducible exact H2_) | with_reducible exact H | (rw [hy206]; exact H) | exact H
    have Ny206 := Aside0.mk hy206
    clear hy206
    by_cases c6 : 0 ≤ t200
    · rw [if_pos c6] at H
      have c6b0 : decide (0 ≤ t200) = true := decide_eq_true c6
      clear c6
      by_cases c7 : t200 < (t203.length : Int)
      · rw [if_pos c7] at H
        have c7b0 : decide (t200 < (t203.length : Int)) = true := decide_eq_true c7
        clear c7
        by_cases c8 : 0 ≤ t201
        · rw [if_pos c8] at H
          have c8b0 := eq_true c8
          have c8b1 : decide (0 ≤ t201) = true := decide_eq_true c8
          clear c8
          by_cases c9 : t201 ≤ ((rd_L4 t203 t200).length : Int)
          · rw [if_pos c9] at H
            have c9b0 := eq_true c9
            have c9b1 : decide (t201 ≤ ((rd_L4 t203 t200).length : Int)) = true := decide_eq_true c9
            clear c9
            obtain ⟨y210, hy210⟩ : ∃ y_ : List (S41), y_ = ((rd_L4 t203 t200).take (t201 : Int).toNat) := ⟨_, rfl⟩
            replace H : (if y206.length + y210.length < 5864062014805 then ((some (y206 ++ y210 : List (S41))).bind fun y214 => (if 0 ≤ (wrap64 (t201 + 1)) then (if (wrap64 (t201 + 1)) ≤ ((rd_L4 t203 t200).length : Int) then ((some ((rd_L4 t203 t200).drop ((wrap64 (t201 + 1)) : Int).toNat : List (S41))).bind fun y218 => (if y214.length + y218.length < 5864062014805 then (some ((t203.set (t200 : Int).toNat (y214 ++ y218)), t200, 0)) else (none))) else (none)) else (none))) else (none)) = some (r1, r2, r3) := by first | (rw [hy210]; with_reducible exact H) | (have H2_ := (Option.bind_some _ _).symm.trans H; rw [hy210]; with_reducible exact H2_) | (have H2_ := (Option.bind_some _ _).symm.trans H; with_reducible exact H2_) | with_reducible exact H | (rw [hy210]; exact H) | exact H
            have Ny210 := Aside0.mk hy210
            clear hy210
            by_cases c10 : y206.length + y210.length < 5864062014805
            · rw [if_pos c10] at H
              have LMc10 := Aside0.mk c10
              clear c10
              obtain ⟨y214, hy214⟩ : ∃ y_ : List (S41), y_ = (y206 ++ y210) := ⟨_, rfl⟩
              replace H : (if 0 ≤ (wrap64 (t201 + 1)) then (if (wrap64 (t201 + 1)) ≤ ((rd_L4 t203 t200).length : Int) then ((some ((rd_L4 t203 t200).drop ((wrap64 (t201 + 1)) : Int).toNat : List (S41))).bind fun y218 => (if y214.length + y218.length < 5864062014805 then (some ((t203.set (t200 : Int).toNat (y214 ++ y218)), t200, 0)) else (none))) else (none)) else (none)) = some (r1, r2, r3) := by first | (rw [hy214]; with_reducible exact H) | (have H2_ := (Option.bind_some _ _).symm.trans H; rw [hy214]; with_reducible exact H2_) | (have H2_ := (Option.bind_some _ _).symm.trans H; with_reducible exact H2_) | with_reducible exact H | (rw [hy214]; exact H) | exact H
              have Ny214 := Aside0.mk hy214
              clear hy214
              obtain ⟨ji11, hji11⟩ : ∃ j_ : Int, (wrap64 (t201 + 1)) = j_ := ⟨_, rfl⟩
              replace H : (if 0 ≤ (ji11) then (if (ji11) ≤ ((rd_L4 t203 t200).length : Int) then ((some ((rd_L4 t203 t200).drop ((ji11) : Int).toNat : List (S41))).bind fun y218 => (if y214.length + y218.length < 5864062014805 then (some ((t203.set (t200 : Int).toNat (y214 ++ y218)), t200, 0)) else (none))) else (none)) else (none)) = some (r1, r2, r3) := by first | (rw [hji11] at H; exact H) | (simp only [hji11] at H ⊢; exact H)
              (try rw [hji11] at A3)
              (try rw [hji11] at A5)
              have hji11w : (IntKind.i64.wrap (t201 + 1)) = ji11 := (i64_w _).trans hji11
              by_cases c12 : 0 ≤ (ji11)
              · rw [if_pos c12] at H
                have c12b0 := eq_true c12
                have c12b1 : decide (0 ≤ (ji11)) = true := decide_eq_true c12
                clear c12
                by_cases c13 : (ji11) ≤ ((rd_L4 t203 t200).length : Int)
                · rw [if_pos c13] at H
                  have c13b0 := eq_true c13
                  have c13b1 : decide ((ji11) ≤ ((rd_L4 t203 t200).length : Int)) = true := decide_eq_true c13
                  clear c13
                  obtain ⟨y218, hy218⟩ : ∃ y_ : List (S41), y_ = ((rd_L4 t203 t200).drop ((ji11) : Int).toNat) := ⟨_, rfl⟩
                  replace H : (if y214.length + y218.length < 5864062014805 then (some ((t203.set (t200 : Int).toNat (y214 ++ y218)), t200, 0)) else (none)) = some (r1, r2, r3) := by first | (rw [hy218]; with_reducible exact H) | (have H2_ := (Option.bind_some _ _).symm.trans H; rw [hy218]; with_reducible exact H2_) | (have H2_ := (Option.bind_some _ _).symm.trans H; with_reducible exact H2_) | with_reducible exact H | (rw [hy218]; exact H) | exact H
                  have Ny218 := Aside0.mk hy218
                  clear hy218
                  by_cases c14 : y214.length + y218.length < 5864062014805
                  · rw [if_pos c14] at H
                    have LMc14 := Aside0.mk c14
                    clear c14
                    obtain ⟨y222, hy222⟩ : ∃ y_ : List (S41), y_ = (y214 ++ y218) := ⟨_, rfl⟩
                    replace H : (some ((t203.set (t200 : Int).toNat y222), t200, 0)) = some (r1, r2, r3) := by first | (rw [hy222]; with_reducible exact H) | (have H2_ := (Option.bind_some _ _).symm.trans H; rw [hy222]; with_reducible exact H2_) | (have H2_ := (Option.bind_some _ _).symm.trans H; with_reducible exact H2_) | with_reducible exact H | (rw [hy222]; exact H) | exact H
                    have Ny222 := Aside0.mk hy222
                    clear hy222
                    obtain ⟨y225, hy225⟩ : ∃ y_ : List (List (S41)), y_ = (t203.set (t200 : Int).toNat y222) := ⟨_, rfl⟩
                    replace H : (some (y225, t200, 0)) = some (r1, r2, r3) := by first | (rw [hy225]; with_reducible exact H) | (have H2_ := (Option.bind_some _ _).symm.trans H; rw [hy225]; with_reducible exact H2_) | (have H2_ := (Option.bind_some _ _).symm.trans H; with_reducible exact H2_) | with_reducible exact H | (rw [hy225]; exact H) | exact H
                    have Ny225 := Aside0.mk hy225
                    clear hy225
                    simp only [Option.some.injEq, Prod.mk.injEq] at H
                    obtain ⟨rfl, rfl, rfl⟩ := H
                    go_enter Try.func25, Try.ntmps25
                    go_wp2_with (first | ((with_reducible refine gate_callee (f := 21) rfl ?_); refine goesL_ (some 15) rfl rfl Try.func21 (by kernel_rfl) rfl #[.slice A0 l0.length c0, .string a1] rfl (by (try simp only [List.map_toArray, List.map_cons, List.map_nil]); first | done | rfl | (simp only [List.length_drop, List.length_take]; rfl)) ?_; (with_reducible refine (drydockref10_Find.calls k _ _ l0 a1 t200 t201 t202 _ ?side1 ?side2 A3.out).mono ?_); (case side1 => repeat (first | exact HR0.out | (with_reducible refine Kd.C_alloc ?_ _) | (with_reducible refine Kd.C_drewN ?_ _) | (with_reducible refine Kd.C_drew ?_))); (case side2 => exact HC0.out); rintro e w16 ⟨rfl, hb⟩; refine ⟨_, rfl, ?_⟩; have n0_ := Aside0.mk (below_step (by repeat (first | (with_reducible first | exact HB.out | apply zB | apply zP | apply zE) | exact HB.out)) hb); clear HB; have HB := n0_; clear n0_; (try clear hb); (try clear hb2); (try clear hk); (try clear hi)) | ((with_reducible refine gate_callee (f := 42) rfl ?_); refine goesL_ (some 23) rfl rfl Try.func42 (by kernel_rfl) rfl #[.slice A0 l0.length c0] rfl (by (try simp only [List.map_toArray, List.map_cons, List.map_nil]); first | done | rfl | (simp only [List.length_drop, List.length_take]; rfl)) ?_; (with_reducible refine (drydockref10_Copy.calls k _ _ l0 t203 _ ?side1 ?side2 A5.out).mono ?_); (case side1 => repeat (first | exact (Kd.C_below HR0.out HB.out) | (with_reducible refine Kd.C_alloc ?_ _) | (with_reducible refine Kd.C_drewN ?_ _) | (with_reducible refine Kd.C_drew ?_))); (case side2 => exact HC0.out); rintro e w17 ⟨v204, rfl, ho0, hb⟩; refine ⟨_, rfl, ?_⟩; have n0_ := Aside0.mk (Kd.S_lower ho0 (below_size (by repeat (first | (with_reducible first | exact HB.out | apply zB | apply zP | apply zE) | exact HB.out)))); have n1_ := Aside0.mk (below_step (by repeat (first | (with_reducible first | exact HB.out | apply zB | apply zP | apply zE) | exact HB.out)) hb); clear HB; have HO205 := n0_; have HB := n1_; clear n0_ n1_; (try clear hb); (try clear hb2); (try clear hk); (try clear hi); (try clear ho0)) | ((with_reducible refine gate_dst (N := 24) rfl ?_); refine Kd.R_lit k41 _ 41 ?hg (N := 24) ?hd (xs := ([] : List (S41))) (inner := []) (ok := fun _ => True) (okp := fun _ => True) ?hr ?hp (fun _ hk => hk) trivial (Below.refl _ _) (Nat.le_refl _) (by simp) ?_; (case hd => rfl); (case hg => rfl); (case hr => first | (go_simp; done) | (go_simp; rfl)); (case hp => exact (Reps.none _ _)); intro v207 w18 ho19 hb hg_ hnew_; clear hg_ hnew_; (first | rw [← Ny206.out] at ho19 | (simp only [Int.reduceToNat] at ho19; rw [← Ny206.out] at ho19)); have n0_ := Aside0.mk (Kd.S_elder' (by (with_reducible repeat (first | apply Kd.S_alloc | apply Kd.S_drewN | apply Kd.S_drew)); exact HO205.out) (Kd.R_base ho19) hb); have n1_ := Aside0.mk (Kd.R_lower ho19 (below_size (by repeat (first | (with_reducible first | exact HB.out | apply zB | apply zP | apply zE) | exact HB.out)))); have n2_ := Aside0.mk (below_step (by repeat (first | (with_reducible first | exact HB.out | apply zB | apply zP | apply zE) | exact HB.out)) hb); clear HO205; clear HB; have HO205 := n0_; have HO208 := n1_; have HB := n2_; clear n0_ n1_ n2_; clear hb ho19; obtain ⟨Ao20, co20, eo20⟩ := Kd.S_slice HO205.out; subst eo20; have p209 : 0 ≤ (t200 : Int) := of_decide_eq_true (by first | (with_reducible assumption) | assumption); have q209 : t200 < (t203.length : Int) := of_decide_eq_true (by first | (with_reducible assumption) | assumption); obtain ⟨ad209, A209_0, c209_0, e209, hx209_0, hl209_0, hi209_0⟩ := at_L4 (Kd.S_reads' HO205.out).2.2 t200 p209 q209; cases e209; obtain ⟨ce209, hce209, hMe209, hcc209⟩ := Kd.S_get HO205.out [] t200 p209 (by first | exact q209 | exact of_decide_eq_true (by first | (with_reducible assumption) | assumption) | (have e_ := (Kd.S_reads' HO205.out).1; omega)); obtain ⟨ve209_0, rfl, ge209_0⟩ := hMe209; have hv209_0 := hcc209 0 _ rfl; rw [Nat.add_zero, show ((Kd.slice 41 k41)).sz = 1 from rfl, Nat.mul_one] at hv209_0; replace hv209_0 := Option.some.inj (hv209_0.symm.trans hx209_0); rw [hv209_0] at ge209_0; have HL209_0 := Aside0.mk (show Kd.R k41 41 _ _ _ _ (rd_L4 t203 t200) from ge209_0); clear hv209_0 ge209_0; clear hcc209 hce209; have HR209_0 := Aside0.mk hi209_0; have HC209_0 := Aside0.mk hl209_0; clear hi209_0 hl209_0; replace p209 := eq_true p209; replace q209 := eq_true q209; have q21 : (t201 : Int) ≤ (((rd_L4 t203 t200).length : Int) : Int) := of_decide_eq_true (by first | (with_reducible assumption) | assumption); obtain ⟨i021, hi021, _, hsz21, _⟩ := info_parts info41; have hroom21 : (rd_L4 t203 t200).length ≤ c209_0 := HC209_0.out; have hC21 : Kd.C k41 _ A209_0 (rd_L4 t203 t200).length (rd_L4 t203 t200) := (by repeat (first | (with_reducible exact HR209_0.out) | (with_reducible refine Kd.C_alloc ?_ _) | (with_reducible refine Kd.C_drewN ?_ _) | (with_reducible refine Kd.C_drew ?_) | exact HR209_0.out)); have hcut21 := cut_to (P := Try.prog) 22 41 .i64 Try.underlying22 hi021 A209_0 (rd_L4 t203 t200).length c209_0 t201 (of_decide_eq_true (by first | (with_reducible assumption) | assumption)) q21 hroom21; have hr21 := Kd.C_take (m := (t201 : Int).toNat) hC21 (by omega); have hy21 : y210.length = (t201 : Int).toNat := (by rw [Ny210.out, List.length_take]; omega); rw [← Ny210.out] at hr21; rw [← hy21] at hcut21; have HR213 := Aside0.mk hr21; have HC213 := Aside0.mk (show y210.length ≤ c209_0 from by omega); clear hr21 hC21 hroom21 hi021 hsz21; have KY21 := Aside0.mk hy21; clear hy21; replace q21 := eq_true q21) | ((with_reducible refine gate_builtin (b := .append) (xs := #[.tmp 24, .tmp 30]) rfl ?_); at_builtin; refine Kd.R_append_rows k41 (w0 := w) w.heap.size rfl (.tmp 24) (.tmp 30) 22 41 (.agg #[(.int .i64 0), (.string ⟨#[]⟩)]) 24 rfl Try.underlying22 info41 rfl (by decide) (by omega) v207 y206 y210 _ _ _ (fun _ => True) (fun _ => False) rfl rfl ?aO ?aR (fun _ _ h => h) (fun _ h => h.elim) ?aF ?aB ?aS ?aL ?_; (case aR => repeat (first | exact (by repeat (first | (with_reducible exact HR213.out) | (with_reducible refine Kd.C_alloc ?_ _) | (with_reducible refine Kd.C_drewN ?_ _) | (with_reducible refine Kd.C_drew ?_) | exact HR213.out)) | (with_reducible refine Kd.C_alloc ?_ _) | (with_reducible refine Kd.C_drewN ?_ _) | (with_reducible refine Kd.C_drew ?_))); (case aB => exact (by repeat (first | (with_reducible first | exact HB.out | apply zB | apply zP | apply zE) | exact HB.out))); (case aF => exact (fun _ _ => trivial)); (case aO => exact (by (with_reducible repeat (first | apply Kd.R_alloc | apply Kd.R_drewN | apply Kd.R_drew)); exact HO208.out)); (case aS => exact (below_size (by repeat (first | (with_reducible first | exact HB.out | apply zB | apply zP | apply zE) | exact HB.out)))); (case aL => have hL_ := LMc10.out; first | omega | exact Nat.le_of_lt hL_); intro v215 w22 ho hb hg hat; rw [← Ny214.out] at ho; have n0_ := Aside0.mk (Kd.S_after (ok := (fun _ => True)) (by (with_reducible repeat (first | apply Kd.S_alloc | apply Kd.S_drewN | apply Kd.S_drew)); exact HO205.out) hg hat); have n1_ := Aside0.mk (Kd.R_after (ok := (fun k_ => some k_ ≠ (.slice (some ad209) t203.length co20 : Value).ownBlock)) (by (with_reducible repeat (first | apply Kd.R_alloc | apply Kd.R_drewN | apply Kd.R_drew)); exact Kd.R_mono HL209_0.out (fun _ hk => ⟨hk.2, hk.1.2⟩)) hg hat); have n2_ := Aside0.mk (hb); have n3_ := Aside0.mk (ho); clear HO205; clear HL209_0; clear HB; clear HO208; have HO205 := n0_; have HL209_0 := n1_; have HB := n2_; have HO216 := n3_; clear n0_ n1_ n2_ n3_; clear ho hb hg hat; have p217 : 0 ≤ (t200 : Int) := of_decide_eq_true (by first | (with_reducible assumption) | assumption); have q217 : t200 < (t203.length : Int) := of_decide_eq_true (by first | (with_reducible assumption) | assumption); obtain ⟨ad217, A217_0, c217_0, e217, hx217_0, hl217_0, hi217_0⟩ := at_L4 (Kd.S_reads' HO205.out).2.2 t200 p217 q217; obtain rfl : ad209 = ad217 := (by injection e217); obtain ⟨ce217, hce217, hMe217, hcc217⟩ := Kd.S_get HO205.out [] t200 p217 (by first | exact q217 | exact of_decide_eq_true (by first | (with_reducible assumption) | assumption) | (have e_ := (Kd.S_reads' HO205.out).1; omega)); obtain ⟨ve217_0, rfl, ge217_0⟩ := hMe217; have hv217_0 := hcc217 0 _ rfl; rw [Nat.add_zero, show ((Kd.slice 41 k41)).sz = 1 from rfl, Nat.mul_one] at hv217_0; replace hv217_0 := Option.some.inj (hv217_0.symm.trans hx217_0); rw [hv217_0] at ge217_0; have HL217_0 := Aside0.mk (show Kd.R k41 41 _ _ _ _ (rd_L4 t203 t200) from ge217_0); clear hv217_0 ge217_0; clear hcc217 hce217; have HR217_0 := Aside0.mk hi217_0; have HC217_0 := Aside0.mk hl217_0; clear hi217_0 hl217_0; replace p217 := eq_true p217; replace q217 := eq_true q217; have q23 : ((ji11) : Int) ≤ (((rd_L4 t203 t200).length : Int) : Int) := of_decide_eq_true (by first | (with_reducible assumption) | assumption); obtain ⟨i023, hi023, _, hsz23, _⟩ := info_parts info41; have hroom23 : (rd_L4 t203 t200).length ≤ c217_0 := HC217_0.out; have hC23 : Kd.C k41 _ A217_0 (rd_L4 t203 t200).length (rd_L4 t203 t200) := (by repeat (first | (with_reducible exact HR217_0.out) | (with_reducible refine Kd.C_alloc ?_ _) | (with_reducible refine Kd.C_drewN ?_ _) | (with_reducible refine Kd.C_drew ?_) | exact HR217_0.out)); have q023 : (0 : Int) ≤ ((ji11) : Int) := of_decide_eq_true (by first | (with_reducible assumption) | assumption); have hcut23 := cut_from (P := Try.prog) 22 41 .i64 Try.underlying22 hi023 2 hsz23 A217_0 (rd_L4 t203 t200).length c217_0 (ji11) q023 q23; have hr23 := Kd.C_drop (m := ((ji11) : Int).toNat) (c := c217_0) hC23 (by omega) hroom23; obtain ⟨A23, hA23⟩ : ∃ A1, A1 = (if c217_0 = ((ji11) : Int).toNat then A217_0 else (A217_0 : Option Addr).map (·.add (((ji11) : Int).toNat * 2))) := ⟨_, rfl⟩; obtain ⟨c23, hc23⟩ : ∃ c1, c1 = c217_0 - ((ji11) : Int).toNat := ⟨_, rfl⟩; have hy23 : y218.length = (rd_L4 t203 t200).length - ((ji11) : Int).toNat := (by rw [Ny218.out, List.length_drop] <;> omega); rw [show (rd_L4 t203 t200).drop ((ji11) : Int).toNat = y218 from Ny218.out.symm] at hr23; replace hr23 : Kd.C k41 _ A23 y218.length y218 := (by rw [hA23]; exact hr23); rw [← hy23, ← hA23, ← hc23] at hcut23; have HR221 := Aside0.mk hr23; have HC221 := Aside0.mk (show y218.length ≤ c23 from by rw [hy23, hc23]; exact Nat.sub_le_sub_right hroom23 _); clear hr23 hC23 hroom23 hi023 hsz23 hc23; have KY23 := Aside0.mk hy23; have KA23 := Aside0.mk hA23; clear hy23 hA23; replace q23 := eq_true q23) | ((with_reducible refine gate_builtin (b := .append) (xs := #[.tmp 34, .tmp 41]) rfl ?_); at_builtin; refine Kd.R_append_rows k41 (w0 := w) w.heap.size rfl (.tmp 34) (.tmp 41) 22 41 (.agg #[(.int .i64 0), (.string ⟨#[]⟩)]) 24 rfl Try.underlying22 info41 rfl (by decide) (by omega) v215 y214 y218 _ _ _ (fun _ => True) (fun _ => False) rfl rfl ?aO ?aR (fun _ _ h => h) (fun _ h => h.elim) ?aF ?aB ?aS ?aL ?_; (case aR => repeat (first | exact (by repeat (first | (with_reducible exact HR221.out) | (with_reducible refine Kd.C_alloc ?_ _) | (with_reducible refine Kd.C_drewN ?_ _) | (with_reducible refine Kd.C_drew ?_) | exact HR221.out)) | (with_reducible refine Kd.C_alloc ?_ _) | (with_reducible refine Kd.C_drewN ?_ _) | (with_reducible refine Kd.C_drew ?_))); (case aB => exact (by repeat (first | (with_reducible first | exact HB.out | apply zB | apply zP | apply zE) | exact HB.out))); (case aF => exact (fun _ _ => trivial)); (case aO => exact (by (with_reducible repeat (first | apply Kd.R_alloc | apply Kd.R_drewN | apply Kd.R_drew)); exact HO216.out)); (case aS => exact (below_size (by repeat (first | (with_reducible first | exact HB.out | apply zB | apply zP | apply zE) | exact HB.out)))); (case aL => have hL_ := LMc14.out; first | omega | exact Nat.le_of_lt hL_); intro v223 w24 ho hb hg hat; rw [← Ny222.out] at ho; have n0_ := Aside0.mk (Kd.S_after (ok := (fun _ => True)) (by (with_reducible repeat (first | apply Kd.S_alloc | apply Kd.S_drewN | apply Kd.S_drew)); exact HO205.out) hg hat); have n1_ := Aside0.mk (Kd.R_after (ok := (fun k_ => some k_ ≠ (.slice (some ad209) t203.length co20 : Value).ownBlock)) (by (with_reducible repeat (first | apply Kd.R_alloc | apply Kd.R_drewN | apply Kd.R_drew)); exact HL209_0.out) hg hat); have n2_ := Aside0.mk (Kd.R_after (ok := (fun k_ => some k_ ≠ (.slice (some ad209) t203.length co20 : Value).ownBlock)) (by (with_reducible repeat (first | apply Kd.R_alloc | apply Kd.R_drewN | apply Kd.R_drew)); exact Kd.R_mono HL217_0.out (fun _ hk => ⟨hk.2, hk.1.2⟩)) hg hat); have n3_ := Aside0.mk (hb); have n4_ := Aside0.mk (ho); clear HO205; clear HL209_0; clear HL217_0; clear HB; clear HO216; have HO205 := n0_; have HL209_0 := n1_; have HL217_0 := n2_; have HB := n3_; have HO224 := n4_; clear n0_ n1_ n2_ n3_ n4_; clear ho hb hg hat; have p15 : 0 ≤ (t200 : Int) := of_decide_eq_true (by first | (with_reducible assumption) | assumption); have q15 : (t200 : Int) < ((t203.length : Int) : Int) := of_decide_eq_true (by first | (with_reducible assumption) | assumption); obtain ⟨go15, co15, eo15, gb15, gl15, cl15, HG15⟩ := Kd.S_form HO205.out (by omega); (first | cases eo15 | (injection eo15 with ea_ en_ ec_; (first | subst ea_ | (injection ea_ with ea_; subst ea_)); subst ec_; clear en_)); have GB15 := Aside0.mk gb15; have GG15 := Aside0.mk HG15; clear gb15 gl15 HG15; (first | simp only [add_plain] at hx209_0 | skip); (first | simp only [add_plain] at hx217_0 | skip); obtain ⟨_, ce15, hcl15, hM15, hcc15, hfr15, _, _⟩ := Kd.S_elem HO205.out [] (t200 : Int) p15 q15; obtain ⟨ve15_0, rfl, ge15_0⟩ := hM15; have hx15_0 := hcc15 0 _ rfl; have hf15_0 := hfr15 0; (try simp only [show ((Kd.slice 41 k41)).sz = 1 from rfl, Nat.mul_one, Nat.add_zero] at hx15_0); (try simp only [show ((Kd.slice 41 k41)).sz = 1 from rfl, Nat.mul_one, Nat.add_zero] at hf15_0); clear hcl15 hcc15 hfr15; (try clear hM15); replace p15 := eq_true p15; replace q15 := eq_true q15; have n_ := Aside0.mk (Kd.S_mono (ok' := (fun k_ => some k_ ≠ (v223 : Value).ownBlock)) HO205.out (fun k_ hk => hk.2)); clear HO205; have HO205 := n_; clear n_; have HX25 := Aside0.mk (show Kd.S (Kd.slice 41 k41) 22 w24 w.heap.size (fun k_ => ((fun _ => True)) k_ ∧ ¬ ((fun k_ => some k_ = (v223 : Value).ownBlock)) k_) (.slice (some ⟨go15, 0, none⟩) t203.length co20) t203 from (by (with_reducible repeat (first | apply Kd.S_alloc | apply Kd.S_drewN | apply Kd.S_drew)); exact Kd.S_mono HO205.out (fun k_ hk => ⟨trivial, fun e_ => hk e_⟩))); obtain ⟨oki25, ce25, hcl25, hM25, hcc25, hfr25, hoki25, hH25⟩ := Kd.S_elem HX25.out [] (t200 : Int) (of_decide_eq_true (by first | (with_reducible assumption) | assumption)) (by have h_ : (t200 : Int) < ((t203.length : Int) : Int) := of_decide_eq_true (by first | (with_reducible assumption) | assumption); first | exact h_ | (have e_ := (Kd.S_reads' HO205.out).1; omega) | simpa using h_); obtain ⟨ve25_0, rfl, ge25_0⟩ := hM25; have HP25 := Kd.S_seg hH25 (of_decide_eq_true (by first | (with_reducible assumption) | assumption)) (by have h_ : (t200 : Int) < ((t203.length : Int) : Int) := of_decide_eq_true (by first | (with_reducible assumption) | assumption); first | exact h_ | (have e_ := (Kd.S_reads' HO205.out).1; omega) | simpa using h_) (seg := [v223]) (j := 0) (show 1 ≤ 1 from by decide) (x' := y222) (Kd.M_row (Kd.R_mono (Kd.R_tight rfl (Kd.R_mono (ok' := fun k_ => ((fun _ => True)) k_ ∧ k_ ≠ go15) (Kd.R_apart' (HO224.out) (Kd.S_typed HO205.out) (by decide)) (fun k_ hk => ⟨trivial, fun e_ => (hk.2) (by rw [e_]; rfl)⟩))) (fun _ h_ => Or.inr (h_)))) (fun _ hk => hk) (fun k_ hk_ => ((Kd.R_mono (ok' := fun k_ => ((fun _ => True)) k_ ∧ k_ ≠ go15) (Kd.R_apart' (HO224.out) (Kd.S_typed HO205.out) (by decide)) (fun k_ hk => ⟨trivial, fun e_ => (hk.2) (by rw [e_]; rfl)⟩))).1 k_ hk_.symm); have hx25_0 := hcc25 0 _ rfl; (try simp only [show ((Kd.slice 41 k41)).sz = 1 from rfl, Nat.mul_one, Nat.add_zero] at hx25_0); have hf25_0 := hfr25 0; (try simp only [show ((Kd.slice 41 k41)).sz = 1 from rfl, Nat.mul_one, Nat.add_zero] at hf25_0); clear hcl25 hcc25 hfr25 hoki25 hH25; (try clear hM25); (try simp only [show ((Kd.slice 41 k41)).sz = 1 from rfl, Nat.mul_one, Nat.add_zero] at HP25)) | ((with_reducible refine gate_store (t := 22) (p := 43) rfl ?_); refine store_event (t := 22) (p := 43) (v := ?vo_w26) (w1 := (w24.setCell ⟨go15, (t200 : Int).toNat, none⟩ (v223))) ?hg ?ho ?hn ?hr ?_; (case ho => rfl); (case hg => rfl); (case hn => rfl); (case hr => (obtain ⟨Ao_m, co_m, eo_m⟩ := Kd.R_slice HO224.out; subst eo_m; first | (go_simp; done) | (go_simp; rfl))); intro w26 hw; have hg : w24.grownBy w26 (some go15) := (by rw [hw]; exact HP25.2); have hp_ : Kd.S (Kd.slice 41 k41) 22 w26 w.heap.size (fun _ => True) (.slice (some ⟨go15, 0, none⟩) t203.length co20) y225 := (by rw [hw, Ny225.out]; exact HP25.1); clear HP25; have n0_ := Aside0.mk (hp_); have n1_ := Aside0.mk (Kd.R_after (v := (.slice (some ⟨go15, 0, none⟩) t203.length co20)) (v1 := (.slice (some ⟨go15, 0, none⟩) t203.length co20)) (ok := (fun k_ => some k_ ≠ (v223 : Value).ownBlock)) (by (with_reducible repeat (first | apply Kd.R_alloc | apply Kd.R_drewN | apply Kd.R_drew)); exact Kd.R_mono HL209_0.out (fun _ hk => ⟨hk.2, hk.1⟩)) hg (.inl rfl)); have n2_ := Aside0.mk (Kd.R_after (v := (.slice (some ⟨go15, 0, none⟩) t203.length co20)) (v1 := (.slice (some ⟨go15, 0, none⟩) t203.length co20)) (ok := (fun k_ => some k_ ≠ (v223 : Value).ownBlock)) (by (with_reducible repeat (first | apply Kd.R_alloc | apply Kd.R_drewN | apply Kd.R_drew)); exact Kd.R_mono HL217_0.out (fun _ hk => ⟨hk.2, hk.1⟩)) hg (.inl rfl)); have n3_ := Aside0.mk ((by rw [hw]; exact zS (HB.out) GB15.out : Below w.heap.size w w26)); clear HO205; clear HL209_0; clear HL217_0; clear HB; clear HO224; have HO205 := n0_; have HL209_0 := n1_; have HL217_0 := n2_; have HB := n3_; clear n0_ n1_ n2_ n3_; clear hg hw hp_))
                    go_ret3
                    exact ⟨_, by first | rfl | (simp [errW_none, errW_some] <;> rfl) | (simp only [← hji11]; first | rfl | (simp [errW_none, errW_some] <;> rfl)) | (simp [*, errW_none, errW_some] <;> rfl), by (with_reducible repeat (first | apply Kd.S_alloc | apply Kd.S_drewN | apply Kd.S_drew)); exact HO205.out, by repeat (first | (with_reducible first | exact HB.out | apply zB | apply zP | apply zE) | exact HB.out)⟩
                  · rw [if_neg c14] at H
                    exact absurd H (by simp)
                · rw [if_neg c13] at H
                  exact absurd H (by simp)
              · rw [if_neg c12] at H
                exact absurd H (by simp)
            · rw [if_neg c10] at H
              exact absurd H (by simp)
          · rw [if_neg c9] at H
            exact absurd H (by simp)
        · rw [if_neg c8] at H
          exact absurd H (by simp)
      · rw [if_neg c7] at H
        exact absurd H (by simp)
    · rw [if_neg c6] at H
      exact absurd H (by simp)
  · rw [if_neg c4] at H
    have c4b0 : (t202 == 0) = false := beq_eq_false_iff_ne.mpr c4
    have c4b1 : (t202 != 0) = true := bne_iff_ne.mpr c4
    simp only [Option.some.injEq, Prod.mk.injEq] at H
    obtain ⟨rfl, rfl, rfl⟩ := H
    go_enter Try.func25, Try.ntmps25
    go_wp2_with (first | ((with_reducible refine gate_callee (f := 21) rfl ?_); refine goesL_ (some 15) rfl rfl Try.func21 (by kernel_rfl) rfl #[.slice A0 l0.length c0, .string a1] rfl (by (try simp only [List.map_toArray, List.map_cons, List.map_nil]); first | done | rfl | (simp only [List.length_drop, List.length_take]; rfl)) ?_; (with_reducible refine (drydockref10_Find.calls k _ _ l0 a1 t200 t201 t202 _ ?side1 ?side2 A3.out).mono ?_); (case side1 => repeat (first | exact HR0.out | (with_reducible refine Kd.C_alloc ?_ _) | (with_reducible refine Kd.C_drewN ?_ _) | (with_reducible refine Kd.C_drew ?_))); (case side2 => exact HC0.out); rintro e w27 ⟨rfl, hb⟩; refine ⟨_, rfl, ?_⟩; have n0_ := Aside0.mk (below_step (by repeat (first | (with_reducible first | exact HB.out | apply zB | apply zP | apply zE) | exact HB.out)) hb); clear HB; have HB := n0_; clear n0_; (try clear hb); (try clear hb2); (try clear hk); (try clear hi)))
    go_ret3
    exact ⟨_, by first | rfl | (simp [errW_none, errW_some] <;> rfl) | (simp [*, errW_none, errW_some] <;> rfl), by first | exact Kd.S_nil _ _ _ _ _ | exact Kd.N_nil _ _ _ _ _ | exact Kd.V_nil _ _ _ _ _ | exact Kd.Q_nil _ _ _ _ _ | exact Kd.R_nil _ _ _ _ _, by repeat (first | (with_reducible first | exact HB.out | apply zB | apply zP | apply zE) | exact HB.out)⟩

end Go.Proofs.Ytnccbebjligpdaa.PAll
