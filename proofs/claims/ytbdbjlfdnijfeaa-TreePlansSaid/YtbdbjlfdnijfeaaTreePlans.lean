/- For all worlds: the law TreePlans: the plan is the reference's plan. Conditions: the lists can be read; numbers are 64 bits wide. -/
import Derived.Test.YtbdbjlfdnijfeaaTree34
import Derived.Test.YtbdbjlfdnijfeaaTreeSame
namespace Go.Proofs.Ytbdbjlfdnijfeaa.Tree
open Go Go.RowKit Go.Maps Go.Proofs.YtbdbjlfdnijfeaaW.PrintWords Go.Proofs.YtbdbjlfdnijfeaaW.PrintLast Go.Proofs.YtbdbjlfdnijfeaaW.PrintMore
set_option linter.unusedVariables false
set_option linter.unusedSimpArgs false
set_option maxRecDepth 100000
theorem rplan_calls (A0 : Option Addr) (c0 n : Nat) (l0 : List Int) (hn : l0.length = n) (A1 : Option Addr) (c1 n1 : Nat) (l1 : List Int) (hn1 : l1.length = n1) (w : World) (hr0 : I.C w A0 n l0) (hc0 : n ≤ c0) (hr1 : I.C w A1 n1 l1) (hc1 : n1 ≤ c1) :
    Calls Try.prog 12 #[.slice A0 n c0, .slice A1 n1 c1] w fun e w' => ∃ v, e = .returned (.tuple #[.agg (planF l0 l1).1.c, v, .int .i64 (planF l0 l1).2.2]) ∧ kW.R 59 w' w.heap.size (fun _ => True) v (planF l0 l1).2.1 ∧ Below w.heap.size w w' := by
  by_cases he : errOf l0 l1 = 0
  · rw [show planF l0 l1 = (ndOf l0 l1, wsOf l0 l1, 0) from if_pos he]
    exact rplan_start A0 c0 n l0 hn A1 c1 n1 l1 hn1 w hr0 hc0 hr1 hc1 (ok_of he)
  · rw [show planF l0 l1 = (zNd, [], errOf l0 l1) from if_neg he]
    refine (rplan_bad A0 c0 n l0 hn A1 c1 n1 l1 hn1 w hr0 hc0 hr1 hc1 he).mono fun e w' h => ?_
    exact ⟨_, h.1, Kd.R_nil _ _ _ _ _, h.2⟩
theorem wide_ofP {l : List Int} (h : ∀ x ∈ l, (Lit.int .i64 x).wf = true) : wide l = true := List.all_eq_true.2 h
theorem ndC_oneP (f d0 d1 d2 d3 sg g : Int) : ∀ u ∈ (ndC f d0 d1 d2 d3 sg g).toList, u.oneCell' = true := ndc_one ⟨f, [d0, d1, d2, d3], sg, g⟩
set_option maxHeartbeats 2000000 in
theorem plans_row (A0 : Option Addr) (c0 : Nat) (l0 : List Int) (A1 : Option Addr) (c1 : Nat) (l1 : List Int) (w : World) (hr0 : I.C w A0 l0.length l0) (hc0 : l0.length ≤ c0) (hr1 : I.C w A1 l1.length l1) (hc1 : l1.length ≤ c1) (hw0 : ∀ x ∈ l0, (Lit.int .i64 x).wf = true) (hw1 : ∀ x ∈ l1, (Lit.int .i64 x).wf = true) :
    Calls Try.prog 4 #[.slice A0 l0.length c0, .slice A1 l1.length c1] w fun e w' => e = .returned (.bool true) ∧ Below w.heap.size w w' := by
  obtain ⟨n, hn⟩ : ∃ n, l0.length = n := ⟨_, rfl⟩
  obtain ⟨n1, hn1⟩ : ∃ n, l1.length = n := ⟨_, rfl⟩
  rw [hn] at hr0 hc0
  rw [hn1] at hr1 hc1
  rw [hn, hn1]
  obtain ⟨f, d0, d1, d2, d3, sg, g, hnd⟩ : ∃ f d0 d1 d2 d3 sg g : Int, (planF l0 l1).1.c = ndC f d0 d1 d2 d3 sg g := ⟨_, _, _, _, _, _, _, rfl⟩
  obtain ⟨E, hE⟩ : ∃ q, (planF l0 l1).2.2 = q := ⟨_, rfl⟩
  obtain ⟨wsP, hws⟩ : ∃ q, (planF l0 l1).2.1 = q := ⟨_, rfl⟩
  obtain ⟨wn, hwn⟩ : ∃ q, wsP.length = q := ⟨_, rfl⟩
  have HWN := Aside0.mk hwn
  have HPL : Aside0 (∀ W, Below w.heap.size w W → Calls Try.prog 11 #[.slice A0 n c0, .slice A1 n1 c1] W fun e w' => ∃ v, e = .returned (.tuple #[.agg (ndC f d0 d1 d2 d3 sg g), v, .int .i64 E]) ∧ kW.R 59 w' W.heap.size (fun _ => True) v wsP ∧ Below W.heap.size W w') := ⟨fun W hW => by
    have h := plan_calls A0 c0 n l0 hn A1 c1 n1 l1 hn1 W (Kd.C_below hr0 hW) hc0 (wide_ofP hw0) (Kd.C_below hr1 hW) hc1
    rw [hnd, hE, hws] at h
    exact h⟩
  have HRP : Aside0 (∀ W, Below w.heap.size w W → Calls Try.prog 12 #[.slice A0 n c0, .slice A1 n1 c1] W fun e w' => ∃ v, e = .returned (.tuple #[.agg (ndC f d0 d1 d2 d3 sg g), v, .int .i64 E]) ∧ kW.R 59 w' W.heap.size (fun _ => True) v wsP ∧ Below W.heap.size W w') := ⟨fun W hW => by
    have h := rplan_calls A0 c0 n l0 hn A1 c1 n1 l1 hn1 W (Kd.C_below hr0 hW) hc0 (Kd.C_below hr1 hW) hc1
    rw [hnd, hE, hws] at h
    exact h⟩
  have eEE : (E == E) = true := beq_self_eq_true _
  clear hr0 hc0 hr1 hc1 hw0 hw1 hn hn1 hnd hE hws hwn
  go_enter Try.func4, Try.ntmps4
  go_wp2_with (first | (go_at_call 11; (with_reducible refine (HPL.out _ (Below.refl _ _)).mono ?_); rintro e w4 ⟨v4, rfl, ho, hb⟩; obtain ⟨A4, c4, e4⟩ := Kd.R_slice ho; rw [HWN.out] at e4; subst e4; have HO4 := Aside0.mk ho; have HB4 := Aside0.mk hb; clear ho hb) | ((with_reducible refine gate_ (.store 32 (.tmp 5) (.tmp 15)) rfl ?_); refine Whole.store_ ?sg ?sn 32 (.tmp 5) (.tmp 15) ?so w4.heap.size 0 32 zNd.c (ndC f d0 d1 d2 d3 sg g) (ndC f d0 d1 d2 d3 sg g) ?sx ?sy (blk_new w4 _) ?sf infoND ?s1 ?sw ?_; (case sg => rfl); (case sn => rfl); (case so => rfl); (case sx => with_unfolding_all rfl); (case sy => with_unfolding_all rfl); (case sf => with_unfolding_all exact (show 12 ≤ 12 from by decide)); (case s1 => exact ndC_oneP _ _ _ _ _ _ _); (case sw => with_unfolding_all rfl); intro w5 hz hg hs; have HZ5 := Aside0.mk hz; have HB5 := Aside0.mk (below_of_new (below_alloc (Below.refl w4.heap.size w4) (.cells zNd.c 32)) hg (Nat.le_refl _)); clear hz hg hs) | (go_at_call 12; (with_reducible refine (HRP.out w5 ?cb).mono ?_); (case cb => exact HB4.out.trans (HB5.out.mono HB4.out.size)); rintro e w6 ⟨v6, rfl, ho, hb⟩; obtain ⟨A6, c6, e6⟩ := Kd.R_slice ho; rw [HWN.out] at e6; subst e6; have HO6 := Aside0.mk ho; have HB6 := Aside0.mk hb; clear ho hb) | ((with_reducible refine gate_ (.store 32 (.tmp 8) (.tmp 22)) rfl ?_); refine Whole.store_ ?sg ?sn 32 (.tmp 8) (.tmp 22) ?so w6.heap.size 0 32 zNd.c (ndC f d0 d1 d2 d3 sg g) (ndC f d0 d1 d2 d3 sg g) ?sx ?sy (blk_new w6 _) ?sf infoND ?s1 ?sw ?_; (case sg => rfl); (case sn => rfl); (case so => rfl); (case sx => with_unfolding_all rfl); (case sy => with_unfolding_all rfl); (case sf => with_unfolding_all exact (show 12 ≤ 12 from by decide)); (case s1 => exact ndC_oneP _ _ _ _ _ _ _); (case sw => with_unfolding_all rfl); intro w7 hz hg hs; have HZ7 := Aside0.mk hz; have HB7 := Aside0.mk (below_of_new (below_alloc (Below.refl w6.heap.size w6) (.cells zNd.c 32)) hg (Nat.le_refl _)); clear hz hg hs) | (go_at_call 9; (with_reducible refine (awake_calls _).mono ?_); rintro e w10 ⟨rfl, hb⟩; have HC := Aside0.mk hb; have HG2 := Aside0.mk (blk_below HZ7.out HC.out); have HC5 := Aside0.mk (HB6.out.trans ((HB7.out.trans (HC.out.mono HB7.out.size)).mono HB6.out.size)); have HG1 := Aside0.mk (blk_below HZ5.out HC5.out); have HK4 := Aside0.mk (HB5.out.trans (HC5.out.mono HB5.out.size)); have HK6 := Aside0.mk (HB7.out.trans (HC.out.mono HB7.out.size)); have HKW := Aside0.mk (HB4.out.trans (HK4.out.mono HB4.out.size)); clear hb) | ((with_reducible refine gate_ (.load 32 (.tmp 5)) rfl ?_); (try (refine gate_guard (by rfl) ?_; dsimp only)); refine Whole.load_ ?lg 32 (.tmp 5) ?lo ⟨w4.heap.size, 0, none⟩ (ndC f d0 d1 d2 d3 sg g).toList _ ?lx (Whole.cells_at HG1.out 0 _ (fun j u hj => by rw [Nat.zero_add, ← Array.getElem?_toList]; exact hj)) Try.underlying32 ?ld infoND ?_; (case lg => rfl); (case lo => rfl); (case lx => with_unfolding_all rfl); (case ld => rfl)) | ((with_reducible refine gate_ (.load 32 (.tmp 8)) rfl ?_); (try (refine gate_guard (by rfl) ?_; dsimp only)); refine Whole.load_ ?lg 32 (.tmp 8) ?lo ⟨w6.heap.size, 0, none⟩ (ndC f d0 d1 d2 d3 sg g).toList _ ?lx (Whole.cells_at HG2.out 0 _ (fun j u hj => by rw [Nat.zero_add, ← Array.getElem?_toList]; exact hj)) Try.underlying32 ?ld infoND ?_; (case lg => rfl); (case lo => rfl); (case lx => with_unfolding_all rfl); (case ld => rfl)) | (go_at_call 13; (with_reducible refine (same_calls f d0 d1 d2 d3 sg g _).mono ?_); rintro e w11 ⟨rfl, hb⟩; have HB11 := Aside0.mk hb; clear hb) | (go_at_call 14; (with_reducible refine (writes_same A4 c4 A6 c6 wn wsP HWN.out w11 ?c0 ?c1).mono ?_); (case c0 => exact (by have h := (Kd.R_reads' (Kd.R_below HO4.out (below_step HK4.out HB11.out))).2.2; rw [HWN.out] at h; exact h)); (case c1 => exact (by have h := (Kd.R_reads' (Kd.R_below HO6.out (below_step HK6.out HB11.out))).2.2; rw [HWN.out] at h; exact h)); rintro e w12 ⟨rfl, hb⟩; have HB12 := Aside0.mk hb; clear hb))
  go_ret
  exact ⟨rfl, HKW.out.trans ((HB11.out.trans (HB12.out.mono HB11.out.size)).mono HKW.out.size)⟩
end Go.Proofs.Ytbdbjlfdnijfeaa.Tree
