/- For all worlds: tree.Plan whole; the law's awake. Conditions: the lists can be read; the numbers are 64 bits wide. -/
import Derived.Test.YtbdbjlfdnijfeaaTree19
namespace Go.Proofs.Ytbdbjlfdnijfeaa.Tree
open Go Go.RowKit Go.Maps Go.Proofs.YtbdbjlfdnijfeaaW.PrintWords Go.Proofs.YtbdbjlfdnijfeaaW.PrintLast Go.Proofs.YtbdbjlfdnijfeaaW.PrintMore
set_option linter.unusedVariables false
set_option linter.unusedSimpArgs false
set_option maxRecDepth 100000
theorem plan_calls (A0 : Option Addr) (c0 n : Nat) (l0 : List Int) (hn : l0.length = n) (A1 : Option Addr) (c1 n1 : Nat) (l1 : List Int) (hn1 : l1.length = n1) (w : World) (hr0 : I.C w A0 n l0) (hc0 : n ≤ c0) (hw0 : wide l0 = true) (hr1 : I.C w A1 n1 l1) (hc1 : n1 ≤ c1) :
    Calls Try.prog 11 #[.slice A0 n c0, .slice A1 n1 c1] w fun e w' => ∃ v, e = .returned (.tuple #[.agg (planF l0 l1).1.c, v, .int .i64 (planF l0 l1).2.2]) ∧ kW.R 59 w' w.heap.size (fun _ => True) v (planF l0 l1).2.1 ∧ Below w.heap.size w w' := by
  by_cases he : errOf l0 l1 = 0
  · have e1 : planF l0 l1 = (ndOf l0 l1, wsOf l0 l1, 0) := if_pos he
    rw [e1]
    exact plan_start A0 c0 n l0 hn A1 c1 n1 l1 hn1 w hr0 hc0 hw0 hr1 hc1 (ok_of he)
  · have e1 : planF l0 l1 = (zNd, [], errOf l0 l1) := if_neg he
    rw [e1]
    refine (plan_bad A0 c0 n l0 hn A1 c1 n1 l1 hn1 w hr0 hc0 hw0 hr1 hc1 he).mono fun e w' h => ?_
    exact ⟨_, h.1, Kd.R_nil _ _ _ _ _, h.2⟩
def BytesW (l : List Wr) : Prop := ∀ x ∈ l, Spin.Bytes x.data
theorem pageL_bytes (l : List Int) : Spin.Bytes (pageL l) := Field.sealI_bytes (setsK_bytes 0 2 l _)
theorem resW_bytes {fr : List Int} {b : Bool} {ws : List Wr} (h : BytesW ws) : BytesW (resW fr b ws) := by
  unfold resW
  split
  · intro x hx
    rcases List.mem_append.1 hx with h1 | h1
    · exact h x h1
    · obtain rfl := List.mem_singleton.1 h1
      intro y hy; exact absurd hy List.not_mem_nil
  · exact h
theorem fillW_bytes {a : Int} {pl : List Int} {ws : List Wr} (hp : Spin.Bytes pl) (h : BytesW ws) : BytesW (fillW a pl ws) := by
  intro x hx
  obtain ⟨y, hy, rfl⟩ := List.mem_map.1 hx
  unfold fillX
  split
  · exact hp
  · exact h y hy
theorem undS_bytes (l fr : List Int) : ∀ k, BytesW (undS l fr k).1
  | 0 => resW_bytes (fillW_bytes (pageL_bytes _) (resW_bytes (fun x hx => absurd hx List.not_mem_nil)))
  | k + 1 => fillW_bytes (pageL_bytes _) (resW_bytes (undS_bytes l fr k))
theorem wsOf_bytes (l fr : List Int) : BytesW (wsOf l fr) := fillW_bytes (pageL_bytes _) (undS_bytes l fr _)
def aP : List Int := [60, 61, 0, 62, 80]
def aF : List Int := [90]
theorem a_err : errOf aP aF = 0 := by decide +kernel
theorem a_nd : ndOf aP aF = ⟨1, [60, 61, 0, 62], 90, 0⟩ := by
  show Nd.mk 1 (partL aP 0 4) (resP aF (someB (partL aP 4 30)) []) (dbl aP aF) = _
  rw [show partL aP 0 4 = [60, 61, 0, 62] by decide +kernel, show resP aF (someB (partL aP 4 30)) [] = 90 by decide +kernel, show dbl aP aF = 0 by decide +kernel]
theorem a_len : (wsOf aP aF).length = 1 := by decide +kernel
theorem a_bad : rdBad (wsOf aP aF) [60, 61, 0, 62] 90 0 = false := by decide +kernel
theorem a_own : (rdAll (wsOf aP aF) [60, 61, 0, 62] 90 0).2.1 = [90] := by decide +kernel
theorem a_ptr : trimL (rdAll (wsOf aP aF) [60, 61, 0, 62] 90 0).1 = aP := by decide +kernel
theorem aP_C {W : World} {g : Nat} (h : W.heap[g]? = some (.cells #[.int .i64 60, .int .i64 61, .int .i64 0, .int .i64 62, .int .i64 80] 3 (0, 0))) : I.C W (some ⟨g, 0, none⟩) 5 aP := C_ivs h rfl rfl (by decide)
theorem aF_C {W : World} {g : Nat} (h : W.heap[g]? = some (.cells #[.int .i64 90] 3 (0, 0))) : I.C W (some ⟨g, 0, none⟩) 1 aF := C_ivs h rfl rfl (by decide)
theorem ndA_one : ∀ u ∈ (⟨1, [60, 61, 0, 62], 90, 0⟩ : Nd).c.toList, u.oneCell' = true := ndc_one _
set_option maxHeartbeats 1000000 in
theorem awake_calls (w : World) : Calls Try.prog 9 #[] w fun e w' => e = .returned (.bool true) ∧ Below w.heap.size w w' := by
  have HPL : Aside0 (∀ (W : World) (A0 A1 : Option Addr) (c0 c1 : Nat), I.C W A0 5 aP → I.C W A1 1 aF → 5 ≤ c0 → 1 ≤ c1 → Calls Try.prog 11 #[.slice A0 5 c0, .slice A1 1 c1] W fun e w' => ∃ v, e = .returned (.tuple #[.agg (⟨1, [60, 61, 0, 62], 90, 0⟩ : Nd).c, v, .int .i64 0]) ∧ kW.R 59 w' W.heap.size (fun _ => True) v (wsOf aP aF) ∧ Below W.heap.size W w') := ⟨fun W A0 A1 c0 c1 h0 h1 hc0 hc1 => by
    have h := plan_calls A0 c0 5 aP rfl A1 c1 1 aF rfl W h0 hc0 (by decide) h1 hc1
    rw [show planF aP aF = (ndOf aP aF, wsOf aP aF, 0) from if_pos a_err, a_nd] at h
    exact h⟩
  have HRD : Aside0 (∀ (W : World) (A : Option Addr) (c : Nat), kW.C W A 1 (wsOf aP aF) → Calls Try.prog 15 #[.agg (⟨1, [60, 61, 0, 62], 90, 0⟩ : Nd).c, .slice A 1 c] W fun e w' => Below W.heap.size W w' ∧ ∃ vp vo, e = .returned (.tuple #[vp, vo, .int .i64 0]) ∧ I.R 3 w' W.heap.size (fun _ => True) vp aP ∧ I.R 3 w' W.heap.size (fun _ => True) vo [90]) := ⟨fun W A c h => by
    refine (read_calls A c 1 (wsOf aP aF) a_len (wsOf_bytes _ _) 60 61 0 62 90 0 (by decide) W h).mono fun e w' h2 => ⟨h2.1, ?_⟩
    have h3 := h2.2.2 a_bad
    rw [a_ptr, a_own] at h3
    exact h3⟩
  go_enter Try.func9, Try.ntmps9
  go_wp2_with (first | (go_at_call 11; (with_reducible refine (HPL.out _ _ _ _ _ ?c0 ?c1 (by decide) (by decide)).mono ?_); (case c0 => exact aP_C (heap_alloc2_old _ _ _)); (case c1 => exact aF_C (heap_alloc2_new _ _ _)); rintro e w1 ⟨v1, rfl, ho, hb⟩; obtain ⟨A1, c1, e1⟩ := Kd.R_slice ho; rw [a_len] at e1; subst e1; have hb1 := (below_alloc (below_alloc (Below.refl w.heap.size w) (.cells #[.int .i64 60, .int .i64 61, .int .i64 0, .int .i64 62, .int .i64 80] 3)) (.cells #[.int .i64 90] 3)).trans (hb.mono (by rw [World.size_alloc, World.size_alloc]; omega)); have HO1 := Aside0.mk ho; have HB1 := Aside0.mk hb1; clear ho hb hb1) | ((with_reducible refine gate_ (.store 32 (.tmp 1) (.tmp 11)) rfl ?_); refine Whole.store_ ?sg ?sn 32 (.tmp 1) (.tmp 11) ?so w1.heap.size 0 32 zNd.c (⟨1, [60, 61, 0, 62], 90, 0⟩ : Nd).c (⟨1, [60, 61, 0, 62], 90, 0⟩ : Nd).c ?sx ?sy (blk_new w1 _) ?sf infoND ?s1 ?sw ?_; (case sg => rfl); (case sn => rfl); (case so => rfl); (case sx => with_unfolding_all rfl); (case sy => with_unfolding_all rfl); (case sf => with_unfolding_all exact (show 12 ≤ 12 from by decide)); (case s1 => exact ndA_one); (case sw => with_unfolding_all rfl); intro w3 hz3 hg3 hs3; have hb3 := below_of_new (below_alloc (Below.refl w1.heap.size w1) (.cells zNd.c 32)) hg3 (Nat.le_refl _); have HC3 : Aside0 (kW.C w3 A1 1 (wsOf aP aF)) := ⟨by have h := (Kd.R_reads' (Kd.R_below HO1.out hb3)).2.2; rw [a_len] at h; exact h⟩; have HB3 := Aside0.mk (HB1.out.trans (hb3.mono HB1.out.size)); have HZ3 := Aside0.mk hz3; have HG3 := Aside0.mk hg3; clear hz3 hg3 hs3 hb3) | ((with_reducible refine gate_ (.load 32 (.tmp 1)) rfl ?_); refine Whole.load_ ?lg 32 (.tmp 1) ?lo ⟨w1.heap.size, 0, none⟩ (⟨1, [60, 61, 0, 62], 90, 0⟩ : Nd).c.toList _ ?lx (Whole.cells_at HZ3.out 0 _ (fun j u hj => by rw [Nat.zero_add, ← Array.getElem?_toList]; exact hj)) Try.underlying32 ?ld infoND ?_; (case lg => rfl); (case lo => rfl); (case lx => with_unfolding_all rfl); (case ld => rfl)) | (go_at_call 15; (with_reducible refine (HRD.out _ _ _ ?c0).mono ?_); (case c0 => exact HC3.out); rintro e w4 ⟨hb4, v4, v5, rfl, hp4, ho4⟩; obtain ⟨g4, c4, e4, _⟩ := Kd.R_form hp4 (by decide); obtain ⟨A5, c5, e5⟩ := Kd.R_slice ho4; rw [show aP.length = 5 from rfl] at e4; subst e4; subst e5; obtain ⟨ad4, ea, hc4⟩ := at_i (k := 4) (p := 80) (Kd.R_reads' hp4).2.2 rfl; obtain rfl := Option.some.inj ea; have hc5 : w4.cell? ⟨g4, 4, none⟩ = some (.int .i64 80) := hc4; clear hc4 ea; have d5 : w4.cell? ⟨w1.heap.size, 8, none⟩ = some (.int .i64 90) := blk_cell (blk_below HZ3.out hb4) 8; have HB4 := Aside0.mk hb4; clear hb4 hp4 ho4))
  go_ret
  exact ⟨rfl, HB3.out.trans (HB4.out.mono HB3.out.size)⟩
end Go.Proofs.Ytbdbjlfdnijfeaa.Tree
