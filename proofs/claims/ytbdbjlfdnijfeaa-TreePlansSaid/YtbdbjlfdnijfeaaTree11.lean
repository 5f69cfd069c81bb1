/- For all worlds: tree.Plan where it makes a plan. Conditions: the lists can be read; numbers are 64 bits wide. -/
import Derived.Test.YtbdbjlfdnijfeaaTree10
namespace Go.Proofs.Ytbdbjlfdnijfeaa.Tree
open Go Go.RowKit Go.Maps Go.Proofs.YtbdbjlfdnijfeaaW.PrintWords Go.Proofs.YtbdbjlfdnijfeaaW.PrintLast Go.Proofs.YtbdbjlfdnijfeaaW.PrintMore
set_option linter.unusedVariables false
set_option linter.unusedSimpArgs false
/-- Where a plan lies while it is made. -/
structure PlW (w0 W : World) (nb m : Nat) (A0 : Option Addr) (n c0 : Nat) (A1 : Option Addr) (c1 : Nat) (fr : List Int) (nd : Nd) (vw : Value) (ws : List Wr) : Prop where
  box : W.heap[w0.heap.size]? = some (.cells #[.slice A0 n c0] 22 (0, 0))
  res : W.heap[w0.heap.size + 1]? = some (.cells zNd.c 32 (0, 0))
  nod : W.heap[nb]? = some (.cells nd.c 32 (0, 0))
  mkr : Mk w0 W m A1 c1 fr vw ws
  hnb : w0.heap.size + 1 < nb
section
variable {w0 W W1 : World} {nb m : Nat} {A0 : Option Addr} {n c0 : Nat} {A1 : Option Addr} {c1 : Nat} {fr : List Int} {nd : Nd} {vw : Value} {ws : List Wr}
theorem PlW.below (h : PlW w0 W nb m A0 n c0 A1 c1 fr nd vw ws) (hb : Below W.heap.size W W1) : PlW w0 W1 nb m A0 n c0 A1 c1 fr nd vw ws :=
  ⟨blk_below h.box hb, blk_below h.res hb, blk_below h.nod hb, h.mkr.moved hb, h.hnb⟩
theorem PlW.step (h : PlW w0 W nb m A0 n c0 A1 c1 fr nd vw ws) {vw' : Value} {ws' : List Wr} (hm : Mk w0 W1 m A1 c1 fr vw' ws') (f : Fr W W1 m vw.ownBlock) : PlW w0 W1 nb m A0 n c0 A1 c1 fr nd vw' ws' :=
  ⟨f.blk h.mkr h.box (by decide) (by decide), f.blk h.mkr h.res (by decide) (by decide), f.blk h.mkr h.nod (by decide) (by decide), hm, h.hnb⟩
/-- A field of the node is written. -/
theorem PlW.put (h : PlW w0 W nb m A0 n c0 A1 c1 fr nd vw ws) {j : Nat} {v : Value} {nd' : Nd} (hc : nd.c.setIfInBounds j v = nd'.c) : PlW w0 (W.setCell ⟨nb, j, none⟩ v) nb m A0 n c0 A1 c1 fr nd' vw ws := by
  have h1 := h.hnb
  have far : ∀ k, k ≠ nb → (W.setCell ⟨nb, j, none⟩ v).heap[k]? = W.heap[k]? := fun k hk => heap_setCell_other _ _ k _ hk
  exact ⟨(far _ (by omega)).trans h.box, (far _ (by omega)).trans h.res, by rw [← hc]; exact blk_set h.nod j v, ⟨(far _ (blk_ne h.mkr.hm h.nod (by decide))).trans h.mkr.hm, Kd.R_set h.mkr.hw h.nod (by decide) j v, h.mkr.hf, h.mkr.bl.setCell (p := ⟨nb, j, none⟩) (by show w0.heap.size ≤ nb; omega) v, h.mkr.bm⟩, h.hnb⟩
end
theorem reserve_any {w0 w : World} {m : Nat} {A0 : Option Addr} {c0 : Nat} {fr : List Int} {vw : Value} {ws : List Wr} (h : Mk w0 w m A0 c0 fr vw ws) (b : Bool) (hb : b = true → ∃ p, fr[ws.length]? = some p ∧ fr.getD ws.length 0 = p) (hl : ws.length ≤ 1000) :
    Calls Try.prog 25 #[.pointer (some ⟨m, 0, none⟩), .bool b] w fun e w' => e = .returned (.int .i64 (resP fr b ws)) ∧ ∃ vw', Mk w0 w' m A0 c0 fr vw' (resW fr b ws) ∧ Fr w w' m vw.ownBlock := by
  cases b with
  | false =>
    refine (reserve_no w _ ⟨_, rfl⟩).mono fun e w' he => ?_
    obtain ⟨he, rfl⟩ := he
    exact ⟨he, vw, h, Fr.refl _ _ _⟩
  | true =>
    obtain ⟨p, hp, h2⟩ := hb rfl
    refine (reserve_yes h hp hl).mono fun e w' he => ?_
    obtain ⟨he, vw', h3, h4⟩ := he
    have e1 : resP fr true ws = p := by unfold resP; rw [if_pos rfl, h2]
    have e2 : resW fr true ws = ws ++ [⟨p, []⟩] := by unfold resW; rw [if_pos rfl, h2]
    rw [e1, e2]
    exact ⟨he, vw', h3, h4⟩
theorem ndc_one (n : Nd) : ∀ u ∈ n.c.toList, u.oneCell' = true := fun u hu => by
  simp only [Nd.c, List.mem_cons, List.not_mem_nil, or_false] at hu
  rcases hu with rfl | rfl | rfl | rfl | rfl | rfl | rfl | rfl | rfl | rfl | rfl | rfl <;> rfl
theorem four {d : List Int} (h : d.length = 4) : ∃ a b c e, d = [a, b, c, e] := by
  match d, h with
  | [a, b, c, e], _ => exact ⟨a, b, c, e, rfl⟩
theorem infoA4 : (Try.prog.info? 29).map (·.size) = some 4 := by kernel_rfl
section
variable {w0 W W1 : World} {nb m : Nat} {A0 : Option Addr} {n c0 : Nat} {A1 : Option Addr} {c1 : Nat} {fr : List Int} {nd : Nd} {vw : Value} {ws : List Wr}
theorem PlW.start (hb : Below w0.heap.size w0 W) (h1 : W.heap[w0.heap.size]? = some (.cells #[.slice A0 n c0] 22 (0, 0))) (h2 : W.heap[w0.heap.size + 1]? = some (.cells zNd.c 32 (0, 0))) (h3 : W.heap[nb]? = some (.cells nd.c 32 (0, 0))) (h4 : w0.heap.size + 1 < nb) {n1 : Nat} (hn1 : fr.length = n1) (hf : I.C w0 A1 n1 fr) :
    PlW w0 (W.alloc (.cells #[.slice A1 n1 c1, .slice none 0 0] 51)) nb W.heap.size A0 n c0 A1 c1 fr nd (.slice none 0 0) [] := by
  subst hn1
  exact ⟨blk_alloc h1 _, blk_alloc h2 _, blk_alloc h3 _, ⟨blk_new _ _, Kd.R_nil _ _ _ _ _, hf, below_alloc hb _, hb.size⟩, h4⟩
theorem below_of_new {w0 w W : World} {k : Nat} (hb : Below w0.heap.size w0 w) (hg : w.grownBy W (some k)) (hk : w0.heap.size ≤ k) : Below w0.heap.size w0 W :=
  hb.trans ⟨hg.os, hg.tape, hg.output, hg.size, fun j hj => by
    rcases Nat.lt_or_ge j w.heap.size with h | h
    · exact hg.block j h (fun e => by have := Option.some.inj e; omega)
    · exact absurd hj (by have := hb.size; omega)⟩
/-- A row of numbers of the call's own has grown. -/
theorem PlW.app (h : PlW w0 W nb m A0 n c0 A1 c1 fr nd vw ws) {ok : Nat → Prop} {vu : Value} {l : List Int} (hr : I.R 3 W w0.heap.size ok vu l) (hg : W.grownBy W1 vu.ownBlock) : PlW w0 W1 nb m A0 n c0 A1 c1 fr nd vw ws :=
  ⟨blk_grown h.box hg (Kd.R_ne hr h.box (by decide)), blk_grown h.res hg (Kd.R_ne hr h.res (by decide)), blk_grown h.nod hg (Kd.R_ne hr h.nod (by decide)),
    ⟨blk_grown h.mkr.hm hg (Kd.R_ne hr h.mkr.hm (by decide)), Kd.R_over h.mkr.hw hr (by decide) hg, h.mkr.hf, ⟨hg.os.trans h.mkr.bl.os, hg.tape.trans h.mkr.bl.tape, hg.output.trans h.mkr.bl.output, Nat.le_trans h.mkr.bl.size hg.size, fun k hk => (hg.block k (Nat.lt_of_lt_of_le hk h.mkr.bl.size) (fun e => by have := Kd.R_base hr k e.symm; omega)).trans (h.mkr.bl.block k hk)⟩, h.mkr.bm⟩, h.hnb⟩
end
set_option maxHeartbeats 4000000 in
set_option maxRecDepth 100000 in
theorem plan_start (A0 : Option Addr) (c0 n : Nat) (l0 : List Int) (hn : l0.length = n) (A1 : Option Addr) (c1 n1 : Nat) (l1 : List Int) (hn1 : l1.length = n1) (w : World) (hr0 : I.C w A0 n l0) (hc0 : n ≤ c0) (hw0 : wide l0 = true) (hr1 : I.C w A1 n1 l1) (hc1 : n1 ≤ c1) (hok : Ok l0 l1) :
    Calls Try.prog 11 #[.slice A0 n c0, .slice A1 n1 c1] w fun e w' => ∃ v, e = .returned (.tuple #[.agg (ndOf l0 l1).c, v, .int .i64 0]) ∧ kW.R 59 w' w.heap.size (fun _ => True) v (wsOf l0 l1) ∧ Below w.heap.size w w' := by
  have HN0 := Aside0.mk hn
  have HN1 := Aside0.mk hn1
  have HR0 := Aside0.mk hr0
  have HR1 := Aside0.mk hr1
  have HC0 := Aside0.mk hc0
  have HC1 := Aside0.mk hc1
  have HW0 := Aside0.mk hw0
  have HOK := Aside0.mk hok
  have hneed : ∀ W : World, Below w.heap.size w W → Calls Try.prog 7 #[.slice A0 n c0] W fun e w' => e = .returned (.tuple #[.int .i64 (needF l0).1, .int .i64 (needF l0).2]) ∧ Below W.heap.size W w' := fun W hW => need_calls A0 c0 n l0 HN0.out W (Kd.C_below HR0.out hW) HC0.out HW0.out
  have hF : needF l0 = ((needN l0 : Int), 0) := by unfold needF; rw [if_pos hok.pts]
  have hle := needN_le l0
  rw [hF] at hneed
  have hE : freshF l1 (needN l0) l0 = 0 := by unfold freshF; rw [if_neg (by have := hok.len; omega), hok.fresh, if_pos rfl]
  obtain ⟨nd, hnd⟩ : ∃ q, needN l0 = q := ⟨_, rfl⟩
  rw [hnd] at hneed hle hE
  have hfr : ∀ (gb : Nat) (W : World), Below w.heap.size w W → W.heap[gb]? = some (.cells #[.slice A0 n c0] 22 (0, 0)) → Calls Try.prog 22 #[.slice A1 n1 c1, .int .i64 (nd : Int), .func (.func 23) #[] #[.pointer (some ⟨gb, 0, none⟩)]] W fun e w' => e = .returned (.int .i64 0) ∧ W = w' := fun gb W hW hg => by
    have h := fresh_calls A1 c1 n1 l1 HN1.out nd gb A0 c0 n l0 HN0.out (by omega) W (Kd.C_below HR1.out hW) HC1.out hg (Kd.C_below HR0.out hW)
    rw [hE] at h
    exact h
  have HNEED := Aside0.mk hneed
  have HFR := Aside0.mk hfr
  have HPT : Aside0 (∀ (fr cnt : Nat) (frI cntI : Int) (W : World) (s : Bool) (p : List Int), (fr : Int) = frI → (cnt : Int) = cntI → cnt ≤ 1000 → Below w.heap.size w W → someB (partL l0 fr cnt) = s → partL l0 fr cnt = p → Calls Try.prog 19 #[.slice A0 n c0, .int .i64 frI, .int .i64 cntI] W fun e w' => ∃ A c, e = .returned (.tuple #[.slice A cnt c, .bool s]) ∧ I.R 3 w' W.heap.size (fun _ => True) (.slice A cnt c) p ∧ Below W.heap.size W w') := ⟨fun fr cnt frI cntI W s p e1 e2 h1 h2 h3 h4 => (part_at A0 c0 n l0 HN0.out fr cnt frI cntI e1 e2 h1 W (Kd.C_below HR0.out h2) HC0.out).mono fun e w' h => by
    obtain ⟨v, he, hr, hb⟩ := h
    obtain ⟨A, c, rfl⟩ := Kd.R_slice hr
    rw [partL_length] at he hr
    rw [h3] at he
    rw [h4] at hr
    exact ⟨A, c, he, hr, hb⟩⟩
  obtain ⟨s0, hs0⟩ : ∃ q, someB (partL l0 0 4) = q := ⟨_, rfl⟩
  have HS0 := Aside0.mk hs0
  obtain ⟨d0, d1, d2, d3, hd⟩ := four (partL_length l0 0 4)
  have HD := Aside0.mk hd
  have HP4 : Aside0 (∀ (W : World), Below w.heap.size w W → Calls Try.prog 19 #[.slice A0 n c0, .int .i64 0, .int .i64 4] W fun e w' => ∃ g c, e = .returned (.tuple #[.slice (some ⟨g, 0, none⟩) 4 c, .bool s0]) ∧ (∀ (j : Nat) (u : Value), (ivs [d0, d1, d2, d3])[j]? = some u → w'.cell? ((⟨g, 0, none⟩ : Addr).add j) = some u) ∧ Below W.heap.size W w') := ⟨fun W hW => (HPT.out 0 4 0 4 W _ _ rfl rfl (by omega) hW hs0 hd).mono fun e w' h => by
    obtain ⟨A, c, he, hr, hb⟩ := h
    obtain ⟨g, cap, e1, _, _, _⟩ := Kd.R_form hr (Nat.succ_pos 3)
    injection e1 with e2 _ e3
    subst e2
    refine ⟨g, c, he, fun j u hj => ?_, hb⟩
    unfold ivs at hj
    rw [List.getElem?_map] at hj
    cases hx : ([d0, d1, d2, d3] : List Int)[j]? with
    | none => rw [hx] at hj; cases hj
    | some y =>
      rw [hx] at hj
      obtain rfl := Option.some.inj hj
      obtain ⟨ad, e4, hc⟩ := at_i (Kd.R_reads' hr).2.2 hx
      obtain rfl := Option.some.inj e4
      exact hc⟩
  obtain ⟨p4, hp4⟩ : ∃ q, partL l0 4 30 = q := ⟨_, rfl⟩
  have HP4L := Aside0.mk hp4
  obtain ⟨s4, hs4⟩ : ∃ q, someB (partL l0 4 30) = q := ⟨_, rfl⟩
  have HS4 := Aside0.mk hs4
  have HP4N : Aside0 (p4.length = 30) := ⟨by rw [← hp4]; exact partL_length _ _ _⟩
  have HP4X : Aside0 (∀ x ∈ p4, 0 ≤ x ∧ x < 4294967296) := ⟨by rw [← hp4]; exact part_small hok.pts 4 30⟩
  obtain ⟨q4, hq4⟩ : ∃ q, resP l1 s4 [] = q := ⟨_, rfl⟩
  have HRES1 : Aside0 (∀ (W : World) (m : Nat) (vw : Value), Mk w W m A1 c1 l1 vw [] → Calls Try.prog 25 #[.pointer (some ⟨m, 0, none⟩), .bool s4] W fun e w' => e = .returned (.int .i64 q4) ∧ ∃ vw', Mk w w' m A1 c1 l1 vw' (resW l1 s4 []) ∧ Fr W w' m vw.ownBlock) := ⟨fun W m vw h => by
    have h1 := reserve_any h s4 (fun e => by obtain ⟨p, h2, h3, _⟩ := hok.at_ (hok.room1 (by rw [hs4]; exact e)); exact ⟨p, h2, h3⟩) (Nat.zero_le _)
    rw [hq4] at h1
    exact h1⟩
  have HWS1 : Aside0 (fillW q4 (pageL p4) (resW l1 s4 []) = ws1 l0 l1) := ⟨by unfold ws1; rw [hp4, ← hq4, ← hs4, hp4]⟩
  obtain ⟨s34, hs34⟩ : ∃ q, someB (partL l0 34 96) = q := ⟨_, rfl⟩
  have HS34 := Aside0.mk hs34
  obtain ⟨q34, hq34⟩ : ∃ q, resP l1 s34 (ws1 l0 l1) = q := ⟨_, rfl⟩
  have HWL : Aside0 ((ws1 l0 l1).length ≤ 1000) := ⟨by rw [ws1_length]; split <;> omega⟩
  have HRES2 : Aside0 (∀ (W : World) (m : Nat) (vw : Value), Mk w W m A1 c1 l1 vw (ws1 l0 l1) → Calls Try.prog 25 #[.pointer (some ⟨m, 0, none⟩), .bool s34] W fun e w' => e = .returned (.int .i64 q34) ∧ ∃ vw', Mk w w' m A1 c1 l1 vw' (ws2 l0 l1) ∧ Fr W w' m vw.ownBlock) := ⟨fun W m vw h => by
    have h1 := reserve_any h s34 (fun e => by obtain ⟨p, h2, h3, _⟩ := hok.at_ (hok.room2 (by rw [hs34]; exact e)); exact ⟨p, h2, h3⟩) HWL.out
    rw [hq34] at h1
    unfold ws2
    rw [hs34]
    exact h1⟩
  have HND : Aside0 (ndOf l0 l1 = ⟨1, [d0, d1, d2, d3], q4, q34⟩) := ⟨by unfold ndOf dbl; rw [hd, hs4, hs34, hq4, hq34]⟩
  have HDBL : Aside0 (dbl l0 l1 = q34) := ⟨by unfold dbl; rw [hs34, hq34]⟩
  clear hn hn1 hr0 hr1 hc0 hc1 hw0 hok hneed hF hle hE hnd hfr hs0 hd hp4 hs4 hq4 hs34 hq34
  go_enter Try.func11, Try.ntmps11
  go_wp2_with (first | (go_at_call 7; (with_reducible refine (HNEED.out _ (below_alloc (below_alloc (Below.refl _ _) _) _)).mono ?_); rintro e w1 ⟨rfl, hb⟩; have HB := Aside0.mk ((below_alloc (below_alloc (Below.refl w.heap.size w) (.cells #[.slice A0 n c0] 22)) (.cells zNd.c 32)).trans (hb.mono (below_alloc (below_alloc (Below.refl w.heap.size w) _) _).size)); have hg1 := blk_below (blk_alloc (blk_new w (.cells #[.slice A0 n c0] 22)) (.cells zNd.c 32)) hb; have hz1 := blk_below (blk_new (w.alloc (.cells #[.slice A0 n c0] 22)) (.cells zNd.c 32)) hb; rw [World.size_alloc] at hz1; have HG1 := Aside0.mk hg1; have HZ1 := Aside0.mk hz1; have cg1 := blk_cell hg1 0; have gl1 := blk_lt hg1; clear hb hg1 hz1) | (go_at_call 22; (with_reducible refine (HFR.out _ _ HB.out HG1.out).mono ?_); rintro e w2 ⟨rfl, rfl⟩) | (go_at_call 19; (with_reducible refine (HP4.out _ (below_alloc HB.out _)).mono ?_); rintro e w2 ⟨g2, cc2, rfl, hc2, hb2⟩; have HC2 := Aside0.mk hc2; have HB2 := Aside0.mk hb2; clear hc2 hb2) | ((with_reducible refine gate_ (.sliceToArrayPointer 29 (.tmp 41)) rfl ?_); refine Whole.arr_ ?rg 29 (.tmp 41) ?ro (some ⟨g2, 0, none⟩) 4 cc2 3 ?rx Try.underlying29 ?_; (case rg => rfl); (case ro => rfl); (case rx => with_unfolding_all rfl)) | ((with_reducible refine gate_ (.load 29 (.tmp 42)) rfl ?_); refine Whole.load_ ?lg 29 (.tmp 42) ?lo ⟨g2, 0, none⟩ (ivs [d0, d1, d2, d3]) _ ?lx HC2.out Try.underlying29 ?ld infoA4 ?_; (case lg => rfl); (case lo => rfl); (case lx => with_unfolding_all rfl); (case ld => rfl)) | ((with_reducible refine gate_ (.store 29 (.tmp 44) (.tmp 43)) rfl ?_); refine Whole.store_ ?sg ?sn 29 (.tmp 44) (.tmp 43) ?so w1.heap.size 4 32 (⟨1, [], 0, 0⟩ : Nd).c (ivs [d0, d1, d2, d3]).toArray (⟨1, [d0, d1, d2, d3], 0, 0⟩ : Nd).c ?sx ?sy (blk_below (blk_new w1 _) HB2.out) ?sf infoA4 ?s1 ?sw ?_; (case sg => rfl); (case sn => rfl); (case so => rfl); (case sx => with_unfolding_all rfl); (case sy => with_unfolding_all rfl); (case sf => with_unfolding_all exact (show 8 ≤ 12 from by decide)); (case s1 => exact ivs_one _); (case sw => with_unfolding_all rfl); intro w3 hz3 hg3 hs3; have hbw3 := below_of_new ((below_alloc HB.out _).trans (HB2.out.mono (below_alloc HB.out _).size)) hg3 HB.out.size; have hbx3 := blk_grown (blk_below (blk_alloc HG1.out _) HB2.out) hg3 (fun e => by have h1_ := Option.some.inj e; have h2_ := blk_lt HG1.out; omega); have hrs3 := blk_grown (blk_below (blk_alloc HZ1.out _) HB2.out) hg3 (fun e => by have h1_ := Option.some.inj e; have h2_ := blk_lt HZ1.out; omega); have HPL := Aside0.mk (PlW.start (c1 := c1) hbw3 hbx3 hrs3 hz3 (blk_lt HZ1.out) HN1.out HR1.out); have cb3 := blk_cell hbx3 0; have lb3 := blk_lt hbx3; clear hz3 hg3 hs3 hbw3 hbx3 hrs3) | (go_at_call 19; (with_reducible refine (HPT.out 4 30 4 30 _ _ _ rfl rfl (by omega) HPL.out.mkr.bl HS4.out HP4L.out).mono ?_); rintro e w4 ⟨A4, cc4, rfl, hr4, hb4⟩; have HPL4 := Aside0.mk (HPL.out.below hb4); have HR4 := Aside0.mk (Kd.R_lower hr4 HPL.out.mkr.bl.size); clear hr4 hb4) | (go_at_call 25; (with_reducible refine (HRES1.out _ _ _ HPL4.out.mkr).mono ?_); rintro e w5 ⟨rfl, vw5, hm5, hf5⟩; have hp5 := HPL4.out.step hm5 hf5; have hr5 := Fr.row HPL4.out.mkr hf5 HR4.out; have c85 := blk_cell hp5.nod 8; have f85 := blk_frozen hp5.nod 8; have HPL6 := Aside0.mk (hp5.put (j := 8) (v := .int .i64 q4) (nd' := ⟨1, [d0, d1, d2, d3], q4, 0⟩) rfl); have HR6 := Aside0.mk (Kd.R_set hr5 hp5.nod (by decide) 8 (.int .i64 q4)); clear hm5 hf5 hp5 hr5) | (go_at_call 26; (with_reducible refine (fill_calls HPL6.out.mkr q4 A4 cc4 30 p4 HP4N.out HR6.out HP4X.out (by omega)).mono ?_); rintro e w7 ⟨rfl, hm7, hf7⟩; rw [HWS1.out] at hm7; have hp7 := HPL6.out.step hm7 hf7; have cb7 := blk_cell hp7.box 0; have HPL7 := Aside0.mk hp7; clear hm7 hf7 hp7) | (go_at_call 19; (with_reducible refine (HPT.out 34 96 34 96 _ _ _ rfl rfl (by omega) HPL7.out.mkr.bl HS34.out rfl).mono ?_); rintro e w8 ⟨A8, cc8, rfl, hr8, hb8⟩; have HPL8 := Aside0.mk (HPL7.out.below hb8); clear hr8 hb8) | (go_at_call 25; (with_reducible refine (HRES2.out _ _ _ HPL8.out.mkr).mono ?_); rintro e w9 ⟨rfl, vw9, hm9, hf9⟩; have hp9 := HPL8.out.step hm9 hf9; have c99 := blk_cell hp9.nod 9; have f99 := blk_frozen hp9.nod 9; have HPL9 := Aside0.mk (hp9.put (j := 9) (v := .int .i64 q34) (nd' := ⟨1, [d0, d1, d2, d3], q4, q34⟩) rfl); clear hm9 hf9 hp9))
  have HST := Aside0.mk HPL9.out
  clear HNEED HFR HP4 HB HG1 HZ1 HB2 HC2 HPL HPL4 HR4 HPL6 HR6 HPL7 HPL8 HPL9 HRES1 HRES2 HWS1 HWL HP4L HP4N HP4X HS4 HS34 HS0 HD c85 f85 cb7 c99 f99 cb3 cg1
  obtain ⟨nb, hnb⟩ : ∃ q, w1.heap.size = q := ⟨_, rfl⟩
  obtain ⟨m, hm⟩ : ∃ q, w3.heap.size = q := ⟨_, rfl⟩
  rw [hnb, hm] at HST
  rw [hnb, hm]
  obtain ⟨W0, hW0⟩ : ∃ q, w9.setCell ⟨nb, 9, none⟩ (.int .i64 q34) = q := ⟨_, rfl⟩
  rw [hW0] at HST ⊢
  clear hnb hm hW0 lb3 gl1
  go_loopg [15, 16] 4 (fun gg vu i wr => ∃ (k : Nat) (vw : Value), k ≤ 3 ∧ 4 - k ≤ gg ∧ i = .int .i64 ((34 + 30 * k : Nat) : Int) ∧ Aside0 (k = 0 ∨ 30 * k + 4 < n) ∧ Aside0 (PlW w wr nb m A0 n c0 A1 c1 l1 ⟨1, [d0, d1, d2, d3], q4, q34⟩ vw (undS l0 l1 k).1) ∧ Aside0 (I.R 3 wr w.heap.size (fun _ => True) vu (undS l0 l1 k).2))
  case atStart => exact ⟨0, vw9, by omega, Nat.le_refl _, rfl, ⟨.inl rfl⟩, HST, ⟨Kd.R_nil _ _ _ _ _⟩⟩
  case round =>
    clear HST
    obtain ⟨k, vw, hk, hgk, rfl, HKN, HP, HRU⟩ := hrel
    obtain ⟨Au, cu, rfl⟩ := Kd.R_slice HRU.out
    obtain ⟨und, hund⟩ : ∃ q, (undS l0 l1 k).2 = q := ⟨_, rfl⟩
    have HUND := Aside0.mk hund
    have hul : und.length = k := by rw [← hund]; exact (undS_length l0 l1 k).2
    rw [hund, hul] at HRU
    rw [hund, hul]
    have HUK := Aside0.mk hul
    obtain ⟨fr, hfr⟩ : ∃ q, 34 + 30 * k = q := ⟨_, rfl⟩
    rw [hfr]
    have HFRK := Aside0.mk hfr
    have cbx := blk_cell HP.out.box 0
    have n96 : n ≤ 96 := by rw [← HN0.out]; exact ptsB_len HOK.out.pts
    by_cases hlt : fr < n
    · have b2 : decide (fr < n) = true := decide_eq_true hlt
      have hk2 : k < 3 := by omega
      obtain ⟨us, hus⟩ : ∃ q, someB (partL l0 fr 30) = q := ⟨_, rfl⟩
      have HUS := Aside0.mk hus
      obtain ⟨pk, hpk⟩ : ∃ q, partL l0 fr 30 = q := ⟨_, rfl⟩
      have HPK := Aside0.mk hpk
      have HPKN : Aside0 (pk.length = 30) := ⟨by rw [← hpk]; exact partL_length _ _ _⟩
      have HPKX : Aside0 (∀ x ∈ pk, 0 ≤ x ∧ x < 4294967296) := ⟨by rw [← hpk]; exact part_small HOK.out.pts fr 30⟩
      have hUB : usB l0 k = us := by unfold usB; rw [hfr]; exact hus
      obtain ⟨qk, hqk⟩ : ∃ q, resP l1 us (undS l0 l1 k).1 = q := ⟨_, rfl⟩
      have hwl : (undS l0 l1 k).1.length ≤ 1000 := by
        rw [(undS_length l0 l1 k).1, ws2_length]
        have := unN_le l0 k
        split <;> split <;> omega
      have HRES : Aside0 (∀ (W : World) (m : Nat) (vw : Value), Mk w W m A1 c1 l1 vw (undS l0 l1 k).1 → Calls Try.prog 25 #[.pointer (some ⟨m, 0, none⟩), .bool us] W fun e w' => e = .returned (.int .i64 qk) ∧ ∃ vw', Mk w w' m A1 c1 l1 vw' (resW l1 us (undS l0 l1 k).1) ∧ Fr W w' m vw.ownBlock) := ⟨fun W m vw h => by
        have h1 := reserve_any h us (fun e => by obtain ⟨p, h2, h3, _⟩ := HOK.out.at_ (HOK.out.room hk2 (by rw [hUB]; exact e)); exact ⟨p, h2, h3⟩) hwl
        rw [hqk] at h1
        exact h1⟩
      have HNX : Aside0 (undS l0 l1 (k + 1) = (fillW qk (pageL pk) (resW l1 us (undS l0 l1 k).1), und ++ [qk])) := ⟨by
        show (fillW _ _ _, _ ++ [_]) = _
        rw [hUB, hqk, hund, hfr, hpk]⟩
      have HUL : Aside0 (und.length ≤ 3) := ⟨by omega⟩
      have HUL1 : Aside0 ((und ++ [qk]).length = k + 1) := ⟨by rw [List.length_append, hul]; rfl⟩
      have HK2 := Aside0.mk hk2
      have HGK := Aside0.mk hgk
      have HLT := Aside0.mk hlt
      clear hund hul hfr hus hpk hUB hqk hwl hlt hk hgk
      go_wp2_with (first | (go_at_call 19; (with_reducible refine (HPT.out fr 30 (fr : Int) 30 _ _ _ rfl rfl (by omega) HP.out.mkr.bl HUS.out HPK.out).mono ?_); rintro e w4 ⟨A4, cc4, rfl, hr4, hb4⟩; have HPL4 := Aside0.mk (HP.out.below hb4); have HR4 := Aside0.mk (Kd.R_lower hr4 HP.out.mkr.bl.size); have HU4 := Aside0.mk (Kd.R_below HRU.out hb4); clear hr4 hb4) | (go_at_call 25; (with_reducible refine (HRES.out _ _ _ HPL4.out.mkr).mono ?_); rintro e w5 ⟨rfl, vw5, hm5, hf5⟩; have HPL5 := Aside0.mk (HPL4.out.step hm5 hf5); have HR5 := Aside0.mk (Fr.row HPL4.out.mkr hf5 HR4.out); have HU5 := Aside0.mk (Fr.row HPL4.out.mkr hf5 HU4.out); clear hm5 hf5) | (go_at_call 26; (with_reducible refine (fill_calls HPL5.out.mkr qk A4 cc4 30 pk HPKN.out HR5.out HPKX.out (by omega)).mono ?_); rintro e w7 ⟨rfl, hm7, hf7⟩; have HPL7 := Aside0.mk (HPL5.out.step hm7 hf7); have HU7 := Aside0.mk (Fr.row HPL5.out.mkr hf7 HU5.out); clear hm7 hf7) | ((with_reducible refine gate_builtin (b := .append) (xs := #[.tmp 90, .tmp 92]) rfl ?_); at_builtin; refine Kd.R_append I (w0 := w) (W := w7) w.heap.size rfl (.tmp 90) (.tmp 92) 22 3 (.int .i64 0) 8 rfl Try.underlying22 infoI rfl (by decide) (by omega) (.slice Au k cu) und qk [.int .i64 qk] (fun _ => True) (fun _ => False) rfl ?aX ?aP ?aK ?aF ?aO ?aB ?aS ?aL ?_; (case aX => with_unfolding_all rfl); (case aP => with_unfolding_all rfl); (case aK => exact fun k hk => hk.elim); (case aF => exact fun _ _ => trivial); (case aO => exact HU7.out); (case aB => exact HPL7.out.mkr.bl); (case aS => exact HPL7.out.mkr.bl.size); (case aL => have h_ := HUL.out; omega); intro v8 w8 ho hb hg hat; obtain ⟨A8, c8, rfl⟩ := Kd.R_slice ho; have HO8 := Aside0.mk ho; have HPL8 := Aside0.mk (HPL7.out.app HU7.out hg); clear ho hb hg hat))
      go_roundg (4 - (k + 1))
      case measure => have := HK2.out; have := HGK.out; omega
      case rel =>
        have h1 := HPL8.out
        have h2 := HO8.out
        rw [List.length_append] at h2
        exact ⟨k + 1, _, by have := HK2.out; omega, Nat.le_refl _, by have h3 := HFRK.out; have h4 := HK2.out; rw [show 34 + 30 * (k + 1) = fr + 30 by omega, show wrap64 ((fr : Int) + 30) = ((fr + 30 : Nat) : Int) by unfold wrap64; omega], ⟨.inr (by have := HFRK.out; have := HLT.out; omega)⟩, ⟨by rw [HNX.out]; exact h1⟩, ⟨by rw [HNX.out]; exact h2⟩⟩
    · have b2 : decide (fr < n) = false := decide_eq_false hlt
      have HRD : Aside0 (rnd l0 = k) := ⟨by unfold rnd; rw [HN0.out]; have := HKN.out; omega⟩
      have HUX : Aside0 (∀ x ∈ und, 0 ≤ x ∧ x < 4294967296) := ⟨by rw [← hund]; exact HOK.out.und k hk⟩
      have HK3 : Aside0 (k ≤ 32) := ⟨by omega⟩
      have HWE : Aside0 (fillW q34 (pageL und) (undS l0 l1 k).1 = wsOf l0 l1) := ⟨by unfold wsOf; rw [HRD.out, HDBL.out, hund]⟩
      have c99 : wr.cell? ⟨nb, 9, none⟩ = some (.int .i64 q34) := blk_cell HP.out.nod 9
      clear hund hul hfr hlt hk hgk HKN
      go_wp2_with (go_at_call 26; (with_reducible refine (fill_calls HP.out.mkr q34 Au cu k und HUK.out HRU.out HUX.out HK3.out).mono ?_); rintro e w7 ⟨rfl, hm7, hf7⟩; have hp7 := HP.out.step hm7 hf7; have HPL7 := Aside0.mk hp7; clear hm7 hf7 hp7)
      have hp7 := HPL7.out
      rw [HWE.out] at hp7
      obtain ⟨Aw, cw, rfl⟩ := Kd.R_slice hp7.mkr.hw
      have hpd : PlW w w7.drew nb m A0 n c0 A1 c1 l1 ⟨1, [d0, d1, d2, d3], q4, q34⟩ (.slice Aw (wsOf l0 l1).length cw) (wsOf l0 l1) := hp7.below (below_drew (Below.refl _ _))
      obtain ⟨w10, hst, hz10, hg10, hs10⟩ := Whole.run_store (P := Try.prog) 32 (w.heap.size + 1) 0 32 zNd.c (⟨1, [d0, d1, d2, d3], q4, q34⟩ : Nd).c (⟨1, [d0, d1, d2, d3], q4, q34⟩ : Nd).c hpd.res (Nat.le_refl _) infoND (ndc_one _) rfl
      have HST := Aside0.mk hst
      have HZ := Aside0.mk hz10
      have HG := Aside0.mk hg10
      have HPD := Aside0.mk hpd
      have HSN : Aside0 (∀ W : World, Below w7.heap.size w7 W → (Instr.loadAt 32 (.pointer (some ⟨nb, 0, none⟩))).run Try.prog W = .ok (.agg (⟨1, [d0, d1, d2, d3], q4, q34⟩ : Nd).c) W) := ⟨fun W hW => by
        have h := Whole.run_load (P := Try.prog) (w := W) 32 ⟨nb, 0, none⟩ (⟨1, [d0, d1, d2, d3], q4, q34⟩ : Nd).c.toList _ (Whole.cells_at (blk_below hp7.nod hW) 0 _ (fun j u hj => by rw [Nat.zero_add, ← Array.getElem?_toList]; exact hj)) Try.underlying32 rfl infoND
        exact h⟩
      have HSM : Aside0 (∀ W : World, Below w7.heap.size w7 W → W.cell? ⟨m, 1, none⟩ = some (.slice Aw (wsOf l0 l1).length cw)) := ⟨fun W hW => pw_cell_below hW (blk_cell hp7.mkr.hm 1)⟩
      have hnn : w.heap.size + 1 ≠ nb := by have := hp7.hnb; omega
      have hnm : w.heap.size + 1 ≠ m := blk_ne hpd.res hpd.mkr.hm (by decide)
      have HSN10 : Aside0 ((Instr.loadAt 32 (.pointer (some ⟨nb, 0, none⟩))).run Try.prog w10 = .ok (.agg (⟨1, [d0, d1, d2, d3], q4, q34⟩ : Nd).c) w10) := ⟨by
        have h := Whole.run_load (P := Try.prog) (w := w10) 32 ⟨nb, 0, none⟩ (⟨1, [d0, d1, d2, d3], q4, q34⟩ : Nd).c.toList _ (Whole.cells_at (blk_grown hpd.nod hg10 (fun e => hnn (Option.some.inj e).symm)) 0 _ (fun j u hj => by rw [Nat.zero_add, ← Array.getElem?_toList]; exact hj)) Try.underlying32 rfl infoND
        exact h⟩
      have HSM10 : Aside0 (w10.cell? ⟨m, 1, none⟩ = some (.slice Aw (wsOf l0 l1).length cw)) := ⟨blk_cell (blk_grown hpd.mkr.hm hg10 (fun e => hnm (Option.some.inj e).symm)) 1⟩
      clear hp7 hst hz10 hg10 hpd hnn hnm
      refine start_ (n := 8) (S := fun w' => (Instr.loadAt 32 (.pointer (some ⟨nb, 0, none⟩))).run Try.prog w' = .ok (.agg (⟨1, [d0, d1, d2, d3], q4, q34⟩ : Nd).c) w' ∧ w'.cell? ⟨m, 1, none⟩ = some (.slice Aw (wsOf l0 l1).length cw)) (ds := []) #[false, false, false, false, false, false, false, false] (by kernel_rfl) rfl rfl ⟨HSN.out _ (below_drew (Below.refl _ _)), HSM.out _ (below_drew (Below.refl _ _))⟩ (fun hHeld => ?_)
      refine pure_ (i := 1) (N := some 100) (v := ?_) (a' := ?_) #[false, true, false, false, false, false, false, false] rfl rfl (by kernel_rfl) (fun _ _ _ h => h) (Or.inl ⟨by rfl, ?_⟩) ?_ ?_
      rotate_left
      · intro w'
        go_simp
        with_reducible rfl
      rotate_left
      · simp only [Act.put, List.setIfInBounds_toArray, List.set_cons_zero, List.set_cons_succ, i64_w, i32_w]
        rfl
      refine pure_ (i := 2) (N := some 101) (v := ?_) (a' := ?_) #[false, true, true, false, false, false, false, false] rfl rfl (by kernel_rfl) (fun _ _ _ h => h) (Or.inl ⟨by rfl, ?_⟩) ?_ ?_
      rotate_left
      · intro w'
        go_simp
        with_reducible rfl
      rotate_left
      · simp only [Act.put, List.setIfInBounds_toArray, List.set_cons_zero, List.set_cons_succ, i64_w, i32_w]
        rfl
      refine pure_ (i := 3) (N := some 102) (v := ?_) (a' := ?_) #[false, true, true, true, false, false, false, false] rfl rfl (by kernel_rfl) (fun _ _ _ h => h) (Or.inl ⟨by rfl, ?_⟩) ?_ ?_
      rotate_left
      · intro w'
        go_simp
        with_reducible rfl
      rotate_left
      · simp only [Act.put, List.setIfInBounds_toArray, List.set_cons_zero, List.set_cons_succ, i64_w, i32_w]
        rfl
      refine take_ (i := 0) (N := some 99) (v := ?_) (a' := ?_) #[true, true, true, true, false, false, false, false] rfl rfl (by kernel_rfl) (fun _ _ _ h => h) (Or.inl ⟨by rfl, ?_⟩) hHeld ?_ ?_
      rotate_left
      · rintro w' ⟨s0, s1⟩
        refine (Whole.exec_load _ (.tmp 9) ?_ (.pointer (some ⟨nb, 0, none⟩)) _ ?_ s0).trans ?_ <;> rfl
      rotate_left
      · simp only [Act.put, List.setIfInBounds_toArray, List.set_cons_zero, List.set_cons_succ, i64_w, i32_w]
        rfl
      refine take_ (i := 4) (N := some 103) (v := ?_) (a' := ?_) #[true, true, true, true, true, false, false, false] rfl rfl (by kernel_rfl) (fun _ _ _ h => h) (Or.inl ⟨by rfl, ?_⟩) hHeld ?_ ?_
      rotate_left
      · rintro w' ⟨s0, s1⟩
        go_simp
        with_reducible rfl
      rotate_left
      · simp only [Act.put, List.setIfInBounds_toArray, List.set_cons_zero, List.set_cons_succ, i64_w, i32_w]
        rfl
      refine one_ (i := 5) (N := none) #[true, true, true, true, true, true, false, false] rfl rfl (by kernel_rfl) (by decide) (fun K hK => ?_)
      refine skip_ (w1 := w10) (by rfl) rfl ?_ ?_
      · exact Whole.exec_store _ (.tmp 4) (.tmp 99) rfl _ _ (by rfl) (by rfl) HST.out
      refine hK.out _ _ ⟨HSN10.out, HSM10.out⟩ (fun hHeld => ?_)
      clear hK K
      refine pure_ (i := 6) (N := some 5) (v := ?_) (a' := ?_) #[true, true, true, true, true, true, true, false] rfl rfl (by kernel_rfl) (fun _ _ _ h => h) (Or.inl ⟨by rfl, ?_⟩) ?_ ?_
      rotate_left
      · intro w'
        go_simp
        with_reducible rfl
      rotate_left
      · simp only [Act.put, List.setIfInBounds_toArray, List.set_cons_zero, List.set_cons_succ, i64_w, i32_w]
        rfl
      refine pure_ (i := 7) (N := some 6) (v := ?_) (a' := ?_) #[true, true, true, true, true, true, true, true] rfl rfl (by kernel_rfl) (fun _ _ _ h => h) (Or.inl ⟨by rfl, ?_⟩) ?_ ?_
      rotate_left
      · intro w'
        go_simp
        with_reducible rfl
      rotate_left
      · simp only [Act.put, List.setIfInBounds_toArray, List.set_cons_zero, List.set_cons_succ, i64_w, i32_w]
        rfl
      refine done_ (by kernel_rfl) ?_

      go_wp2
      refine bodyPost_ret (results_ctt rfl _ _ (w.heap.size + 1) _ _ _ _ rfl HZ.out Try.underlying32 rfl infoND) rfl ?_
      rw [HND.out]
      refine ⟨_, rfl, ?_, below_of_new HPD.out.mkr.bl HG.out (by omega)⟩
      exact Kd.R_mono (Kd.R_step (Kd.R_types HPD.out.mkr.hw HPD.out.res (by decide)) (fun k ho hk => HG.out.block k hk (fun e => ho.2 (Option.some.inj e)))) (fun _ _ => trivial)
end Go.Proofs.Ytbdbjlfdnijfeaa.Tree
