/- For all worlds: the reference's Plan where it succeeds. Conditions: the lists can be read. -/
import Derived.Test.YtbdbjlfdnijfeaaTree33
import Derived.Test.YtbdbjlfdnijfeaaTree24
namespace Go.Proofs.Ytbdbjlfdnijfeaa.Tree
open Go Go.RowKit Go.Maps Go.Proofs.YtbdbjlfdnijfeaaW.PrintWords Go.Proofs.YtbdbjlfdnijfeaaW.PrintLast Go.Proofs.YtbdbjlfdnijfeaaW.PrintMore
open Go.Proofs.Ytbdbjlfdnijfeaa.PAll
set_option linter.unusedVariables false
set_option linter.unusedSimpArgs false
set_option maxRecDepth 100000
/-- The reference's plan under way: the answer's block, the node's block, the writes so far. -/
structure Rp (w W : World) (nb : Nat) (nd : Nd) (vo : Value) (ws : List Wr) : Prop where
  res : W.heap[w.heap.size]? = some (.cells zNd.c 32 (0, 0))
  nod : W.heap[nb]? = some (.cells nd.c 32 (0, 0))
  out : kW.R 59 W w.heap.size (fun _ => True) vo ws
  bl : Below w.heap.size w W
  hnb : w.heap.size + 1 ≤ nb
section
variable {w W W1 : World} {nb : Nat} {nd : Nd} {vo v1 : Value} {ws : List Wr}
theorem Rp.moved (h : Rp w W nb nd vo ws) (hb : Below W.heap.size W W1) : Rp w W1 nb nd vo ws :=
  ⟨blk_below h.res hb, blk_below h.nod hb, Kd.R_below h.out hb, below_step h.bl hb, h.hnb⟩
theorem Rp.node (h : Rp w W nb nd vo ws) (i : Nat) (u : Value) {nd1 : Nd} (hc : nd.c.setIfInBounds i u = nd1.c) : Rp w (W.setCell ⟨nb, i, none⟩ u) nb nd1 vo ws := by
  have h1 := blk_set h.nod i u
  rw [hc] at h1
  exact ⟨(heap_setCell_other _ _ _ _ (by have := h.hnb; show w.heap.size ≠ nb; omega)).trans h.res, h1, Kd.R_set h.out h.nod (by decide) i u, h.bl.setCell (p := ⟨nb, i, none⟩) (by have := h.hnb; show w.heap.size ≤ nb; omega) _, h.hnb⟩
theorem Rp.app {ws1 : List Wr} (h : Rp w W nb nd vo ws) (ho : kW.R 59 W1 w.heap.size (fun _ => True) v1 ws1) (hb : Below w.heap.size w W1) (hg : W.grownBy W1 vo.ownBlock) : Rp w W1 nb nd v1 ws1 :=
  ⟨blk_grown h.res hg (Kd.R_ne h.out h.res (by decide)), blk_grown h.nod hg (Kd.R_ne h.out h.nod (by decide)), ho, hb, h.hnb⟩
theorem below_none {W W1 : World} (hg : W.grownBy W1 none) : Below W.heap.size W W1 :=
  ⟨hg.os, hg.tape, hg.output, hg.size, fun k hk => hg.block k hk (by intro e; cases e)⟩
theorem Rp.done {W1 : World} (h : Rp w W nb nd vo ws) (hg : W.grownBy W1 (some w.heap.size)) : kW.R 59 W1 w.heap.size (fun _ => True) vo ws ∧ Below w.heap.size w W1 :=
  ⟨Kd.R_mono (Kd.R_step (Kd.R_types h.out h.res (by decide)) (fun k ho hk => hg.block k hk (fun e => ho.2 (Option.some.inj e)))) (fun _ _ => trivial), below_of_new h.bl hg (Nat.le_refl _)⟩
theorem Rp.over {ok : Nat → Prop} {vu : Value} {l : List Int} (h : Rp w W nb nd vo ws) (hr : I.R 3 W w.heap.size ok vu l) (hg : W.grownBy W1 vu.ownBlock) (hb : Below w.heap.size w W1) : Rp w W1 nb nd vo ws :=
  ⟨blk_grown h.res hg (Kd.R_ne hr h.res (by decide)), blk_grown h.nod hg (Kd.R_ne hr h.nod (by decide)), Kd.R_over h.out hr (by decide) hg, hb, h.hnb⟩
theorem row_far {b0 : Nat} {ok : Nat → Prop} {v vu : Value} {p : List Int} (h : I.R 3 W b0 ok v p) (hu : ∀ k, vu.ownBlock = some k → k < b0) (hg : W.grownBy W1 vu.ownBlock) : I.R 3 W1 b0 ok v p :=
  Kd.R_mono (Kd.R_step (Kd.R_bound h) (fun k hk hlt => hg.block k hlt (fun e => by have h1 := hu k e.symm; have h2 := hk.2.1; omega))) (fun _ hk => hk.1)
theorem step30 {k fr : Nat} (h : 34 + 30 * k = fr) (hk : k < 3) : Value.int .i64 (wrap64 ((fr : Int) + 30)) = .int .i64 ((34 + 30 * (k + 1) : Nat) : Int) := by
  rw [show 34 + 30 * (k + 1) = fr + 30 by omega, show wrap64 ((fr : Int) + 30) = ((fr + 30 : Nat) : Int) by unfold wrap64; omega]
theorem step1 {m : Nat} (h : m ≤ 100) : Value.int .i64 (wrap64 ((m : Int) + 1)) = .int .i64 ((m + 1 : Nat) : Int) := by
  rw [show wrap64 ((m : Int) + 1) = ((m + 1 : Nat) : Int) by unfold wrap64; omega]
theorem Rp.put {gw n cw k : Nat} {b : Wr} {v3 : Value} {pl : List Int} (h : Rp w W nb nd (.slice (some ⟨gw, 0, none⟩) n cw) ws) (hb : Below W.heap.size W W1) (hk : ws[k]? = some b) (hr : U.R 5 W1 W.heap.size (fun _ => True) v3 pl) :
    Rp w (W1.setCell ⟨gw, k * 2 + 1, none⟩ v3) nb nd (.slice (some ⟨gw, 0, none⟩) n cw) (ws.set k ⟨b.tgt, pl⟩) ∧ ∃ vo, W1.cell? ⟨gw, k * 2 + 1, none⟩ = some vo ∧ W1.frozen? ⟨gw, k * 2 + 1, none⟩ = false := by
  have h1 := h.moved hb
  have hn := (Kd.R_reads' h1.out).1
  have hkl : k < ws.length := (List.getElem?_eq_some_iff.1 hk).1
  have hgw : gw < W.heap.size := Kd.R_lt h.out gw (by simp [Value.ownBlock])
  have hbase : w.heap.size ≤ gw := Kd.R_base h.out gw (by simp [Value.ownBlock])
  have hne : ∀ {g : Nat} {cells : Array Value}, W1.heap[g]? = some (.cells cells 32 (0, 0)) → g ≠ gw := fun hg e => (Kd.R_ne h1.out hg (by decide)) (by rw [e]; simp [Value.ownBlock])
  obtain ⟨c, hcl, hM, hcc, hfz⟩ := Kd.R_elem h1.out zW (k : Int) (by omega) (by omega)
  rw [Int.toNat_natCast, List.getD_eq_getElem?_getD, hk] at hM
  obtain ⟨vo, rfl, hvo⟩ := kW_openM hM
  have hrow : U.R 5 W1 w.heap.size (fun j => j ≠ gw) v3 pl := Kd.R_lower (Kd.R_mono (Kd.R_bound hr) (fun j hj => by have := hj.2.1; omega)) h.bl.size
  obtain ⟨h2, h3⟩ := Kd.R_seg h1.out (k : Int) (by omega) (by omega) hcl hcc (j := 1) (seg := [v3]) (Nat.le_refl 2) (x' := ⟨b.tgt, pl⟩) (okp := fun j => j ≠ gw) (kW_mkM W1 w.heap.size _ ⟨b.tgt, pl⟩ hrow) (fun j hj => ⟨trivial, hj⟩)
  rw [Int.toNat_natCast] at h2 h3 hcc hfz
  have e : W1.setCells gw (k * kW.sz + 1) [v3] = W1.setCell ⟨gw, k * 2 + 1, none⟩ v3 := rfl
  rw [e] at h2 h3
  exact ⟨⟨blk_grown h1.res h3 (fun e => hne h1.res (Option.some.inj e)), blk_grown h1.nod h3 (fun e => hne h1.nod (Option.some.inj e)), h2, h1.bl.setCell (p := ⟨gw, k * 2 + 1, none⟩) hbase _, h.hnb⟩, vo, hcc 1 _ rfl, hfz 1⟩
theorem page_M {v : Value} {pl : List Int} {t : Int} (h : Rp w W nb nd vo ws) (hr : U.R 5 W1 W.heap.size (fun _ => True) v pl) : kW.M W1 w.heap.size (fun j => some j ≠ vo.ownBlock) ⟨t, pl⟩ [.int .i64 t, v] :=
  kW_mkM W1 w.heap.size _ ⟨t, pl⟩ (Kd.R_lower (Kd.R_mono (Kd.R_bound hr) (fun j hj e => by have h1 := Kd.R_lt h.out j e.symm; have h2 := hj.2.1; omega)) h.bl.size)
end
set_option maxHeartbeats 4000000 in
theorem rplan_start (A0 : Option Addr) (c0 n : Nat) (l0 : List Int) (hn : l0.length = n) (A1 : Option Addr) (c1 n1 : Nat) (l1 : List Int) (hn1 : l1.length = n1) (w : World) (hr0 : I.C w A0 n l0) (hc0 : n ≤ c0) (hr1 : I.C w A1 n1 l1) (hc1 : n1 ≤ c1) (hok : Ok l0 l1) :
    Calls Try.prog 12 #[.slice A0 n c0, .slice A1 n1 c1] w fun e w' => ∃ v, e = .returned (.tuple #[.agg (ndOf l0 l1).c, v, .int .i64 0]) ∧ kW.R 59 w' w.heap.size (fun _ => True) v (wsOf l0 l1) ∧ Below w.heap.size w w' := by
  have HN0 := Aside0.mk hn
  have HN1 := Aside0.mk hn1
  have HR0 := Aside0.mk hr0
  have HR1 := Aside0.mk hr1
  have HC0 := Aside0.mk hc0
  have HC1 := Aside0.mk hc1
  have HOK := Aside0.mk hok
  have hl96 := ptsB_len hok.pts
  have hk : needN l0 ≤ 5 := by
    rw [need_eq hl96]
    have := unN_le l0 3
    split <;> split <;> omega
  have HP : Aside0 (∀ W, Below w.heap.size w W → Calls Try.prog 8 #[.slice A0 n c0] W fun e w' => e = .returned (.bool true) ∧ Below W.heap.size W w') := ⟨fun W hW => by
    have h := drydockref11_Pointers.calls 97 A0 c0 l0 _ W (by rw [hn]; exact Kd.C_below hr0 hW) (by rw [hn]; exact hc0) (refPointers_eq l0 97 (by omega))
    rw [hn, hok.pts] at h
    exact h⟩
  have HNE : Aside0 (∀ W, Below w.heap.size w W → Calls Try.prog 10 #[.slice A0 n c0] W fun e w' => e = .returned (.int .i64 (needN l0 : Int)) ∧ Below W.heap.size W w') := ⟨fun W hW => by
    have h := drydockref11_Need.calls 41 A0 c0 l0 _ W (by rw [hn]; exact Kd.C_below hr0 hW) (by rw [hn]; exact hc0) (refNeed_eq l0 41 (by omega))
    rw [hn] at h
    exact h⟩
  have HFR : Aside0 (∀ W, Below w.heap.size w W → Calls Try.prog 27 #[.slice A1 n1 c1, .int .i64 (needN l0 : Int), .slice A0 n c0] W fun e w' => e = .returned (.int .i64 0) ∧ Below W.heap.size W w') := ⟨fun W hW => by
    have hap : apartB [] l0 = true := by
      have hp := hok.pts
      unfold ptsB at hp
      rw [Bool.and_eq_true] at hp
      exact hp.1
    have h := refFresh_calls A1 c1 n1 l1 hn1 (needN l0) _ rfl A0 c0 n l0 hn W (Kd.C_below hr1 hW) hc1 (Kd.C_below hr0 hW) (by rw [← hn]; omega) (by omega)
    rw [rFresh_eq _ _ _ hap, show freshF l1 (needN l0) l0 = 0 from by unfold freshF; rw [if_neg (by have := hok.len; omega), hok.fresh, if_pos rfl]] at h
    exact h⟩
  have HAT : Aside0 (∀ (i : Nat) (iI : Int) (W : World), (i : Int) = iI → Below w.heap.size w W → Calls Try.prog 28 #[.slice A0 n c0, .int .i64 iI] W fun e w' => e = .returned (.int .i64 (l0.getD i 0)) ∧ Drawn0 W w') := ⟨fun i iI W hi hW => by
    subst hi
    have h := drydockref11_at.calls A0 c0 l0 (i : Int) _ W (by rw [hn]; exact Kd.C_below hr0 hW) (by rw [hn]; exact hc0) (at_eq l0 i)
    rw [hn] at h
    exact h⟩
  have HPT : Aside0 (∀ (fr cnt : Nat) (frI cntI : Int) (W : World) (s : Bool) (p : List Int), (fr : Int) = frI → (cnt : Int) = cntI → fr + cnt ≤ 1000 → Below w.heap.size w W → someB (partL l0 fr cnt) = s → partL l0 fr cnt = p → Calls Try.prog 21 #[.slice A0 n c0, .int .i64 frI, .int .i64 cntI] W fun e w' => ∃ A c, e = .returned (.tuple #[.slice A cnt c, .bool s]) ∧ I.R 3 w' W.heap.size (fun _ => True) (.slice A cnt c) p ∧ Below W.heap.size W w') := ⟨fun fr cnt frI cntI W s p hf hc hs hW h3 h4 => by
    have h := drydockref11_part.calls (cnt + 1) A0 c0 l0 frI cntI _ _ W (by rw [hn]; exact Kd.C_below hr0 hW) (by rw [hn]; exact hc0) (refPart_eq l0 fr cnt frI cntI hf hc hs (cnt + 1) (by omega))
    rw [hn] at h
    refine h.mono fun e w' h => ?_
    obtain ⟨v, he, hr, hb⟩ := h
    obtain ⟨A, c, rfl⟩ := Kd.R_slice hr
    rw [partL_length] at he hr
    rw [h3] at he
    rw [h4] at hr
    exact ⟨A, c, he, hr, hb⟩⟩
  have HPG : Aside0 (∀ (W : World) (A : Option Addr) (m c : Nat) (xs : List Int), xs.length = m → m ≤ 30 → (∀ x ∈ xs, 0 ≤ x ∧ x < 65536) → I.C W A m xs → m ≤ c → Calls Try.prog 29 #[.slice A m c] W fun e w' => ∃ v, e = .returned v ∧ U.R 5 w' W.heap.size (fun _ => True) v (pageL xs) ∧ Below W.heap.size W w') := ⟨fun W A m c xs hm h30 hx hC hc => by
    have h := drydockref11_page.calls 34 A c xs (pageL xs) W (by rw [hm]; exact hC) (by rw [hm]; exact hc) (refPage_eq xs (by omega) hx 34 (by omega))
    rw [hm] at h
    exact h⟩
  obtain ⟨nd, hnd⟩ : ∃ q : Int, (needN l0 : Int) = q := ⟨_, rfl⟩
  rw [hnd] at HNE HFR
  clear hr0 hr1 hn hn1 hc0 hc1 hok hl96 hk hnd
  go_enter Try.func12, Try.ntmps12
  go_wp2_with (first | (go_at_call 8; (with_reducible refine (HP.out _ (below_alloc (Below.refl _ _) _)).mono ?_); rintro e w1 ⟨rfl, hb⟩; have HB := Aside0.mk hb; clear hb) | (go_at_call 10; (with_reducible refine (HNE.out _ ?c0).mono ?_); (case c0 => exact below_step (below_alloc (Below.refl _ _) _) HB.out); rintro e w2 ⟨rfl, hb⟩; have HB2 := Aside0.mk (below_step HB.out hb); clear hb) | (go_at_call 27; (with_reducible refine (HFR.out _ ?c0).mono ?_); (case c0 => exact below_step (below_alloc (Below.refl _ _) _) HB2.out); rintro e w4 ⟨rfl, hb⟩; have HB4 := Aside0.mk (below_step HB2.out hb); clear hb) | ((with_reducible refine gate_ (.store 32 (.tmp 8) (.tmp 32)) rfl ?_); refine Whole.store_ ?sg ?sn 32 (.tmp 8) (.tmp 32) ?so w4.heap.size 0 32 zNd.c (⟨1, [], 0, 0⟩ : Nd).c (⟨1, [], 0, 0⟩ : Nd).c ?sx ?sy (blk_new w4 _) ?sf infoND ?s1 ?sw ?_; (case sg => rfl); (case sn => rfl); (case so => rfl); (case sx => with_unfolding_all rfl); (case sy => with_unfolding_all rfl); (case sf => with_unfolding_all exact (show 12 ≤ 12 from by decide)); (case s1 => exact ndc_one _); (case sw => with_unfolding_all rfl); intro w5 hz hg hs; have HZ5 := Aside0.mk hz; have HG5 := Aside0.mk hg; clear hz hg hs))
  have hbz : Below w.heap.size w w4 := below_step (below_alloc (Below.refl _ _) _) HB4.out
  have hw5 : w4.heap.size ≥ w.heap.size + 1 := by have := HB4.out.size; rw [World.size_alloc] at this; exact this
  have hrp : Rp w w5 w4.heap.size ⟨1, [], 0, 0⟩ (.slice none 0 0) [] := ⟨blk_grown (blk_alloc (blk_below (blk_new w (.cells zNd.c 32)) HB4.out) (.cells zNd.c 32)) HG5.out (fun e => by have := Option.some.inj e; omega), HZ5.out, Kd.R_nil _ _ _ _ _, below_of_new (below_alloc hbz _) HG5.out (by omega), hw5⟩
  obtain ⟨nb, hnb⟩ : ∃ q, w4.heap.size = q := ⟨_, rfl⟩
  rw [hnb] at hrp
  rw [hnb]
  clear hbz hw5 hnb HB HB2 HB4 HZ5 HG5 HP HNE HFR
  have HRP := Aside0.mk hrp
  clear hrp
  go_loopg [9] 4 (fun gg i wr => ∃ k : Nat, k ≤ 4 ∧ 4 - k ≤ gg ∧ i = .int .i64 k ∧ Aside0 (Rp w wr nb ⟨1, partL l0 0 k, 0, 0⟩ (.slice none 0 0) []))
  case atStart => exact ⟨0, by omega, Nat.le_refl _, rfl, by rw [show partL l0 0 0 = [] from by simp [partL]]; exact HRP⟩
  case round =>
    clear HRP
    obtain ⟨k, hk, hgk, rfl, HR⟩ := hrel
    obtain ⟨a, ha⟩ : ∃ q, l0.getD k 0 = q := ⟨_, rfl⟩
    have HAK : Aside0 (partL l0 0 (k + 1) = partL l0 0 k ++ [a]) := ⟨by rw [partL_succ, Nat.zero_add, ha]⟩
    have HAC : Aside0 (∀ (iI : Int) (W : World), (k : Int) = iI → Below w.heap.size w W → Calls Try.prog 28 #[.slice A0 n c0, .int .i64 iI] W fun e w' => e = .returned (.int .i64 a) ∧ Drawn0 W w') := ⟨fun iI W hi hW => by rw [← ha]; exact HAT.out k iI W hi hW⟩
    have HPLN : Aside0 ((partL l0 0 k).length = k) := ⟨partL_length _ _ _⟩
    clear ha
    by_cases hlt : k < 4
    · have hk4 : k = 0 ∨ k = 1 ∨ k = 2 ∨ k = 3 := by omega
      obtain ⟨pl, hpl⟩ : ∃ q, partL l0 0 k = q := ⟨_, rfl⟩
      rw [hpl] at HR HAK HPLN
      clear hpl hlt hk
      rcases hk4 with rfl | rfl | rfl | rfl
      · obtain rfl : pl = [] := List.length_eq_zero_iff.1 HPLN.out
        clear HPLN HAT
        go_wp2_with (first | (go_at_call 28; (with_reducible refine (HAC.out 0 _ rfl HR.out.bl).mono ?_); rintro e w6 ⟨rfl, hd⟩; have hr6 := HR.out.moved hd.below; have c6 : w6.cell? ⟨nb, 4, none⟩ = some (.int .i64 0) := blk_cell hr6.nod 4; have f6 : w6.frozen? ⟨nb, 4, none⟩ = false := blk_frozen hr6.nod 4; have HR6 : Aside0 (Rp w (w6.setCell ⟨nb, 4, none⟩ (.int .i64 a)) nb ⟨1, [a], 0, 0⟩ (.slice none 0 0) []) := ⟨hr6.node 4 (.int .i64 a) (nd1 := ⟨1, [a], 0, 0⟩) rfl⟩; clear hd hr6))
        go_roundg 3
        case measure => omega
        case rel => exact ⟨1, by omega, by omega, rfl, ⟨by rw [HAK.out]; exact HR6.out⟩⟩
      · have hpl := HPLN.out
        obtain ⟨x0, rfl⟩ : ∃ x0, pl = [x0] := by rcases pl with _ | ⟨y0, _ | ⟨y1, _ | ⟨y2, _ | ⟨y3, r⟩⟩⟩⟩ <;> simp at hpl <;> exact ⟨y0, rfl⟩
        clear HPLN HAT hpl
        go_wp2_with (first | (go_at_call 28; (with_reducible refine (HAC.out 1 _ rfl HR.out.bl).mono ?_); rintro e w6 ⟨rfl, hd⟩; have hr6 := HR.out.moved hd.below; have c6 : w6.cell? ⟨nb, 5, none⟩ = some (.int .i64 0) := blk_cell hr6.nod 5; have f6 : w6.frozen? ⟨nb, 5, none⟩ = false := blk_frozen hr6.nod 5; have HR6 : Aside0 (Rp w (w6.setCell ⟨nb, 5, none⟩ (.int .i64 a)) nb ⟨1, [x0, a], 0, 0⟩ (.slice none 0 0) []) := ⟨hr6.node 5 (.int .i64 a) (nd1 := ⟨1, [x0, a], 0, 0⟩) rfl⟩; clear hd hr6))
        go_roundg 2
        case measure => omega
        case rel => exact ⟨2, by omega, by omega, rfl, ⟨by rw [HAK.out]; exact HR6.out⟩⟩
      · have hpl := HPLN.out
        obtain ⟨x0, x1, rfl⟩ : ∃ x0 x1, pl = [x0, x1] := by rcases pl with _ | ⟨y0, _ | ⟨y1, _ | ⟨y2, _ | ⟨y3, r⟩⟩⟩⟩ <;> simp at hpl <;> exact ⟨y0, y1, rfl⟩
        clear HPLN HAT hpl
        go_wp2_with (first | (go_at_call 28; (with_reducible refine (HAC.out 2 _ rfl HR.out.bl).mono ?_); rintro e w6 ⟨rfl, hd⟩; have hr6 := HR.out.moved hd.below; have c6 : w6.cell? ⟨nb, 6, none⟩ = some (.int .i64 0) := blk_cell hr6.nod 6; have f6 : w6.frozen? ⟨nb, 6, none⟩ = false := blk_frozen hr6.nod 6; have HR6 : Aside0 (Rp w (w6.setCell ⟨nb, 6, none⟩ (.int .i64 a)) nb ⟨1, [x0, x1, a], 0, 0⟩ (.slice none 0 0) []) := ⟨hr6.node 6 (.int .i64 a) (nd1 := ⟨1, [x0, x1, a], 0, 0⟩) rfl⟩; clear hd hr6))
        go_roundg 1
        case measure => omega
        case rel => exact ⟨3, by omega, by omega, rfl, ⟨by rw [HAK.out]; exact HR6.out⟩⟩
      · have hpl := HPLN.out
        obtain ⟨x0, x1, x2, rfl⟩ : ∃ x0 x1 x2, pl = [x0, x1, x2] := by rcases pl with _ | ⟨y0, _ | ⟨y1, _ | ⟨y2, _ | ⟨y3, r⟩⟩⟩⟩ <;> simp at hpl <;> exact ⟨y0, y1, y2, rfl⟩
        clear HPLN HAT hpl
        go_wp2_with (first | (go_at_call 28; (with_reducible refine (HAC.out 3 _ rfl HR.out.bl).mono ?_); rintro e w6 ⟨rfl, hd⟩; have hr6 := HR.out.moved hd.below; have c6 : w6.cell? ⟨nb, 7, none⟩ = some (.int .i64 0) := blk_cell hr6.nod 7; have f6 : w6.frozen? ⟨nb, 7, none⟩ = false := blk_frozen hr6.nod 7; have HR6 : Aside0 (Rp w (w6.setCell ⟨nb, 7, none⟩ (.int .i64 a)) nb ⟨1, [x0, x1, x2, a], 0, 0⟩ (.slice none 0 0) []) := ⟨hr6.node 7 (.int .i64 a) (nd1 := ⟨1, [x0, x1, x2, a], 0, 0⟩) rfl⟩; clear hd hr6))
        go_roundg 0
        case measure => omega
        case rel => exact ⟨4, by omega, by omega, rfl, ⟨by rw [HAK.out]; exact HR6.out⟩⟩
    · obtain rfl : k = 4 := by omega
      obtain ⟨D, hD⟩ : ∃ q, partL l0 0 4 = q := ⟨_, rfl⟩
      have HD := Aside0.mk hD
      rw [hD] at HR
      obtain ⟨p4, hp4⟩ : ∃ q, partL l0 4 30 = q := ⟨_, rfl⟩
      have HP4L := Aside0.mk hp4
      obtain ⟨s4, hs4⟩ : ∃ q, someB (partL l0 4 30) = q := ⟨_, rfl⟩
      have HS4 := Aside0.mk hs4
      have HS4x : Aside0 (someB p4 = s4) := ⟨by rw [← hp4]; exact hs4⟩
      have HP4N : Aside0 (p4.length = 30) := ⟨by rw [← hp4]; exact partL_length _ _ _⟩
      have HP4X : Aside0 (∀ x ∈ p4, 0 ≤ x ∧ x < 65536) := ⟨by rw [← hp4]; exact part_small16 HOK.out.pts 4 30⟩
      obtain ⟨s34, hs34⟩ : ∃ q, someB (partL l0 34 62) = q := ⟨_, rfl⟩
      have HS34 := Aside0.mk hs34
      clear HAK HAC HPLN HAT hlt hk hgk hD hp4 hs34
      cases s4 with
      | false =>
        have HWA : Aside0 (ws1 l0 l1 = []) := ⟨ws1_no (by rw [HP4L.out, HS4x.out]; exact Bool.false_ne_true)⟩
        have HQS : Aside0 (resP l1 (someB (partL l0 4 30)) [] = 0) := ⟨by rw [HP4L.out, HS4x.out]; rfl⟩
        clear hs4
        go_wp2_with (first | ((with_reducible refine gate_dst (N := 43) rfl ?_); (try (refine gate_guard (by rfl) ?_; dsimp only)); refine Kd.R_lit kW (w0 := w) w.heap.size 59 ?hg (N := 43) ?hd (xs := ([] : List Wr)) (inner := []) (ok := fun _ => True) (okp := fun _ => True) ?hr ?hp (fun _ hk => hk) trivial HR.out.bl HR.out.bl.size (by simp) ?_; (case hd => rfl); (case hg => rfl); (case hr => first | (go_simp; done) | (go_simp; rfl)); (case hp => exact (Reps.none _ _)); intro v3 w3 ho3 hb3 hg3 hn3; obtain ⟨Ao, co, e3⟩ := Kd.R_slice ho3; subst e3; have HR3 := Aside0.mk (HR.out.app ho3 hb3 hg3); clear ho3 hb3 hg3 hn3) | (go_at_call 21; (with_reducible refine (HPT.out 4 30 4 30 _ _ _ rfl rfl (by omega) HR3.out.bl HS4.out HP4L.out).mono ?_); rintro e w8 ⟨A4, cc4, rfl, hr4, hb4⟩; have HR4 := Aside0.mk (HR3.out.moved hb4); clear hr4 hb4))
        obtain ⟨q4, hq4⟩ : ∃ q : Int, (0 : Int) = q := ⟨_, rfl⟩
        have HRPA : Aside0 (Rp w w8 nb ⟨1, D, q4, 0⟩ (.slice Ao 0 co) []) := ⟨by rw [← hq4]; exact HR4.out⟩
        rw [hq4] at HQS
        obtain ⟨wsA, hwsA⟩ : ∃ q, ([] : List Wr) = q := ⟨_, rfl⟩
        rw [hwsA] at HWA HRPA
        have HWN : Aside0 (wsA.length = 0) := ⟨by rw [← hwsA]; rfl⟩
        obtain ⟨A8, hA8⟩ : ∃ q, q = Ao := ⟨_, rfl⟩
        obtain ⟨c8, hc8⟩ : ∃ q, q = co := ⟨_, rfl⟩
        subst hA8
        subst hc8
        clear hwsA hq4 HR3 HR4 HR
        cases s34 with
        | false =>
          have HWO : Aside0 (wsOf l0 l1 = wsA ∧ dbl l0 l1 = 0) := ⟨by have h := ws_no (fr := l1) HOK.out (by rw [← part62 (ptsB_len HOK.out.pts), HS34.out]; exact Bool.false_ne_true); rw [HWA.out] at h; exact h⟩
          go_wp2_with (first | (go_at_call 21; (with_reducible refine (HPT.out 34 62 34 62 _ _ _ rfl rfl (by omega) HRPA.out.bl HS34.out rfl).mono ?_); rintro e w9 ⟨A9, cc9, rfl, hr9, hb9⟩; have HR9 := Aside0.mk (HRPA.out.moved hb9); clear hr9 hb9) | ((with_reducible refine gate_ (.load 32 (.tmp 8)) rfl ?_); refine Whole.load_ ?lg 32 (.tmp 8) ?lo ⟨nb, 0, none⟩ (⟨1, D, q4, 0⟩ : Nd).c.toList _ ?lx (Whole.cells_at HR9.out.nod 0 _ (fun j u hj => by rw [Nat.zero_add, ← Array.getElem?_toList]; exact hj)) Try.underlying32 ?ld infoND ?_; (case lg => rfl); (case lo => rfl); (case lx => with_unfolding_all rfl); (case ld => rfl)) | ((with_reducible refine gate_ (.store 32 (.tmp 4) (.tmp 72)) rfl ?_); refine Whole.store_ ?sg ?sn 32 (.tmp 4) (.tmp 72) ?so w.heap.size 0 32 zNd.c (⟨1, D, q4, 0⟩ : Nd).c (⟨1, D, q4, 0⟩ : Nd).c ?sx ?sy HR9.out.res ?sf infoND ?s1 ?sw ?_; (case sg => rfl); (case sn => rfl); (case so => rfl); (case sx => with_unfolding_all rfl); (case sy => with_unfolding_all rfl); (case sf => with_unfolding_all exact (show 12 ≤ 12 from by decide)); (case s1 => exact ndc_one _); (case sw => with_unfolding_all rfl); intro w10 hz hg hs; have HZ10 := Aside0.mk hz; have HG10 := Aside0.mk hg; clear hz hg hs))
          refine bodyPost_ret (results_ctt rfl _ _ (w.heap.size) _ _ _ _ rfl HZ10.out Try.underlying32 rfl infoND) rfl ?_
          rw [HWO.out.1, show ndOf l0 l1 = ⟨1, D, q4, 0⟩ from by unfold ndOf; rw [HD.out, HQS.out, HWO.out.2]]
          exact ⟨_, rfl, HR9.out.done HG10.out⟩
        | true =>
          have hs96 : someB (partL l0 34 96) = true := by rw [← part62 (ptsB_len HOK.out.pts)]; exact HS34.out
          obtain ⟨qd, hqd, hqd2, _⟩ := HOK.out.at_ (HOK.out.room2 hs96)
          have HDB : Aside0 (dbl l0 l1 = qd ∧ ws2 l0 l1 = wsA ++ [⟨qd, []⟩]) := ⟨by obtain ⟨h1, h2⟩ := ws2_yes (fr := l1) hs96; rw [hqd2] at h2; rw [h2, HWA.out] at h1; exact ⟨h2, h1⟩⟩
          rw [HWA.out, HWN.out] at hqd
          obtain ⟨ad, ed, hcd⟩ := at_i HR1.out hqd
          subst ed
          have HFE : Aside0 (∀ W, Below w.heap.size w W → W.cell? ad = some (.int .i64 qd)) := ⟨fun W hW => pw_cell_below hW (by first | exact hcd | (cases ad; exact hcd))⟩
          have hbk1 : (0 : Int) < (n1 : Int) := by have h1 := (List.getElem?_eq_some_iff.1 hqd).1; have h2 := HN1.out; omega
          have hbk2 : 0 < n1 := by omega
          have HS96 := Aside0.mk hs96
          clear hqd hqd2 hcd hs96
          go_wp2_with (first | (go_at_call 21; (with_reducible refine (HPT.out 34 62 34 62 _ _ _ rfl rfl (by omega) HRPA.out.bl HS34.out rfl).mono ?_); rintro e w9 ⟨A9, cc9, rfl, hr9, hb9⟩; have hr9 := HRPA.out.moved hb9; have c9 : w9.cell? ⟨nb, 9, none⟩ = some (.int .i64 0) := blk_cell hr9.nod 9; have f9 : w9.frozen? ⟨nb, 9, none⟩ = false := blk_frozen hr9.nod 9; have HR10 : Aside0 (Rp w (w9.setCell ⟨nb, 9, none⟩ (.int .i64 qd)) nb ⟨1, D, q4, qd⟩ (.slice A8 0 c8) wsA) := ⟨hr9.node 9 _ rfl⟩; have cD9 : w9.cell? ad = some (.int .i64 qd) := HFE.out _ hr9.bl; have cD10 : (w9.setCell ⟨nb, 9, none⟩ (.int .i64 qd)).cell? ad = some (.int .i64 qd) := HFE.out _ HR10.out.bl; clear hr9 hb9) | ((with_reducible refine gate_builtin (b := .append) (xs := #[.tmp 81, .tmp 87]) rfl ?_); at_builtin; refine Kd.R_append kW (w0 := w) (W := w9.setCell ⟨nb, 9, none⟩ (.int .i64 qd)) w.heap.size rfl (.tmp 81) (.tmp 87) 33 59 (.agg #[(.int .i64 0), (.slice none 0 0)]) 32 rfl Try.underlying33 infoW rfl (by decide) (by omega) (.slice A8 0 c8) wsA ⟨qd, []⟩ [.int .i64 qd, .slice none 0 0] (fun _ => True) (fun _ => False) rfl ?aX ?aP ?aK ?aF ?aO ?aB ?aS ?aL ?_; (case aX => rw [World.size_setCell]; with_unfolding_all rfl); (case aP => exact wr_M _ _ _ qd); (case aK => exact fun k hk => hk.elim); (case aF => exact fun _ _ => trivial); (case aO => exact HR10.out.out); (case aB => exact HR10.out.bl); (case aS => exact HR10.out.bl.size); (case aL => have h1_ := HWN.out; omega); intro v11 w11 ho hb hg hat; have HR11 := Aside0.mk (HR10.out.app ho hb hg); clear ho hb hg hat) | ((with_reducible refine gate_dst (N := 91) rfl ?_); (try (refine gate_guard (by rfl) ?_; dsimp only)); refine Kd.R_lit I (w0 := w) w.heap.size 3 ?hg (N := 91) ?hd (xs := ([] : List Int)) (inner := []) (ok := fun _ => True) (okp := fun _ => True) ?hr ?hp (fun _ hk => hk) trivial HR11.out.bl HR11.out.bl.size (by simp) ?_; (case hd => rfl); (case hg => rfl); (case hr => first | (go_simp; done) | (go_simp; rfl)); (case hp => exact (Reps.none _ _)); intro v12 w12 ho12 hb12 hg12 hn12; have HU12 := Aside0.mk ho12; have HR12 := Aside0.mk (HR11.out.moved (below_none hg12)); clear ho12 hb12 hg12 hn12))
          have HST := Aside0.mk HR12.out
          have HSU := Aside0.mk HU12.out
          clear HR10 HR11 HR12 HU12 HRPA HFE c9 f9 cD9 cD10 hbk1 hbk2
          go_loopg [10, 11, 15, 16] 4 (fun gg vo kk vu i wr => ∃ k : Nat, k ≤ 3 ∧ 4 - k ≤ gg ∧ i = .int .i64 ((34 + 30 * k : Nat) : Int) ∧ kk = .int .i64 (((undS l0 l1 k).1.length : Nat) : Int) ∧ Aside0 (Rp w wr nb ⟨1, D, q4, qd⟩ vo (undS l0 l1 k).1) ∧ Aside0 (I.R 3 wr w.heap.size (fun _ => True) vu (undS l0 l1 k).2))
          case atStart => exact ⟨0, by omega, Nat.le_refl _, rfl, by rw [show (undS l0 l1 0).1 = wsA ++ [⟨qd, []⟩] from HDB.out.2, List.length_append, HWN.out]; rfl, ⟨by rw [show (undS l0 l1 0).1 = wsA ++ [⟨qd, []⟩] from HDB.out.2]; exact HST.out⟩, HSU⟩
          case round =>
            clear HST HSU
            obtain ⟨k, hk, hgk, rfl, rfl, HP, HRU⟩ := hrel
            obtain ⟨wsk, hwsk⟩ : ∃ q, (undS l0 l1 k).1 = q := ⟨_, rfl⟩
            have HWSK := Aside0.mk hwsk
            obtain ⟨und, hund⟩ : ∃ q, (undS l0 l1 k).2 = q := ⟨_, rfl⟩
            have HUND := Aside0.mk hund
            have hul : und.length = k := by rw [← hund]; exact (undS_length l0 l1 k).2
            have HUL := Aside0.mk hul
            rw [hwsk] at HP
            rw [hund] at HRU
            rw [hwsk]
            obtain ⟨m, hm⟩ : ∃ q, wsk.length = q := ⟨_, rfl⟩
            have HM := Aside0.mk hm
            have HM5 : Aside0 (m ≤ 100) := ⟨by rw [← hm, ← hwsk, (undS_length l0 l1 k).1, ws2_length]; have := unN_le l0 k; split <;> split <;> omega⟩
            obtain ⟨Ao2, co2, rfl⟩ := Kd.R_slice HP.out.out
            obtain ⟨Au, cu, rfl⟩ := Kd.R_slice HRU.out
            rw [hm] at HP
            rw [hm]
            rw [hul] at HRU
            rw [hul]
            obtain ⟨fr, hfr⟩ : ∃ q, 34 + 30 * k = q := ⟨_, rfl⟩
            have HFRK := Aside0.mk hfr
            rw [hfr]
            by_cases hlt : k < 3
            · have b2 : decide (fr < 96) = true := decide_eq_true (by omega)
              have b3 : decide ((fr : Int) < 96) = true := decide_eq_true (by omega)
              obtain ⟨pk, hpk⟩ : ∃ q, partL l0 fr 30 = q := ⟨_, rfl⟩
              have HPK := Aside0.mk hpk
              have HPKN : Aside0 (pk.length = 30) := ⟨by rw [← hpk]; exact partL_length _ _ _⟩
              have HPKX : Aside0 (∀ x ∈ pk, 0 ≤ x ∧ x < 65536) := ⟨by rw [← hpk]; exact part_small16 HOK.out.pts fr 30⟩
              have hf9 : fr + 30 ≤ 1000 := by omega
              have HF9 := Aside0.mk hf9
              obtain ⟨us, hus⟩ : ∃ q, someB (partL l0 fr 30) = q := ⟨_, rfl⟩
              have HUS := Aside0.mk hus
              have HUB : Aside0 (usB l0 k = us) := ⟨by unfold usB; rw [hfr]; exact hus⟩
              have HK3 := Aside0.mk hlt
              clear hwsk hund hul hm hfr hpk hf9 hus hlt
              cases us with
              | false =>
                have HNX : Aside0 (undS l0 l1 (k + 1) = (wsk, und ++ [0])) := ⟨by rw [und_no (by rw [HUB.out]; exact Bool.false_ne_true), HWSK.out, HUND.out]⟩
                go_wp2_with (first | (go_at_call 21; (with_reducible refine (HPT.out fr 30 (fr : Int) 30 _ _ _ rfl rfl HF9.out HP.out.bl HUS.out HPK.out).mono ?_); rintro e w14 ⟨A14, cc14, rfl, hr14, hb14⟩; have HP14 := Aside0.mk (HP.out.moved hb14); have HU14 := Aside0.mk (Kd.R_below HRU.out hb14); clear hr14 hb14) | ((with_reducible refine gate_builtin (b := .append) (xs := #[.tmp 104, .tmp 105]) rfl ?_); at_builtin; refine Kd.R_append I (w0 := w) (W := w14) w.heap.size rfl (.tmp 104) (.tmp 105) 22 3 (.int .i64 0) 8 rfl Try.underlying22 infoI rfl (by decide) (by omega) (.slice Au k cu) und 0 [.int .i64 0] (fun _ => True) (fun _ => False) rfl ?aX ?aP ?aK ?aF ?aO ?aB ?aS ?aL ?_; (case aX => with_unfolding_all rfl); (case aP => with_unfolding_all rfl); (case aK => exact fun k hk => hk.elim); (case aF => exact fun _ _ => trivial); (case aO => exact HU14.out); (case aB => exact HP14.out.bl); (case aS => exact HP14.out.bl.size); (case aL => have h_ := HUL.out; have h_2 := HK3.out; omega); intro v15 w15 ho hb hg hat; have HO15 := Aside0.mk ho; have HP15 := Aside0.mk (HP14.out.over HU14.out hg hb); clear ho hb hg hat))
                go_roundg (4 - (k + 1))
                case measure => have := HK3.out; omega
                case rel => exact ⟨k + 1, by have := HK3.out; omega, Nat.le_refl _, step30 HFRK.out HK3.out, by rw [HNX.out, HM.out], ⟨by rw [HNX.out]; exact HP15.out⟩, ⟨by rw [HNX.out]; exact HO15.out⟩⟩
              | true =>
                obtain ⟨qk, hqk, hqk2, _⟩ := HOK.out.at_ (HOK.out.room HK3.out HUB.out)
                rw [HWSK.out, HM.out] at hqk hqk2
                have HNX : Aside0 (undS l0 l1 (k + 1) = (wsk ++ [⟨qk, pageL pk⟩], und ++ [qk])) := ⟨by rw [und_yes HOK.out HK3.out HUB.out, HWSK.out, HUND.out, HM.out, hqk2, HFRK.out, HPK.out]⟩
                obtain ⟨ad3, ed3, hc3⟩ := at_i HR1.out hqk
                obtain rfl := Option.some.inj ed3
                have HFE : Aside0 (∀ W, Below w.heap.size w W → W.cell? (ad.add m) = some (.int .i64 qk)) := ⟨fun W hW => pw_cell_below hW hc3⟩
                have hm1 : m < n1 := by have h1 := (List.getElem?_eq_some_iff.1 hqk).1; have h2 := HN1.out; omega
                have hm2 : (m : Int) < (n1 : Int) := by omega
                have hm3 : (0 : Int) ≤ (m : Int) := by omega
                clear hqk hqk2 hc3
                go_wp2_with (first | (go_at_call 21; (with_reducible refine (HPT.out fr 30 (fr : Int) 30 _ _ _ rfl rfl HF9.out HP.out.bl HUS.out HPK.out).mono ?_); rintro e w14 ⟨A14, cc14, rfl, hr14, hb14⟩; have HP14 := Aside0.mk (HP.out.moved hb14); have HU14 := Aside0.mk (Kd.R_below HRU.out hb14); have HC14 := Aside0.mk hr14; have cF14 : w14.cell? (ad.add m) = some (.int .i64 qk) := HFE.out _ HP14.out.bl; clear hr14 hb14) | ((with_reducible refine gate_builtin (b := .append) (xs := #[.tmp 107, .tmp 112]) rfl ?_); at_builtin; refine Kd.R_append I (w0 := w) (W := w14) w.heap.size rfl (.tmp 107) (.tmp 112) 22 3 (.int .i64 0) 8 rfl Try.underlying22 infoI rfl (by decide) (by omega) (.slice Au k cu) und qk [.int .i64 qk] (fun _ => True) (fun _ => False) rfl ?aX ?aP ?aK ?aF ?aO ?aB ?aS ?aL ?_; (case aX => with_unfolding_all rfl); (case aP => with_unfolding_all rfl); (case aK => exact fun k hk => hk.elim); (case aF => exact fun _ _ => trivial); (case aO => exact HU14.out); (case aB => exact HP14.out.bl); (case aS => exact HP14.out.bl.size); (case aL => have h_ := HUL.out; have h_2 := HK3.out; omega); intro v15 w15 ho hb hg hat; have HO15 := Aside0.mk ho; have HP15 := Aside0.mk (HP14.out.over HU14.out hg hb); have HC15r := Aside0.mk (row_far HC14.out (Kd.R_lt HRU.out) hg); clear ho hb hg hat))
                have HC15 : Aside0 (∀ W, Below w15.heap.size w15 W → I.C W A14 30 pk) := ⟨fun W hW => by have h := (Kd.R_reads' (Kd.R_below HC15r.out hW)).2.2; rw [HPKN.out] at h; exact h⟩
                have HC15c : Aside0 (30 ≤ cc14) := ⟨by have h := (Kd.R_reads' HC15r.out).2.1; omega⟩
                have HFD : Aside0 (∀ W, Below w15.heap.size w15 W → W.cell? (ad.add m) = some (.int .i64 qk)) := ⟨fun W hW => HFE.out W (below_step HP15.out.bl hW)⟩
                clear HC15r HC14 cF14 HFE HU14 HP14
                refine start_ (n := 11) (S := fun w' => w'.cell? (ad.add m) = some (.int .i64 qk)) (ds := [9]) #[false, false, false, false, false, false, false, false, false, false, false] (by kernel_rfl) rfl rfl (HFD.out _ (below_drew (Below.refl _ _))) (fun hHeld => ?_)
                refine pure_ (i := 0) (N := some 114) (v := ?_) (a' := ?_) #[true, false, false, false, false, false, false, false, false, false, false] rfl rfl (by kernel_rfl) (fun _ _ _ h => h) (Or.inl ⟨by rfl, ?_⟩) ?_ ?_
                rotate_left
                · intro w'
                  go_simp
                  with_reducible rfl
                rotate_left
                · simp only [Act.put, List.setIfInBounds_toArray, List.set_cons_zero, List.set_cons_succ, i64_w, i32_w]
                  rfl
                refine pure_ (i := 1) (N := some 115) (v := ?_) (a' := ?_) #[true, true, false, false, false, false, false, false, false, false, false] rfl rfl (by kernel_rfl) (fun _ _ _ h => h) (Or.inl ⟨by rfl, ?_⟩) ?_ ?_
                rotate_left
                · intro w'
                  go_simp
                  with_reducible rfl
                rotate_left
                · simp only [Act.put, List.setIfInBounds_toArray, List.set_cons_zero, List.set_cons_succ, i64_w, i32_w]
                  rfl
                refine pure_ (i := 2) (N := some 116) (v := ?_) (a' := ?_) #[true, true, true, false, false, false, false, false, false, false, false] rfl rfl (by kernel_rfl) (fun _ _ _ h => h) (Or.inl ⟨by rfl, ?_⟩) ?_ ?_
                rotate_left
                · intro w'
                  go_simp
                  with_reducible rfl
                rotate_left
                · simp only [Act.put, List.setIfInBounds_toArray, List.set_cons_zero, List.set_cons_succ, i64_w, i32_w]
                  rfl
                refine pure_ (i := 3) (N := some 117) (v := ?_) (a' := ?_) #[true, true, true, true, false, false, false, false, false, false, false] rfl rfl (by kernel_rfl) (fun _ _ _ h => h) (Or.inl ⟨by rfl, ?_⟩) ?_ ?_
                rotate_left
                · intro w'
                  go_simp
                  with_reducible rfl
                rotate_left
                · simp only [Act.put, List.setIfInBounds_toArray, List.set_cons_zero, List.set_cons_succ, i64_w, i32_w]
                  rfl
                refine pure_ (i := 5) (N := some 119) (v := ?_) (a' := ?_) #[true, true, true, true, false, true, false, false, false, false, false] rfl rfl (by kernel_rfl) (fun _ _ _ h => h) (Or.inl ⟨by rfl, ?_⟩) ?_ ?_
                rotate_left
                · intro w'
                  go_simp
                  with_reducible rfl
                rotate_left
                · simp only [Act.put, List.setIfInBounds_toArray, List.set_cons_zero, List.set_cons_succ, i64_w, i32_w]
                  rfl
                refine take_ (i := 4) (N := some 118) (v := ?_) (a' := ?_) #[true, true, true, true, true, true, false, false, false, false, false] rfl rfl (by kernel_rfl) (fun _ _ _ h => h) (Or.inl ⟨by rfl, ?_⟩) hHeld ?_ ?_
                rotate_left
                · intro w' s0
                  go_simp
                  with_reducible rfl
                rotate_left
                · simp only [Act.put, List.setIfInBounds_toArray, List.set_cons_zero, List.set_cons_succ, i64_w, i32_w]
                  rfl
                refine one_ (i := 6) (N := some 120) #[true, true, true, true, true, true, true, false, false, false, false] rfl rfl (by kernel_rfl) (by decide) (fun K hK => ?_)
                refine goes_ Try.func29 (by kernel_rfl) rfl #[.slice A14 30 cc14] (by rfl) rfl rfl (by (try simp only [List.map_toArray, List.map_cons, List.map_nil]); first | done | rfl) ?_
                with_reducible refine (HPG.out _ _ _ _ pk HPKN.out (Nat.le_refl _) HPKX.out (HC15.out _ (below_drew (Below.refl _ _))) HC15c.out).mono ?_
                rintro e w17 ⟨v17, rfl, ho17, hb17⟩
                refine ⟨_, rfl, ?_⟩
                obtain ⟨A17, c17, e17⟩ := Kd.R_slice ho17
                subst e17
                have HB17 := Aside0.mk ((below_drew (Below.refl _ _)).trans hb17)
                have HO17 := Aside0.mk ho17
                clear ho17 hb17
                refine hK.out _ _ (HFD.out _ HB17.out) (fun hHeld => ?_)
                clear hK K
                refine norm_ (a' := ?_) ?_ ?_
                rotate_left
                · show Act.put _ (some 120) _ = _
                  simp only [Act.put, List.setIfInBounds_toArray, List.set_cons_zero, List.set_cons_succ, i64_w, i32_w]
                  rfl
                refine pure_ (i := 7) (N := some 121) (v := ?_) (a' := ?_) #[true, true, true, true, true, true, true, true, false, false, false] rfl rfl (by kernel_rfl) (fun _ _ _ h => h) (Or.inl ⟨by rfl, ?_⟩) ?_ ?_
                rotate_left
                · intro w'
                  go_simp
                  with_reducible rfl
                rotate_left
                · simp only [Act.put, List.setIfInBounds_toArray, List.set_cons_zero, List.set_cons_succ, i64_w, i32_w]
                  rfl
                refine one_ (i := 8) (N := some 122) #[true, true, true, true, true, true, true, true, true, false, false] rfl rfl (by kernel_rfl) (by decide) (fun K hK => ?_)
                refine value_ (w1 := ?_) (v := ?_) (by rfl) rfl ?_ ?_
                rotate_left 2
                · go_simp
                  constructor
                  · rfl
                  · rfl
                refine hK.out _ _ (HFD.out _ (below_alloc HB17.out _)) (fun hHeld => ?_)
                clear hK K
                refine norm_ (a' := ?_) ?_ ?_
                rotate_left
                · show Act.put _ (some 122) _ = _
                  simp only [Act.put, List.setIfInBounds_toArray, List.set_cons_zero, List.set_cons_succ, i64_w, i32_w]
                  rfl
                refine last_ (i := 9) (N := some 123) #[true, true, true, true, true, true, true, true, true, true, false] rfl rfl (by kernel_rfl) (by decide) (fun K hK => ?_)
                refine Kd.R_append_step kW (w0 := w) (W := w17) w.heap.size (by rfl) (.tmp 114) (.tmp 122) 33 59 (.agg #[(.int .i64 0), (.slice none 0 0)]) 32 rfl Try.underlying33 infoW (by rfl) (show 0 < 2 from by decide) (by omega) (.slice Ao2 m co2) wsk ⟨qk, pageL pk⟩ [.int .i64 qk, .slice A17 (pageL pk).length c17] (fun _ => True) (fun j => some j ≠ (Value.slice Ao2 m co2).ownBlock) ?hs ?hx ?hp ?hk ?hf ?hO ?hB ?hz ?hl ?_
                case hs => rfl
                case hx => rfl
                case hp => exact page_M HP15.out HO17.out
                case hk => exact fun k hk => ⟨trivial, hk⟩
                case hf => exact fun _ _ => trivial
                case hO => exact Kd.R_below HP15.out.out HB17.out
                case hB => exact below_step HP15.out.bl HB17.out
                case hz => exact Nat.le_trans HP15.out.bl.size HB17.out.size
                case hl => have h1_ := HM.out; have h2_ := HM5.out; omega
                intro v18 w18 ho18 hb18 hg18 hat18
                have HP18 := Aside0.mk ((HP15.out.moved HB17.out).app ho18 hb18 hg18)
                have HU18 := Aside0.mk (Kd.R_over (Kd.R_below HO15.out HB17.out) (HP15.out.moved HB17.out).out (by decide) hg18)
                clear ho18 hb18 hg18 hat18
                refine hK.out _ _ ?_
                clear hK K
                refine norm_ (a' := ?_) ?_ ?_
                rotate_left
                · show Act.put _ (some 123) _ = _
                  simp only [Act.put, List.setIfInBounds_toArray, List.set_cons_zero, List.set_cons_succ, i64_w, i32_w]
                  rfl
                refine pure_ (i := 10) (N := some 10) (v := ?_) (a' := ?_) #[true, true, true, true, true, true, true, true, true, true, true] rfl rfl (by kernel_rfl) (fun _ _ _ h => h) (Or.inl ⟨by rfl, ?_⟩) ?_ ?_
                rotate_left
                · intro w'
                  go_simp
                  with_reducible rfl
                rotate_left
                · simp only [Act.put, List.setIfInBounds_toArray, List.set_cons_zero, List.set_cons_succ, i64_w, i32_w]
                  rfl
                refine done_ (by kernel_rfl) ?_

                go_wp2_with fail
                go_roundg (4 - (k + 1))
                case measure => have := HK3.out; omega
                case rel => exact ⟨k + 1, by have := HK3.out; omega, Nat.le_refl _, step30 HFRK.out HK3.out, by rw [HNX.out, List.length_append, HM.out]; exact step1 HM5.out, ⟨by rw [HNX.out]; exact HP18.out⟩, ⟨by rw [HNX.out]; exact HU18.out⟩⟩
            · obtain rfl : k = 3 := by omega
              have hset := ws_set HOK.out HS96.out
              rw [hwsk, hund, HWA.out, HWN.out, HDB.out.1] at hset
              have HSET := Aside0.mk hset
              have HUX : Aside0 (∀ x ∈ und, 0 ≤ x ∧ x < 65536) := ⟨by
                rw [← hund, und_three]
                intro x hx
                simp only [List.mem_cons, List.not_mem_nil, or_false] at hx
                rcases hx with rfl | rfl | rfl <;> exact uN_small HOK.out (by decide)⟩
              have hkm : 0 < m := by rw [← hm]; exact (List.getElem?_eq_some_iff.1 hset.2).1
              have hkm2 : (0 : Int) < (m : Int) := by omega
              obtain ⟨gw, cw, e, hbw, hgw, cellsw, hgb⟩ := Kd.R_form HP.out.out (by rw [HM.out]; omega)
              injection e with e1 e2 e3
              subst e1
              obtain rfl : fr = 124 := by omega
              have HCU : Aside0 (∀ W, Below wr.heap.size wr W → I.C W Au 3 und) := ⟨fun W hW => by have h := (Kd.R_reads' (Kd.R_below HRU.out hW)).2.2; rw [HUL.out] at h; exact h⟩
              have HCUc : Aside0 (3 ≤ cu) := ⟨by have h := (Kd.R_reads' HRU.out).2.1; omega⟩
              clear hwsk hund hul hm hfr hlt hset e2 e3 hbw hgw hgb hk hgk
              go_wp2_with (first | (go_at_call 29; (with_reducible refine (HPG.out _ _ _ _ und HUL.out (by omega) HUX.out (HCU.out _ (Below.refl _ _)) HCUc.out).mono ?_); rintro e w20 ⟨v20, rfl, ho20, hb20⟩; obtain ⟨A20, c20, e20⟩ := Kd.R_slice ho20; subst e20; obtain ⟨HPUT, vo20, cb20, fb20⟩ := HP.out.put hb20 HSET.out.2 ho20; have HPUTX : Aside0 (Rp w (w20.setCell ⟨gw, 1, none⟩ (.slice A20 (pageL und).length c20)) nb ⟨1, D, q4, qd⟩ (.slice (some ⟨gw, 0, none⟩) m co2) (wsk.set 0 ⟨qd, pageL und⟩)) := ⟨HPUT⟩; have cb20x : w20.cell? ⟨gw, 1, none⟩ = some vo20 := cb20; have fb20x : w20.frozen? ⟨gw, 1, none⟩ = false := fb20; clear ho20 hb20 HPUT cb20 fb20) | ((with_reducible refine gate_ (.load 32 (.tmp 8)) rfl ?_); refine Whole.load_ ?lg 32 (.tmp 8) ?lo ⟨nb, 0, none⟩ (⟨1, D, q4, qd⟩ : Nd).c.toList _ ?lx (Whole.cells_at HPUTX.out.nod 0 _ (fun j u hj => by rw [Nat.zero_add, ← Array.getElem?_toList]; exact hj)) Try.underlying32 ?ld infoND ?_; (case lg => rfl); (case lo => rfl); (case lx => with_unfolding_all rfl); (case ld => rfl)) | ((with_reducible refine gate_ (.store 32 (.tmp 4) (.tmp 132)) rfl ?_); refine Whole.store_ ?sg ?sn 32 (.tmp 4) (.tmp 132) ?so w.heap.size 0 32 zNd.c (⟨1, D, q4, qd⟩ : Nd).c (⟨1, D, q4, qd⟩ : Nd).c ?sx ?sy HPUTX.out.res ?sf infoND ?s1 ?sw ?_; (case sg => rfl); (case sn => rfl); (case so => rfl); (case sx => with_unfolding_all rfl); (case sy => with_unfolding_all rfl); (case sf => with_unfolding_all exact (show 12 ≤ 12 from by decide)); (case s1 => exact ndc_one _); (case sw => with_unfolding_all rfl); intro w10 hz hg hs; have HZ10 := Aside0.mk hz; have HG10 := Aside0.mk hg; clear hz hg hs))
              refine bodyPost_ret (results_ctt rfl _ _ (w.heap.size) _ _ _ _ rfl HZ10.out Try.underlying32 rfl infoND) rfl ?_
              rw [HSET.out.1, show ndOf l0 l1 = ⟨1, D, q4, qd⟩ from by unfold ndOf; rw [HD.out, HQS.out, HDB.out.1]]
              exact ⟨_, rfl, HPUTX.out.done HG10.out⟩
      | true =>
        obtain ⟨q4, hq4, hq5, _⟩ := HOK.out.at_ (HOK.out.room1 hs4)
        have HQ4 := Aside0.mk hq5
        obtain ⟨ad, e4, hc4⟩ := at_i HR1.out hq4
        subst e4
        have HF : Aside0 (∀ W, Below w.heap.size w W → W.cell? ad = some (.int .i64 q4)) := ⟨fun W hW => pw_cell_below hW hc4⟩
        have hb1 : (0 : Int) < (n1 : Int) := by have h1 := (List.getElem?_eq_some_iff.1 hq4).1; have h2 := HN1.out; simp only [List.length_nil] at h1; omega
        have hb2 : 0 < n1 := by omega
        clear hs4 hq4 hq5 hc4
        go_wp2_with (first | ((with_reducible refine gate_dst (N := 43) rfl ?_); (try (refine gate_guard (by rfl) ?_; dsimp only)); refine Kd.R_lit kW (w0 := w) w.heap.size 59 ?hg (N := 43) ?hd (xs := ([] : List Wr)) (inner := []) (ok := fun _ => True) (okp := fun _ => True) ?hr ?hp (fun _ hk => hk) trivial HR.out.bl HR.out.bl.size (by simp) ?_; (case hd => rfl); (case hg => rfl); (case hr => first | (go_simp; done) | (go_simp; rfl)); (case hp => exact (Reps.none _ _)); intro v3 w3 ho3 hb3 hg3 hn3; obtain ⟨Ao, co, e3⟩ := Kd.R_slice ho3; subst e3; have HR3 := Aside0.mk (HR.out.app ho3 hb3 hg3); clear ho3 hb3 hg3 hn3) | (go_at_call 21; (with_reducible refine (HPT.out 4 30 4 30 _ _ _ rfl rfl (by omega) HR3.out.bl HS4.out HP4L.out).mono ?_); rintro e w4 ⟨A4, cc4, rfl, hr4, hb4⟩; have HR4 := Aside0.mk (HR3.out.moved hb4); have HC4 := Aside0.mk (Kd.R_lower hr4 HR3.out.bl.size); have cF : w4.cell? ad = some (.int .i64 q4) := HF.out _ HR4.out.bl; have c8 : w4.cell? ⟨nb, 8, none⟩ = some (.int .i64 0) := blk_cell HR4.out.nod 8; have f8 : w4.frozen? ⟨nb, 8, none⟩ = false := blk_frozen HR4.out.nod 8; clear hr4 hb4))
        obtain ⟨W5, hW5⟩ : ∃ q, w4.setCell ⟨nb, 8, none⟩ (.int .i64 q4) = q := ⟨_, rfl⟩
        have HRW : Aside0 (Rp w W5 nb ⟨1, D, q4, 0⟩ (.slice Ao 0 co) []) := ⟨by rw [← hW5]; exact HR4.out.node 8 _ rfl⟩
        have hc5 : I.R 3 W5 w.heap.size (fun _ => True) (.slice A4 30 cc4) p4 := by rw [← hW5]; exact Kd.R_set HC4.out HR4.out.nod (by decide) 8 _
        have HC5 : Aside0 (∀ W, Below W5.heap.size W5 W → I.C W A4 30 p4) := ⟨fun W hW => by have h := (Kd.R_reads' (Kd.R_below hc5 hW)).2.2; rw [HP4N.out] at h; exact h⟩
        have HC5c : Aside0 (30 ≤ cc4) := ⟨by have h := (Kd.R_reads' hc5).2.1; omega⟩
        have HFD : Aside0 (∀ W, Below W5.heap.size W5 W → W.cell? ad = some (.int .i64 q4)) := ⟨fun W hW => HF.out W (below_step HRW.out.bl hW)⟩
        rw [hW5]
        clear hW5 hc5 c8 f8 cF HR4 HC4 HR3 HR
        refine start_ (n := 10) (S := fun w' => w'.cell? ad = some (.int .i64 q4)) (ds := [8]) #[false, false, false, false, false, false, false, false, false, false] (by kernel_rfl) rfl rfl (HFD.out _ (below_drew (Below.refl _ _))) (fun hHeld => ?_)
        refine pure_ (i := 0) (N := some 54) (v := ?_) (a' := ?_) #[true, false, false, false, false, false, false, false, false, false] rfl rfl (by kernel_rfl) (fun _ _ _ h => h) (Or.inl ⟨by rfl, ?_⟩) ?_ ?_
        rotate_left
        · intro w'
          go_simp
          with_reducible rfl
        rotate_left
        · simp only [Act.put, List.setIfInBounds_toArray, List.set_cons_zero, List.set_cons_succ, i64_w, i32_w]
          rfl
        refine pure_ (i := 1) (N := some 55) (v := ?_) (a' := ?_) #[true, true, false, false, false, false, false, false, false, false] rfl rfl (by kernel_rfl) (fun _ _ _ h => h) (Or.inl ⟨by rfl, ?_⟩) ?_ ?_
        rotate_left
        · intro w'
          go_simp
          with_reducible rfl
        rotate_left
        · simp only [Act.put, List.setIfInBounds_toArray, List.set_cons_zero, List.set_cons_succ, i64_w, i32_w]
          rfl
        refine pure_ (i := 2) (N := some 56) (v := ?_) (a' := ?_) #[true, true, true, false, false, false, false, false, false, false] rfl rfl (by kernel_rfl) (fun _ _ _ h => h) (Or.inl ⟨by rfl, ?_⟩) ?_ ?_
        rotate_left
        · intro w'
          go_simp
          with_reducible rfl
        rotate_left
        · simp only [Act.put, List.setIfInBounds_toArray, List.set_cons_zero, List.set_cons_succ, i64_w, i32_w]
          rfl
        refine pure_ (i := 4) (N := some 58) (v := ?_) (a' := ?_) #[true, true, true, false, true, false, false, false, false, false] rfl rfl (by kernel_rfl) (fun _ _ _ h => h) (Or.inl ⟨by rfl, ?_⟩) ?_ ?_
        rotate_left
        · intro w'
          go_simp
          with_reducible rfl
        rotate_left
        · simp only [Act.put, List.setIfInBounds_toArray, List.set_cons_zero, List.set_cons_succ, i64_w, i32_w]
          rfl
        refine take_ (i := 3) (N := some 57) (v := ?_) (a' := ?_) #[true, true, true, true, true, false, false, false, false, false] rfl rfl (by kernel_rfl) (fun _ _ _ h => h) (Or.inl ⟨by rfl, ?_⟩) hHeld ?_ ?_
        rotate_left
        · intro w' s0
          go_simp
          with_reducible rfl
        rotate_left
        · simp only [Act.put, List.setIfInBounds_toArray, List.set_cons_zero, List.set_cons_succ, i64_w, i32_w]
          rfl
        refine one_ (i := 5) (N := some 59) #[true, true, true, true, true, true, false, false, false, false] rfl rfl (by kernel_rfl) (by decide) (fun K hK => ?_)
        refine goes_ Try.func29 (by kernel_rfl) rfl #[.slice A4 30 cc4] (by rfl) rfl rfl (by (try simp only [List.map_toArray, List.map_cons, List.map_nil]); first | done | rfl) ?_
        with_reducible refine (HPG.out _ _ _ _ p4 HP4N.out (Nat.le_refl _) HP4X.out (HC5.out _ (below_drew (Below.refl _ _))) HC5c.out).mono ?_
        rintro e w7 ⟨v7, rfl, ho7, hb7⟩
        refine ⟨_, rfl, ?_⟩
        obtain ⟨A7, c7, e7⟩ := Kd.R_slice ho7
        subst e7
        have HB7 := Aside0.mk ((below_drew (Below.refl _ _)).trans hb7)
        have HO7 := Aside0.mk ho7
        clear ho7 hb7
        refine hK.out _ _ (HFD.out _ HB7.out) (fun hHeld => ?_)
        clear hK K
        refine norm_ (a' := ?_) ?_ ?_
        rotate_left
        · show Act.put _ (some 59) _ = _
          simp only [Act.put, List.setIfInBounds_toArray, List.set_cons_zero, List.set_cons_succ, i64_w, i32_w]
          rfl
        refine pure_ (i := 6) (N := some 60) (v := ?_) (a' := ?_) #[true, true, true, true, true, true, true, false, false, false] rfl rfl (by kernel_rfl) (fun _ _ _ h => h) (Or.inl ⟨by rfl, ?_⟩) ?_ ?_
        rotate_left
        · intro w'
          go_simp
          with_reducible rfl
        rotate_left
        · simp only [Act.put, List.setIfInBounds_toArray, List.set_cons_zero, List.set_cons_succ, i64_w, i32_w]
          rfl
        refine one_ (i := 7) (N := some 61) #[true, true, true, true, true, true, true, true, false, false] rfl rfl (by kernel_rfl) (by decide) (fun K hK => ?_)
        refine value_ (w1 := ?_) (v := ?_) (by rfl) rfl ?_ ?_
        rotate_left 2
        · go_simp
          constructor
          · rfl
          · rfl
        refine hK.out _ _ (HFD.out _ (below_alloc HB7.out _)) (fun hHeld => ?_)
        clear hK K
        refine norm_ (a' := ?_) ?_ ?_
        rotate_left
        · show Act.put _ (some 61) _ = _
          simp only [Act.put, List.setIfInBounds_toArray, List.set_cons_zero, List.set_cons_succ, i64_w, i32_w]
          rfl
        refine last_ (i := 8) (N := some 62) #[true, true, true, true, true, true, true, true, true, false] rfl rfl (by kernel_rfl) (by decide) (fun K hK => ?_)
        refine Kd.R_append_step kW (w0 := w) (W := w7) w.heap.size (by rfl) (.tmp 54) (.tmp 61) 33 59 (.agg #[(.int .i64 0), (.slice none 0 0)]) 32 rfl Try.underlying33 infoW (by rfl) (show 0 < 2 from by decide) (by omega) (.slice Ao 0 co) [] ⟨q4, pageL p4⟩ [.int .i64 q4, .slice A7 (pageL p4).length c7] (fun _ => True) (fun j => some j ≠ (Value.slice Ao 0 co).ownBlock) ?hs ?hx ?hp ?hk ?hf ?hO ?hB ?hz ?hl ?_
        case hs => rfl
        case hx => rfl
        case hp => exact page_M HRW.out HO7.out
        case hk => exact fun k hk => ⟨trivial, hk⟩
        case hf => exact fun _ _ => trivial
        case hO => exact Kd.R_below HRW.out.out HB7.out
        case hB => exact below_step HRW.out.bl HB7.out
        case hz => exact Nat.le_trans HRW.out.bl.size HB7.out.size
        case hl => simp only [List.length_nil]; omega
        intro v8 w8 ho8 hb8 hg8 hat8
        obtain ⟨A8, c8, e8⟩ := Kd.R_slice ho8
        subst e8
        have HRP8 := Aside0.mk ((HRW.out.moved HB7.out).app ho8 hb8 hg8)
        clear ho8 hb8 hg8 hat8
        refine hK.out _ _ ?_
        clear hK K
        refine norm_ (a' := ?_) ?_ ?_
        rotate_left
        · show Act.put _ (some 62) _ = _
          simp only [Act.put, List.setIfInBounds_toArray, List.set_cons_zero, List.set_cons_succ, i64_w, i32_w]
          rfl
        refine pure_ (i := 9) (N := some 10) (v := ?_) (a' := ?_) #[true, true, true, true, true, true, true, true, true, true] rfl rfl (by kernel_rfl) (fun _ _ _ h => h) (Or.inl ⟨by rfl, ?_⟩) ?_ ?_
        rotate_left
        · intro w'
          go_simp
          with_reducible rfl
        rotate_left
        · simp only [Act.put, List.setIfInBounds_toArray, List.set_cons_zero, List.set_cons_succ, i64_w, i32_w]
          rfl
        refine done_ (by kernel_rfl) ?_

        have HWA : Aside0 (ws1 l0 l1 = [⟨q4, pageL p4⟩]) := ⟨by rw [ws1_yes HOK.out (by rw [HP4L.out]; exact HS4x.out), HP4L.out]; rw [show l1.getD 0 0 = q4 from HQ4.out]⟩
        have HRPA : Aside0 (Rp w w8 nb ⟨1, D, q4, 0⟩ (.slice A8 1 c8) [⟨q4, pageL p4⟩]) := ⟨HRP8.out⟩
        have HQS : Aside0 (resP l1 (someB (partL l0 4 30)) [] = q4) := ⟨by rw [HP4L.out, HS4x.out]; exact HQ4.out⟩
        obtain ⟨wsA, hwsA⟩ : ∃ q, ([⟨q4, pageL p4⟩] : List Wr) = q := ⟨_, rfl⟩
        rw [hwsA] at HWA HRPA
        have HWN : Aside0 (wsA.length = 1) := ⟨by rw [← hwsA]; rfl⟩
        clear hwsA HRP8 HB7 HO7 HRW HC5 HC5c HFD HF
        cases s34 with
        | false =>
          have HWO : Aside0 (wsOf l0 l1 = wsA ∧ dbl l0 l1 = 0) := ⟨by have h := ws_no (fr := l1) HOK.out (by rw [← part62 (ptsB_len HOK.out.pts), HS34.out]; exact Bool.false_ne_true); rw [HWA.out] at h; exact h⟩
          go_wp2_with (first | (go_at_call 21; (with_reducible refine (HPT.out 34 62 34 62 _ _ _ rfl rfl (by omega) HRPA.out.bl HS34.out rfl).mono ?_); rintro e w9 ⟨A9, cc9, rfl, hr9, hb9⟩; have HR9 := Aside0.mk (HRPA.out.moved hb9); clear hr9 hb9) | ((with_reducible refine gate_ (.load 32 (.tmp 8)) rfl ?_); refine Whole.load_ ?lg 32 (.tmp 8) ?lo ⟨nb, 0, none⟩ (⟨1, D, q4, 0⟩ : Nd).c.toList _ ?lx (Whole.cells_at HR9.out.nod 0 _ (fun j u hj => by rw [Nat.zero_add, ← Array.getElem?_toList]; exact hj)) Try.underlying32 ?ld infoND ?_; (case lg => rfl); (case lo => rfl); (case lx => with_unfolding_all rfl); (case ld => rfl)) | ((with_reducible refine gate_ (.store 32 (.tmp 4) (.tmp 72)) rfl ?_); refine Whole.store_ ?sg ?sn 32 (.tmp 4) (.tmp 72) ?so w.heap.size 0 32 zNd.c (⟨1, D, q4, 0⟩ : Nd).c (⟨1, D, q4, 0⟩ : Nd).c ?sx ?sy HR9.out.res ?sf infoND ?s1 ?sw ?_; (case sg => rfl); (case sn => rfl); (case so => rfl); (case sx => with_unfolding_all rfl); (case sy => with_unfolding_all rfl); (case sf => with_unfolding_all exact (show 12 ≤ 12 from by decide)); (case s1 => exact ndc_one _); (case sw => with_unfolding_all rfl); intro w10 hz hg hs; have HZ10 := Aside0.mk hz; have HG10 := Aside0.mk hg; clear hz hg hs))
          refine bodyPost_ret (results_ctt rfl _ _ (w.heap.size) _ _ _ _ rfl HZ10.out Try.underlying32 rfl infoND) rfl ?_
          rw [HWO.out.1, show ndOf l0 l1 = ⟨1, D, q4, 0⟩ from by unfold ndOf; rw [HD.out, HQS.out, HWO.out.2]]
          exact ⟨_, rfl, HR9.out.done HG10.out⟩
        | true =>
          have hs96 : someB (partL l0 34 96) = true := by rw [← part62 (ptsB_len HOK.out.pts)]; exact HS34.out
          obtain ⟨qd, hqd, hqd2, _⟩ := HOK.out.at_ (HOK.out.room2 hs96)
          have HDB : Aside0 (dbl l0 l1 = qd ∧ ws2 l0 l1 = wsA ++ [⟨qd, []⟩]) := ⟨by obtain ⟨h1, h2⟩ := ws2_yes (fr := l1) hs96; rw [hqd2] at h2; rw [h2, HWA.out] at h1; exact ⟨h2, h1⟩⟩
          rw [HWA.out, HWN.out] at hqd
          obtain ⟨ad2, ed, hcd⟩ := at_i HR1.out hqd
          obtain rfl := Option.some.inj ed
          have HFE : Aside0 (∀ W, Below w.heap.size w W → W.cell? ⟨ad.block, ad.off + 1, none⟩ = some (.int .i64 qd)) := ⟨fun W hW => pw_cell_below hW (by first | exact hcd | (cases ad; exact hcd))⟩
          have hbk1 : (1 : Int) < (n1 : Int) := by have h1 := (List.getElem?_eq_some_iff.1 hqd).1; have h2 := HN1.out; omega
          have hbk2 : 1 < n1 := by omega
          have HS96 := Aside0.mk hs96
          clear hqd hqd2 hcd hs96
          go_wp2_with (first | (go_at_call 21; (with_reducible refine (HPT.out 34 62 34 62 _ _ _ rfl rfl (by omega) HRPA.out.bl HS34.out rfl).mono ?_); rintro e w9 ⟨A9, cc9, rfl, hr9, hb9⟩; have hr9 := HRPA.out.moved hb9; have c9 : w9.cell? ⟨nb, 9, none⟩ = some (.int .i64 0) := blk_cell hr9.nod 9; have f9 : w9.frozen? ⟨nb, 9, none⟩ = false := blk_frozen hr9.nod 9; have HR10 : Aside0 (Rp w (w9.setCell ⟨nb, 9, none⟩ (.int .i64 qd)) nb ⟨1, D, q4, qd⟩ (.slice A8 1 c8) wsA) := ⟨hr9.node 9 _ rfl⟩; have cD9 : w9.cell? ⟨ad.block, ad.off + 1, none⟩ = some (.int .i64 qd) := HFE.out _ hr9.bl; have cD10 : (w9.setCell ⟨nb, 9, none⟩ (.int .i64 qd)).cell? ⟨ad.block, ad.off + 1, none⟩ = some (.int .i64 qd) := HFE.out _ HR10.out.bl; clear hr9 hb9) | ((with_reducible refine gate_builtin (b := .append) (xs := #[.tmp 81, .tmp 87]) rfl ?_); at_builtin; refine Kd.R_append kW (w0 := w) (W := w9.setCell ⟨nb, 9, none⟩ (.int .i64 qd)) w.heap.size rfl (.tmp 81) (.tmp 87) 33 59 (.agg #[(.int .i64 0), (.slice none 0 0)]) 32 rfl Try.underlying33 infoW rfl (by decide) (by omega) (.slice A8 1 c8) wsA ⟨qd, []⟩ [.int .i64 qd, .slice none 0 0] (fun _ => True) (fun _ => False) rfl ?aX ?aP ?aK ?aF ?aO ?aB ?aS ?aL ?_; (case aX => rw [World.size_setCell]; with_unfolding_all rfl); (case aP => exact wr_M _ _ _ qd); (case aK => exact fun k hk => hk.elim); (case aF => exact fun _ _ => trivial); (case aO => exact HR10.out.out); (case aB => exact HR10.out.bl); (case aS => exact HR10.out.bl.size); (case aL => have h1_ := HWN.out; omega); intro v11 w11 ho hb hg hat; have HR11 := Aside0.mk (HR10.out.app ho hb hg); clear ho hb hg hat) | ((with_reducible refine gate_dst (N := 91) rfl ?_); (try (refine gate_guard (by rfl) ?_; dsimp only)); refine Kd.R_lit I (w0 := w) w.heap.size 3 ?hg (N := 91) ?hd (xs := ([] : List Int)) (inner := []) (ok := fun _ => True) (okp := fun _ => True) ?hr ?hp (fun _ hk => hk) trivial HR11.out.bl HR11.out.bl.size (by simp) ?_; (case hd => rfl); (case hg => rfl); (case hr => first | (go_simp; done) | (go_simp; rfl)); (case hp => exact (Reps.none _ _)); intro v12 w12 ho12 hb12 hg12 hn12; have HU12 := Aside0.mk ho12; have HR12 := Aside0.mk (HR11.out.moved (below_none hg12)); clear ho12 hb12 hg12 hn12))
          have HST := Aside0.mk HR12.out
          have HSU := Aside0.mk HU12.out
          clear HR10 HR11 HR12 HU12 HRPA HFE c9 f9 cD9 cD10 hbk1 hbk2
          go_loopg [10, 11, 15, 16] 4 (fun gg vo kk vu i wr => ∃ k : Nat, k ≤ 3 ∧ 4 - k ≤ gg ∧ i = .int .i64 ((34 + 30 * k : Nat) : Int) ∧ kk = .int .i64 (((undS l0 l1 k).1.length : Nat) : Int) ∧ Aside0 (Rp w wr nb ⟨1, D, q4, qd⟩ vo (undS l0 l1 k).1) ∧ Aside0 (I.R 3 wr w.heap.size (fun _ => True) vu (undS l0 l1 k).2))
          case atStart => exact ⟨0, by omega, Nat.le_refl _, rfl, by rw [show (undS l0 l1 0).1 = wsA ++ [⟨qd, []⟩] from HDB.out.2, List.length_append, HWN.out]; rfl, ⟨by rw [show (undS l0 l1 0).1 = wsA ++ [⟨qd, []⟩] from HDB.out.2]; exact HST.out⟩, HSU⟩
          case round =>
            clear HST HSU
            obtain ⟨k, hk, hgk, rfl, rfl, HP, HRU⟩ := hrel
            obtain ⟨wsk, hwsk⟩ : ∃ q, (undS l0 l1 k).1 = q := ⟨_, rfl⟩
            have HWSK := Aside0.mk hwsk
            obtain ⟨und, hund⟩ : ∃ q, (undS l0 l1 k).2 = q := ⟨_, rfl⟩
            have HUND := Aside0.mk hund
            have hul : und.length = k := by rw [← hund]; exact (undS_length l0 l1 k).2
            have HUL := Aside0.mk hul
            rw [hwsk] at HP
            rw [hund] at HRU
            rw [hwsk]
            obtain ⟨m, hm⟩ : ∃ q, wsk.length = q := ⟨_, rfl⟩
            have HM := Aside0.mk hm
            have HM5 : Aside0 (m ≤ 100) := ⟨by rw [← hm, ← hwsk, (undS_length l0 l1 k).1, ws2_length]; have := unN_le l0 k; split <;> split <;> omega⟩
            obtain ⟨Ao2, co2, rfl⟩ := Kd.R_slice HP.out.out
            obtain ⟨Au, cu, rfl⟩ := Kd.R_slice HRU.out
            rw [hm] at HP
            rw [hm]
            rw [hul] at HRU
            rw [hul]
            obtain ⟨fr, hfr⟩ : ∃ q, 34 + 30 * k = q := ⟨_, rfl⟩
            have HFRK := Aside0.mk hfr
            rw [hfr]
            by_cases hlt : k < 3
            · have b2 : decide (fr < 96) = true := decide_eq_true (by omega)
              have b3 : decide ((fr : Int) < 96) = true := decide_eq_true (by omega)
              obtain ⟨pk, hpk⟩ : ∃ q, partL l0 fr 30 = q := ⟨_, rfl⟩
              have HPK := Aside0.mk hpk
              have HPKN : Aside0 (pk.length = 30) := ⟨by rw [← hpk]; exact partL_length _ _ _⟩
              have HPKX : Aside0 (∀ x ∈ pk, 0 ≤ x ∧ x < 65536) := ⟨by rw [← hpk]; exact part_small16 HOK.out.pts fr 30⟩
              have hf9 : fr + 30 ≤ 1000 := by omega
              have HF9 := Aside0.mk hf9
              obtain ⟨us, hus⟩ : ∃ q, someB (partL l0 fr 30) = q := ⟨_, rfl⟩
              have HUS := Aside0.mk hus
              have HUB : Aside0 (usB l0 k = us) := ⟨by unfold usB; rw [hfr]; exact hus⟩
              have HK3 := Aside0.mk hlt
              clear hwsk hund hul hm hfr hpk hf9 hus hlt
              cases us with
              | false =>
                have HNX : Aside0 (undS l0 l1 (k + 1) = (wsk, und ++ [0])) := ⟨by rw [und_no (by rw [HUB.out]; exact Bool.false_ne_true), HWSK.out, HUND.out]⟩
                go_wp2_with (first | (go_at_call 21; (with_reducible refine (HPT.out fr 30 (fr : Int) 30 _ _ _ rfl rfl HF9.out HP.out.bl HUS.out HPK.out).mono ?_); rintro e w14 ⟨A14, cc14, rfl, hr14, hb14⟩; have HP14 := Aside0.mk (HP.out.moved hb14); have HU14 := Aside0.mk (Kd.R_below HRU.out hb14); clear hr14 hb14) | ((with_reducible refine gate_builtin (b := .append) (xs := #[.tmp 104, .tmp 105]) rfl ?_); at_builtin; refine Kd.R_append I (w0 := w) (W := w14) w.heap.size rfl (.tmp 104) (.tmp 105) 22 3 (.int .i64 0) 8 rfl Try.underlying22 infoI rfl (by decide) (by omega) (.slice Au k cu) und 0 [.int .i64 0] (fun _ => True) (fun _ => False) rfl ?aX ?aP ?aK ?aF ?aO ?aB ?aS ?aL ?_; (case aX => with_unfolding_all rfl); (case aP => with_unfolding_all rfl); (case aK => exact fun k hk => hk.elim); (case aF => exact fun _ _ => trivial); (case aO => exact HU14.out); (case aB => exact HP14.out.bl); (case aS => exact HP14.out.bl.size); (case aL => have h_ := HUL.out; have h_2 := HK3.out; omega); intro v15 w15 ho hb hg hat; have HO15 := Aside0.mk ho; have HP15 := Aside0.mk (HP14.out.over HU14.out hg hb); clear ho hb hg hat))
                go_roundg (4 - (k + 1))
                case measure => have := HK3.out; omega
                case rel => exact ⟨k + 1, by have := HK3.out; omega, Nat.le_refl _, step30 HFRK.out HK3.out, by rw [HNX.out, HM.out], ⟨by rw [HNX.out]; exact HP15.out⟩, ⟨by rw [HNX.out]; exact HO15.out⟩⟩
              | true =>
                obtain ⟨qk, hqk, hqk2, _⟩ := HOK.out.at_ (HOK.out.room HK3.out HUB.out)
                rw [HWSK.out, HM.out] at hqk hqk2
                have HNX : Aside0 (undS l0 l1 (k + 1) = (wsk ++ [⟨qk, pageL pk⟩], und ++ [qk])) := ⟨by rw [und_yes HOK.out HK3.out HUB.out, HWSK.out, HUND.out, HM.out, hqk2, HFRK.out, HPK.out]⟩
                obtain ⟨ad3, ed3, hc3⟩ := at_i HR1.out hqk
                obtain rfl := Option.some.inj ed3
                have HFE : Aside0 (∀ W, Below w.heap.size w W → W.cell? (ad.add m) = some (.int .i64 qk)) := ⟨fun W hW => pw_cell_below hW hc3⟩
                have hm1 : m < n1 := by have h1 := (List.getElem?_eq_some_iff.1 hqk).1; have h2 := HN1.out; omega
                have hm2 : (m : Int) < (n1 : Int) := by omega
                have hm3 : (0 : Int) ≤ (m : Int) := by omega
                clear hqk hqk2 hc3
                go_wp2_with (first | (go_at_call 21; (with_reducible refine (HPT.out fr 30 (fr : Int) 30 _ _ _ rfl rfl HF9.out HP.out.bl HUS.out HPK.out).mono ?_); rintro e w14 ⟨A14, cc14, rfl, hr14, hb14⟩; have HP14 := Aside0.mk (HP.out.moved hb14); have HU14 := Aside0.mk (Kd.R_below HRU.out hb14); have HC14 := Aside0.mk hr14; have cF14 : w14.cell? (ad.add m) = some (.int .i64 qk) := HFE.out _ HP14.out.bl; clear hr14 hb14) | ((with_reducible refine gate_builtin (b := .append) (xs := #[.tmp 107, .tmp 112]) rfl ?_); at_builtin; refine Kd.R_append I (w0 := w) (W := w14) w.heap.size rfl (.tmp 107) (.tmp 112) 22 3 (.int .i64 0) 8 rfl Try.underlying22 infoI rfl (by decide) (by omega) (.slice Au k cu) und qk [.int .i64 qk] (fun _ => True) (fun _ => False) rfl ?aX ?aP ?aK ?aF ?aO ?aB ?aS ?aL ?_; (case aX => with_unfolding_all rfl); (case aP => with_unfolding_all rfl); (case aK => exact fun k hk => hk.elim); (case aF => exact fun _ _ => trivial); (case aO => exact HU14.out); (case aB => exact HP14.out.bl); (case aS => exact HP14.out.bl.size); (case aL => have h_ := HUL.out; have h_2 := HK3.out; omega); intro v15 w15 ho hb hg hat; have HO15 := Aside0.mk ho; have HP15 := Aside0.mk (HP14.out.over HU14.out hg hb); have HC15r := Aside0.mk (row_far HC14.out (Kd.R_lt HRU.out) hg); clear ho hb hg hat))
                have HC15 : Aside0 (∀ W, Below w15.heap.size w15 W → I.C W A14 30 pk) := ⟨fun W hW => by have h := (Kd.R_reads' (Kd.R_below HC15r.out hW)).2.2; rw [HPKN.out] at h; exact h⟩
                have HC15c : Aside0 (30 ≤ cc14) := ⟨by have h := (Kd.R_reads' HC15r.out).2.1; omega⟩
                have HFD : Aside0 (∀ W, Below w15.heap.size w15 W → W.cell? (ad.add m) = some (.int .i64 qk)) := ⟨fun W hW => HFE.out W (below_step HP15.out.bl hW)⟩
                clear HC15r HC14 cF14 HFE HU14 HP14
                refine start_ (n := 11) (S := fun w' => w'.cell? (ad.add m) = some (.int .i64 qk)) (ds := [9]) #[false, false, false, false, false, false, false, false, false, false, false] (by kernel_rfl) rfl rfl (HFD.out _ (below_drew (Below.refl _ _))) (fun hHeld => ?_)
                refine pure_ (i := 0) (N := some 114) (v := ?_) (a' := ?_) #[true, false, false, false, false, false, false, false, false, false, false] rfl rfl (by kernel_rfl) (fun _ _ _ h => h) (Or.inl ⟨by rfl, ?_⟩) ?_ ?_
                rotate_left
                · intro w'
                  go_simp
                  with_reducible rfl
                rotate_left
                · simp only [Act.put, List.setIfInBounds_toArray, List.set_cons_zero, List.set_cons_succ, i64_w, i32_w]
                  rfl
                refine pure_ (i := 1) (N := some 115) (v := ?_) (a' := ?_) #[true, true, false, false, false, false, false, false, false, false, false] rfl rfl (by kernel_rfl) (fun _ _ _ h => h) (Or.inl ⟨by rfl, ?_⟩) ?_ ?_
                rotate_left
                · intro w'
                  go_simp
                  with_reducible rfl
                rotate_left
                · simp only [Act.put, List.setIfInBounds_toArray, List.set_cons_zero, List.set_cons_succ, i64_w, i32_w]
                  rfl
                refine pure_ (i := 2) (N := some 116) (v := ?_) (a' := ?_) #[true, true, true, false, false, false, false, false, false, false, false] rfl rfl (by kernel_rfl) (fun _ _ _ h => h) (Or.inl ⟨by rfl, ?_⟩) ?_ ?_
                rotate_left
                · intro w'
                  go_simp
                  with_reducible rfl
                rotate_left
                · simp only [Act.put, List.setIfInBounds_toArray, List.set_cons_zero, List.set_cons_succ, i64_w, i32_w]
                  rfl
                refine pure_ (i := 3) (N := some 117) (v := ?_) (a' := ?_) #[true, true, true, true, false, false, false, false, false, false, false] rfl rfl (by kernel_rfl) (fun _ _ _ h => h) (Or.inl ⟨by rfl, ?_⟩) ?_ ?_
                rotate_left
                · intro w'
                  go_simp
                  with_reducible rfl
                rotate_left
                · simp only [Act.put, List.setIfInBounds_toArray, List.set_cons_zero, List.set_cons_succ, i64_w, i32_w]
                  rfl
                refine pure_ (i := 5) (N := some 119) (v := ?_) (a' := ?_) #[true, true, true, true, false, true, false, false, false, false, false] rfl rfl (by kernel_rfl) (fun _ _ _ h => h) (Or.inl ⟨by rfl, ?_⟩) ?_ ?_
                rotate_left
                · intro w'
                  go_simp
                  with_reducible rfl
                rotate_left
                · simp only [Act.put, List.setIfInBounds_toArray, List.set_cons_zero, List.set_cons_succ, i64_w, i32_w]
                  rfl
                refine take_ (i := 4) (N := some 118) (v := ?_) (a' := ?_) #[true, true, true, true, true, true, false, false, false, false, false] rfl rfl (by kernel_rfl) (fun _ _ _ h => h) (Or.inl ⟨by rfl, ?_⟩) hHeld ?_ ?_
                rotate_left
                · intro w' s0
                  go_simp
                  with_reducible rfl
                rotate_left
                · simp only [Act.put, List.setIfInBounds_toArray, List.set_cons_zero, List.set_cons_succ, i64_w, i32_w]
                  rfl
                refine one_ (i := 6) (N := some 120) #[true, true, true, true, true, true, true, false, false, false, false] rfl rfl (by kernel_rfl) (by decide) (fun K hK => ?_)
                refine goes_ Try.func29 (by kernel_rfl) rfl #[.slice A14 30 cc14] (by rfl) rfl rfl (by (try simp only [List.map_toArray, List.map_cons, List.map_nil]); first | done | rfl) ?_
                with_reducible refine (HPG.out _ _ _ _ pk HPKN.out (Nat.le_refl _) HPKX.out (HC15.out _ (below_drew (Below.refl _ _))) HC15c.out).mono ?_
                rintro e w17 ⟨v17, rfl, ho17, hb17⟩
                refine ⟨_, rfl, ?_⟩
                obtain ⟨A17, c17, e17⟩ := Kd.R_slice ho17
                subst e17
                have HB17 := Aside0.mk ((below_drew (Below.refl _ _)).trans hb17)
                have HO17 := Aside0.mk ho17
                clear ho17 hb17
                refine hK.out _ _ (HFD.out _ HB17.out) (fun hHeld => ?_)
                clear hK K
                refine norm_ (a' := ?_) ?_ ?_
                rotate_left
                · show Act.put _ (some 120) _ = _
                  simp only [Act.put, List.setIfInBounds_toArray, List.set_cons_zero, List.set_cons_succ, i64_w, i32_w]
                  rfl
                refine pure_ (i := 7) (N := some 121) (v := ?_) (a' := ?_) #[true, true, true, true, true, true, true, true, false, false, false] rfl rfl (by kernel_rfl) (fun _ _ _ h => h) (Or.inl ⟨by rfl, ?_⟩) ?_ ?_
                rotate_left
                · intro w'
                  go_simp
                  with_reducible rfl
                rotate_left
                · simp only [Act.put, List.setIfInBounds_toArray, List.set_cons_zero, List.set_cons_succ, i64_w, i32_w]
                  rfl
                refine one_ (i := 8) (N := some 122) #[true, true, true, true, true, true, true, true, true, false, false] rfl rfl (by kernel_rfl) (by decide) (fun K hK => ?_)
                refine value_ (w1 := ?_) (v := ?_) (by rfl) rfl ?_ ?_
                rotate_left 2
                · go_simp
                  constructor
                  · rfl
                  · rfl
                refine hK.out _ _ (HFD.out _ (below_alloc HB17.out _)) (fun hHeld => ?_)
                clear hK K
                refine norm_ (a' := ?_) ?_ ?_
                rotate_left
                · show Act.put _ (some 122) _ = _
                  simp only [Act.put, List.setIfInBounds_toArray, List.set_cons_zero, List.set_cons_succ, i64_w, i32_w]
                  rfl
                refine last_ (i := 9) (N := some 123) #[true, true, true, true, true, true, true, true, true, true, false] rfl rfl (by kernel_rfl) (by decide) (fun K hK => ?_)
                refine Kd.R_append_step kW (w0 := w) (W := w17) w.heap.size (by rfl) (.tmp 114) (.tmp 122) 33 59 (.agg #[(.int .i64 0), (.slice none 0 0)]) 32 rfl Try.underlying33 infoW (by rfl) (show 0 < 2 from by decide) (by omega) (.slice Ao2 m co2) wsk ⟨qk, pageL pk⟩ [.int .i64 qk, .slice A17 (pageL pk).length c17] (fun _ => True) (fun j => some j ≠ (Value.slice Ao2 m co2).ownBlock) ?hs ?hx ?hp ?hk ?hf ?hO ?hB ?hz ?hl ?_
                case hs => rfl
                case hx => rfl
                case hp => exact page_M HP15.out HO17.out
                case hk => exact fun k hk => ⟨trivial, hk⟩
                case hf => exact fun _ _ => trivial
                case hO => exact Kd.R_below HP15.out.out HB17.out
                case hB => exact below_step HP15.out.bl HB17.out
                case hz => exact Nat.le_trans HP15.out.bl.size HB17.out.size
                case hl => have h1_ := HM.out; have h2_ := HM5.out; omega
                intro v18 w18 ho18 hb18 hg18 hat18
                have HP18 := Aside0.mk ((HP15.out.moved HB17.out).app ho18 hb18 hg18)
                have HU18 := Aside0.mk (Kd.R_over (Kd.R_below HO15.out HB17.out) (HP15.out.moved HB17.out).out (by decide) hg18)
                clear ho18 hb18 hg18 hat18
                refine hK.out _ _ ?_
                clear hK K
                refine norm_ (a' := ?_) ?_ ?_
                rotate_left
                · show Act.put _ (some 123) _ = _
                  simp only [Act.put, List.setIfInBounds_toArray, List.set_cons_zero, List.set_cons_succ, i64_w, i32_w]
                  rfl
                refine pure_ (i := 10) (N := some 10) (v := ?_) (a' := ?_) #[true, true, true, true, true, true, true, true, true, true, true] rfl rfl (by kernel_rfl) (fun _ _ _ h => h) (Or.inl ⟨by rfl, ?_⟩) ?_ ?_
                rotate_left
                · intro w'
                  go_simp
                  with_reducible rfl
                rotate_left
                · simp only [Act.put, List.setIfInBounds_toArray, List.set_cons_zero, List.set_cons_succ, i64_w, i32_w]
                  rfl
                refine done_ (by kernel_rfl) ?_

                go_wp2_with fail
                go_roundg (4 - (k + 1))
                case measure => have := HK3.out; omega
                case rel => exact ⟨k + 1, by have := HK3.out; omega, Nat.le_refl _, step30 HFRK.out HK3.out, by rw [HNX.out, List.length_append, HM.out]; exact step1 HM5.out, ⟨by rw [HNX.out]; exact HP18.out⟩, ⟨by rw [HNX.out]; exact HU18.out⟩⟩
            · obtain rfl : k = 3 := by omega
              have hset := ws_set HOK.out HS96.out
              rw [hwsk, hund, HWA.out, HWN.out, HDB.out.1] at hset
              have HSET := Aside0.mk hset
              have HUX : Aside0 (∀ x ∈ und, 0 ≤ x ∧ x < 65536) := ⟨by
                rw [← hund, und_three]
                intro x hx
                simp only [List.mem_cons, List.not_mem_nil, or_false] at hx
                rcases hx with rfl | rfl | rfl <;> exact uN_small HOK.out (by decide)⟩
              have hkm : 1 < m := by rw [← hm]; exact (List.getElem?_eq_some_iff.1 hset.2).1
              have hkm2 : (1 : Int) < (m : Int) := by omega
              obtain ⟨gw, cw, e, hbw, hgw, cellsw, hgb⟩ := Kd.R_form HP.out.out (by rw [HM.out]; omega)
              injection e with e1 e2 e3
              subst e1
              obtain rfl : fr = 124 := by omega
              have HCU : Aside0 (∀ W, Below wr.heap.size wr W → I.C W Au 3 und) := ⟨fun W hW => by have h := (Kd.R_reads' (Kd.R_below HRU.out hW)).2.2; rw [HUL.out] at h; exact h⟩
              have HCUc : Aside0 (3 ≤ cu) := ⟨by have h := (Kd.R_reads' HRU.out).2.1; omega⟩
              clear hwsk hund hul hm hfr hlt hset e2 e3 hbw hgw hgb hk hgk
              go_wp2_with (first | (go_at_call 29; (with_reducible refine (HPG.out _ _ _ _ und HUL.out (by omega) HUX.out (HCU.out _ (Below.refl _ _)) HCUc.out).mono ?_); rintro e w20 ⟨v20, rfl, ho20, hb20⟩; obtain ⟨A20, c20, e20⟩ := Kd.R_slice ho20; subst e20; obtain ⟨HPUT, vo20, cb20, fb20⟩ := HP.out.put hb20 HSET.out.2 ho20; have HPUTX : Aside0 (Rp w (w20.setCell ⟨gw, 3, none⟩ (.slice A20 (pageL und).length c20)) nb ⟨1, D, q4, qd⟩ (.slice (some ⟨gw, 0, none⟩) m co2) (wsk.set 1 ⟨qd, pageL und⟩)) := ⟨HPUT⟩; have cb20x : w20.cell? ⟨gw, 3, none⟩ = some vo20 := cb20; have fb20x : w20.frozen? ⟨gw, 3, none⟩ = false := fb20; clear ho20 hb20 HPUT cb20 fb20) | ((with_reducible refine gate_ (.load 32 (.tmp 8)) rfl ?_); refine Whole.load_ ?lg 32 (.tmp 8) ?lo ⟨nb, 0, none⟩ (⟨1, D, q4, qd⟩ : Nd).c.toList _ ?lx (Whole.cells_at HPUTX.out.nod 0 _ (fun j u hj => by rw [Nat.zero_add, ← Array.getElem?_toList]; exact hj)) Try.underlying32 ?ld infoND ?_; (case lg => rfl); (case lo => rfl); (case lx => with_unfolding_all rfl); (case ld => rfl)) | ((with_reducible refine gate_ (.store 32 (.tmp 4) (.tmp 132)) rfl ?_); refine Whole.store_ ?sg ?sn 32 (.tmp 4) (.tmp 132) ?so w.heap.size 0 32 zNd.c (⟨1, D, q4, qd⟩ : Nd).c (⟨1, D, q4, qd⟩ : Nd).c ?sx ?sy HPUTX.out.res ?sf infoND ?s1 ?sw ?_; (case sg => rfl); (case sn => rfl); (case so => rfl); (case sx => with_unfolding_all rfl); (case sy => with_unfolding_all rfl); (case sf => with_unfolding_all exact (show 12 ≤ 12 from by decide)); (case s1 => exact ndc_one _); (case sw => with_unfolding_all rfl); intro w10 hz hg hs; have HZ10 := Aside0.mk hz; have HG10 := Aside0.mk hg; clear hz hg hs))
              refine bodyPost_ret (results_ctt rfl _ _ (w.heap.size) _ _ _ _ rfl HZ10.out Try.underlying32 rfl infoND) rfl ?_
              rw [HSET.out.1, show ndOf l0 l1 = ⟨1, D, q4, qd⟩ from by unfold ndOf; rw [HD.out, HQS.out, HDB.out.1]]
              exact ⟨_, rfl, HPUTX.out.done HG10.out⟩
end Go.Proofs.Ytbdbjlfdnijfeaa.Tree
