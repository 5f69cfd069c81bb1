/- For all worlds: what gives blocks out: fill. Conditions: the blocks lie as the state says; the list lies in a row of the call's own. -/
import Derived.Test.YtbdbjlfdnijfeaaTree7
namespace Go.Proofs.Ytbdbjlfdnijfeaa.Tree
open Go Go.RowKit Go.Maps Go.Proofs.YtbdbjlfdnijfeaaW.PrintWords Go.Proofs.YtbdbjlfdnijfeaaW.PrintLast Go.Proofs.YtbdbjlfdnijfeaaW.PrintMore
set_option linter.unusedVariables false
set_option linter.unusedSimpArgs false
/-- A block that is filled, if it is the one. -/
def fillX (at_ : Int) (pl : List Int) (x : Wr) : Wr := if x.tgt = at_ ∧ at_ ≠ 0 then ⟨x.tgt, pl⟩ else x
def fillW (at_ : Int) (pl : List Int) (ws : List Wr) : List Wr := ws.map (fillX at_ pl)
theorem Fr.trans {w w1 w2 : World} {m : Nat} {o : Option Nat} (f : Fr w w1 m o) (g : Fr w1 w2 m o) : Fr w w2 m o :=
  ⟨g.os.trans f.os, g.tape.trans f.tape, g.output.trans f.output, Nat.le_trans f.size g.size, fun k hk h1 h2 => (g.far k (Nat.lt_of_lt_of_le hk f.size) h1 h2).trans (f.far k hk h1 h2)⟩
theorem Fr.of_below {w w1 : World} {m : Nat} {o : Option Nat} (h : Below w.heap.size w w1) : Fr w w1 m o := ⟨h.os, h.tape, h.output, h.size, fun k hk _ _ => h.block k hk⟩
theorem fill_step (l : List Wr) (f : Wr → Wr) (k : Nat) (b : Wr) (h : l[k]? = some b) : ((l.take k).map f ++ l.drop k).set k (f b) = (l.take (k + 1)).map f ++ l.drop (k + 1) := by
  obtain ⟨hk, hb⟩ := List.getElem?_eq_some_iff.1 h
  have hl : ((l.take k).map f).length = k := by rw [List.length_map, List.length_take]; omega
  rw [List.set_append_right _ _ (by omega), hl, Nat.sub_self, List.drop_eq_getElem_cons hk, List.set_cons_zero, List.take_succ_eq_append_getElem hk, List.map_append, hb]
  simp
theorem fill_same (l : List Wr) (f : Wr → Wr) (k : Nat) (b : Wr) (h : l[k]? = some b) (hb : f b = b) : (l.take k).map f ++ l.drop k = (l.take (k + 1)).map f ++ l.drop (k + 1) := by
  obtain ⟨hk, he⟩ := List.getElem?_eq_some_iff.1 h
  rw [List.drop_eq_getElem_cons hk, List.take_succ_eq_append_getElem hk, List.map_append, he]
  simp [hb]
theorem fill_at (l : List Wr) (f : Wr → Wr) (k : Nat) (b : Wr) (h : l[k]? = some b) : ((l.take k).map f ++ l.drop k)[k]? = some b := by
  obtain ⟨hk, he⟩ := List.getElem?_eq_some_iff.1 h
  rw [List.getElem?_append_right (by rw [List.length_map, List.length_take]; omega), List.length_map, List.length_take, List.getElem?_drop, show k + (k - min k l.length) = k by omega]
  exact h
section
variable {w0 w : World} {m : Nat} {A0 : Option Addr} {c0 : Nat} {fr : List Int} {vw : Value} {ws : List Wr}
theorem Mk.moved {w1 : World} (h : Mk w0 w m A0 c0 fr vw ws) (hb : Below w.heap.size w w1) : Mk w0 w1 m A0 c0 fr vw ws :=
  ⟨blk_below h.hm hb, Kd.R_below h.hw hb, h.hf, h.bl.trans (hb.mono h.bl.size), h.bm⟩
/-- Element k's data is another row. -/
theorem Mk.put {w1 : World} {gw n cw k : Nat} {b : Wr} {v3 : Value} {pl : List Int} (h : Mk w0 w m A0 c0 fr (.slice (some ⟨gw, 0, none⟩) n cw) ws) (hb : Below w.heap.size w w1) (hk : ws[k]? = some b) (hr : U.R 5 w1 w.heap.size (fun _ => True) v3 pl) :
    Mk w0 (w1.setCell ⟨gw, k * 2 + 1, none⟩ v3) m A0 c0 fr (.slice (some ⟨gw, 0, none⟩) n cw) (ws.set k ⟨b.tgt, pl⟩) ∧ Fr w (w1.setCell ⟨gw, k * 2 + 1, none⟩ v3) m (some gw) := by
  have h1 := h.moved hb
  have hn := (Kd.R_reads' h1.hw).1
  have hkl : k < ws.length := (List.getElem?_eq_some_iff.1 hk).1
  have hgw : gw < w.heap.size := Kd.R_lt h.hw gw (by simp [Value.ownBlock])
  have hbase : w0.heap.size ≤ gw := Kd.R_base h.hw gw (by simp [Value.ownBlock])
  have hmg : m ≠ gw := fun e => by
    have h2 := Kd.R_ne h.hw h.hm (by decide)
    exact h2 (by rw [e]; simp [Value.ownBlock])
  obtain ⟨c, hcl, hM, hcc, hfz⟩ := Kd.R_elem h1.hw zW (k : Int) (by omega) (by omega)
  rw [Int.toNat_natCast, List.getD_eq_getElem?_getD, hk] at hM
  obtain ⟨vo, rfl, hvo⟩ := kW_openM hM
  have hrow : U.R 5 w1 w0.heap.size (fun j => j ≠ gw) v3 pl := Kd.R_lower (Kd.R_mono (Kd.R_bound hr) (fun j hj => by have := hj.2.1; omega)) h.bl.size
  obtain ⟨h2, h3⟩ := Kd.R_seg h1.hw (k : Int) (by omega) (by omega) hcl hcc (j := 1) (seg := [v3]) (Nat.le_refl 2) (x' := ⟨b.tgt, pl⟩) (okp := fun j => j ≠ gw) (kW_mkM w1 w0.heap.size _ ⟨b.tgt, pl⟩ hrow) (fun j hj => ⟨trivial, hj⟩)
  rw [Int.toNat_natCast] at h2 h3
  have e : w1.setCells gw (k * kW.sz + 1) [v3] = w1.setCell ⟨gw, k * 2 + 1, none⟩ v3 := rfl
  rw [e] at h2 h3
  refine ⟨⟨(h3.block m (blk_lt h1.hm) (fun e => hmg (Option.some.inj e))).trans h1.hm, h2, h.hf, h1.bl.setCell (p := ⟨gw, k * 2 + 1, none⟩) hbase _, h.bm⟩, ⟨h3.os.trans hb.os, h3.tape.trans hb.tape, h3.output.trans hb.output, Nat.le_trans hb.size h3.size, fun j hj _ hjo => (h3.block j (Nat.lt_of_lt_of_le hj hb.size) hjo).trans (hb.block j hj)⟩⟩
set_option maxHeartbeats 1000000 in
set_option maxRecDepth 100000 in
theorem fill_calls (h : Mk w0 w m A0 c0 fr vw ws) (at_ : Int) (A1 : Option Addr) (c1 n1 : Nat) (l1 : List Int) (hn1 : l1.length = n1) {base : Nat} {ok : Nat → Prop} (hr1 : I.R 3 w base ok (.slice A1 n1 c1) l1) (hx : ∀ x ∈ l1, 0 ≤ x ∧ x < 4294967296) (hl : n1 ≤ 32) :
    Calls Try.prog 26 #[.pointer (some ⟨m, 0, none⟩), .int .i64 at_, .slice A1 n1 c1] w fun e w' => e = .returned (.tuple #[]) ∧ Mk w0 w' m A0 c0 fr vw (fillW at_ (pageL l1) ws) ∧ Fr w w' m vw.ownBlock := by
  obtain ⟨Aw, cw, rfl⟩ := Kd.R_slice h.hw
  obtain ⟨n, hn⟩ : ∃ n, ws.length = n := ⟨_, rfl⟩
  have hn63 : n ≤ 9223372036854775807 := by rw [← hn]; exact (Kd.R_reads' h.hw).2.2.2.1
  have HN := Aside0.mk hn
  rw [hn] at h
  rw [hn]
  have q1 := blk_cell h.hm 1
  have H := Aside0.mk h
  have HR1 := Aside0.mk hr1
  have HX := Aside0.mk hx
  have HL := Aside0.mk hl
  have HN1 := Aside0.mk hn1
  clear h hn hr1 hx hl hn1
  go_enter Try.func26, Try.ntmps26
  go_wp2_with fail
  clear q1
  go_loopg [12] n (fun gg i wr => ∃ k : Nat, k ≤ n ∧ n - k ≤ gg ∧ i = .int .i64 k ∧ Aside0 (Mk w0 wr m A0 c0 fr (.slice Aw n cw) ((ws.take k).map (fillX at_ (pageL l1)) ++ ws.drop k)) ∧ Aside0 (Fr w wr m (Value.slice Aw n cw).ownBlock))
  case atStart => exact ⟨0, Nat.zero_le _, Nat.le_refl _, rfl, H, ⟨Fr.refl _ _ _⟩⟩
  case round =>
    obtain ⟨k, hk, hgk, rfl, HM, HF⟩ := hrel
    by_cases hlt : k < n
    · have b1 : decide (k < n) = true := decide_eq_true hlt
      obtain ⟨x, hx⟩ : ∃ x, ws[k]? = some x := ⟨_, List.getElem?_eq_getElem (by have := HN.out; omega)⟩
      have hat := fill_at ws (fillX at_ (pageL l1)) k x hx
      have hlen : ((ws.take k).map (fillX at_ (pageL l1)) ++ ws.drop k).length = n := by rw [List.length_append, List.length_map, List.length_take, List.length_drop, HN.out]; omega
      have hRw := HM.out.hw
      obtain ⟨gw, cw', e, hbw, hgw, cellsw, hgb⟩ := Kd.R_form hRw (by omega)
      have HGB := Aside0.mk hgb
      injection e with e1 e2 e3
      subst e1; subst e3
      obtain ⟨c, hcl, hMM, hcc, hfz⟩ := Kd.R_elem hRw zW (k : Int) (by omega) (by omega)
      rw [Int.toNat_natCast, List.getD_eq_getElem?_getD, hat] at hMM
      obtain ⟨vo, rfl, hvo⟩ := kW_openM hMM
      rw [Int.toNat_natCast] at hcc hfz
      have ca : wr.cell? ⟨gw, k * 2, none⟩ = some (.int .i64 x.tgt) := hcc 0 _ rfl
      have cb : wr.cell? ⟨gw, k * 2 + 1, none⟩ = some vo := hcc 1 _ rfl
      have fb : wr.frozen? ⟨gw, k * 2 + 1, none⟩ = false := hfz 1
      have q1 := blk_cell HM.out.hm 1
      have HX1 := Aside0.mk hx
      obtain ⟨tg, htg⟩ : ∃ q, x.tgt = q := ⟨_, rfl⟩
      rw [htg] at ca
      have HTG := Aside0.mk htg
      have hkz : (0 : Int) ≤ (k : Int) := by omega
      have hkn : (k : Int) < (n : Int) := by omega
      have HCB := Aside0.mk cb
      have HQ1 := Aside0.mk q1
      clear hgb hx hat hlen hRw e2 hcl hMM hcc hfz hvo htg cb fb
      by_cases hc : tg = at_ ∧ at_ ≠ 0
      · obtain ⟨rfl, h0⟩ := hc
        have b2 : (tg != 0) = true := bne_iff_ne.2 h0
        have HFX : Aside0 (fillX tg (pageL l1) x = ⟨x.tgt, pageL l1⟩) := ⟨by unfold fillX; rw [if_pos ⟨HTG.out, h0⟩]⟩
        have HPG : Aside0 (∀ W : World, Below wr.heap.size wr W → Calls Try.prog 40 #[.slice A1 n1 c1] W fun e w' => ∃ v, e = .returned v ∧ U.R 5 w' W.heap.size (fun _ => True) v (pageL l1) ∧ Below W.heap.size W w') := ⟨fun W hW => page_calls A1 c1 n1 l1 HN1.out W (by have h_ := (Kd.R_reads' (Kd.R_below (Fr.row H.out HF.out HR1.out) hW)).2.2; rw [HN1.out] at h_; exact h_) HX.out HL.out⟩
        have HSQ : Aside0 (∀ W : World, Below wr.heap.size wr W → W.cell? ⟨m, 1, none⟩ = some (.slice (some ⟨gw, 0, none⟩) n cw)) := ⟨fun W hW => pw_cell_below hW HQ1.out⟩
        clear h0
        go_wp2_with fail
        refine start_ (n := 10) (S := fun w' => w'.cell? ⟨m, 1, none⟩ = some (.slice (some ⟨gw, 0, none⟩) n cw)) (ds := [9]) #[false, false, false, false, false, false, false, false, false, false] (by kernel_rfl) rfl rfl (HSQ.out _ (below_drew (Below.refl _ _))) (fun hHeld => ?_)
        refine pure_ (i := 0) (N := some 29) (v := ?_) (a' := ?_) #[true, false, false, false, false, false, false, false, false, false] rfl rfl (by kernel_rfl) (fun _ _ _ h => h) (Or.inl ⟨by rfl, ?_⟩) ?_ ?_
        rotate_left
        · intro w'
          go_simp
          with_reducible rfl
        rotate_left
        · simp only [Act.put, List.setIfInBounds_toArray, List.set_cons_zero, List.set_cons_succ, i64_w, i32_w]
          rfl
        refine pure_ (i := 1) (N := some 30) (v := ?_) (a' := ?_) #[true, true, false, false, false, false, false, false, false, false] rfl rfl (by kernel_rfl) (fun _ _ _ h => h) (Or.inl ⟨by rfl, ?_⟩) ?_ ?_
        rotate_left
        · intro w'
          go_simp
          with_reducible rfl
        rotate_left
        · simp only [Act.put, List.setIfInBounds_toArray, List.set_cons_zero, List.set_cons_succ, i64_w, i32_w]
          rfl
        refine pure_ (i := 2) (N := some 31) (v := ?_) (a' := ?_) #[true, true, true, false, false, false, false, false, false, false] rfl rfl (by kernel_rfl) (fun _ _ _ h => h) (Or.inl ⟨by rfl, ?_⟩) ?_ ?_
        rotate_left
        · intro w'
          go_simp
          with_reducible rfl
        rotate_left
        · simp only [Act.put, List.setIfInBounds_toArray, List.set_cons_zero, List.set_cons_succ, i64_w, i32_w]
          rfl
        refine pure_ (i := 4) (N := some 33) (v := ?_) (a' := ?_) #[true, true, true, false, true, false, false, false, false, false] rfl rfl (by kernel_rfl) (fun _ _ _ h => h) (Or.inl ⟨by rfl, ?_⟩) ?_ ?_
        rotate_left
        · intro w'
          go_simp
          with_reducible rfl
        rotate_left
        · simp only [Act.put, List.setIfInBounds_toArray, List.set_cons_zero, List.set_cons_succ, i64_w, i32_w]
          rfl
        refine pure_ (i := 5) (N := some 34) (v := ?_) (a' := ?_) #[true, true, true, false, true, true, false, false, false, false] rfl rfl (by kernel_rfl) (fun _ _ _ h => h) (Or.inl ⟨by rfl, ?_⟩) ?_ ?_
        rotate_left
        · intro w'
          go_simp
          with_reducible rfl
        rotate_left
        · simp only [Act.put, List.setIfInBounds_toArray, List.set_cons_zero, List.set_cons_succ, i64_w, i32_w]
          rfl
        refine take_ (i := 3) (N := some 32) (v := ?_) (a' := ?_) #[true, true, true, true, true, true, false, false, false, false] rfl rfl (by kernel_rfl) (fun _ _ _ h => h) (Or.inl ⟨by rfl, ?_⟩) hHeld ?_ ?_
        rotate_left
        · intro w' s0
          go_simp
          with_reducible rfl
        rotate_left
        · simp only [Act.put, List.setIfInBounds_toArray, List.set_cons_zero, List.set_cons_succ, i64_w, i32_w]
          rfl
        refine one_ (i := 6) (N := some 35) #[true, true, true, true, true, true, true, false, false, false] rfl rfl (by kernel_rfl) (by decide) (fun K hK => ?_)
        refine goes_ Try.func40 (by kernel_rfl) rfl #[.slice A1 n1 c1] (by rfl) rfl rfl (by (try simp only [List.map_toArray, List.map_cons, List.map_nil]); first | done | rfl) ?_
        with_reducible refine (HPG.out _ (below_drew (Below.refl _ _))).mono ?_
        rintro e w3 ⟨v3, rfl, ho3, hb3⟩
        refine ⟨_, rfl, ?_⟩
        obtain ⟨A3, c3, rfl⟩ := Kd.R_slice ho3
        have HO3 := Aside0.mk ho3
        have HB3 := Aside0.mk hb3
        have cb3 := pw_cell_below ((below_drew (Below.refl _ _)).trans hb3) HCB.out
        have fb3 := blk_frozen (blk_below HGB.out ((below_drew (Below.refl _ _)).trans hb3)) (k * 2 + 1)
        clear ho3 hb3
        refine hK.out _ _ (HSQ.out _ ((below_drew (Below.refl _ _)).trans HB3.out)) (fun hHeld => ?_)
        clear hK K
        refine norm_ (a' := ?_) ?_ ?_
        rotate_left
        · show Act.put _ (some 35) _ = _
          simp only [Act.put, List.setIfInBounds_toArray, List.set_cons_zero, List.set_cons_succ, i64_w, i32_w]
          rfl
        refine pure_ (i := 7) (N := some 36) (v := ?_) (a' := ?_) #[true, true, true, true, true, true, true, true, false, false] rfl rfl (by kernel_rfl) (fun _ _ _ h => h) (Or.inl ⟨by rfl, ?_⟩) ?_ ?_
        rotate_left
        · intro w'
          go_simp
          with_reducible rfl
        rotate_left
        · simp only [Act.put, List.setIfInBounds_toArray, List.set_cons_zero, List.set_cons_succ, i64_w, i32_w]
          rfl
        refine pure_ (i := 8) (N := some 37) (v := ?_) (a' := ?_) #[true, true, true, true, true, true, true, true, true, false] rfl rfl (by kernel_rfl) (fun _ _ _ h => h) (Or.inl ⟨by rfl, ?_⟩) ?_ ?_
        rotate_left
        · intro w'
          go_simp
          with_reducible rfl
        rotate_left
        · simp only [Act.put, List.setIfInBounds_toArray, List.set_cons_zero, List.set_cons_succ, i64_w, i32_w]
          rfl
        refine last_ (i := 9) (N := none) #[true, true, true, true, true, true, true, true, true, true] rfl rfl (by kernel_rfl) (by decide) (fun K hK => ?_)
        refine skip_ (w1 := ?_) (by rfl) rfl ?_ ?_
        rotate_left
        · go_simp
          rfl
        refine hK.out _ _ ?_
        clear hK K
        refine done_ (by kernel_rfl) ?_

        go_wp2_with fail
        go_roundg (n - (k + 1))
        case measure => omega
        case rel =>
          have hb3 : Below wr.heap.size wr w3 := (below_drew (Below.refl _ _)).trans HB3.out
          obtain ⟨h1, h2⟩ := HM.out.put hb3 (fill_at ws (fillX tg (pageL l1)) k x HX1.out) HO3.out
          rw [← HFX.out, fill_step ws _ k x HX1.out] at h1
          exact ⟨k + 1, by omega, Nat.le_refl _, by go_num, ⟨h1⟩, ⟨HF.out.trans h2⟩⟩
      · have HFX : Aside0 (fillX at_ (pageL l1) x = x) := ⟨by unfold fillX; rw [if_neg (by rw [HTG.out]; exact hc)]⟩
        have HM2 : Aside0 (Mk w0 wr m A0 c0 fr (.slice (some ⟨gw, 0, none⟩) n cw) ((ws.take (k + 1)).map (fillX at_ (pageL l1)) ++ ws.drop (k + 1))) := ⟨by rw [← fill_same ws _ k x HX1.out HFX.out]; exact HM.out⟩
        by_cases ht : tg = at_
        · obtain rfl : at_ = 0 := Classical.not_not.1 (fun h0 => hc ⟨ht, h0⟩)
          subst ht
          clear hc
          go_wp2_with fail
          go_roundg (n - (k + 1))
          case measure => omega
          case rel => exact ⟨k + 1, by omega, Nat.le_refl _, by go_num, HM2, HF⟩
        · have b2 : (tg == at_) = false := beq_eq_false_iff_ne.2 ht
          clear hc ht
          go_wp2_with fail
          go_roundg (n - (k + 1))
          case measure => omega
          case rel => exact ⟨k + 1, by omega, Nat.le_refl _, by go_num, HM2, HF⟩
    · have b1 : decide (k < n) = false := decide_eq_false hlt
      have hkn : k = ws.length := by rw [HN.out]; omega
      have HMM : Aside0 (Mk w0 wr m A0 c0 fr (.slice Aw n cw) (fillW at_ (pageL l1) ws)) := ⟨by
        have h := HM.out
        rw [hkn, List.take_length, List.drop_length, List.append_nil] at h
        exact h⟩
      clear hlt hkn
      go_wp2_with fail
      go_end0
      exact ⟨rfl, HMM.out, HF.out⟩
end
end Go.Proofs.Ytbdbjlfdnijfeaa.Tree
