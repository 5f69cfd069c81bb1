/- For all worlds: a new reference disk. Conditions: a size between 1 and 480. -/
import Derived.Test.YtiengbimednonaaDiskRef4
namespace Go.Proofs.Ytiengbimednonaa.Disk
open Go Go.RowKit Go.Proofs.YtiengbimednonaaW.PrintWords Go.Proofs.YtiengbimednonaaW.PrintLast Go.Proofs.YtiengbimednonaaW.PrintMore
set_option linter.unusedVariables false
set_option linter.unusedSimpArgs false
theorem infoN : (Try.prog.info? 31).map (fun i => (i.zero, i.size, i.bytes)) = some (some (.slice none 0 0), 1, 24) := by kernel_rfl
theorem exec_conv {P : Program} {a : Act} {o : Oper} {w : World} (src dst : TypeId) (x : Operand) (ho : o.op = .convert src dst x) (v u : Value) (hx : a.eval x = v) (h : (convert src dst v).run P w = .ok u w) : (execOp a.eval o).run P w = .ok (.value u) w := by
  unfold execOp
  simp only [ho, hx, Sem.run_bind, h]
  rfl
/-- A row whose elements are all nil. -/
def KN : Kd Unit := Kd.scalar (fun _ => Value.slice none 0 0) (fun _ => rfl)
theorem at_nil {w : World} {A : Option Addr} {n : Nat} {xs : List Unit} (h : KN.C w A n xs) {i : Nat} (hi : i < n) : ∃ ad, A = some ad ∧ w.cell? (ad.add i) = some (.slice none 0 0) := by
  obtain ⟨ad, c, e, _, hK, hc0⟩ := Kd.C_get h () (i : Int) (by omega) (by omega)
  have hc : ∀ j u, c[j]? = some u → w.cell? (ad.add (i * 1 + j)) = some u := hc0
  obtain rfl : c = [.slice none 0 0] := hK
  exact ⟨ad, e, by have hq := hc 0 _ rfl; rwa [Nat.mul_one, Nat.add_zero] at hq⟩
/-- Behind k rounds. -/
structure RN (w wr : World) (k : Nat) (vL vO : Value) : Prop where
  hg : wr.heap[w.heap.size]? = some (.cells #[vL, vO, .int .i64 (-1), .bool false] 52 (0, 0))
  bl : Below w.heap.size w wr
  rL : Kd.string.R 9 wr w.heap.size (fun _ => True) vL (List.replicate k (str z64))
  rO : KN.R 31 wr w.heap.size (fun _ => True) vO (List.replicate k ())
theorem RN.done {w wr : World} {n : Nat} {vL vO : Value} (h : RN w wr n vL vO) (h1 : 1 ≤ n) (h2 : n ≤ 480) : ∃ G, RD wr G w.heap.size (newS n) ∧ ∀ k, G k → w.heap.size ≤ k := by
  have hl1 : 0 < (List.replicate n (str z64)).length := by rw [List.length_replicate]; omega
  have hl2 : 0 < (List.replicate n ()).length := by rw [List.length_replicate]; omega
  obtain ⟨gL, cL, rfl, bL, sL, CL, hL⟩ := Kd.R_form h.rL hl1
  obtain ⟨gO, cO, rfl, bO, sO, CO, hO⟩ := Kd.R_form h.rO hl2
  have aL : ∀ i, i < n → CL[i]? = some (.string (str z64)) := fun i hi => by
    obtain ⟨ad, e, hc⟩ := at_text (Kd.R_reads' h.rL).2.2 (i := i) (x := str z64) (by rw [List.getElem?_replicate, if_pos hi])
    obtain rfl := Option.some.inj e
    rw [Addr.add_mid, Nat.zero_add, blk_cell hL] at hc
    exact hc
  have aO : ∀ i, i < n → CO[i]? = some (.slice none 0 0) := fun i hi => by
    obtain ⟨ad, e, hc⟩ := at_nil (Kd.R_reads' h.rO).2.2 (i := i) (by rw [List.length_replicate]; exact hi)
    obtain rfl := Option.some.inj e
    rw [Addr.add_mid, Nat.zero_add, blk_cell hO] at hc
    exact hc
  have hlen : (newS n).bs.length = n := List.length_replicate
  refine ⟨fun k => k = w.heap.size ∨ k = gL ∨ k = gO, ⟨gL, gO, cL, cO, CL, CO, ?_, hL, fun i b hi => ?_, hO, fun i b hi => ?_, fun i j vi vj _ hi hj hvi hvj k hk => ?_, .inl rfl, .inr (.inl rfl), .inr (.inr rfl), fun k hk => ?_, by show (-1 : Int) ≤ _; omega, by rw [hlen]; exact h2⟩, fun k hk => ?_⟩
  · rw [hlen]
    have h3 := h.hg
    rw [List.length_replicate, List.length_replicate] at h3
    exact h3
  · obtain ⟨hin, rfl⟩ := newS_at hi
    exact aL i hin
  · obtain ⟨hin, rfl⟩ := newS_at hi
    exact ⟨_, aO i hin, Kd.R_nil _ _ _ _ _⟩
  · rw [hlen] at hi
    rw [aO i hi] at hvi
    obtain rfl := Option.some.inj hvi
    simp [Value.ownBlock] at hk
  · rcases hk with rfl | rfl | rfl
    · exact blk_lt h.hg
    · exact sL
    · exact sO
  · rcases hk with rfl | rfl | rfl
    · exact Nat.le_refl _
    · exact bL
    · exact bO
theorem RN.ownL {w wr : World} {k : Nat} {vL vO : Value} (h : RN w wr k vL vO) : some w.heap.size ≠ vL.ownBlock := Kd.R_ne h.rL h.hg (by decide)
theorem RN.ownO {w wr : World} {k : Nat} {vL vO : Value} (h : RN w wr k vL vO) : some w.heap.size ≠ vO.ownBlock := Kd.R_ne h.rO h.hg (by decide)
/-- A text more lasts. -/
theorem RN.text {w wr w1 : World} {k : Nat} {vL vO v1 : Value} (h : RN w wr k vL vO) (hr : Kd.string.R 9 w1 w.heap.size (fun _ => True) v1 (List.replicate k (str z64) ++ [str z64])) (hg : wr.grownBy w1 vL.ownBlock) :
    (w1.setCell ⟨w.heap.size, 0, none⟩ v1).heap[w.heap.size]? = some (.cells #[v1, vO, .int .i64 (-1), .bool false] 52 (0, 0)) ∧ Below w.heap.size w (w1.setCell ⟨w.heap.size, 0, none⟩ v1) ∧
    Kd.string.R 9 (w1.setCell ⟨w.heap.size, 0, none⟩ v1) w.heap.size (fun _ => True) v1 (List.replicate (k + 1) (str z64)) ∧ KN.R 31 (w1.setCell ⟨w.heap.size, 0, none⟩ v1) w.heap.size (fun _ => True) vO (List.replicate k ()) := by
  have hg1 := blk_grown h.hg hg h.ownL
  have hB1 : Below w.heap.size w w1 := ⟨hg.os.trans h.bl.os, hg.tape.trans h.bl.tape, hg.output.trans h.bl.output, Nat.le_trans h.bl.size hg.size, fun j hj => (hg.block j (Nat.lt_of_lt_of_le hj h.bl.size) (fun e => by have := Kd.R_base h.rL j e.symm; omega)).trans (h.bl.block j hj)⟩
  refine ⟨blk_set hg1 0 v1, hB1.setCell (p := ⟨w.heap.size, 0, none⟩) (Nat.le_refl _) _, ?_, ?_⟩
  · rw [List.replicate_succ']
    exact Kd.R_set hr hg1 (by decide) 0 v1
  · exact Kd.R_set (Kd.R_over h.rO h.rL (by decide) hg) hg1 (by decide) 0 v1
theorem RN.next {w wr w1 : World} {k : Nat} {vL vO v1 : Value} (hg : wr.heap[w.heap.size]? = some (.cells #[vL, vO, .int .i64 (-1), .bool false] 52 (0, 0))) (hB : Below w.heap.size w wr)
    (hL : Kd.string.R 9 wr w.heap.size (fun _ => True) vL (List.replicate (k + 1) (str z64))) (hO : KN.R 31 wr w.heap.size (fun _ => True) vO (List.replicate k ()))
    (hr : KN.R 31 w1 w.heap.size (fun _ => True) v1 (List.replicate k () ++ [()])) (hw : wr.grownBy w1 vO.ownBlock) : RN w (w1.setCell ⟨w.heap.size, 1, none⟩ v1) (k + 1) vL v1 := by
  have hg1 := blk_grown hg hw (Kd.R_ne hO hg (by decide))
  have hB1 : Below w.heap.size w w1 := ⟨hw.os.trans hB.os, hw.tape.trans hB.tape, hw.output.trans hB.output, Nat.le_trans hB.size hw.size, fun j hj => (hw.block j (Nat.lt_of_lt_of_le hj hB.size) (fun e => by have := Kd.R_base hO j e.symm; omega)).trans (hB.block j hj)⟩
  refine ⟨blk_set hg1 1 v1, hB1.setCell (p := ⟨w.heap.size, 1, none⟩) (Nat.le_refl _) _, Kd.R_set (Kd.R_over hL hO (by decide) hw) hg1 (by decide) 1 v1, ?_⟩
  rw [List.replicate_succ']
  exact Kd.R_set hr hg1 (by decide) 1 v1
set_option maxHeartbeats 4000000 in
set_option maxRecDepth 100000 in
theorem rnew_calls (n : Nat) (h1 : 1 ≤ n) (h2 : n ≤ 480) (w : World) : Calls Try.prog 15 #[.int .i64 (n : Int)] w fun e w' => e = .returned (.pointer (some ⟨w.heap.size, 0, none⟩)) ∧ (∃ G, RD w' G w.heap.size (newS n) ∧ ∀ k, G k → w.heap.size ≤ k) ∧ Below w.heap.size w w' := by
  have hmk := mk64
  generalize hZ : Array.replicate 64 (Value.int .u8 0) = Z at hmk
  have HZ : Aside0 (Z.toList = nums .u8 z64) := ⟨by subst hZ; rfl⟩
  clear hZ
  go_enter Try.func15, Try.ntmps15
  go_wp2_with fail
  go_loopg [4] n (fun gg i wr => ∃ (k : Nat) (vL vO : Value), k ≤ n ∧ n - k ≤ gg ∧ i = .int .i64 k ∧ Aside0 (RN w wr k vL vO))
  case atStart => exact ⟨0, .slice none 0 0, .slice none 0 0, Nat.zero_le _, Nat.le_refl _, rfl, ⟨⟨blk_new w _, below_alloc (Below.refl _ _) _, Kd.R_nil _ _ _ _ _, Kd.R_nil _ _ _ _ _⟩⟩⟩
  case round =>
    obtain ⟨k, vL, vO, hk, hgk, rfl, HN⟩ := hrel
    by_cases hlt : k < n
    · have b1 : decide (k < n) = true := decide_eq_true hlt
      have b2 : decide ((k : Int) < (n : Int)) = true := decide_eq_true (by omega)
      obtain ⟨s, hs⟩ : ∃ s, str z64 = s := ⟨_, rfl⟩
      have HS := Aside0.mk hs
      have HC0 : Aside0 (∀ W : World, Below wr.heap.size wr W → W.cell? ⟨w.heap.size, 0, none⟩ = some vL) := ⟨fun W hW => pw_cell_below hW (blk_cell HN.out.hg 0)⟩
      have HCV : Aside0 ((convert 23 9 (.slice (some ⟨wr.heap.size, 0, none⟩) 64 64)).run Try.prog (wr.drew.alloc (.cells Z 5)) = .ok (.string s) (wr.drew.alloc (.cells Z 5))) := ⟨by rw [← hs]; exact conv_str (C_blk (blk_new wr.drew _) HZ.out rfl (by omega))⟩
      have hcl : (List.replicate k s).length = k := List.length_replicate
      have HCL := Aside0.mk hcl
      have HLT : Aside0 (k < 480) := ⟨by omega⟩
      clear hs hcl
      go_wp2_with fail
      refine start_ (n := 12) (S := fun w' => w'.cell? ⟨w.heap.size, 0, none⟩ = some vL) (ds := [8, 11]) #[false, false, false, false, false, false, false, false, false, false, false, false] (by kernel_rfl) rfl rfl (HC0.out _ (below_drew (Below.refl _ _))) (fun hHeld => ?_)
      refine pure_ (i := 0) (N := some 12) (v := ?_) (a' := ?_) #[true, false, false, false, false, false, false, false, false, false, false, false] rfl rfl (by kernel_rfl) (fun _ _ _ h => h) (Or.inl ⟨by rfl, ?_⟩) ?_ ?_
      rotate_left
      · intro w'
        go_simp
        with_reducible rfl
      rotate_left
      · simp only [Act.put, List.setIfInBounds_toArray, List.set_cons_zero, List.set_cons_succ, i64_w, i32_w]
        rfl
      refine pure_ (i := 1) (N := some 13) (v := ?_) (a' := ?_) #[true, true, false, false, false, false, false, false, false, false, false, false] rfl rfl (by kernel_rfl) (fun _ _ _ h => h) (Or.inl ⟨by rfl, ?_⟩) ?_ ?_
      rotate_left
      · intro w'
        go_simp
        with_reducible rfl
      rotate_left
      · simp only [Act.put, List.setIfInBounds_toArray, List.set_cons_zero, List.set_cons_succ, i64_w, i32_w]
        rfl
      refine pure_ (i := 2) (N := some 14) (v := ?_) (a' := ?_) #[true, true, true, false, false, false, false, false, false, false, false, false] rfl rfl (by kernel_rfl) (fun _ _ _ h => h) (Or.inl ⟨by rfl, ?_⟩) ?_ ?_
      rotate_left
      · intro w'
        go_simp
        with_reducible rfl
      rotate_left
      · simp only [Act.put, List.setIfInBounds_toArray, List.set_cons_zero, List.set_cons_succ, i64_w, i32_w]
        rfl
      refine pure_ (i := 3) (N := some 15) (v := ?_) (a' := ?_) #[true, true, true, true, false, false, false, false, false, false, false, false] rfl rfl (by kernel_rfl) (fun _ _ _ h => h) (Or.inl ⟨by rfl, ?_⟩) ?_ ?_
      rotate_left
      · intro w'
        go_simp
        with_reducible rfl
      rotate_left
      · simp only [Act.put, List.setIfInBounds_toArray, List.set_cons_zero, List.set_cons_succ, i64_w, i32_w]
        rfl
      refine take_ (i := 4) (N := some 16) (v := ?_) (a' := ?_) #[true, true, true, true, true, false, false, false, false, false, false, false] rfl rfl (by kernel_rfl) (fun _ _ _ h => h) (Or.inl ⟨by rfl, ?_⟩) hHeld ?_ ?_
      rotate_left
      · intro w' s0
        go_simp
        with_reducible rfl
      rotate_left
      · simp only [Act.put, List.setIfInBounds_toArray, List.set_cons_zero, List.set_cons_succ, i64_w, i32_w]
        rfl
      refine one_ (i := 5) (N := some 17) #[true, true, true, true, true, true, false, false, false, false, false, false] rfl rfl (by kernel_rfl) (by decide) (fun K hK => ?_)
      refine value_ (w1 := ?_) (v := ?_) (by rfl) rfl ?_ ?_
      rotate_left 2
      · go_simp
        constructor
        · rfl
        · rfl
      refine hK.out _ _ (HC0.out _ (below_alloc (below_drew (Below.refl _ _)) _)) (fun hHeld => ?_)
      clear hK K
      refine norm_ (a' := ?_) ?_ ?_
      rotate_left
      · show Act.put _ (some 17) _ = _
        simp only [Act.put, List.setIfInBounds_toArray, List.set_cons_zero, List.set_cons_succ, i64_w, i32_w]
        rfl
      refine one_ (i := 6) (N := some 18) #[true, true, true, true, true, true, true, false, false, false, false, false] rfl rfl (by kernel_rfl) (by decide) (fun K hK => ?_)
      refine value_ (w1 := ?_) (v := ?_) (by rfl) rfl ?_ ?_
      rotate_left 2
      · refine (exec_conv _ _ (.tmp 17) ?_ _ _ ?_ HCV.out).trans ?_ <;> rfl
      refine hK.out _ _ (HC0.out _ (below_alloc (below_drew (Below.refl _ _)) _)) (fun hHeld => ?_)
      clear hK K
      refine norm_ (a' := ?_) ?_ ?_
      rotate_left
      · show Act.put _ (some 18) _ = _
        simp only [Act.put, List.setIfInBounds_toArray, List.set_cons_zero, List.set_cons_succ, i64_w, i32_w]
        rfl
      refine one_ (i := 7) (N := some 19) #[true, true, true, true, true, true, true, true, false, false, false, false] rfl rfl (by kernel_rfl) (by decide) (fun K hK => ?_)
      refine value_ (w1 := ?_) (v := ?_) (by rfl) rfl ?_ ?_
      rotate_left 2
      · go_simp
        constructor
        · rfl
        · rfl
      refine hK.out _ _ (HC0.out _ (below_alloc (below_alloc (below_drew (Below.refl _ _)) _) _)) (fun hHeld => ?_)
      clear hK K
      refine norm_ (a' := ?_) ?_ ?_
      rotate_left
      · show Act.put _ (some 19) _ = _
        simp only [Act.put, List.setIfInBounds_toArray, List.set_cons_zero, List.set_cons_succ, i64_w, i32_w]
        rfl
      refine last_ (i := 8) (N := some 20) #[true, true, true, true, true, true, true, true, true, false, false, false] rfl rfl (by kernel_rfl) (by decide) (fun K hK => ?_)
      refine Kd.R_append_step Kd.string (w0 := w) (W := wr.drew.alloc (.cells Z 5)) w.heap.size (by rfl) (.tmp 16) (.tmp 19) 31 9 (.string ByteArray.empty) 16 rfl Try.underlying31 infoS (by rfl) (by decide) (by omega) vL (List.replicate k s) s [.string s] (fun _ => True) (fun _ => False) (by rfl) ?hx ?hp ?hk ?hf ?hO ?hB ?hz ?hl ?_
      case hx => rw [World.size_alloc]; rfl
      case hp => exact rfl
      case hk => exact fun _ h => h.elim
      case hf => exact fun _ _ => trivial
      case hO => rw [← HS.out]; exact Kd.R_below HN.out.rL (below_alloc (below_drew (Below.refl _ _)) _)
      case hB => exact below_alloc (below_drew HN.out.bl) _
      case hz => exact (below_alloc (below_drew HN.out.bl) (.cells Z 5)).size
      case hl => have := HCL.out; have := HLT.out; omega
      intro v3 w3 ho3 hb3 hg3 hat3
      obtain ⟨A3, c3, rfl⟩ := Kd.R_slice ho3
      have HO3 := Aside0.mk ho3
      have HG3 := Aside0.mk hg3
      have hb3_ := blk_grown (blk_below HN.out.hg (below_alloc (below_drew (Below.refl _ _)) (.cells Z 5))) HG3.out HN.out.ownL
      have cc3 := blk_cell hb3_ 0
      have ff3 := blk_frozen hb3_ 0
      clear ho3 hb3 hg3 hat3 hb3_
      refine hK.out _ _ ?_
      clear hK K
      refine norm_ (a' := ?_) ?_ ?_
      rotate_left
      · show Act.put _ (some 20) _ = _
        simp only [Act.put, List.setIfInBounds_toArray, List.set_cons_zero, List.set_cons_succ, i64_w, i32_w]
        rfl
      refine pure_ (i := 9) (N := some 21) (v := ?_) (a' := ?_) #[true, true, true, true, true, true, true, true, true, true, false, false] rfl rfl (by kernel_rfl) (fun _ _ _ h => h) (Or.inl ⟨by rfl, ?_⟩) ?_ ?_
      rotate_left
      · intro w'
        go_simp
        with_reducible rfl
      rotate_left
      · simp only [Act.put, List.setIfInBounds_toArray, List.set_cons_zero, List.set_cons_succ, i64_w, i32_w]
        rfl
      refine pure_ (i := 10) (N := some 22) (v := ?_) (a' := ?_) #[true, true, true, true, true, true, true, true, true, true, true, false] rfl rfl (by kernel_rfl) (fun _ _ _ h => h) (Or.inl ⟨by rfl, ?_⟩) ?_ ?_
      rotate_left
      · intro w'
        go_simp
        with_reducible rfl
      rotate_left
      · simp only [Act.put, List.setIfInBounds_toArray, List.set_cons_zero, List.set_cons_succ, i64_w, i32_w]
        rfl
      refine last_ (i := 11) (N := none) #[true, true, true, true, true, true, true, true, true, true, true, true] rfl rfl (by kernel_rfl) (by decide) (fun K hK => ?_)
      refine skip_ (w1 := ?_) (by rfl) rfl ?_ ?_
      rotate_left
      · go_simp
        rfl
      refine hK.out _ _ ?_
      clear hK K
      refine done_ (by kernel_rfl) ?_

      have hba : Below wr.heap.size wr (wr.drew.alloc (.cells Z 5)) := below_alloc (below_drew (Below.refl _ _)) _
      have hgw : wr.grownBy w3 vL.ownBlock := ⟨HG3.out.os, HG3.out.tape, HG3.out.output, Nat.le_trans hba.size HG3.out.size, fun j hj hn => (HG3.out.block j (Nat.lt_of_lt_of_le hj hba.size) hn).trans (hba.block j hj)⟩
      have ho3 := HO3.out
      obtain ⟨v4, hv4⟩ : ∃ v4, Value.slice A3 (List.replicate k s ++ [s]).length c3 = v4 := ⟨_, rfl⟩
      rw [hv4] at ho3
      rw [show (List.replicate k s ++ [s]).length = k + 1 by rw [List.length_append, HCL.out]; rfl] at hv4
      rw [← HS.out] at ho3
      obtain ⟨hg4, hb4, hL4, hO4⟩ := HN.out.text ho3 hgw
      obtain ⟨W4, hW4⟩ : ∃ W4, w3.setCell ⟨w.heap.size, 0, none⟩ v4 = W4 := ⟨_, rfl⟩
      rw [hW4] at hg4 hb4 hL4 hO4
      have c41 := blk_cell hg4 1
      have HG4 := Aside0.mk hg4
      have HB4 := Aside0.mk hb4
      have HL4 := Aside0.mk hL4
      have HO4 := Aside0.mk hO4
      have hsw : w3.setCell ⟨w.heap.size, 0, none⟩ (Value.slice A3 (k + 1) c3) = W4 := by rw [hv4]; exact hW4
      clear hba hgw ho3 hg4 hb4 hL4 hO4 hW4 hv4 cc3 ff3
      rw [hsw]
      clear hsw
      go_wp2_with ((with_reducible refine gate_builtin (b := .append) (xs := #[.tmp 27, .tmp 28]) rfl ?_); at_builtin; refine Kd.R_append KN (w0 := w) (W := W4) w.heap.size rfl (.tmp 27) (.tmp 28) 30 31 (.slice none 0 0) 24 rfl Try.underlying30 infoN rfl (by decide) (by omega) vO (List.replicate k ()) () [.slice none 0 0] (fun _ => True) (fun _ => False) rfl ?aX ?aP ?aK ?aF ?aO ?aB ?aS ?aL ?_; (case aX => with_unfolding_all rfl); (case aP => with_unfolding_all rfl); (case aK => exact fun k hk => hk.elim); (case aF => exact fun _ _ => trivial); (case aO => exact HO4.out); (case aB => exact HB4.out); (case aS => exact HB4.out.size); (case aL => rw [List.length_replicate]; have := HLT.out; omega); intro v5 w5 ho hb hg hat; obtain ⟨A5, c5, rfl⟩ := Kd.R_slice ho; rw [show (List.replicate k () ++ [()]).length = k + 1 by rw [List.length_append, List.length_replicate]; with_unfolding_all rfl] at ho hat; have HO5 := Aside0.mk ho; have HG5 := Aside0.mk hg; have hb5 := blk_grown HG4.out hg (Kd.R_ne HO4.out HG4.out (by decide)); have c51 := blk_cell hb5 1; have f51 := blk_frozen hb5 1; clear ho hb hg hat hb5)
      go_roundg (n - (k + 1))
      case measure => omega
      case rel => exact ⟨k + 1, v4, _, by omega, Nat.le_refl _, by go_num, ⟨RN.next (wr := W4) HG4.out HB4.out HL4.out HO4.out HO5.out HG5.out⟩⟩
    · have b1 : decide (k < n) = false := decide_eq_false hlt
      have b2 : decide ((k : Int) < (n : Int)) = false := decide_eq_false (by omega)
      obtain rfl : k = n := by omega
      go_wp2_with fail
      go_ret
      exact ⟨rfl, HN.out.done h1 h2, HN.out.bl⟩
end Go.Proofs.Ytiengbimednonaa.Disk
