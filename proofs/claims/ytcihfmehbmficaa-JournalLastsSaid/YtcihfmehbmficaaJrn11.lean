/- Package journal: look, where there is no disk with a log. -/
import Derived.Test.YtcihfmehbmficaaJrn7
import Derived.Test.YtcihfmehbmficaaLogFindPure
import Derived.Test.YtcihfmehbmficaaLogRing
namespace Go.Proofs.Ytcihfmehbmficaa.Jrn
open Go Go.RowKit Go.Maps Go.Proofs.YtcihfmehbmficaaW.PrintWords Go.Proofs.YtcihfmehbmficaaW.PrintLast Go.Proofs.YtcihfmehbmficaaW.PrintMore Go.Proofs.Ytcihfmehbmficaa.Disk
set_option linter.unusedVariables false
set_option linter.unusedSimpArgs false
set_option maxRecDepth 100000
/-- The head's box is stored back as it was. -/
theorem head_again (W : World) (b4 : Nat) (a q : Int) (hb : W.heap[b4]? = some (.cells #[.int .i64 a, .int .i64 q] 46 (0, 0))) : ∃ w1, (Instr.storeAt 46 (.pointer (some ⟨b4, 0, none⟩)) (.agg #[.int .i64 a, .int .i64 q])).run Try.prog W = .ok () w1 ∧ w1.heap[b4]? = some (.cells #[.int .i64 a, .int .i64 q] 46 (0, 0)) ∧ W.grownBy w1 (some b4) := by
  obtain ⟨w1, h1, h2, h3, _⟩ := Whole.run_store (P := Try.prog) (w := W) 46 b4 0 46 #[.int .i64 a, .int .i64 q] #[.int .i64 a, .int .i64 q] #[.int .i64 a, .int .i64 q] hb (Nat.le_refl _) infoH (fun v hv => by simp only [List.mem_cons, List.not_mem_nil, or_false] at hv; rcases hv with rfl | rfl <;> rfl) rfl
  exact ⟨w1, h1, h2, h3⟩
theorem look_nil (w : World) : Calls Try.prog 27 #[.pointer none] w fun e w' => e = .returned (.tuple #[.slice none 0 0, .slice none 0 0, .agg #[.int .i64 0, .int .i64 0], .int .i64 1]) ∧ Below w.heap.size w w' := by
  go_enter Try.func27, Try.ntmps27
  go_wp2_with fail
  have hb := blk_new w (.cells #[.int .i64 0, .int .i64 0] 46)
  have HBW := Aside0.mk (below_alloc (Below.refl w.heap.size w) (.cells #[.int .i64 0, .int .i64 0] 46))
  obtain ⟨b4, hb4⟩ : ∃ q, w.heap.size = q := ⟨_, rfl⟩
  obtain ⟨W, hW⟩ : ∃ q, w.alloc (.cells #[.int .i64 0, .int .i64 0] 46) = q := ⟨_, rfl⟩
  have HLE : Aside0 (w.heap.size ≤ b4) := ⟨by omega⟩
  rw [hW] at HBW
  rw [hb4, hW] at hb
  rw [hb4, hW]
  clear hb4 hW
  obtain ⟨a, ha⟩ : ∃ q : Int, (0 : Int) = q := ⟨_, rfl⟩
  obtain ⟨q, hq⟩ : ∃ x : Int, a = x := ⟨_, rfl⟩
  have hb' : W.heap[b4]? = some (.cells #[.int .i64 a, .int .i64 q] 46 (0, 0)) := by rw [← hq, ← ha]; exact hb
  have HS4 : Aside0 (∀ X : World, Below W.heap.size W X → X.cell? ⟨b4, 0, none⟩ = some (.int .i64 a) ∧ X.cell? ⟨b4, 1, none⟩ = some (.int .i64 q)) := ⟨fun X hX => ⟨pw_cell_below hX (blk_cell hb' 0), pw_cell_below hX (blk_cell hb' 1)⟩⟩
  obtain ⟨w10, hst, hz, hg⟩ := head_again W.drew b4 a q (blk_below hb' (below_drew (Below.refl _ _)))
  have HST := Aside0.mk hst
  have HZ := Aside0.mk hz
  have HB10 := Aside0.mk (below_own (below_drew HBW.out) hg HLE.out)
  have HAQ : Aside0 (a = 0 ∧ q = 0) := ⟨by rw [← hq, ← ha]; exact ⟨rfl, rfl⟩⟩
  clear hst hz hg hb hb' ha hq
  refine start_ (n := 5) (S := fun w' => w'.cell? ⟨b4, 0, none⟩ = some (.int .i64 a) ∧ w'.cell? ⟨b4, 1, none⟩ = some (.int .i64 q)) (ds := [3]) #[false, false, false, false, false] (by kernel_rfl) rfl rfl ⟨(HS4.out _ (below_drew (Below.refl _ _))).1, (HS4.out _ (below_drew (Below.refl _ _))).2⟩ (fun hHeld => ?_)
  refine pure_ (i := 1) (N := some 2) (v := ?_) (a' := ?_) #[false, true, false, false, false] rfl rfl (by kernel_rfl) (fun _ _ _ h => h) (Or.inl ⟨by rfl, ?_⟩) ?_ ?_
  rotate_left
  · intro w'
    go_simp
    with_reducible rfl
  rotate_left
  · simp only [Act.put, List.setIfInBounds_toArray, List.set_cons_zero, List.set_cons_succ, i64_w, i32_w]
    rfl
  refine pure_ (i := 2) (N := some 3) (v := ?_) (a' := ?_) #[false, true, true, false, false] rfl rfl (by kernel_rfl) (fun _ _ _ h => h) (Or.inl ⟨by rfl, ?_⟩) ?_ ?_
  rotate_left
  · intro w'
    go_simp
    with_reducible rfl
  rotate_left
  · simp only [Act.put, List.setIfInBounds_toArray, List.set_cons_zero, List.set_cons_succ, i64_w, i32_w]
    rfl
  refine take_ (i := 0) (N := some 21) (v := ?_) (a' := ?_) #[true, true, true, false, false] rfl rfl (by kernel_rfl) (fun _ _ _ h => h) (Or.inl ⟨by rfl, ?_⟩) hHeld ?_ ?_
  rotate_left
  · rintro w' ⟨s0, s1⟩
    go_simp
    with_reducible rfl
  rotate_left
  · simp only [Act.put, List.setIfInBounds_toArray, List.set_cons_zero, List.set_cons_succ, i64_w, i32_w]
    rfl
  refine last_ (i := 3) (N := none) #[true, true, true, true, false] rfl rfl (by kernel_rfl) (by decide) (fun K hK => ?_)
  refine skip_ (w1 := w10) (by rfl) rfl ?_ ?_
  · exact Whole.exec_store _ (.tmp 4) (.tmp 21) rfl _ _ (by rfl) (by rfl) HST.out
  refine hK.out _ _ ?_
  clear hK K
  refine pure_ (i := 4) (N := some 5) (v := ?_) (a' := ?_) #[true, true, true, true, true] rfl rfl (by kernel_rfl) (fun _ _ _ h => h) (Or.inl ⟨by rfl, ?_⟩) ?_ ?_
  rotate_left
  · intro w'
    go_simp
    with_reducible rfl
  rotate_left
  · simp only [Act.put, List.setIfInBounds_toArray, List.set_cons_zero, List.set_cons_succ, i64_w, i32_w]
    rfl
  refine done_ (by kernel_rfl) ?_

  go_wp2_with fail
  refine bodyPost_ret (results_ttct rfl _ _ b4 _ #[.int .i64 a, .int .i64 q] (0, 0) _ rfl HZ.out Try.underlying46 rfl infoH) rfl ?_
  rw [HAQ.out.1, HAQ.out.2]
  exact ⟨rfl, HB10.out⟩
end Go.Proofs.Ytcihfmehbmficaa.Jrn
/- Package journal: look, where the log holds no transaction. -/
namespace Go.Proofs.Ytcihfmehbmficaa.Jrn
open Go Go.RowKit Go.Maps Go.Proofs.YtcihfmehbmficaaW.PrintWords Go.Proofs.YtcihfmehbmficaaW.PrintLast Go.Proofs.YtcihfmehbmficaaW.PrintMore Go.Proofs.Ytcihfmehbmficaa.Disk
set_option linter.unusedVariables false
set_option linter.unusedSimpArgs false
set_option maxRecDepth 100000
abbrev kY : Kd (List Int) := Kd.slice 5 (Kd.int .u8)
theorem infoY : (Try.prog.info? 23).map (fun i => (i.zero, i.size, i.bytes)) = some (some (.slice none 0 0), 1, 24) := by kernel_rfl
theorem C_mid {α : Type} {k : Kd α} (h1 : k.sz = 1) {w : World} {gB n m len : Nat} {xs : List α} (h : k.C w (some ⟨gB, 0, none⟩) n xs) (hm : m + len ≤ n) : k.C w (some ⟨gB, m, none⟩) len ((xs.drop m).take len) := by
  obtain ⟨hl, hn, hc⟩ := h
  refine ⟨by rw [List.length_take, List.length_drop]; omega, by omega, fun h0 => ⟨_, rfl, fun j p hj => ?_⟩⟩
  obtain ⟨ad, e, hc⟩ := hc (by omega)
  obtain rfl := Option.some.inj e
  have hj2 : xs[m + j]? = some p := by
    rw [List.getElem?_take] at hj
    split at hj
    · rw [List.getElem?_drop] at hj; exact hj
    · cases hj
  obtain ⟨c, g1, g2, g3⟩ := hc (m + j) p hj2
  refine ⟨c, g1, g2, fun i u hu => ?_⟩
  have h5 := g3 i u hu
  rw [h1] at h5 ⊢
  rw [Addr.add_mid] at h5 ⊢
  rw [show m + (j * 1 + i) = 0 + ((m + j) * 1 + i) by omega]
  exact h5
theorem row_M {w wr w5 : World} {vb v5 : Value} {x : List Int} {xs : List (List Int)} (hb : Below w.heap.size w wr) (hr : kY.R 23 wr w.heap.size (fun _ => True) vb xs) (h5 : B.R 5 w5 wr.heap.size (fun _ => True) v5 x) : kY.M w5 w.heap.size (fun j => some j ≠ vb.ownBlock) x [v5] :=
  ⟨v5, rfl, Kd.R_lower (Kd.R_mono (Kd.R_bound h5) (fun j hj e => by have h1 := Kd.R_lt hr j e.symm; have h2 := hj.2.1; omega)) hb.size⟩
theorem R_ownY {ba : Nat} {w w1 : World} {base : Nat} {v : Value} {xs : List (List Int)} {cs : Array Value} (h : kY.R 23 w base (fun _ => True) v xs) (hb : w.heap[ba]? = some (.cells cs 46 (0, 0))) (hg : w.grownBy w1 (some ba)) : kY.R 23 w1 base (fun _ => True) v xs :=
  Kd.R_mono (Kd.R_step (Kd.R_types h hb (by decide)) (fun k ho hk => hg.block k hk (fun e => ho.2 (Option.some.inj e)))) (fun _ _ => trivial)
theorem cur64 {w : World} {F : Nat → Prop} {g : Nat} {s : DS} (h : DW w F g s) {i : Nat} {b : Blk} (hi : s.bs[i]? = some b) : (curB b).length = 64 := by
  obtain ⟨gb, C, v, f, h⟩ := h
  unfold curB
  cases hb : b.opn with
  | nil => exact h.h64 i b hi
  | cons x xs =>
    have hk : b.opn[xs.length]? = some ((x :: xs).getLast (by simp)) := by
      rw [hb, List.getLast_eq_getElem]
      exact List.getElem?_eq_getElem (by simp)
    obtain ⟨_, _, _, h64, _⟩ := h.opnC hi hk
    have h9 := List.getLast_eq_getLastD (show x :: xs ≠ [] by simp)
    rw [List.getLastD_cons, ← h9]
    exact h64
set_option maxHeartbeats 4000000 in
theorem look_none {w : World} {F : Nat → Prop} {g : Nat} {bs : List Blk} (h : DW w F g ⟨false, -1, bs⟩) (hl : 64 ≤ bs.length) (hby : ∀ b ∈ bs, Go.Proofs.Ytcihfmehbmficaa.Spin.Bytes (curB b)) {a q : Int} (hh : Go.Proofs.Ytcihfmehbmficaa.Pure.headI ((bs.map curB).getD 1 []) = (a, q, 0)) (hf : Go.Proofs.Ytcihfmehbmficaa.Pure.findI (((bs.map curB).drop 19).take 40) a q = ([], a, q, 0)) :
    Calls Try.prog 27 #[.pointer (some ⟨g, 0, none⟩)] w fun e w' => ∃ vb, e = .returned (.tuple #[vb, .slice none 0 0, .agg #[.int .i64 a, .int .i64 q], .int .i64 0]) ∧ kY.R 23 w' w.heap.size (fun _ => True) vb (bs.map curB) ∧ Below w.heap.size w w' := by
  have hn480 : bs.length ≤ 480 := by obtain ⟨_, _, _, _, h⟩ := h; exact h.n480
  obtain ⟨n, hn⟩ : ∃ q, bs.length = q := ⟨_, rfl⟩
  obtain ⟨L, hL⟩ : ∃ q, bs.map curB = q := ⟨_, rfl⟩
  have HLN : Aside0 (L.length = n) := ⟨by rw [← hL, List.length_map]; exact hn⟩
  have hnl : n ≤ 480 := by omega
  have hn64 : 64 ≤ n := by omega
  have HD := Aside0.mk h
  have HN := Aside0.mk hn
  have HG : Aside0 (∀ (k : Nat) (x : List Int) (W : World), L[k]? = some x → Below w.heap.size w W → Calls Try.prog 28 #[.pointer (some ⟨g, 0, none⟩), .int .i64 (k : Int)] W fun e w' => ∃ v0_ : Value, e = .returned (.tuple #[v0_, .int .i64 0]) ∧ B.R 5 w' W.heap.size (fun _ => True) v0_ x ∧ Below W.heap.size W w') := ⟨fun k x W hx hW => by
    rw [← hL, List.getElem?_map] at hx
    obtain ⟨b, hb, rfl⟩ := Option.map_eq_some_iff.1 hx
    exact Disk.get_at (h.below hW) rfl (k : Int) rfl hb⟩
  have HBL : Aside0 ((DS.bs ⟨false, -1, bs⟩).length = n) := ⟨hn⟩
  have HL64 : Aside0 (∀ (k : Nat) (x : List Int), L[k]? = some x → x.length = 64 ∧ Go.Proofs.Ytcihfmehbmficaa.Spin.Bytes x) := ⟨fun k x hx => by
    rw [← hL, List.getElem?_map] at hx
    obtain ⟨b, hb, rfl⟩ := Option.map_eq_some_iff.1 hx
    exact ⟨cur64 h hb, hby b (List.mem_of_getElem? hb)⟩⟩
  rw [hL] at hf hh
  have HF := Aside0.mk hf
  have HH := Aside0.mk hh
  rw [hL]
  clear h hl hn480 hf hh hby hn hL
  go_enter Try.func27, Try.ntmps27
  have bn1 : decide ((n : Int) < 64) = false := decide_eq_false (by omega)
  have bn2 : decide (n < 64) = false := decide_eq_false (by omega)
  go_wp2_with (go_at_call 20; (with_reducible refine (Disk.blocks_at (HD.out.below (below_alloc (Below.refl _ _) _)) (n : Int) (by rw [HBL.out])).mono ?_); rintro e w2 ⟨rfl, rfl⟩)
  have hb4 := blk_new w (.cells #[.int .i64 0, .int .i64 0] 46)
  have HBW := Aside0.mk (below_alloc (Below.refl w.heap.size w) (.cells #[.int .i64 0, .int .i64 0] 46))
  obtain ⟨b4, hb4e⟩ : ∃ q, w.heap.size = q := ⟨_, rfl⟩
  have HLE : Aside0 (w.heap.size ≤ b4) := ⟨by omega⟩
  rw [hb4e] at hb4
  rw [hb4e]
  have HB4 := Aside0.mk hb4
  have HNL := Aside0.mk hnl
  have HN64 := Aside0.mk hn64
  clear hb4 hb4e bn1 bn2 hnl hn64
  go_loopg [2, 3, 24] n (fun gg vb v3 i wr => ∃ k : Nat, k ≤ n ∧ n - k ≤ gg ∧ i = .int .i64 k ∧ v3 = .slice none 0 0 ∧ Aside0 (Below w.heap.size w wr) ∧ Aside0 (wr.heap[b4]? = some (.cells #[.int .i64 0, .int .i64 0] 46 (0, 0))) ∧ Aside0 (kY.R 23 wr w.heap.size (fun _ => True) vb (L.take k)))
  case atStart => exact ⟨0, Nat.zero_le _, Nat.le_refl _, rfl, rfl, HBW, HB4, ⟨Kd.R_nil _ _ _ _ _⟩⟩
  case round =>
    clear HBW HB4
    obtain ⟨k, hk, hgk, rfl, rfl, HB, HB4, HR⟩ := hrel
    by_cases hlt : k < n
    · have b1 : decide ((k : Int) < (n : Int)) = true := decide_eq_true (by omega)
      have b2 : decide (k < n) = true := decide_eq_true hlt
      obtain ⟨x, hx⟩ : ∃ x, L[k]? = some x := ⟨_, List.getElem?_eq_getElem (by have := HLN.out; omega)⟩
      have HX := Aside0.mk hx
      have HX64 := Aside0.mk (HL64.out k x hx).1
      have HTK : Aside0 (L.take (k + 1) = L.take k ++ [x]) := ⟨by rw [List.take_add_one, hx]; rfl⟩
      have HKL : Aside0 ((L.take k).length = k) := ⟨by rw [List.length_take, HLN.out]; omega⟩
      have ewk : wrap64 ((k : Int) + 1) = ((k + 1 : Nat) : Int) := by have h1 := HNL.out; unfold wrap64; omega
      obtain ⟨Ab, cb, rfl⟩ := Kd.R_slice HR.out
      rw [HKL.out] at HR
      rw [HKL.out]
      have HLT := Aside0.mk hlt
      have HGK := Aside0.mk hgk
      clear hx hk hlt hgk
      go_wp2_with (first | (go_at_call 28; (with_reducible refine (HG.out k x _ HX.out HB.out).mono ?_); rintro e w5 ⟨v5, rfl, hr5, hb5⟩; obtain ⟨A5, c5, e5⟩ := Kd.R_slice hr5; rw [HX64.out] at e5; subst e5; have HB5 := Aside0.mk (below_step HB.out hb5); have HR5 := Aside0.mk hr5; have HRB5 := Aside0.mk (Kd.R_below HR.out hb5); have H45 := Aside0.mk (blk_below HB4.out hb5); clear hr5 hb5) | ((with_reducible refine gate_builtin (b := .append) (xs := #[.tmp 37, .tmp 39]) rfl ?_); at_builtin; refine Kd.R_append kY (w0 := w) (W := w5) w.heap.size rfl (.tmp 37) (.tmp 39) 22 23 (.slice none 0 0) 24 rfl Try.underlying22 infoY (by rfl) (show 0 < 1 from by decide) (by omega) (.slice Ab k cb) (L.take k) x [.slice A5 64 c5] (fun _ => True) (fun j => some j ≠ (Value.slice Ab k cb).ownBlock) rfl ?aX ?aP ?aK ?aF ?aO ?aB ?aS ?aL ?_; (case aX => with_unfolding_all rfl); (case aP => exact row_M HB.out HR.out HR5.out); (case aK => exact fun k hk => ⟨trivial, hk⟩); (case aF => exact fun _ _ => trivial); (case aO => exact HRB5.out); (case aB => exact HB5.out); (case aS => exact HB5.out.size); (case aL => have h1 := HKL.out; have h2 := HNL.out; have h3 := HLT.out; omega); intro v8 w8 ho hb hg hat; have HO8 := Aside0.mk ho; have HB8 := Aside0.mk hb; have H48 := Aside0.mk (blk_grown H45.out hg (Kd.R_ne HRB5.out H45.out (by decide))); clear ho hb hg hat))
      go_roundg (n - (k + 1))
      case measure => have h1 := HLT.out; have h2 := HGK.out; omega
      case rel => exact ⟨k + 1, HLT.out, Nat.le_refl _, by rw [ewk], rfl, HB8, H48, ⟨by rw [HTK.out]; exact HO8.out⟩⟩
    · obtain rfl : k = n := by omega
      have b1 : decide ((k : Int) < (k : Int)) = false := decide_eq_false (by omega)
      have hR : kY.R 23 wr w.heap.size (fun _ => True) u2 L := by have h := HR.out; rw [List.take_of_length_le (by have := HLN.out; omega)] at h; exact h
      obtain ⟨gB, cB, e2, hbB, hgB, cellsB, hhB⟩ := Kd.R_form hR (by have h1 := HLN.out; have h2 := HN64.out; omega)
      rw [HLN.out] at e2
      subst e2
      have hrr := Kd.R_reads' hR
      have HCB : Aside0 (k ≤ cB) := ⟨hrr.2.1⟩
      have hC : Kd.C kY wr (some ⟨gB, 0, none⟩) k L := by have h := hrr.2.2; rw [HLN.out] at h; exact h
      obtain ⟨ad1, A1, c1, ea, hcell, hl1, hC1⟩ := Go.Proofs.Ytcihfmehbmficaa.PAll.at_L2 hC 1 (by decide) (by have := HN64.out; omega)
      obtain rfl := Option.some.inj ea
      have hx1 : L[1]? = some (Go.Proofs.Ytcihfmehbmficaa.PAll.rd_L2 L 1) := by
        show L[1]? = some (L.getD 1 [])
        rw [List.getD_eq_getElem?_getD, List.getElem?_eq_getElem (by have h1 := HLN.out; have h2 := HN64.out; omega)]; rfl
      have h164 := HL64.out 1 _ hx1
      have cB1 : wr.cell? ⟨gB, 1, none⟩ = some (.slice A1 64 c1) := by rw [← h164.1]; exact hcell
      have HGH : Aside0 (Calls Try.prog 42 #[.slice A1 64 c1] wr fun e w' => e = .returned (.tuple #[.agg #[.int .i64 a, .int .i64 q], .int .i64 0]) ∧ Below wr.heap.size wr w') := ⟨by
        have h := Go.Proofs.Ytcihfmehbmficaa.PAll.super_GetHead.calls A1 c1 (Go.Proofs.Ytcihfmehbmficaa.PAll.rd_L2 L 1) a q 0 wr hC1 hl1 (by rw [Go.Proofs.Ytcihfmehbmficaa.Pure.GetHead_eq h164.2]; exact congrArg some HH.out)
        rw [h164.1] at h
        exact h⟩
      have HRW := Aside0.mk hR
      have hb0 : (0 : Int) < 64 := by decide
      have hk1 : (1 : Int) < (k : Int) := by have := HN64.out; omega
      have hk2 : 1 < k := by have := HN64.out; omega
      clear hR hrr hC hcell hl1 hC1 hx1 h164 hhB HR hk hgk hlt
      go_wp2_with (go_at_call 42; (with_reducible refine HGH.out.mono ?_); rintro e w12 ⟨rfl, hb12⟩; have HB12 := Aside0.mk (below_step HB.out hb12); have H412 := Aside0.mk (blk_below HB4.out hb12); have HR12 := Aside0.mk (Kd.R_below HRW.out hb12); have c40 : w12.cell? ⟨b4, 0, none⟩ = some (.int .i64 0) := blk_cell H412.out 0; have c41 : w12.cell? ⟨b4, 1, none⟩ = some (.int .i64 0) := blk_cell H412.out 1; have f40 : w12.frozen? ⟨b4, 0, none⟩ = false := blk_frozen H412.out 0; have f41 : w12.frozen? ⟨b4, 1, none⟩ = false := blk_frozen H412.out 1; clear hb12)
      have HB14 : Aside0 (Below w.heap.size w ((w12.setCell ⟨b4, 0, none⟩ (.int .i64 a)).setCell ⟨b4, 1, none⟩ (.int .i64 q))) := ⟨(HB12.out.setCell (p := ⟨b4, 0, none⟩) HLE.out _).setCell (p := ⟨b4, 1, none⟩) HLE.out _⟩
      have hbk1 := blk_set H412.out 0 (.int .i64 a)
      have HBK : Aside0 (((w12.setCell ⟨b4, 0, none⟩ (.int .i64 a)).setCell ⟨b4, 1, none⟩ (.int .i64 q)).heap[b4]? = some (.cells #[.int .i64 a, .int .i64 q] 46 (0, 0))) := ⟨blk_set hbk1 1 (.int .i64 q)⟩
      have HR14 : Aside0 (kY.R 23 ((w12.setCell ⟨b4, 0, none⟩ (.int .i64 a)).setCell ⟨b4, 1, none⟩ (.int .i64 q)) w.heap.size (fun _ => True) (.slice (some ⟨gB, 0, none⟩) k cB) L) := ⟨Kd.R_set (Kd.R_set HR12.out H412.out (by decide) 0 (.int .i64 a)) hbk1 (by decide) 1 (.int .i64 q)⟩
      clear hbk1 c40 c41 f40 f41 H412 HR12 HB12 cB1 hb0 hk1 hk2
      obtain ⟨W14, hW14⟩ : ∃ q_, (w12.setCell ⟨b4, 0, none⟩ (.int .i64 a)).setCell ⟨b4, 1, none⟩ (.int .i64 q) = q_ := ⟨_, rfl⟩
      rw [hW14] at HB14 HBK HR14
      rw [hW14]
      clear hW14
      have HSH : Aside0 (∀ X : World, Below W14.heap.size W14 X → X.cell? ⟨b4, 0, none⟩ = some (.int .i64 a) ∧ X.cell? ⟨b4, 1, none⟩ = some (.int .i64 q)) := ⟨fun X hX => ⟨pw_cell_below hX (blk_cell HBK.out 0), pw_cell_below hX (blk_cell HBK.out 1)⟩⟩
      have HFI : Aside0 (∀ X : World, Below W14.heap.size W14 X → Calls Try.prog 43 #[.slice (some ⟨gB, 19, none⟩) 40 (cB - 19), .agg #[.int .i64 a, .int .i64 q]] X fun e w' => ∃ v0_ : Value, e = .returned (.tuple #[v0_, .agg #[.int .i64 a, .int .i64 q], .int .i64 0]) ∧ Kd.R (Kd.slice 35 Go.Proofs.Ytcihfmehbmficaa.PAll.k35) 42 w' X.heap.size (fun _ => True) v0_ [] ∧ Below X.heap.size X w') := ⟨fun X hX => by
        have hC := (Kd.R_reads' (Kd.R_below HR14.out hX)).2.2
        rw [HLN.out] at hC
        have h40 : ((L.drop 19).take 40).length = 40 := by rw [List.length_take, List.length_drop, HLN.out]; have := HN64.out; omega
        have hM := C_mid (m := 19) (len := 40) rfl hC (by have := HN64.out; omega)
        have hbb : ∀ b ∈ (L.drop 19).take 40, Go.Proofs.Ytcihfmehbmficaa.Spin.Bytes b := fun b hb => by
          obtain ⟨j, hj, e⟩ := List.getElem_of_mem (List.mem_of_mem_drop (List.mem_of_mem_take hb))
          rw [← e]
          exact (HL64.out j _ (List.getElem?_eq_getElem hj)).2
        have hfe : Go.Proofs.Ytcihfmehbmficaa.PAll.log_Find.f 1073742001 ((L.drop 19).take 40) a q = some ([], a, q, 0) := by
          rw [Go.Proofs.Ytcihfmehbmficaa.Pure.find_eq hbb a q 1073742001 (by omega)]
          exact congrArg some HF.out
        have h := Go.Proofs.Ytcihfmehbmficaa.PAll.log_Find.calls 1073742001 (some ⟨gB, 19, none⟩) (cB - 19) ((L.drop 19).take 40) a q [] a q 0 X (by rw [h40]; exact hM) (by rw [h40]; have h1 := HCB.out; have h2 := HN64.out; omega) hfe
        rw [h40] at h
        exact h⟩
      have hc19 : 59 ≤ cB := by have h1 := HCB.out; have h2 := HN64.out; omega
      have hk59 : 59 ≤ k := by have h2 := HN64.out; omega
      have hc19i : (59 : Int) ≤ (cB : Int) := by omega
      have hcne : ¬ cB = 19 := by omega
      refine start_ (n := 11) (S := fun w' => w'.cell? ⟨b4, 0, none⟩ = some (.int .i64 a) ∧ w'.cell? ⟨b4, 1, none⟩ = some (.int .i64 q)) (ds := [9]) #[false, false, false, false, false, false, false, false, false, false, false] (by kernel_rfl) rfl rfl ⟨(HSH.out _ (below_drew (Below.refl _ _))).1, (HSH.out _ (below_drew (Below.refl _ _))).2⟩ (fun hHeld => ?_)
      refine pure_ (i := 0) (N := some 54) (v := ?_) (a' := ?_) #[true, false, false, false, false, false, false, false, false, false, false] rfl rfl (by kernel_rfl) (fun _ _ _ h => h) (Or.inl ⟨by rfl, ?_⟩) ?_ ?_
      rotate_left
      · intro w'
        go_simp
        with_reducible rfl
      rotate_left
      · simp only [Act.put, List.setIfInBounds_toArray, List.set_cons_zero, List.set_cons_succ, i64_w, i32_w]
        rfl
      refine pure_ (i := 1) (N := some 55) (v := ?_) (a' := ?_) #[true, true, false, false, false, false, false, false, false, false, false] rfl rfl (by kernel_rfl) (fun _ _ _ h => h) (Or.inl ⟨by rfl, ?_⟩) ?_ ?_
      rotate_left
      · intro w'
        go_simp
        with_reducible rfl
      rotate_left
      · simp only [Act.put, List.setIfInBounds_toArray, List.set_cons_zero, List.set_cons_succ, i64_w, i32_w]
        rfl
      refine take_ (i := 2) (N := some 56) (v := ?_) (a' := ?_) #[true, true, true, false, false, false, false, false, false, false, false] rfl rfl (by kernel_rfl) (fun _ _ _ h => h) (Or.inl ⟨by rfl, ?_⟩) hHeld ?_ ?_
      rotate_left
      · rintro w' ⟨s0, s1⟩
        go_simp
        with_reducible rfl
      rotate_left
      · simp only [Act.put, List.setIfInBounds_toArray, List.set_cons_zero, List.set_cons_succ, i64_w, i32_w]
        rfl
      refine one_ (i := 3) (N := some 57) #[true, true, true, true, false, false, false, false, false, false, false] rfl rfl (by kernel_rfl) (by decide) (fun K hK => ?_)
      refine goes_ Try.func43 (by kernel_rfl) rfl #[.slice (some ⟨gB, 19, none⟩) 40 (cB - 19), .agg #[.int .i64 a, .int .i64 q]] (by rfl) rfl rfl (by (try simp only [List.map_toArray, List.map_cons, List.map_nil]); first | done | rfl) ?_
      with_reducible refine (HFI.out _ (below_drew (Below.refl _ _))).mono ?_
      rintro e w13 ⟨v13, rfl, hr13, hb13⟩
      refine ⟨_, rfl, ?_⟩
      obtain ⟨A13, c13, e13⟩ := Kd.R_slice hr13
      subst e13
      have HB13 := Aside0.mk ((below_drew (Below.refl _ _)).trans hb13)
      have HR13 := Aside0.mk hr13
      obtain ⟨w14, hst14, hz14, hg14⟩ := head_again w13 b4 a q (blk_below HBK.out HB13.out)
      have HST14 := Aside0.mk hst14
      have HZ14 := Aside0.mk hz14
      have HG14 := Aside0.mk hg14
      clear hr13 hb13 hst14 hz14 hg14
      refine hK.out _ _ ⟨(HSH.out _ HB13.out).1, (HSH.out _ HB13.out).2⟩ (fun hHeld => ?_)
      clear hK K
      refine norm_ (a' := ?_) ?_ ?_
      rotate_left
      · show Act.put _ (some 57) _ = _
        simp only [Act.put, List.setIfInBounds_toArray, List.set_cons_zero, List.set_cons_succ, i64_w, i32_w]
        rfl
      refine pure_ (i := 4) (N := some 53) (v := ?_) (a' := ?_) #[true, true, true, true, true, false, false, false, false, false, false] rfl rfl (by kernel_rfl) (fun _ _ _ h => h) (Or.inl ⟨by rfl, ?_⟩) ?_ ?_
      rotate_left
      · intro w'
        go_simp
        with_reducible rfl
      rotate_left
      · simp only [Act.put, List.setIfInBounds_toArray, List.set_cons_zero, List.set_cons_succ, i64_w, i32_w]
        rfl
      refine pure_ (i := 5) (N := some 58) (v := ?_) (a' := ?_) #[true, true, true, true, true, true, false, false, false, false, false] rfl rfl (by kernel_rfl) (fun _ _ _ h => h) (Or.inl ⟨by rfl, ?_⟩) ?_ ?_
      rotate_left
      · intro w'
        go_simp
        with_reducible rfl
      rotate_left
      · simp only [Act.put, List.setIfInBounds_toArray, List.set_cons_zero, List.set_cons_succ, i64_w, i32_w]
        rfl
      refine pure_ (i := 6) (N := some 59) (v := ?_) (a' := ?_) #[true, true, true, true, true, true, true, false, false, false, false] rfl rfl (by kernel_rfl) (fun _ _ _ h => h) (Or.inl ⟨by rfl, ?_⟩) ?_ ?_
      rotate_left
      · intro w'
        go_simp
        with_reducible rfl
      rotate_left
      · simp only [Act.put, List.setIfInBounds_toArray, List.set_cons_zero, List.set_cons_succ, i64_w, i32_w]
        rfl
      refine pure_ (i := 7) (N := some 60) (v := ?_) (a' := ?_) #[true, true, true, true, true, true, true, true, false, false, false] rfl rfl (by kernel_rfl) (fun _ _ _ h => h) (Or.inl ⟨by rfl, ?_⟩) ?_ ?_
      rotate_left
      · intro w'
        go_simp
        with_reducible rfl
      rotate_left
      · simp only [Act.put, List.setIfInBounds_toArray, List.set_cons_zero, List.set_cons_succ, i64_w, i32_w]
        rfl
      refine pure_ (i := 8) (N := some 9) (v := ?_) (a' := ?_) #[true, true, true, true, true, true, true, true, true, false, false] rfl rfl (by kernel_rfl) (fun _ _ _ h => h) (Or.inl ⟨by rfl, ?_⟩) ?_ ?_
      rotate_left
      · intro w'
        go_simp
        with_reducible rfl
      rotate_left
      · simp only [Act.put, List.setIfInBounds_toArray, List.set_cons_zero, List.set_cons_succ, i64_w, i32_w]
        rfl
      refine last_ (i := 9) (N := none) #[true, true, true, true, true, true, true, true, true, true, false] rfl rfl (by kernel_rfl) (by decide) (fun K hK => ?_)
      refine skip_ (w1 := w14) (by rfl) rfl ?_ ?_
      · exact Whole.exec_store _ (.tmp 4) (.tmp 59) rfl _ _ (by rfl) (by rfl) HST14.out
      refine hK.out _ _ ?_
      clear hK K
      refine pure_ (i := 10) (N := some 5) (v := ?_) (a' := ?_) #[true, true, true, true, true, true, true, true, true, true, true] rfl rfl (by kernel_rfl) (fun _ _ _ h => h) (Or.inl ⟨by rfl, ?_⟩) ?_ ?_
      rotate_left
      · intro w'
        go_simp
        with_reducible rfl
      rotate_left
      · simp only [Act.put, List.setIfInBounds_toArray, List.set_cons_zero, List.set_cons_succ, i64_w, i32_w]
        rfl
      refine done_ (by kernel_rfl) ?_

      have HB15 := Aside0.mk (below_own (below_step HB14.out HB13.out) HG14.out HLE.out)
      have HR15 : Aside0 (kY.R 23 w14 w.heap.size (fun _ => True) (.slice (some ⟨gB, 0, none⟩) k cB) L) := ⟨R_ownY (Kd.R_below HR14.out HB13.out) (blk_below HBK.out HB13.out) HG14.out⟩
      go_wp2_with fail
      go_loopg [3, 63] 0 (fun gg v3 i wr => v3 = .slice none 0 0 ∧ i = .int .i64 0 ∧ w14 = wr)
      case atStart => exact ⟨rfl, rfl, rfl⟩
      case round =>
        obtain ⟨rfl, rfl, rfl⟩ := hrel
        have HS4 : Aside0 (∀ X : World, Below w14.heap.size w14 X → X.cell? ⟨b4, 0, none⟩ = some (.int .i64 a) ∧ X.cell? ⟨b4, 1, none⟩ = some (.int .i64 q)) := ⟨fun X hX => ⟨pw_cell_below hX (blk_cell HZ14.out 0), pw_cell_below hX (blk_cell HZ14.out 1)⟩⟩
        obtain ⟨w10, hst, hz, hg⟩ := head_again w14.drew b4 a q (blk_below HZ14.out (below_drew (Below.refl _ _)))
        have HST := Aside0.mk hst
        have HZ := Aside0.mk hz
        have HB10 := Aside0.mk (below_own (below_drew HB15.out) hg HLE.out)
        have HR10 : Aside0 (kY.R 23 w10 w.heap.size (fun _ => True) (.slice (some ⟨gB, 0, none⟩) k cB) L) := ⟨R_ownY (Kd.R_below HR15.out (below_drew (Below.refl _ _))) (blk_below HZ14.out (below_drew (Below.refl _ _))) hg⟩
        clear hst hz hg
        go_wp2_with fail
        refine start_ (n := 8) (S := fun w' => w'.cell? ⟨b4, 0, none⟩ = some (.int .i64 a) ∧ w'.cell? ⟨b4, 1, none⟩ = some (.int .i64 q)) (ds := [6]) #[false, false, false, false, false, false, false, false] (by kernel_rfl) rfl rfl ⟨(HS4.out _ (below_drew (Below.refl _ _))).1, (HS4.out _ (below_drew (Below.refl _ _))).2⟩ (fun hHeld => ?_)
        refine pure_ (i := 0) (N := some 90) (v := ?_) (a' := ?_) #[true, false, false, false, false, false, false, false] rfl rfl (by kernel_rfl) (fun _ _ _ h => h) (Or.inl ⟨by rfl, ?_⟩) ?_ ?_
        rotate_left
        · intro w'
          go_simp
          with_reducible rfl
        rotate_left
        · simp only [Act.put, List.setIfInBounds_toArray, List.set_cons_zero, List.set_cons_succ, i64_w, i32_w]
          rfl
        refine pure_ (i := 1) (N := some 91) (v := ?_) (a' := ?_) #[true, true, false, false, false, false, false, false] rfl rfl (by kernel_rfl) (fun _ _ _ h => h) (Or.inl ⟨by rfl, ?_⟩) ?_ ?_
        rotate_left
        · intro w'
          go_simp
          with_reducible rfl
        rotate_left
        · simp only [Act.put, List.setIfInBounds_toArray, List.set_cons_zero, List.set_cons_succ, i64_w, i32_w]
          rfl
        refine pure_ (i := 3) (N := some 93) (v := ?_) (a' := ?_) #[true, true, false, true, false, false, false, false] rfl rfl (by kernel_rfl) (fun _ _ _ h => h) (Or.inl ⟨by rfl, ?_⟩) ?_ ?_
        rotate_left
        · intro w'
          go_simp
          with_reducible rfl
        rotate_left
        · simp only [Act.put, List.setIfInBounds_toArray, List.set_cons_zero, List.set_cons_succ, i64_w, i32_w]
          rfl
        refine pure_ (i := 4) (N := some 2) (v := ?_) (a' := ?_) #[true, true, false, true, true, false, false, false] rfl rfl (by kernel_rfl) (fun _ _ _ h => h) (Or.inl ⟨by rfl, ?_⟩) ?_ ?_
        rotate_left
        · intro w'
          go_simp
          with_reducible rfl
        rotate_left
        · simp only [Act.put, List.setIfInBounds_toArray, List.set_cons_zero, List.set_cons_succ, i64_w, i32_w]
          rfl
        refine pure_ (i := 5) (N := some 3) (v := ?_) (a' := ?_) #[true, true, false, true, true, true, false, false] rfl rfl (by kernel_rfl) (fun _ _ _ h => h) (Or.inl ⟨by rfl, ?_⟩) ?_ ?_
        rotate_left
        · intro w'
          go_simp
          with_reducible rfl
        rotate_left
        · simp only [Act.put, List.setIfInBounds_toArray, List.set_cons_zero, List.set_cons_succ, i64_w, i32_w]
          rfl
        refine take_ (i := 2) (N := some 92) (v := ?_) (a' := ?_) #[true, true, true, true, true, true, false, false] rfl rfl (by kernel_rfl) (fun _ _ _ h => h) (Or.inl ⟨by rfl, ?_⟩) hHeld ?_ ?_
        rotate_left
        · rintro w' ⟨s0, s1⟩
          go_simp
          with_reducible rfl
        rotate_left
        · simp only [Act.put, List.setIfInBounds_toArray, List.set_cons_zero, List.set_cons_succ, i64_w, i32_w]
          rfl
        refine last_ (i := 6) (N := none) #[true, true, true, true, true, true, true, false] rfl rfl (by kernel_rfl) (by decide) (fun K hK => ?_)
        refine skip_ (w1 := w10) (by rfl) rfl ?_ ?_
        · exact Whole.exec_store _ (.tmp 4) (.tmp 92) rfl _ _ (by rfl) (by rfl) HST.out
        refine hK.out _ _ ?_
        clear hK K
        refine pure_ (i := 7) (N := some 5) (v := ?_) (a' := ?_) #[true, true, true, true, true, true, true, true] rfl rfl (by kernel_rfl) (fun _ _ _ h => h) (Or.inl ⟨by rfl, ?_⟩) ?_ ?_
        rotate_left
        · intro w'
          go_simp
          with_reducible rfl
        rotate_left
        · simp only [Act.put, List.setIfInBounds_toArray, List.set_cons_zero, List.set_cons_succ, i64_w, i32_w]
          rfl
        refine done_ (by kernel_rfl) ?_

        go_wp2_with fail
        refine bodyPost_ret (results_ttct rfl _ _ b4 _ #[.int .i64 a, .int .i64 q] (0, 0) _ rfl HZ.out Try.underlying46 rfl infoH) rfl ?_
        exact ⟨_, rfl, HR10.out, HB10.out⟩
end Go.Proofs.Ytcihfmehbmficaa.Jrn
/- Package journal: Open and Look, where the log holds no transaction. -/
namespace Go.Proofs.Ytcihfmehbmficaa.Jrn
open Go Go.RowKit Go.Maps Go.Proofs.YtcihfmehbmficaaW.PrintWords Go.Proofs.YtcihfmehbmficaaW.PrintLast Go.Proofs.YtcihfmehbmficaaW.PrintMore Go.Proofs.Ytcihfmehbmficaa.Disk
set_option linter.unusedVariables false
set_option linter.unusedSimpArgs false
set_option maxRecDepth 100000
theorem RW.none (w : World) (F : Nat → Prop) (A : Option Addr) : RW w F A [] := fun i x hi => by simp at hi
theorem Fit.none (n : Nat) : Fit n [] := fun x hx => absurd hx List.not_mem_nil
theorem Look_none {w : World} {g : Nat} {a q : Int} {L : List (List Int)} (hlk : Calls Try.prog 27 #[.pointer (some ⟨g, 0, none⟩)] w fun e w' => ∃ vb, e = .returned (.tuple #[vb, .slice none 0 0, .agg #[.int .i64 a, .int .i64 q], .int .i64 0]) ∧ kY.R 23 w' w.heap.size (fun _ => True) vb L ∧ Below w.heap.size w w') :
    Calls Try.prog 14 #[.pointer (some ⟨g, 0, none⟩)] w fun e w' => ∃ vb, e = .returned (.tuple #[vb, .int .i64 0]) ∧ kY.R 23 w' w.heap.size (fun _ => True) vb L ∧ Below w.heap.size w w' := by
  have HLK := Aside0.mk hlk
  clear hlk
  go_enter Try.func14, Try.ntmps14
  go_wp2_with (go_at_call 27; (with_reducible refine HLK.out.mono ?_); rintro e w1 ⟨vb, rfl, hr, hb⟩; have HR := Aside0.mk hr; have HB := Aside0.mk hb; clear hr hb)
  refine bodyPost_ret (results_tmp2 rfl _ _ _) rfl ?_
  exact ⟨_, rfl, Kd.R_below HR.out (below_alloc (Below.refl _ _) _), below_alloc HB.out _⟩
theorem open_none {w : World} {F : Nat → Prop} {g : Nat} {bs : List Blk} {a q : Int} {L : List (List Int)} (hd : DW w F g ⟨false, -1, bs⟩) (hlk : Calls Try.prog 27 #[.pointer (some ⟨g, 0, none⟩)] w fun e w' => ∃ vb, e = .returned (.tuple #[vb, .slice none 0 0, .agg #[.int .i64 a, .int .i64 q], .int .i64 0]) ∧ kY.R 23 w' w.heap.size (fun _ => True) vb L ∧ Below w.heap.size w w')
    (hB : Go.Proofs.Ytcihfmehbmficaa.Super.headB a q = true) (hl : 1 < bs.length) (hcap : Cap bs 1000) :
    Calls Try.prog 10 #[.pointer (some ⟨g, 0, none⟩)] w fun e w' => ∃ gj F', e = .returned (.tuple #[.pointer (some ⟨gj, 0, none⟩), .int .i64 0]) ∧ JW w' F' g gj (movB bs (headI64 a q)) a q a q 0 ∧ Ch w w' F (FJ F' gj) := by
  have HLK := Aside0.mk hlk
  have HD := Aside0.mk hd
  have HHB := Aside0.mk hB
  have HL := Aside0.mk hl
  have HCAP := Aside0.mk hcap
  clear hlk hd hB hl hcap
  go_enter Try.func10, Try.ntmps10
  go_wp2_with (first | (go_at_call 27; (with_reducible refine HLK.out.mono ?_); rintro e w1 ⟨vb, rfl, hr, hb⟩; have HB3 := Aside0.mk (below_alloc (below_alloc hb (.cells #[.int .i64 a, .int .i64 q] 46)) (.cells #[.pointer (some ⟨g, 0, none⟩), .int .i64 0, .int .i64 0, .int .i64 a, .int .i64 q, .int .i64 0, .bool false] 59)); have hj := blk_new (w1.alloc (.cells #[.int .i64 a, .int .i64 q] 46)) (.cells #[.pointer (some ⟨g, 0, none⟩), .int .i64 0, .int .i64 0, .int .i64 a, .int .i64 q, .int .i64 0, .bool false] 59); rw [World.size_alloc] at hj; have HJ3 : Aside0 (JW ((w1.alloc (.cells #[.int .i64 a, .int .i64 q] 46)).alloc (.cells #[.pointer (some ⟨g, 0, none⟩), .int .i64 0, .int .i64 0, .int .i64 a, .int .i64 q, .int .i64 0, .bool false] 59)) F g (w1.heap.size + 1) bs 0 0 a q 0) := ⟨⟨HD.out.below HB3.out, hj, fun hF => by have h1 := HD.out.lt _ hF; have h2 := hb.size; omega⟩⟩; have HGJ : Aside0 (w.heap.size ≤ w1.heap.size + 1) := ⟨by have h2 := hb.size; omega⟩; clear hr hb hj) | (go_at_call 16; (with_reducible refine (put_ever HJ3.out.dk HCAP.out none 0 0 [] rfl (RW.none _ _ _) (Fit.none _) (by omega)).mono ?_); rintro e w4 ⟨rfl, hp⟩; obtain ⟨F4, h4, hc4⟩ := HJ3.out.disk hp; have H4 : Aside0 (JW w4 F4 g (w1.heap.size + 1) bs 0 0 a q 0) := ⟨h4⟩; have HC4 := Aside0.mk hc4; clear hp h4 hc4) | (go_at_call 24; (with_reducible refine (move_calls H4.out HHB.out HL.out).mono ?_); rintro e w5 ⟨rfl, F5, h5, hc5⟩; have H5 := Aside0.mk h5; have HC5 := Aside0.mk (HC4.out.trans hc5); clear h5 hc5))
  refine bodyPost_ret (results_tmp2 rfl _ _ _) rfl ?_
  refine ⟨_, F5, rfl, H5.out, ?_⟩
  have h3 := HB3.out
  have h5 := HC5.out
  exact ⟨h5.os.trans h3.os, h5.tape.trans h3.tape, h5.output.trans h3.output, Nat.le_trans h3.size h5.size, fun k hk hn => (h5.far k (Nat.lt_of_lt_of_le hk h3.size) (fun hF => hF.elim hn (fun e => by have := HGJ.out; omega))).trans (h3.block k hk), fun k hk => (h5.new k hk).elim (fun hF => hF.elim Or.inl (fun e => Or.inr (by have := HGJ.out; omega))) (fun a => Or.inr (Nat.le_trans h3.size a))⟩
end Go.Proofs.Ytcihfmehbmficaa.Jrn
/- Plain: a new disk with a log: its blocks, its head, and that its log holds nothing. -/
namespace Go.Proofs.Ytcihfmehbmficaa.Jrn
open Go Go.RowKit Go.Proofs.Ytcihfmehbmficaa.Disk
set_option linter.unusedVariables false
set_option linter.unusedSimpArgs false
set_option maxRecDepth 100000
def zB : Blk := ⟨zr64, []⟩
/-- A disk of n blocks that holds nothing but a head. -/
def freshB (n : Nat) (H : List Int) : List Blk := (List.replicate n zB).set 1 ⟨H, []⟩
theorem freshB_length (n : Nat) (H : List Int) : (freshB n H).length = n := by unfold freshB; rw [List.length_set, List.length_replicate]
theorem freshB_at {n : Nat} {H : List Int} (i : Nat) (hi : i < n) : (freshB n H)[i]? = some (if i = 1 then ⟨H, []⟩ else zB) := by
  unfold freshB
  rw [List.getElem?_set]
  by_cases h : i = 1
  · subst h; rw [if_pos rfl, if_pos rfl, List.length_replicate, if_pos hi]
  · rw [if_neg (Ne.symm h), if_neg h, List.getElem?_replicate, if_pos hi]
theorem kb_none (l : List Int) : kb ⟨l, []⟩ = ⟨l, []⟩ := rfl
theorem kb_one (l x : List Int) : kb ⟨l, [x]⟩ = ⟨x, []⟩ := rfl
theorem kb_push_none (l x : List Int) : kb (push x ⟨l, []⟩) = ⟨x, []⟩ := rfl
theorem mod_kb {bs : List Blk} {n : Nat} (H : List Int) (hl : bs.length = n) (h : ∀ i, i < n → ∃ l, bs[i]? = some ⟨l, []⟩) : (bs.modify 1 (push H)).map kb = bs.set 1 ⟨H, []⟩ := by
  apply List.ext_getElem?
  intro i
  rw [List.getElem?_map, List.getElem?_modify, List.getElem?_set]
  by_cases hi : i < n
  · obtain ⟨l, hb⟩ := h i hi
    by_cases h1 : 1 = i
    · subst h1
      rw [hb, if_pos rfl, if_pos (by omega)]
      simp [kb_push_none]
    · rw [if_neg h1, hb]
      simp [h1, kb_none]
  · rw [List.getElem?_eq_none (by omega)]
    by_cases h1 : 1 = i
    · rw [if_pos h1, if_neg (by omega)]; rfl
    · rw [if_neg h1]; rfl
theorem map_kb_none {bs : List Blk} (h : ∀ b ∈ bs, b.opn = []) : bs.map kb = bs := by
  apply List.ext_getElem?
  intro i
  rw [List.getElem?_map]
  cases hb : bs[i]? with
  | none => rfl
  | some b =>
    have h1 := h b (List.mem_of_getElem? hb)
    obtain ⟨l, o⟩ := b
    obtain rfl : o = [] := h1
    rfl
theorem newS_fresh (n : Nat) (H : List Int) : ((newS n).bs.modify 1 (push H)).map kb = freshB n H :=
  mod_kb H (n := n) List.length_replicate (fun i hi => ⟨zr64, by show (List.replicate n _)[i]? = _; rw [List.getElem?_replicate, if_pos hi]; rfl⟩)
theorem movB_fresh (n : Nat) (H H' : List Int) : movB (freshB n H) H' = freshB n H' := by
  unfold movB
  have ho : ∀ b ∈ freshB n H, b.opn = [] := fun b hb => by
    obtain ⟨i, hi, e⟩ := List.getElem_of_mem hb
    have h1 := freshB_at (H := H) i (by rw [freshB_length] at hi; exact hi)
    rw [List.getElem?_eq_getElem hi, e] at h1
    obtain rfl := Option.some.inj h1
    split <;> rfl
  rw [map_kb_none ho, mod_kb H' (freshB_length n H) (fun i hi => by
    rw [freshB_at i hi]
    by_cases h : i = 1
    · exact ⟨H, by rw [if_pos h]⟩
    · exact ⟨zr64, by rw [if_neg h]; rfl⟩)]
  unfold freshB
  rw [List.set_set]
theorem zr64_bytes : Go.Proofs.Ytcihfmehbmficaa.Spin.Bytes zr64 := Go.Proofs.Ytcihfmehbmficaa.Field.bytes_replicate _
theorem head_bytes (a q : Int) : Go.Proofs.Ytcihfmehbmficaa.Spin.Bytes (headI64 a q) := Go.Proofs.Ytcihfmehbmficaa.Field.sealI_bytes (Go.Proofs.Ytcihfmehbmficaa.Super.headP_bytes _ _)
theorem fresh_bytes {n : Nat} {H : List Int} (h : Go.Proofs.Ytcihfmehbmficaa.Spin.Bytes H) : ∀ b ∈ freshB n H, Go.Proofs.Ytcihfmehbmficaa.Spin.Bytes (curB b) := fun b hb => by
  obtain ⟨i, hi, e⟩ := List.getElem_of_mem hb
  have h1 := freshB_at (H := H) i (by rw [freshB_length] at hi; exact hi)
  rw [List.getElem?_eq_getElem hi, e] at h1
  obtain rfl := Option.some.inj h1
  split
  · exact h
  · exact zr64_bytes
theorem fresh_head {n : Nat} {H : List Int} (hn : 1 < n) : ((freshB n H).map curB).getD 1 [] = H := by
  rw [List.getD_eq_getElem?_getD, List.getElem?_map, freshB_at 1 hn]; rfl
theorem fresh_log {n : Nat} {H : List Int} (hn : 59 ≤ n) : (((freshB n H).map curB).drop 19).take 40 = List.replicate 40 zr64 := by
  apply List.ext_getElem?
  intro i
  rw [List.getElem?_take, List.getElem?_drop, List.getElem?_replicate]
  by_cases h : i < 40
  · rw [if_pos h, if_pos h, List.getElem?_map, freshB_at (19 + i) (by omega), if_neg (by omega)]; rfl
  · rw [if_neg h, if_neg h]
theorem find_zero (a q : Int) (h : Go.Proofs.Ytcihfmehbmficaa.Super.headB a q = true) : Go.Proofs.Ytcihfmehbmficaa.Pure.findI (List.replicate 40 zr64) a q = ([], a, q, 0) := by
  simp only [Go.Proofs.Ytcihfmehbmficaa.Super.headB, Go.Proofs.Ytcihfmehbmficaa.Super.inB, Bool.and_eq_true, decide_eq_true_eq] at h
  have hbk : ∀ x, Go.Proofs.Ytcihfmehbmficaa.PAll.log_Find.bk (List.replicate 40 zr64) x = zr64 := fun x => by
    unfold Go.Proofs.Ytcihfmehbmficaa.PAll.log_Find.bk
    rw [List.getD_eq_getElem?_getD, List.getElem?_replicate, if_pos (Nat.mod_lt _ (by decide))]; rfl
  unfold Go.Proofs.Ytcihfmehbmficaa.Pure.findI
  rw [if_pos (show Go.Proofs.Ytcihfmehbmficaa.Pure.okF _ _ _ from ⟨⟨h.1.1, by omega⟩, h.2, by rw [List.length_replicate], by decide⟩)]
  have ha : ((a.toNat : Nat) : Int) = a := Int.toNat_of_nonneg h.1.1
  cases hd : 1073741824 - q.toNat with
  | zero => unfold Go.Proofs.Ytcihfmehbmficaa.Pure.fnd; rw [ha]
  | succ d =>
    unfold Go.Proofs.Ytcihfmehbmficaa.Pure.fnd
    rw [if_neg, ha]
    intro ht
    unfold Go.Proofs.Ytcihfmehbmficaa.Pure.trB at ht
    rw [hbk] at ht
    exact Go.Proofs.Ytcihfmehbmficaa.Pure.zr_noB ht.1
theorem head_back (a q : Int) (h : Go.Proofs.Ytcihfmehbmficaa.Super.headB a q = true) : Go.Proofs.Ytcihfmehbmficaa.Pure.headI (headI64 a q) = (a, q, 0) := Go.Proofs.Ytcihfmehbmficaa.Pure.head_headI a q h
end Go.Proofs.Ytcihfmehbmficaa.Jrn
