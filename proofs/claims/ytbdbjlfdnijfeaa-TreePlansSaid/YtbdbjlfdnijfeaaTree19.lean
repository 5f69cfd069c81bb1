/- For all worlds: tree.Read of a node of the old format. Conditions: the blocks can be read, their bytes are bytes; the numbers are 64 bits wide. -/
import Derived.Test.YtbdbjlfdnijfeaaTree18
namespace Go.Proofs.Ytbdbjlfdnijfeaa.Tree
open Go Go.RowKit Go.Maps Go.Proofs.YtbdbjlfdnijfeaaW.PrintWords Go.Proofs.YtbdbjlfdnijfeaaW.PrintLast Go.Proofs.YtbdbjlfdnijfeaaW.PrintMore
set_option linter.unusedVariables false
set_option linter.unusedSimpArgs false
set_option maxRecDepth 100000
/-- What Read has gathered behind its loop. -/
def rdAll (ws : List Wr) (d : List Int) (s g : Int) : List Int × List Int × Bool :=
  let a := rdK ws (d, [], false) s
  (pgL ws g).foldl (rdK ws) (a.1, a.2.1 ++ pgOwn g, a.2.2 || !pgOk ws g)
def rdBad (ws : List Wr) (d : List Int) (s g : Int) : Bool := (rdAll ws d s g).2.2 || !ptsB (trimL (rdAll ws d s g).1) || !aloneB [] ((rdAll ws d s g).2.1 ++ trimL (rdAll ws d s g).1)
theorem foldl_wide {ws : List Wr} (h : ∀ x ∈ ws, Spin.Bytes x.data) : ∀ (l : List Int) (st : List Int × List Int × Bool), wide l = true → wide st.1 = true → wide st.2.1 = true → wide (l.foldl (rdK ws) st).1 = true ∧ wide (l.foldl (rdK ws) st).2.1 = true
  | [], st, _, h1, h2 => ⟨h1, h2⟩
  | p :: l, st, hl, h1, h2 => by
    have hl2 : (Lit.int .i64 p).wf = true ∧ wide l = true := by
      unfold wide at hl ⊢
      rw [List.all_cons, Bool.and_eq_true] at hl
      exact hl
    exact foldl_wide h l _ hl2.2 (wide_append h1 (pgL_wide h p)) (wide_append h2 (wide_own hl2.1))
theorem rdAll_wide {ws : List Wr} (h : ∀ x ∈ ws, Spin.Bytes x.data) {d0 d1 d2 d3 s g : Int} (hw : wide [d0, d1, d2, d3, s, g] = true) : wide (rdAll ws [d0, d1, d2, d3] s g).1 = true ∧ wide (rdAll ws [d0, d1, d2, d3] s g).2.1 = true := by
  have h1 : wide [d0, d1, d2, d3] = true ∧ (Lit.int .i64 s).wf = true ∧ (Lit.int .i64 g).wf = true := by
    unfold wide at hw ⊢
    simp only [List.all_cons, List.all_nil, Bool.and_true, Bool.and_eq_true] at hw ⊢
    exact ⟨⟨hw.1, hw.2.1, hw.2.2.1, hw.2.2.2.1⟩, hw.2.2.2.2.1, hw.2.2.2.2.2⟩
  unfold rdAll
  exact foldl_wide h _ _ (pgL_wide h g) (wide_append h1.1 (pgL_wide h s)) (wide_append (wide_append (a := []) rfl (wide_own h1.2.1)) (wide_own h1.2.2))
theorem ndc_row (w : World) (b0 : Nat) (d0 d1 d2 d3 s g : Int) (hb : w.heap[b0]? = some (.cells (⟨1, [d0, d1, d2, d3], s, g⟩ : Nd).c 32 (0, 0))) : I.C w (some ⟨b0, 4, none⟩) 4 [d0, d1, d2, d3] := by
  refine ⟨rfl, by decide, fun _ => ⟨_, rfl, fun j x hj => ?_⟩⟩
  have hj4 : j < 4 := (List.getElem?_eq_some_iff.1 hj).1
  have h := fun (i : Nat) (v : Value) (e : (⟨1, [d0, d1, d2, d3], s, g⟩ : Nd).c[i]? = some v) => (blk_cell hb i).trans e
  refine ⟨[.int .i64 x], rfl, rfl, fun i u hi => ?_⟩
  have : i = 0 := by
    have := (List.getElem?_eq_some_iff.1 hi).1
    simp at this
    exact this
  subst this
  obtain rfl := Option.some.inj hi
  rcases j with _ | _ | _ | _ | j
  · obtain rfl := Option.some.inj hj
    exact h 4 _ rfl
  · obtain rfl := Option.some.inj hj
    exact h 5 _ rfl
  · obtain rfl := Option.some.inj hj
    exact h 6 _ rfl
  · obtain rfl := Option.some.inj hj
    exact h 7 _ rfl
  · omega
section
variable {w0 w w1 W : World} {r : Nat} {A : Option Addr} {n c : Nat} {ws : List Wr} {vp vo v1 : Value} {pl ol : List Int} {bad : Bool} {k t : Nat} {cs : Array Value}
theorem Rd.join_blk (h : Rd w0 w r A n c ws vp vo pl ol bad) (hg : w.grownBy w1 vp.ownBlock) (hk : w.heap[k]? = some (.cells cs t (0, 0))) (ht : 3 ≠ t) (hkr : k ≠ r) : (w1.setCell ⟨r, 1, none⟩ v1).heap[k]? = some (.cells cs t (0, 0)) :=
  (heap_setCell_other _ _ _ _ hkr).trans (blk_grown hk hg (Kd.R_ne h.hp hk ht))
theorem Rd.swap {t : List Int} (h : Rd w0 w r A n c ws vp vo pl ol bad) (hb : Below w.heap.size w w1) (ht : I.R 3 w1 w.heap.size (fun _ => True) v1 t) : Rd w0 (w1.setCell ⟨r, 1, none⟩ v1) r A n c ws v1 vo t ol bad := by
  have h1 := h.moved hb
  refine ⟨blk_set h1.hr 1 v1, Kd.R_set (Kd.R_lower (Kd.R_mono (Kd.R_bound ht) (fun k hk e => ?_)) h.bl.size) h1.hr (by decide) 1 v1, Kd.R_set (Kd.R_below (Kd.R_mono (Kd.R_bound h.ho) (fun k hk e => ?_)) hb) h1.hr (by decide) 1 v1, h.hw, h1.bl.setCell (p := ⟨r, 1, none⟩) h.br _, h.br⟩
  · have := Kd.R_lt h.ho k e.symm
    have := hk.2.1
    omega
  · have := Kd.R_base ht k e.symm
    have := hk.2.2.1
    omega
theorem Rd.page_blk (h : Rd w0 w r A n c ws vp vo pl ol bad) (f : Fr w W r vo.ownBlock) (hk : w.heap[k]? = some (.cells cs t (0, 0))) (ht : 3 ≠ t) (hkr : k ≠ r) : W.heap[k]? = some (.cells cs t (0, 0)) :=
  (f.far k (blk_lt hk) hkr (Kd.R_ne h.ho hk ht)).trans hk
end
set_option maxHeartbeats 1000000 in
theorem read_calls (A : Option Addr) (c n : Nat) (ws : List Wr) (hn : ws.length = n) (hby : ∀ x ∈ ws, Spin.Bytes x.data) (d0 d1 d2 d3 s g : Int) (hwd : wide [d0, d1, d2, d3, s, g] = true) (w : World) (hw : kW.C w A n ws) :
    Calls Try.prog 15 #[.agg (⟨1, [d0, d1, d2, d3], s, g⟩ : Nd).c, .slice A n c] w fun e w' => Below w.heap.size w w' ∧
      (rdBad ws [d0, d1, d2, d3] s g = true → e = .returned (.tuple #[.slice none 0 0, .slice none 0 0, .int .i64 2])) ∧
      (rdBad ws [d0, d1, d2, d3] s g = false → ∃ vp vo, e = .returned (.tuple #[vp, vo, .int .i64 0]) ∧ I.R 3 w' w.heap.size (fun _ => True) vp (trimL (rdAll ws [d0, d1, d2, d3] s g).1) ∧ I.R 3 w' w.heap.size (fun _ => True) vo (rdAll ws [d0, d1, d2, d3] s g).2.1) := by
  have HB := Aside0.mk hby
  have HW := Aside0.mk hw
  have HWD := Aside0.mk hwd
  obtain ⟨cs, hcs⟩ : ∃ cs, (⟨1, [d0, d1, d2, d3], s, g⟩ : Nd).c = cs := ⟨_, rfl⟩
  have hb0 := blk_new w (.cells (⟨1, [d0, d1, d2, d3], s, g⟩ : Nd).c 32)
  have e1 : (w.alloc (.cells (⟨1, [d0, d1, d2, d3], s, g⟩ : Nd).c 32)).cell? ⟨w.heap.size, 1, none⟩ = some (.int .i64 1) := blk_cell hb0 1
  have HB0 := Aside0.mk hb0
  clear hby hw hwd hb0 hcs
  go_enter Try.func15, Try.ntmps15
  go_wp2_with (go_at_call 31; (with_reducible refine (cloneI_calls _ 4 4 [d0, d1, d2, d3] rfl _ (ndc_row _ _ d0 d1 d2 d3 s g HB0.out) (by decide) (by decide)).mono ?_); rintro e w2 ⟨v2, rfl, ho, hb⟩; obtain ⟨A2, c2, rfl⟩ := Kd.R_slice ho; have HO2 := Aside0.mk ho; have HB2 := Aside0.mk hb; clear ho hb)
  have hra : Rd w (w2.alloc (.cells #[.slice A n c, .slice A2 4 c2, .slice none 0 0, .bool false] 63)) w2.heap.size A n c ws (.slice A2 4 c2) (.slice none 0 0) [d0, d1, d2, d3] [] false :=
    ⟨blk_new _ _, Kd.R_alloc (Kd.R_lower (Kd.R_mono HO2.out (fun _ _ => by simp [Value.ownBlock])) (by rw [World.size_alloc]; omega)) _, Kd.R_nil _ _ _ _ _, HW.out, below_alloc ((below_alloc (Below.refl w.heap.size w) (.cells (⟨1, [d0, d1, d2, d3], s, g⟩ : Nd).c 32)).trans (HB2.out.mono (by rw [World.size_alloc]; omega))) _, Nat.le_trans (by rw [World.size_alloc]; omega) HB2.out.size⟩
  have hbx : (w2.alloc (.cells #[.slice A n c, .slice A2 4 c2, .slice none 0 0, .bool false] 63)).heap[w.heap.size]? = some (.cells (⟨1, [d0, d1, d2, d3], s, g⟩ : Nd).c 32 (0, 0)) := blk_alloc (blk_below HB0.out HB2.out) _
  clear e1 HO2 HB2
  obtain ⟨wa, hwa⟩ : ∃ q, w2.alloc (.cells #[.slice A n c, .slice A2 4 c2, .slice none 0 0, .bool false] 63) = q := ⟨_, rfl⟩
  obtain ⟨r, hr⟩ : ∃ q, w2.heap.size = q := ⟨_, rfl⟩
  rw [hwa, hr] at hra
  rw [hwa] at hbx
  rw [hwa, hr]
  clear hwa hr
  have HRA := Aside0.mk (hra.moved (w1 := wa.drew) (below_drew (Below.refl _ _)))
  have HBXD : Aside0 (wa.drew.heap[w.heap.size]? = some (.cells (⟨1, [d0, d1, d2, d3], s, g⟩ : Nd).c 32 (0, 0))) := ⟨blk_below hbx (below_drew (Below.refl _ _))⟩
  have HNB : Aside0 (w.heap.size ≠ r) := ⟨blk_ne hbx hra.hr (by decide)⟩
  have HS1 : Aside0 (∀ W, Below wa.heap.size wa W → W.cell? ⟨r, 1, none⟩ = some (.slice A2 4 c2)) := ⟨fun W hW => pw_cell_below hW (blk_cell hra.hr 1)⟩
  have HS2 : Aside0 (∀ W, Below wa.heap.size wa W → W.cell? ⟨w.heap.size, 8, none⟩ = some (.int .i64 s)) := ⟨fun W hW => pw_cell_below hW (blk_cell hbx 8)⟩
  have HPG := Aside0.mk (rpage_calls HRA.out HB.out s (by decide))
  obtain ⟨pl, hpl⟩ : ∃ q, [d0, d1, d2, d3] = q := ⟨_, rfl⟩
  have HPE := Aside0.mk hpl
  have HPL : Aside0 (pl.length = 4) := ⟨by rw [← hpl]; rfl⟩
  have HML : Aside0 (4 ≤ 1000) := ⟨by decide⟩
  have HL5 : Aside0 ((pl ++ pgL ws s).length = 34) := ⟨by rw [List.length_append, HPL.out, pgL_length]⟩
  rw [hpl] at HRA HPG
  clear hpl hra hbx
  refine start_ (n := 13) (S := fun w' => w'.cell? ⟨r, 1, none⟩ = some (.slice A2 4 c2) ∧ w'.cell? ⟨w.heap.size, 8, none⟩ = some (.int .i64 s)) (ds := [9, 12]) #[false, false, false, false, false, false, false, false, false, false, false, false, false] (by kernel_rfl) rfl rfl ⟨HS1.out _ (below_drew (Below.refl _ _)), HS2.out _ (below_drew (Below.refl _ _))⟩ (fun hHeld => ?_)
  refine pure_ (i := 0) (N := some 19) (v := ?_) (a' := ?_) #[true, false, false, false, false, false, false, false, false, false, false, false, false] rfl rfl (by kernel_rfl) (fun _ _ _ h => h) (Or.inl ⟨by rfl, ?_⟩) ?_ ?_
  rotate_left
  · intro w'
    go_simp
    with_reducible rfl
  rotate_left
  · simp only [Act.put, List.setIfInBounds_toArray, List.set_cons_zero, List.set_cons_succ, i64_w, i32_w]
    rfl
  refine pure_ (i := 1) (N := some 20) (v := ?_) (a' := ?_) #[true, true, false, false, false, false, false, false, false, false, false, false, false] rfl rfl (by kernel_rfl) (fun _ _ _ h => h) (Or.inl ⟨by rfl, ?_⟩) ?_ ?_
  rotate_left
  · intro w'
    go_simp
    with_reducible rfl
  rotate_left
  · simp only [Act.put, List.setIfInBounds_toArray, List.set_cons_zero, List.set_cons_succ, i64_w, i32_w]
    rfl
  refine pure_ (i := 2) (N := some 21) (v := ?_) (a' := ?_) #[true, true, true, false, false, false, false, false, false, false, false, false, false] rfl rfl (by kernel_rfl) (fun _ _ _ h => h) (Or.inl ⟨by rfl, ?_⟩) ?_ ?_
  rotate_left
  · intro w'
    go_simp
    with_reducible rfl
  rotate_left
  · simp only [Act.put, List.setIfInBounds_toArray, List.set_cons_zero, List.set_cons_succ, i64_w, i32_w]
    rfl
  refine pure_ (i := 3) (N := some 22) (v := ?_) (a' := ?_) #[true, true, true, true, false, false, false, false, false, false, false, false, false] rfl rfl (by kernel_rfl) (fun _ _ _ h => h) (Or.inl ⟨by rfl, ?_⟩) ?_ ?_
  rotate_left
  · intro w'
    go_simp
    with_reducible rfl
  rotate_left
  · simp only [Act.put, List.setIfInBounds_toArray, List.set_cons_zero, List.set_cons_succ, i64_w, i32_w]
    rfl
  refine pure_ (i := 5) (N := some 24) (v := ?_) (a' := ?_) #[true, true, true, true, false, true, false, false, false, false, false, false, false] rfl rfl (by kernel_rfl) (fun _ _ _ h => h) (Or.inl ⟨by rfl, ?_⟩) ?_ ?_
  rotate_left
  · intro w'
    go_simp
    with_reducible rfl
  rotate_left
  · simp only [Act.put, List.setIfInBounds_toArray, List.set_cons_zero, List.set_cons_succ, i64_w, i32_w]
    rfl
  refine pure_ (i := 6) (N := some 25) (v := ?_) (a' := ?_) #[true, true, true, true, false, true, true, false, false, false, false, false, false] rfl rfl (by kernel_rfl) (fun _ _ _ h => h) (Or.inl ⟨by rfl, ?_⟩) ?_ ?_
  rotate_left
  · intro w'
    go_simp
    with_reducible rfl
  rotate_left
  · simp only [Act.put, List.setIfInBounds_toArray, List.set_cons_zero, List.set_cons_succ, i64_w, i32_w]
    rfl
  refine take_ (i := 4) (N := some 23) (v := ?_) (a' := ?_) #[true, true, true, true, true, true, true, false, false, false, false, false, false] rfl rfl (by kernel_rfl) (fun _ _ _ h => h) (Or.inl ⟨by rfl, ?_⟩) hHeld ?_ ?_
  rotate_left
  · rintro w' ⟨s0, s1⟩
    go_simp
    with_reducible rfl
  rotate_left
  · simp only [Act.put, List.setIfInBounds_toArray, List.set_cons_zero, List.set_cons_succ, i64_w, i32_w]
    rfl
  refine take_ (i := 7) (N := some 26) (v := ?_) (a' := ?_) #[true, true, true, true, true, true, true, true, false, false, false, false, false] rfl rfl (by kernel_rfl) (fun _ _ _ h => h) (Or.inl ⟨by rfl, ?_⟩) hHeld ?_ ?_
  rotate_left
  · rintro w' ⟨s0, s1⟩
    go_simp
    with_reducible rfl
  rotate_left
  · simp only [Act.put, List.setIfInBounds_toArray, List.set_cons_zero, List.set_cons_succ, i64_w, i32_w]
    rfl
  refine one_ (i := 8) (N := some 27) #[true, true, true, true, true, true, true, true, true, false, false, false, false] rfl rfl (by kernel_rfl) (by decide) (fun K hK => ?_)
  refine goes_ Try.func32 (by kernel_rfl) rfl #[.pointer (some ⟨r, 0, none⟩), .int .i64 s] (by rfl) rfl rfl (by (try simp only [List.map_toArray, List.map_cons, List.map_nil]); first | done | rfl) ?_
  with_reducible refine (HPG.out).mono ?_
  rintro e w3 ⟨v3, vo3, rfl, hl3, hr3, hf3, hat3⟩
  refine ⟨_, rfl, ?_⟩
  obtain ⟨A3, c3, e3⟩ := Kd.R_slice hl3
  rw [pgL_length] at e3
  subst e3
  have HL3 := Aside0.mk hl3
  have HR3 := Aside0.mk hr3
  have HF3 := Aside0.mk hf3
  have HAT3 := Aside0.mk hat3
  have HX3 := Aside0.mk (HRA.out.page_blk hf3 HBXD.out (by decide) HNB.out)
  clear hl3 hr3 hf3 hat3
  refine hK.out _ _ ⟨blk_cell HR3.out.hr 1, blk_cell HX3.out 8⟩ (fun hHeld => ?_)
  clear hK K
  refine norm_ (a' := ?_) ?_ ?_
  rotate_left
  · show Act.put _ (some 27) _ = _
    simp only [Act.put, List.setIfInBounds_toArray, List.set_cons_zero, List.set_cons_succ, i64_w, i32_w]
    rfl
  refine last_ (i := 9) (N := some 28) #[true, true, true, true, true, true, true, true, true, true, false, false, false] rfl rfl (by kernel_rfl) (by decide) (fun K hK => ?_)
  refine Kd.R_append_rows_step I (w0 := w) (W := w3) w.heap.size (by rfl) (.tmp 23) (.tmp 27) 22 3 (.int .i64 0) 8 rfl Try.underlying22 infoI (by rfl) (by decide) (by omega) (.slice A2 4 c2) pl (pgL ws s) A3 30 c3 (fun k => some k ≠ vo3.ownBlock) (fun _ => False) (by rfl) (by rfl) ?hO ?hR (fun _ _ h => h) (fun _ h => h.elim) ?hf ?hB ?hz ?hl ?_
  case hO => exact HR3.out.hp
  case hR => exact (by have h := (Kd.R_reads' HL3.out).2.2; rw [pgL_length] at h; exact h)
  case hf => exact HR3.out.freshO
  case hB => exact HR3.out.bl
  case hz => exact HR3.out.bl.size
  case hl => have h1 := HPL.out; have h2 := HML.out; omega
  intro v5 w5 ho5 hb5 hg5 hat5
  obtain ⟨A5, c5, e5⟩ := Kd.R_slice ho5
  rw [HL5.out] at e5
  subst e5
  have HO5 := Aside0.mk ho5
  have HB5 := Aside0.mk hb5
  have HG5 := Aside0.mk hg5
  have HT5 := Aside0.mk hat5
  have hb5_ := blk_grown HR3.out.hr hg5 (Kd.R_ne HR3.out.hp HR3.out.hr (by decide))
  have cc5 := blk_cell hb5_ 1
  have ff5 := blk_frozen hb5_ 1
  clear ho5 hb5 hg5 hat5 hb5_
  refine hK.out _ _ ?_
  clear hK K
  refine norm_ (a' := ?_) ?_ ?_
  rotate_left
  · show Act.put _ (some 28) _ = _
    simp only [Act.put, List.setIfInBounds_toArray, List.set_cons_zero, List.set_cons_succ, i64_w, i32_w]
    rfl
  refine pure_ (i := 10) (N := some 29) (v := ?_) (a' := ?_) #[true, true, true, true, true, true, true, true, true, true, true, false, false] rfl rfl (by kernel_rfl) (fun _ _ _ h => h) (Or.inl ⟨by rfl, ?_⟩) ?_ ?_
  rotate_left
  · intro w'
    go_simp
    with_reducible rfl
  rotate_left
  · simp only [Act.put, List.setIfInBounds_toArray, List.set_cons_zero, List.set_cons_succ, i64_w, i32_w]
    rfl
  refine pure_ (i := 11) (N := some 30) (v := ?_) (a' := ?_) #[true, true, true, true, true, true, true, true, true, true, true, true, false] rfl rfl (by kernel_rfl) (fun _ _ _ h => h) (Or.inl ⟨by rfl, ?_⟩) ?_ ?_
  rotate_left
  · intro w'
    go_simp
    with_reducible rfl
  rotate_left
  · simp only [Act.put, List.setIfInBounds_toArray, List.set_cons_zero, List.set_cons_succ, i64_w, i32_w]
    rfl
  refine last_ (i := 12) (N := none) #[true, true, true, true, true, true, true, true, true, true, true, true, true] rfl rfl (by kernel_rfl) (by decide) (fun K hK => ?_)
  refine skip_ (w1 := ?_) (by rfl) rfl ?_ ?_
  rotate_left
  · go_simp
    rfl
  refine hK.out _ _ ?_
  clear hK K
  refine done_ (by kernel_rfl) ?_

  have hr5 := HR3.out.join HO5.out HB5.out HG5.out HT5.out
  have hx5 := HR3.out.join_blk (v1 := .slice A5 34 c5) HG5.out HX3.out (by decide) HNB.out
  obtain ⟨wb, hwb⟩ : ∃ q, w5.setCell ⟨r, 1, none⟩ (.slice A5 34 c5) = q := ⟨_, rfl⟩
  rw [hwb] at hr5 hx5
  rw [hwb]
  obtain ⟨sA, hsA⟩ : ∃ q, rdK ws (pl, [], false) s = q := ⟨_, rfl⟩
  have HSA := Aside0.mk hsA
  have hr5 : Rd w wb r A n c ws (.slice A5 34 c5) vo3 sA.1 sA.2.1 sA.2.2 := by rw [← hsA]; exact hr5
  have HLA : Aside0 (sA.1.length = 34 ∧ sA.2.1.length ≤ 1) := ⟨by rw [← hsA]; exact ⟨HL5.out, pgOwn_length s⟩⟩
  have e9 : wb.cell? ⟨w.heap.size, 9, none⟩ = some (.int .i64 g) := blk_cell hx5 9
  have HPG2 := Aside0.mk (rpage_calls hr5 HB.out g (by have := HLA.out.2; omega))
  have HR5 := Aside0.mk hr5
  clear hwb hsA hr5 hx5 cc5 ff5 HPG HS1 HS2 HO5 HB5 HG5 HT5 HL3 HR3 HF3 HAT3 HX3 HRA HBXD HL5 HPL HML
  go_wp2_with (go_at_call 32; (with_reducible refine HPG2.out.mono ?_); rintro e w7 ⟨v7, vo7, rfl, hl7, hr7, hf7, hat7⟩; obtain ⟨A7, c7, e7⟩ := Kd.R_slice hl7; rw [pgL_length] at e7; subst e7; have HL7 := Aside0.mk hl7; have HR7 := Aside0.mk hr7; clear hl7 hr7 hf7 hat7)
  have HD7 : Aside0 (I.R 3 w7 w.heap.size (fun q => some q ≠ (Value.slice A5 34 c5).ownBlock ∧ some q ≠ vo7.ownBlock) (.slice A7 30 c7) (pgL ws g)) := ⟨Kd.R_lower (Kd.R_mono (Kd.R_bound HL7.out) (fun k hk => ⟨fun e => by
    have h1 := Kd.R_lt HR5.out.hp k e.symm
    have h2 := hk.2.1
    omega, hk.1⟩)) HR5.out.bl.size⟩
  obtain ⟨s0, hs0⟩ : ∃ q, (sA.1, sA.2.1 ++ pgOwn g, sA.2.2 || !pgOk ws g) = q := ⟨_, rfl⟩
  have HS0 := Aside0.mk hs0
  have HR8 : Aside0 (Rd w w7 r A n c ws (.slice A5 34 c5) vo7 s0.1 s0.2.1 s0.2.2) := ⟨by rw [← hs0]; exact HR7.out⟩
  have HLB : Aside0 (s0.1.length = 34 ∧ s0.2.1.length ≤ 2) := ⟨by
    rw [← hs0]
    refine ⟨HLA.out.1, ?_⟩
    have h1 := HLA.out.2
    have h2 := pgOwn_length g
    show (sA.2.1 ++ pgOwn g).length ≤ 2
    rw [List.length_append]; omega⟩
  clear hs0 e9 HPG2 HL7 HR7 HR5
  obtain ⟨dl, hdl⟩ : ∃ q, pgL ws g = q := ⟨_, rfl⟩
  have HDE := Aside0.mk hdl
  have HDL : Aside0 (dl.length = 30) := ⟨by rw [← hdl]; exact pgL_length _ _⟩
  rw [hdl] at HD7
  clear hdl
  go_loopg [36] 30 (fun gg i wr => ∃ (k : Nat) (vp vo : Value) (st : List Int × List Int × Bool), k ≤ 30 ∧ 30 - k ≤ gg ∧ i = .int .i64 k ∧ Aside0 (Rd w wr r A n c ws vp vo st.1 st.2.1 st.2.2) ∧ Aside0 (I.R 3 wr w.heap.size (fun q => some q ≠ vp.ownBlock ∧ some q ≠ vo.ownBlock) (.slice A7 30 c7) dl) ∧ Aside0 ((dl.take k).foldl (rdK ws) s0 = st) ∧ Aside0 (st.1.length = 34 + 30 * k ∧ st.2.1.length ≤ 2 + k))
  case atStart => exact ⟨0, _, _, s0, by omega, Nat.le_refl _, rfl, HR8, HD7, ⟨rfl⟩, HLB⟩
  case round =>
    clear HR8 HD7
    obtain ⟨k, vp, vo, st, hk, hgk, rfl, HR, HD, HST, HLS⟩ := hrel
    by_cases hlt : k < 30
    · have b1 : decide (k < 30) = true := decide_eq_true hlt
      have b2 : decide ((k : Int) < 30) = true := decide_eq_true (by omega)
      obtain ⟨p, hp⟩ : ∃ p, dl[k]? = some p := ⟨_, List.getElem?_eq_getElem (by have := HDL.out; omega)⟩
      obtain ⟨ad, e, hc⟩ := at_i (by have h := (Kd.R_reads' HD.out).2.2; rw [HDL.out] at h; exact h) hp
      subst e
      have HP := Aside0.mk hp
      have HK := Aside0.mk hk
      have HGK := Aside0.mk hgk
      have hkz : (0 : Int) ≤ (k : Int) := by omega
      have hkn : (k : Int) < (30 : Int) := by omega
      obtain ⟨A2, c2, e2⟩ := Kd.R_slice HR.out.hp
      subst e2
      obtain ⟨m, hm⟩ : ∃ m, st.1.length = m := ⟨_, rfl⟩
      rw [hm] at HR HD
      have HPL := Aside0.mk hm
      have HML : Aside0 (m ≤ 1000) := ⟨by have := HLS.out.1; omega⟩
      have HL5 : Aside0 ((st.1 ++ pgL ws p).length = m + 30) := ⟨by rw [List.length_append, hm, pgL_length]⟩
      obtain ⟨pl, hpl⟩ : ∃ q, st.1 = q := ⟨_, rfl⟩
      have HPLE := Aside0.mk hpl
      rw [hpl] at HR HPL HL5
      have HRA := Aside0.mk (HR.out.moved (w1 := wr.drew) (below_drew (Below.refl _ _)))
      have HS1 : Aside0 (∀ W, Below wr.heap.size wr W → W.cell? ⟨r, 1, none⟩ = some (.slice A2 m c2)) := ⟨fun W hW => pw_cell_below hW (blk_cell HR.out.hr 1)⟩
      have HPG := Aside0.mk (rpage_calls HRA.out HB.out p (by have := HLS.out.2; omega))
      clear hp hm hpl hlt hk hgk
      go_wp2_with fail
      refine start_ (n := 12) (S := fun w' => w'.cell? ⟨r, 1, none⟩ = some (.slice A2 m c2)) (ds := [8, 11]) #[false, false, false, false, false, false, false, false, false, false, false, false] (by kernel_rfl) rfl rfl (HS1.out _ (below_drew (Below.refl _ _))) (fun hHeld => ?_)
      refine pure_ (i := 0) (N := some 40) (v := ?_) (a' := ?_) #[true, false, false, false, false, false, false, false, false, false, false, false] rfl rfl (by kernel_rfl) (fun _ _ _ h => h) (Or.inl ⟨by rfl, ?_⟩) ?_ ?_
      rotate_left
      · intro w'
        go_simp
        with_reducible rfl
      rotate_left
      · simp only [Act.put, List.setIfInBounds_toArray, List.set_cons_zero, List.set_cons_succ, i64_w, i32_w]
        rfl
      refine pure_ (i := 1) (N := some 41) (v := ?_) (a' := ?_) #[true, true, false, false, false, false, false, false, false, false, false, false] rfl rfl (by kernel_rfl) (fun _ _ _ h => h) (Or.inl ⟨by rfl, ?_⟩) ?_ ?_
      rotate_left
      · intro w'
        go_simp
        with_reducible rfl
      rotate_left
      · simp only [Act.put, List.setIfInBounds_toArray, List.set_cons_zero, List.set_cons_succ, i64_w, i32_w]
        rfl
      refine pure_ (i := 2) (N := some 42) (v := ?_) (a' := ?_) #[true, true, true, false, false, false, false, false, false, false, false, false] rfl rfl (by kernel_rfl) (fun _ _ _ h => h) (Or.inl ⟨by rfl, ?_⟩) ?_ ?_
      rotate_left
      · intro w'
        go_simp
        with_reducible rfl
      rotate_left
      · simp only [Act.put, List.setIfInBounds_toArray, List.set_cons_zero, List.set_cons_succ, i64_w, i32_w]
        rfl
      refine pure_ (i := 3) (N := some 43) (v := ?_) (a' := ?_) #[true, true, true, true, false, false, false, false, false, false, false, false] rfl rfl (by kernel_rfl) (fun _ _ _ h => h) (Or.inl ⟨by rfl, ?_⟩) ?_ ?_
      rotate_left
      · intro w'
        go_simp
        with_reducible rfl
      rotate_left
      · simp only [Act.put, List.setIfInBounds_toArray, List.set_cons_zero, List.set_cons_succ, i64_w, i32_w]
        rfl
      refine pure_ (i := 5) (N := some 45) (v := ?_) (a' := ?_) #[true, true, true, true, false, true, false, false, false, false, false, false] rfl rfl (by kernel_rfl) (fun _ _ _ h => h) (Or.inl ⟨by rfl, ?_⟩) ?_ ?_
      rotate_left
      · intro w'
        go_simp
        with_reducible rfl
      rotate_left
      · simp only [Act.put, List.setIfInBounds_toArray, List.set_cons_zero, List.set_cons_succ, i64_w, i32_w]
        rfl
      refine pure_ (i := 6) (N := some 46) (v := ?_) (a' := ?_) #[true, true, true, true, false, true, true, false, false, false, false, false] rfl rfl (by kernel_rfl) (fun _ _ _ h => h) (Or.inl ⟨by rfl, ?_⟩) ?_ ?_
      rotate_left
      · intro w'
        go_simp
        with_reducible rfl
      rotate_left
      · simp only [Act.put, List.setIfInBounds_toArray, List.set_cons_zero, List.set_cons_succ, i64_w, i32_w]
        rfl
      refine take_ (i := 4) (N := some 44) (v := ?_) (a' := ?_) #[true, true, true, true, true, true, true, false, false, false, false, false] rfl rfl (by kernel_rfl) (fun _ _ _ h => h) (Or.inl ⟨by rfl, ?_⟩) hHeld ?_ ?_
      rotate_left
      · intro w' s0
        go_simp
        with_reducible rfl
      rotate_left
      · simp only [Act.put, List.setIfInBounds_toArray, List.set_cons_zero, List.set_cons_succ, i64_w, i32_w]
        rfl
      refine one_ (i := 7) (N := some 47) #[true, true, true, true, true, true, true, true, false, false, false, false] rfl rfl (by kernel_rfl) (by decide) (fun K hK => ?_)
      refine goes_ Try.func32 (by kernel_rfl) rfl #[.pointer (some ⟨r, 0, none⟩), .int .i64 p] (by rfl) rfl rfl (by (try simp only [List.map_toArray, List.map_cons, List.map_nil]); first | done | rfl) ?_
      with_reducible refine (HPG.out).mono ?_
      rintro e w3 ⟨v3, vo3, rfl, hl3, hr3, hf3, hat3⟩
      refine ⟨_, rfl, ?_⟩
      obtain ⟨A3, c3, e3⟩ := Kd.R_slice hl3
      rw [pgL_length] at e3
      subst e3
      have HL3 := Aside0.mk hl3
      have HR3 := Aside0.mk hr3
      have HF3 := Aside0.mk hf3
      have HAT3 := Aside0.mk hat3
      clear hl3 hr3 hf3 hat3
      refine hK.out _ _ (blk_cell HR3.out.hr 1) (fun hHeld => ?_)
      clear hK K
      refine norm_ (a' := ?_) ?_ ?_
      rotate_left
      · show Act.put _ (some 47) _ = _
        simp only [Act.put, List.setIfInBounds_toArray, List.set_cons_zero, List.set_cons_succ, i64_w, i32_w]
        rfl
      refine last_ (i := 8) (N := some 48) #[true, true, true, true, true, true, true, true, true, false, false, false] rfl rfl (by kernel_rfl) (by decide) (fun K hK => ?_)
      refine Kd.R_append_rows_step I (w0 := w) (W := w3) w.heap.size (by rfl) (.tmp 44) (.tmp 47) 22 3 (.int .i64 0) 8 rfl Try.underlying22 infoI (by rfl) (by decide) (by omega) (.slice A2 m c2) pl (pgL ws p) A3 30 c3 (fun k => some k ≠ vo3.ownBlock) (fun _ => False) (by rfl) (by rfl) ?hO ?hR (fun _ _ h => h) (fun _ h => h.elim) ?hf ?hB ?hz ?hl ?_
      case hO => exact HR3.out.hp
      case hR => exact (by have h := (Kd.R_reads' HL3.out).2.2; rw [pgL_length] at h; exact h)
      case hf => exact HR3.out.freshO
      case hB => exact HR3.out.bl
      case hz => exact HR3.out.bl.size
      case hl => have h1 := HPL.out; have h2 := HML.out; omega
      intro v5 w5 ho5 hb5 hg5 hat5
      obtain ⟨A5, c5, e5⟩ := Kd.R_slice ho5
      rw [HL5.out] at e5
      subst e5
      have HO5 := Aside0.mk ho5
      have HB5 := Aside0.mk hb5
      have HG5 := Aside0.mk hg5
      have HT5 := Aside0.mk hat5
      have hb5_ := blk_grown HR3.out.hr hg5 (Kd.R_ne HR3.out.hp HR3.out.hr (by decide))
      have cc5 := blk_cell hb5_ 1
      have ff5 := blk_frozen hb5_ 1
      clear ho5 hb5 hg5 hat5 hb5_
      refine hK.out _ _ ?_
      clear hK K
      refine norm_ (a' := ?_) ?_ ?_
      rotate_left
      · show Act.put _ (some 48) _ = _
        simp only [Act.put, List.setIfInBounds_toArray, List.set_cons_zero, List.set_cons_succ, i64_w, i32_w]
        rfl
      refine pure_ (i := 9) (N := some 49) (v := ?_) (a' := ?_) #[true, true, true, true, true, true, true, true, true, true, false, false] rfl rfl (by kernel_rfl) (fun _ _ _ h => h) (Or.inl ⟨by rfl, ?_⟩) ?_ ?_
      rotate_left
      · intro w'
        go_simp
        with_reducible rfl
      rotate_left
      · simp only [Act.put, List.setIfInBounds_toArray, List.set_cons_zero, List.set_cons_succ, i64_w, i32_w]
        rfl
      refine pure_ (i := 10) (N := some 50) (v := ?_) (a' := ?_) #[true, true, true, true, true, true, true, true, true, true, true, false] rfl rfl (by kernel_rfl) (fun _ _ _ h => h) (Or.inl ⟨by rfl, ?_⟩) ?_ ?_
      rotate_left
      · intro w'
        go_simp
        with_reducible rfl
      rotate_left
      · simp only [Act.put, List.setIfInBounds_toArray, List.set_cons_zero, List.set_cons_succ, i64_w, i32_w]
        rfl
      refine last_ (i := 11) (N := none) #[true, true, true, true, true, true, true, true, true, true, true, true] rfl rfl (by kernel_rfl) (by decide) (fun K hK => ?_)
      refine skip_ (w1 := ?_) (by rfl) rfl ?_ ?_
      rotate_left
      · go_simp
        rfl
      refine hK.out _ _ ?_
      clear hK K
      refine done_ (by kernel_rfl) ?_

      have hr5 := HR3.out.join HO5.out HB5.out HG5.out HT5.out
      have hd5 := HR3.out.join_row HG5.out HT5.out (HRA.out.page_row HF3.out HAT3.out (Kd.R_drew HD.out))
      have HR5 : Aside0 (Rd w (w5.setCell ⟨r, 1, none⟩ (.slice A5 (m + 30) c5)) r A n c ws (.slice A5 (m + 30) c5) vo3 (rdK ws st p).1 (rdK ws st p).2.1 (rdK ws st p).2.2) := ⟨by
        show Rd w _ r A n c ws _ vo3 (st.1 ++ pgL ws p) (st.2.1 ++ pgOwn p) (st.2.2 || !pgOk ws p)
        rw [HPLE.out]; exact hr5⟩
      have HD5 := Aside0.mk hd5
      clear hr5 hd5 cc5 ff5
      go_wp2_with fail
      go_roundg (30 - (k + 1))
      case measure => have := HK.out; have := HGK.out; omega
      case rel =>
        refine ⟨k + 1, _, vo3, rdK ws st p, by omega, Nat.le_refl _, by go_num, HR5, HD5, ⟨?_⟩, ⟨?_⟩⟩
        · rw [take_snoc HP.out, List.foldl_append, HST.out]; rfl
        · have h1 := HLS.out.1
          have h2 := HLS.out.2
          have h3 := pgOwn_length p
          refine ⟨?_, ?_⟩
          · show (st.1 ++ pgL ws p).length = _
            rw [List.length_append, pgL_length]; omega
          · show (st.2.1 ++ pgOwn p).length ≤ _
            rw [List.length_append]; omega
    · have b1 : decide (k < 30) = false := decide_eq_false hlt
      have b2 : decide ((k : Int) < 30) = false := decide_eq_false (by omega)
      have hk30 : k = 30 := by omega
      subst hk30
      have HALL : Aside0 (rdAll ws [d0, d1, d2, d3] s g = st) := ⟨by
        unfold rdAll
        rw [HPE.out, HDE.out]
        show dl.foldl (rdK ws) ((rdK ws (pl, [], false) s).1, (rdK ws (pl, [], false) s).2.1 ++ pgOwn g, (rdK ws (pl, [], false) s).2.2 || !pgOk ws g) = st
        rw [HSA.out, HS0.out]
        have h := HST.out
        rw [← HDL.out, List.take_length] at h
        exact h⟩
      have HLL : Aside0 (st.1.length ≤ 1000 ∧ st.2.1.length ≤ 32) := ⟨by have h := HLS.out; omega⟩
      clear hlt hk hgk HDL HD HST HS0 HSA HPE HLA HLB HDE HLS
      obtain ⟨A2, c2, e2⟩ := Kd.R_slice HR.out.hp
      subst e2
      obtain ⟨m, hm⟩ : ∃ m, st.1.length = m := ⟨_, rfl⟩
      rw [hm] at HR
      have q1 := blk_cell HR.out.hr 1
      have HTR := Aside0.mk (trim_calls A2 c2 m st.1 hm wr (by have h := (Kd.R_reads' HR.out.hp).2.2; rw [hm] at h; exact h) (Kd.R_reads' HR.out.hp).2.1 (by have := HLL.out.1; omega))
      obtain ⟨t, ht⟩ : ∃ t, trimL st.1 = t := ⟨_, rfl⟩
      obtain ⟨m9, hm9⟩ : ∃ m, t.length = m := ⟨_, rfl⟩
      have HT := Aside0.mk ht
      have HM9 := Aside0.mk hm9
      have HM9L : Aside0 (m9 ≤ 1000) := ⟨by
        have h2 := trim_le st.1
        rw [ht, hm9] at h2
        have := HLL.out.1
        omega⟩
      rw [ht] at HTR
      clear ht hm hm9
      go_wp2_with (go_at_call 33; (with_reducible refine HTR.out.mono ?_); rintro e w9 ⟨v9, rfl, ho, hb⟩; obtain ⟨A9, c9, e9⟩ := Kd.R_slice ho; rw [HM9.out] at e9; subst e9; have hr9 := HR.out.moved hb; have q9 := blk_cell hr9.hr 1; have f9 := blk_frozen hr9.hr 1; have HRT := Aside0.mk (HR.out.swap hb ho); clear hr9 ho hb)
      have HWW : Aside0 (wide st.1 = true ∧ wide st.2.1 = true) := ⟨by rw [← HALL.out]; exact rdAll_wide HB.out HWD.out⟩
      have HWT : Aside0 (wide t = true) := ⟨by rw [← HT.out]; exact wide_trim HWW.out.1⟩
      obtain ⟨wt, hwt⟩ : ∃ q, w9.setCell ⟨r, 1, none⟩ (.slice A9 m9 c9) = q := ⟨_, rfl⟩
      rw [hwt] at HRT
      rw [hwt]
      obtain ⟨Ao, co, eo⟩ := Kd.R_slice HRT.out.ho
      subst eo
      obtain ⟨mo, hmo⟩ : ∃ m, st.2.1.length = m := ⟨_, rfl⟩
      rw [hmo] at HRT
      have HMO := Aside0.mk hmo
      obtain ⟨ol, hol⟩ : ∃ q, st.2.1 = q := ⟨_, rfl⟩
      have HOL := Aside0.mk hol
      have HB11 : Aside0 (rdBad ws [d0, d1, d2, d3] s g = (st.2.2 || !ptsB t || !aloneB [] (ol ++ t))) := ⟨by unfold rdBad; rw [HALL.out, HT.out, hol]⟩
      have HE11 : Aside0 (trimL (rdAll ws [d0, d1, d2, d3] s g).1 = t ∧ (rdAll ws [d0, d1, d2, d3] s g).2.1 = ol) := ⟨by rw [HALL.out, HT.out, hol]; exact ⟨rfl, rfl⟩⟩
      rw [hol] at HRT HWW HMO
      obtain ⟨bd, hbd⟩ : ∃ q, st.2.2 = q := ⟨_, rfl⟩
      rw [hbd] at HRT HB11
      have HT1 : Aside0 (∀ W, Below wt.heap.size wt W → W.cell? ⟨r, 1, none⟩ = some (.slice A9 m9 c9)) := ⟨fun W hW => pw_cell_below hW (blk_cell HRT.out.hr 1)⟩
      have HT2 : Aside0 (∀ W, Below wt.heap.size wt W → W.cell? ⟨r, 2, none⟩ = some (.slice Ao mo co)) := ⟨fun W hW => pw_cell_below hW (blk_cell HRT.out.hr 2)⟩
      have HT3 : Aside0 (∀ W, Below wt.heap.size wt W → W.cell? ⟨r, 3, none⟩ = some (.bool bd)) := ⟨fun W hW => pw_cell_below hW (blk_cell HRT.out.hr 3)⟩
      have HPT : Aside0 (∀ W, Below wt.heap.size wt W → Calls Try.prog 18 #[.slice A9 m9 c9] W fun e w' => e = .returned (.bool (ptsB t)) ∧ Below W.heap.size W w') := ⟨fun W hW => pointers_n A9 c9 m9 t HM9.out W (by have h := (Kd.R_reads' (Kd.R_below HRT.out.hp hW)).2.2; rw [HM9.out] at h; exact h) HWT.out⟩
      have HAP : Aside0 (∀ W, Below wt.heap.size wt W → Calls Try.prog 34 #[.slice Ao mo co, .slice A9 m9 c9] W fun e w' => e = .returned (.bool (aloneB [] (ol ++ t))) ∧ Below W.heap.size W w') := ⟨fun W hW => apart_calls Ao co mo ol HMO.out A9 c9 m9 t HM9.out W (by have h := (Kd.R_reads' (Kd.R_below HRT.out.ho hW)).2.2; rw [HMO.out] at h; exact h) (by have h := (Kd.R_reads' (Kd.R_below HRT.out.hp hW)).2.2; rw [HM9.out] at h; exact h) (by have h1 := HLL.out.2; have h2 := HMO.out; rw [hol] at h1; omega) (by have := HM9L.out; omega) HWW.out.2 HWT.out⟩
      clear hwt hmo hol hbd q1 q9 f9 HTR HT HALL HR HMO
      cases bd with
      | true =>
        have HBT : Aside0 (rdBad ws [d0, d1, d2, d3] s g = true) := ⟨by rw [HB11.out]; rfl⟩
        refine start_ (n := 24) (S := fun w' => w'.cell? ⟨r, 3, none⟩ = some (.bool true) ∧ w'.cell? ⟨r, 1, none⟩ = some (.slice A9 m9 c9) ∧ w'.cell? ⟨r, 2, none⟩ = some (.slice Ao mo co)) (ds := []) #[false, false, false, false, false, false, false, false, false, false, false, false, false, false, false, false, false, false, false, false, false, false, false, false] (by kernel_rfl) rfl rfl ⟨HT3.out _ (below_drew (Below.refl _ _)), HT1.out _ (below_drew (Below.refl _ _)), HT2.out _ (below_drew (Below.refl _ _))⟩ (fun hHeld => ?_)
        refine pure_ (i := 0) (N := some 60) (v := ?_) (a' := ?_) #[true, false, false, false, false, false, false, false, false, false, false, false, false, false, false, false, false, false, false, false, false, false, false, false] rfl rfl (by kernel_rfl) (fun _ _ _ h => h) (Or.inl ⟨by rfl, ?_⟩) ?_ ?_
        rotate_left
        · intro w'
          go_simp
          with_reducible rfl
        rotate_left
        · simp only [Act.put, List.setIfInBounds_toArray, List.set_cons_zero, List.set_cons_succ, i64_w, i32_w]
          rfl
        refine pure_ (i := 1) (N := some 61) (v := ?_) (a' := ?_) #[true, true, false, false, false, false, false, false, false, false, false, false, false, false, false, false, false, false, false, false, false, false, false, false] rfl rfl (by kernel_rfl) (fun _ _ _ h => h) (Or.inl ⟨by rfl, ?_⟩) ?_ ?_
        rotate_left
        · intro w'
          go_simp
          with_reducible rfl
        rotate_left
        · simp only [Act.put, List.setIfInBounds_toArray, List.set_cons_zero, List.set_cons_succ, i64_w, i32_w]
          rfl
        refine pure_ (i := 2) (N := some 62) (v := ?_) (a' := ?_) #[true, true, true, false, false, false, false, false, false, false, false, false, false, false, false, false, false, false, false, false, false, false, false, false] rfl rfl (by kernel_rfl) (fun _ _ _ h => h) (Or.inl ⟨by rfl, ?_⟩) ?_ ?_
        rotate_left
        · intro w'
          go_simp
          with_reducible rfl
        rotate_left
        · simp only [Act.put, List.setIfInBounds_toArray, List.set_cons_zero, List.set_cons_succ, i64_w, i32_w]
          rfl
        refine take_ (i := 3) (N := some 63) (v := ?_) (a' := ?_) #[true, true, true, true, false, false, false, false, false, false, false, false, false, false, false, false, false, false, false, false, false, false, false, false] rfl rfl (by kernel_rfl) (fun _ _ _ h => h) (Or.inl ⟨by rfl, ?_⟩) hHeld ?_ ?_
        rotate_left
        · rintro w' ⟨s0, s1, s2⟩
          go_simp
          with_reducible rfl
        rotate_left
        · simp only [Act.put, List.setIfInBounds_toArray, List.set_cons_zero, List.set_cons_succ, i64_w, i32_w]
          rfl
        refine pure_ (i := 4) (N := some 64) (v := ?_) (a' := ?_) #[true, true, true, true, true, false, false, false, false, false, false, false, false, false, false, false, false, false, false, false, false, false, false, false] rfl rfl (by kernel_rfl) (fun _ _ _ h => h) (Or.inl ⟨by rfl, ?_⟩) ?_ ?_
        rotate_left
        · intro w'
          go_simp
          with_reducible rfl
        rotate_left
        · simp only [Act.put, List.setIfInBounds_toArray, List.set_cons_zero, List.set_cons_succ, i64_w, i32_w]
          rfl
        refine pure_ (i := 5) (N := some 65) (v := undef) (a' := ?_) #[true, true, true, true, true, true, false, false, false, false, false, false, false, false, false, false, false, false, false, false, false, false, false, false] rfl rfl (by kernel_rfl) (fun _ _ _ h => h) (Or.inr ⟨by rfl, rfl⟩) ?_ ?_
        rotate_left
        · simp only [Act.put, List.setIfInBounds_toArray, List.set_cons_zero, List.set_cons_succ, i64_w, i32_w]
          rfl
        refine pure_ (i := 6) (N := some 66) (v := undef) (a' := ?_) #[true, true, true, true, true, true, true, false, false, false, false, false, false, false, false, false, false, false, false, false, false, false, false, false] rfl rfl (by kernel_rfl) (fun _ _ _ h => h) (Or.inr ⟨by rfl, rfl⟩) ?_ ?_
        rotate_left
        · simp only [Act.put, List.setIfInBounds_toArray, List.set_cons_zero, List.set_cons_succ, i64_w, i32_w]
          rfl
        refine pure_ (i := 7) (N := some 67) (v := undef) (a' := ?_) #[true, true, true, true, true, true, true, true, false, false, false, false, false, false, false, false, false, false, false, false, false, false, false, false] rfl rfl (by kernel_rfl) (fun _ _ _ h => h) (Or.inr ⟨by rfl, rfl⟩) ?_ ?_
        rotate_left
        · simp only [Act.put, List.setIfInBounds_toArray, List.set_cons_zero, List.set_cons_succ, i64_w, i32_w]
          rfl
        refine pure_ (i := 8) (N := some 68) (v := undef) (a' := ?_) #[true, true, true, true, true, true, true, true, true, false, false, false, false, false, false, false, false, false, false, false, false, false, false, false] rfl rfl (by kernel_rfl) (fun _ _ _ h => h) (Or.inr ⟨by rfl, rfl⟩) ?_ ?_
        rotate_left
        · simp only [Act.put, List.setIfInBounds_toArray, List.set_cons_zero, List.set_cons_succ, i64_w, i32_w]
          rfl
        refine pure_ (i := 9) (N := some 69) (v := undef) (a' := ?_) #[true, true, true, true, true, true, true, true, true, true, false, false, false, false, false, false, false, false, false, false, false, false, false, false] rfl rfl (by kernel_rfl) (fun _ _ _ h => h) (Or.inr ⟨by rfl, rfl⟩) ?_ ?_
        rotate_left
        · simp only [Act.put, List.setIfInBounds_toArray, List.set_cons_zero, List.set_cons_succ, i64_w, i32_w]
          rfl
        refine pure_ (i := 10) (N := some 70) (v := undef) (a' := ?_) #[true, true, true, true, true, true, true, true, true, true, true, false, false, false, false, false, false, false, false, false, false, false, false, false] rfl rfl (by kernel_rfl) (fun _ _ _ h => h) (Or.inr ⟨by rfl, rfl⟩) ?_ ?_
        rotate_left
        · simp only [Act.put, List.setIfInBounds_toArray, List.set_cons_zero, List.set_cons_succ, i64_w, i32_w]
          rfl
        refine pure_ (i := 11) (N := some 71) (v := ?_) (a' := ?_) #[true, true, true, true, true, true, true, true, true, true, true, true, false, false, false, false, false, false, false, false, false, false, false, false] rfl rfl (by kernel_rfl) (fun _ _ _ h => h) (Or.inl ⟨by rfl, ?_⟩) ?_ ?_
        rotate_left
        · intro w'
          go_simp
          with_reducible rfl
        rotate_left
        · simp only [Act.put, List.setIfInBounds_toArray, List.set_cons_zero, List.set_cons_succ, i64_w, i32_w]
          rfl
        refine pure_ (i := 12) (N := some 72) (v := ?_) (a' := ?_) #[true, true, true, true, true, true, true, true, true, true, true, true, true, false, false, false, false, false, false, false, false, false, false, false] rfl rfl (by kernel_rfl) (fun _ _ _ h => h) (Or.inl ⟨by rfl, ?_⟩) ?_ ?_
        rotate_left
        · intro w'
          go_simp
          with_reducible rfl
        rotate_left
        · simp only [Act.put, List.setIfInBounds_toArray, List.set_cons_zero, List.set_cons_succ, i64_w, i32_w]
          rfl
        refine pure_ (i := 13) (N := some 73) (v := undef) (a' := ?_) #[true, true, true, true, true, true, true, true, true, true, true, true, true, true, false, false, false, false, false, false, false, false, false, false] rfl rfl (by kernel_rfl) (fun _ _ _ h => h) (Or.inr ⟨by rfl, rfl⟩) ?_ ?_
        rotate_left
        · simp only [Act.put, List.setIfInBounds_toArray, List.set_cons_zero, List.set_cons_succ, i64_w, i32_w]
          rfl
        refine pure_ (i := 14) (N := some 74) (v := undef) (a' := ?_) #[true, true, true, true, true, true, true, true, true, true, true, true, true, true, true, false, false, false, false, false, false, false, false, false] rfl rfl (by kernel_rfl) (fun _ _ _ h => h) (Or.inr ⟨by rfl, rfl⟩) ?_ ?_
        rotate_left
        · simp only [Act.put, List.setIfInBounds_toArray, List.set_cons_zero, List.set_cons_succ, i64_w, i32_w]
          rfl
        refine pure_ (i := 15) (N := some 75) (v := undef) (a' := ?_) #[true, true, true, true, true, true, true, true, true, true, true, true, true, true, true, true, false, false, false, false, false, false, false, false] rfl rfl (by kernel_rfl) (fun _ _ _ h => h) (Or.inr ⟨by rfl, rfl⟩) ?_ ?_
        rotate_left
        · simp only [Act.put, List.setIfInBounds_toArray, List.set_cons_zero, List.set_cons_succ, i64_w, i32_w]
          rfl
        refine pure_ (i := 16) (N := some 76) (v := undef) (a' := ?_) #[true, true, true, true, true, true, true, true, true, true, true, true, true, true, true, true, true, false, false, false, false, false, false, false] rfl rfl (by kernel_rfl) (fun _ _ _ h => h) (Or.inr ⟨by rfl, rfl⟩) ?_ ?_
        rotate_left
        · simp only [Act.put, List.setIfInBounds_toArray, List.set_cons_zero, List.set_cons_succ, i64_w, i32_w]
          rfl
        refine pure_ (i := 17) (N := some 77) (v := undef) (a' := ?_) #[true, true, true, true, true, true, true, true, true, true, true, true, true, true, true, true, true, true, false, false, false, false, false, false] rfl rfl (by kernel_rfl) (fun _ _ _ h => h) (Or.inr ⟨by rfl, rfl⟩) ?_ ?_
        rotate_left
        · simp only [Act.put, List.setIfInBounds_toArray, List.set_cons_zero, List.set_cons_succ, i64_w, i32_w]
          rfl
        refine pure_ (i := 18) (N := some 78) (v := undef) (a' := ?_) #[true, true, true, true, true, true, true, true, true, true, true, true, true, true, true, true, true, true, true, false, false, false, false, false] rfl rfl (by kernel_rfl) (fun _ _ _ h => h) (Or.inr ⟨by rfl, rfl⟩) ?_ ?_
        rotate_left
        · simp only [Act.put, List.setIfInBounds_toArray, List.set_cons_zero, List.set_cons_succ, i64_w, i32_w]
          rfl
        refine pure_ (i := 19) (N := some 79) (v := undef) (a' := ?_) #[true, true, true, true, true, true, true, true, true, true, true, true, true, true, true, true, true, true, true, true, false, false, false, false] rfl rfl (by kernel_rfl) (fun _ _ _ h => h) (Or.inr ⟨by rfl, rfl⟩) ?_ ?_
        rotate_left
        · simp only [Act.put, List.setIfInBounds_toArray, List.set_cons_zero, List.set_cons_succ, i64_w, i32_w]
          rfl
        refine pure_ (i := 20) (N := some 80) (v := undef) (a' := ?_) #[true, true, true, true, true, true, true, true, true, true, true, true, true, true, true, true, true, true, true, true, true, false, false, false] rfl rfl (by kernel_rfl) (fun _ _ _ h => h) (Or.inr ⟨by rfl, rfl⟩) ?_ ?_
        rotate_left
        · simp only [Act.put, List.setIfInBounds_toArray, List.set_cons_zero, List.set_cons_succ, i64_w, i32_w]
          rfl
        refine pure_ (i := 21) (N := some 81) (v := undef) (a' := ?_) #[true, true, true, true, true, true, true, true, true, true, true, true, true, true, true, true, true, true, true, true, true, true, false, false] rfl rfl (by kernel_rfl) (fun _ _ _ h => h) (Or.inr ⟨by rfl, rfl⟩) ?_ ?_
        rotate_left
        · simp only [Act.put, List.setIfInBounds_toArray, List.set_cons_zero, List.set_cons_succ, i64_w, i32_w]
          rfl
        refine pure_ (i := 22) (N := some 82) (v := undef) (a' := ?_) #[true, true, true, true, true, true, true, true, true, true, true, true, true, true, true, true, true, true, true, true, true, true, true, false] rfl rfl (by kernel_rfl) (fun _ _ _ h => h) (Or.inr ⟨by rfl, rfl⟩) ?_ ?_
        rotate_left
        · simp only [Act.put, List.setIfInBounds_toArray, List.set_cons_zero, List.set_cons_succ, i64_w, i32_w]
          rfl
        refine pure_ (i := 23) (N := some 83) (v := ?_) (a' := ?_) #[true, true, true, true, true, true, true, true, true, true, true, true, true, true, true, true, true, true, true, true, true, true, true, true] rfl rfl (by kernel_rfl) (fun _ _ _ h => h) (Or.inl ⟨by rfl, ?_⟩) ?_ ?_
        rotate_left
        · intro w'
          go_simp
          with_reducible rfl
        rotate_left
        · simp only [Act.put, List.setIfInBounds_toArray, List.set_cons_zero, List.set_cons_succ, i64_w, i32_w]
          rfl
        refine done_ (by kernel_rfl) ?_

        go_wp2_with fail
        go_ret3
        exact ⟨below_drew HRT.out.bl, fun _ => rfl, fun h => by rw [HBT.out] at h; cases h⟩
      | false =>
        obtain ⟨q2, hq2⟩ : ∃ q, ptsB t = q := ⟨_, rfl⟩
        rw [hq2] at HPT HB11
        clear hq2
        cases q2 with
        | false =>
          have HBT : Aside0 (rdBad ws [d0, d1, d2, d3] s g = true) := ⟨by rw [HB11.out]; rfl⟩
          refine start_ (n := 24) (S := fun w' => w'.cell? ⟨r, 3, none⟩ = some (.bool false) ∧ w'.cell? ⟨r, 1, none⟩ = some (.slice A9 m9 c9) ∧ w'.cell? ⟨r, 2, none⟩ = some (.slice Ao mo co)) (ds := []) #[false, false, false, false, false, false, false, false, false, false, false, false, false, false, false, false, false, false, false, false, false, false, false, false] (by kernel_rfl) rfl rfl ⟨HT3.out _ (below_drew (Below.refl _ _)), HT1.out _ (below_drew (Below.refl _ _)), HT2.out _ (below_drew (Below.refl _ _))⟩ (fun hHeld => ?_)
          refine pure_ (i := 0) (N := some 60) (v := ?_) (a' := ?_) #[true, false, false, false, false, false, false, false, false, false, false, false, false, false, false, false, false, false, false, false, false, false, false, false] rfl rfl (by kernel_rfl) (fun _ _ _ h => h) (Or.inl ⟨by rfl, ?_⟩) ?_ ?_
          rotate_left
          · intro w'
            go_simp
            with_reducible rfl
          rotate_left
          · simp only [Act.put, List.setIfInBounds_toArray, List.set_cons_zero, List.set_cons_succ, i64_w, i32_w]
            rfl
          refine pure_ (i := 1) (N := some 61) (v := ?_) (a' := ?_) #[true, true, false, false, false, false, false, false, false, false, false, false, false, false, false, false, false, false, false, false, false, false, false, false] rfl rfl (by kernel_rfl) (fun _ _ _ h => h) (Or.inl ⟨by rfl, ?_⟩) ?_ ?_
          rotate_left
          · intro w'
            go_simp
            with_reducible rfl
          rotate_left
          · simp only [Act.put, List.setIfInBounds_toArray, List.set_cons_zero, List.set_cons_succ, i64_w, i32_w]
            rfl
          refine pure_ (i := 2) (N := some 62) (v := ?_) (a' := ?_) #[true, true, true, false, false, false, false, false, false, false, false, false, false, false, false, false, false, false, false, false, false, false, false, false] rfl rfl (by kernel_rfl) (fun _ _ _ h => h) (Or.inl ⟨by rfl, ?_⟩) ?_ ?_
          rotate_left
          · intro w'
            go_simp
            with_reducible rfl
          rotate_left
          · simp only [Act.put, List.setIfInBounds_toArray, List.set_cons_zero, List.set_cons_succ, i64_w, i32_w]
            rfl
          refine take_ (i := 3) (N := some 63) (v := ?_) (a' := ?_) #[true, true, true, true, false, false, false, false, false, false, false, false, false, false, false, false, false, false, false, false, false, false, false, false] rfl rfl (by kernel_rfl) (fun _ _ _ h => h) (Or.inl ⟨by rfl, ?_⟩) hHeld ?_ ?_
          rotate_left
          · rintro w' ⟨s0, s1, s2⟩
            go_simp
            with_reducible rfl
          rotate_left
          · simp only [Act.put, List.setIfInBounds_toArray, List.set_cons_zero, List.set_cons_succ, i64_w, i32_w]
            rfl
          refine pure_ (i := 4) (N := some 64) (v := ?_) (a' := ?_) #[true, true, true, true, true, false, false, false, false, false, false, false, false, false, false, false, false, false, false, false, false, false, false, false] rfl rfl (by kernel_rfl) (fun _ _ _ h => h) (Or.inl ⟨by rfl, ?_⟩) ?_ ?_
          rotate_left
          · intro w'
            go_simp
            with_reducible rfl
          rotate_left
          · simp only [Act.put, List.setIfInBounds_toArray, List.set_cons_zero, List.set_cons_succ, i64_w, i32_w]
            rfl
          refine pure_ (i := 5) (N := some 65) (v := ?_) (a' := ?_) #[true, true, true, true, true, true, false, false, false, false, false, false, false, false, false, false, false, false, false, false, false, false, false, false] rfl rfl (by kernel_rfl) (fun _ _ _ h => h) (Or.inl ⟨by rfl, ?_⟩) ?_ ?_
          rotate_left
          · intro w'
            go_simp
            with_reducible rfl
          rotate_left
          · simp only [Act.put, List.setIfInBounds_toArray, List.set_cons_zero, List.set_cons_succ, i64_w, i32_w]
            rfl
          refine pure_ (i := 6) (N := some 66) (v := ?_) (a' := ?_) #[true, true, true, true, true, true, true, false, false, false, false, false, false, false, false, false, false, false, false, false, false, false, false, false] rfl rfl (by kernel_rfl) (fun _ _ _ h => h) (Or.inl ⟨by rfl, ?_⟩) ?_ ?_
          rotate_left
          · intro w'
            go_simp
            with_reducible rfl
          rotate_left
          · simp only [Act.put, List.setIfInBounds_toArray, List.set_cons_zero, List.set_cons_succ, i64_w, i32_w]
            rfl
          refine pure_ (i := 7) (N := some 67) (v := ?_) (a' := ?_) #[true, true, true, true, true, true, true, true, false, false, false, false, false, false, false, false, false, false, false, false, false, false, false, false] rfl rfl (by kernel_rfl) (fun _ _ _ h => h) (Or.inl ⟨by rfl, ?_⟩) ?_ ?_
          rotate_left
          · intro w'
            go_simp
            with_reducible rfl
          rotate_left
          · simp only [Act.put, List.setIfInBounds_toArray, List.set_cons_zero, List.set_cons_succ, i64_w, i32_w]
            rfl
          refine take_ (i := 8) (N := some 68) (v := ?_) (a' := ?_) #[true, true, true, true, true, true, true, true, true, false, false, false, false, false, false, false, false, false, false, false, false, false, false, false] rfl rfl (by kernel_rfl) (fun _ _ _ h => h) (Or.inl ⟨by rfl, ?_⟩) hHeld ?_ ?_
          rotate_left
          · rintro w' ⟨s0, s1, s2⟩
            go_simp
            with_reducible rfl
          rotate_left
          · simp only [Act.put, List.setIfInBounds_toArray, List.set_cons_zero, List.set_cons_succ, i64_w, i32_w]
            rfl
          refine one_ (i := 9) (N := some 69) #[true, true, true, true, true, true, true, true, true, true, false, false, false, false, false, false, false, false, false, false, false, false, false, false] rfl rfl (by kernel_rfl) (by decide) (fun K hK => ?_)
          refine goes_ Try.func18 (by kernel_rfl) rfl #[.slice A9 m9 c9] (by rfl) rfl rfl (by (try simp only [List.map_toArray, List.map_cons, List.map_nil]); first | done | rfl) ?_
          with_reducible refine (HPT.out _ (below_drew (Below.refl _ _))).mono ?_
          rintro e w3 ⟨rfl, hb3⟩
          refine ⟨_, rfl, ?_⟩
          have HB3 := Aside0.mk (below_step (below_drew (Below.refl _ _)) hb3)
          clear hb3
          refine hK.out _ _ ⟨HT3.out _ (HB3.out), HT1.out _ (HB3.out), HT2.out _ (HB3.out)⟩ (fun hHeld => ?_)
          clear hK K
          refine norm_ (a' := ?_) ?_ ?_
          rotate_left
          · show Act.put _ (some 69) _ = _
            simp only [Act.put, List.setIfInBounds_toArray, List.set_cons_zero, List.set_cons_succ, i64_w, i32_w]
            rfl
          refine pure_ (i := 10) (N := some 70) (v := ?_) (a' := ?_) #[true, true, true, true, true, true, true, true, true, true, true, false, false, false, false, false, false, false, false, false, false, false, false, false] rfl rfl (by kernel_rfl) (fun _ _ _ h => h) (Or.inl ⟨by rfl, ?_⟩) ?_ ?_
          rotate_left
          · intro w'
            go_simp
            with_reducible rfl
          rotate_left
          · simp only [Act.put, List.setIfInBounds_toArray, List.set_cons_zero, List.set_cons_succ, i64_w, i32_w]
            rfl
          refine pure_ (i := 11) (N := some 71) (v := ?_) (a' := ?_) #[true, true, true, true, true, true, true, true, true, true, true, true, false, false, false, false, false, false, false, false, false, false, false, false] rfl rfl (by kernel_rfl) (fun _ _ _ h => h) (Or.inl ⟨by rfl, ?_⟩) ?_ ?_
          rotate_left
          · intro w'
            go_simp
            with_reducible rfl
          rotate_left
          · simp only [Act.put, List.setIfInBounds_toArray, List.set_cons_zero, List.set_cons_succ, i64_w, i32_w]
            rfl
          refine pure_ (i := 12) (N := some 72) (v := ?_) (a' := ?_) #[true, true, true, true, true, true, true, true, true, true, true, true, true, false, false, false, false, false, false, false, false, false, false, false] rfl rfl (by kernel_rfl) (fun _ _ _ h => h) (Or.inl ⟨by rfl, ?_⟩) ?_ ?_
          rotate_left
          · intro w'
            go_simp
            with_reducible rfl
          rotate_left
          · simp only [Act.put, List.setIfInBounds_toArray, List.set_cons_zero, List.set_cons_succ, i64_w, i32_w]
            rfl
          refine pure_ (i := 13) (N := some 73) (v := undef) (a' := ?_) #[true, true, true, true, true, true, true, true, true, true, true, true, true, true, false, false, false, false, false, false, false, false, false, false] rfl rfl (by kernel_rfl) (fun _ _ _ h => h) (Or.inr ⟨by rfl, rfl⟩) ?_ ?_
          rotate_left
          · simp only [Act.put, List.setIfInBounds_toArray, List.set_cons_zero, List.set_cons_succ, i64_w, i32_w]
            rfl
          refine pure_ (i := 14) (N := some 74) (v := undef) (a' := ?_) #[true, true, true, true, true, true, true, true, true, true, true, true, true, true, true, false, false, false, false, false, false, false, false, false] rfl rfl (by kernel_rfl) (fun _ _ _ h => h) (Or.inr ⟨by rfl, rfl⟩) ?_ ?_
          rotate_left
          · simp only [Act.put, List.setIfInBounds_toArray, List.set_cons_zero, List.set_cons_succ, i64_w, i32_w]
            rfl
          refine pure_ (i := 15) (N := some 75) (v := undef) (a' := ?_) #[true, true, true, true, true, true, true, true, true, true, true, true, true, true, true, true, false, false, false, false, false, false, false, false] rfl rfl (by kernel_rfl) (fun _ _ _ h => h) (Or.inr ⟨by rfl, rfl⟩) ?_ ?_
          rotate_left
          · simp only [Act.put, List.setIfInBounds_toArray, List.set_cons_zero, List.set_cons_succ, i64_w, i32_w]
            rfl
          refine pure_ (i := 16) (N := some 76) (v := undef) (a' := ?_) #[true, true, true, true, true, true, true, true, true, true, true, true, true, true, true, true, true, false, false, false, false, false, false, false] rfl rfl (by kernel_rfl) (fun _ _ _ h => h) (Or.inr ⟨by rfl, rfl⟩) ?_ ?_
          rotate_left
          · simp only [Act.put, List.setIfInBounds_toArray, List.set_cons_zero, List.set_cons_succ, i64_w, i32_w]
            rfl
          refine pure_ (i := 17) (N := some 77) (v := undef) (a' := ?_) #[true, true, true, true, true, true, true, true, true, true, true, true, true, true, true, true, true, true, false, false, false, false, false, false] rfl rfl (by kernel_rfl) (fun _ _ _ h => h) (Or.inr ⟨by rfl, rfl⟩) ?_ ?_
          rotate_left
          · simp only [Act.put, List.setIfInBounds_toArray, List.set_cons_zero, List.set_cons_succ, i64_w, i32_w]
            rfl
          refine pure_ (i := 18) (N := some 78) (v := undef) (a' := ?_) #[true, true, true, true, true, true, true, true, true, true, true, true, true, true, true, true, true, true, true, false, false, false, false, false] rfl rfl (by kernel_rfl) (fun _ _ _ h => h) (Or.inr ⟨by rfl, rfl⟩) ?_ ?_
          rotate_left
          · simp only [Act.put, List.setIfInBounds_toArray, List.set_cons_zero, List.set_cons_succ, i64_w, i32_w]
            rfl
          refine pure_ (i := 19) (N := some 79) (v := undef) (a' := ?_) #[true, true, true, true, true, true, true, true, true, true, true, true, true, true, true, true, true, true, true, true, false, false, false, false] rfl rfl (by kernel_rfl) (fun _ _ _ h => h) (Or.inr ⟨by rfl, rfl⟩) ?_ ?_
          rotate_left
          · simp only [Act.put, List.setIfInBounds_toArray, List.set_cons_zero, List.set_cons_succ, i64_w, i32_w]
            rfl
          refine pure_ (i := 20) (N := some 80) (v := undef) (a' := ?_) #[true, true, true, true, true, true, true, true, true, true, true, true, true, true, true, true, true, true, true, true, true, false, false, false] rfl rfl (by kernel_rfl) (fun _ _ _ h => h) (Or.inr ⟨by rfl, rfl⟩) ?_ ?_
          rotate_left
          · simp only [Act.put, List.setIfInBounds_toArray, List.set_cons_zero, List.set_cons_succ, i64_w, i32_w]
            rfl
          refine pure_ (i := 21) (N := some 81) (v := undef) (a' := ?_) #[true, true, true, true, true, true, true, true, true, true, true, true, true, true, true, true, true, true, true, true, true, true, false, false] rfl rfl (by kernel_rfl) (fun _ _ _ h => h) (Or.inr ⟨by rfl, rfl⟩) ?_ ?_
          rotate_left
          · simp only [Act.put, List.setIfInBounds_toArray, List.set_cons_zero, List.set_cons_succ, i64_w, i32_w]
            rfl
          refine pure_ (i := 22) (N := some 82) (v := undef) (a' := ?_) #[true, true, true, true, true, true, true, true, true, true, true, true, true, true, true, true, true, true, true, true, true, true, true, false] rfl rfl (by kernel_rfl) (fun _ _ _ h => h) (Or.inr ⟨by rfl, rfl⟩) ?_ ?_
          rotate_left
          · simp only [Act.put, List.setIfInBounds_toArray, List.set_cons_zero, List.set_cons_succ, i64_w, i32_w]
            rfl
          refine pure_ (i := 23) (N := some 83) (v := ?_) (a' := ?_) #[true, true, true, true, true, true, true, true, true, true, true, true, true, true, true, true, true, true, true, true, true, true, true, true] rfl rfl (by kernel_rfl) (fun _ _ _ h => h) (Or.inl ⟨by rfl, ?_⟩) ?_ ?_
          rotate_left
          · intro w'
            go_simp
            with_reducible rfl
          rotate_left
          · simp only [Act.put, List.setIfInBounds_toArray, List.set_cons_zero, List.set_cons_succ, i64_w, i32_w]
            rfl
          refine done_ (by kernel_rfl) ?_

          go_wp2_with fail
          go_ret3
          exact ⟨HRT.out.bl.trans (HB3.out.mono HRT.out.bl.size), fun _ => rfl, fun h => by rw [HBT.out] at h; cases h⟩
        | true =>
          obtain ⟨q3, hq3⟩ : ∃ q, aloneB [] (ol ++ t) = q := ⟨_, rfl⟩
          rw [hq3] at HAP HB11
          clear hq3
          cases q3 with
          | false =>
            have HBT : Aside0 (rdBad ws [d0, d1, d2, d3] s g = true) := ⟨by rw [HB11.out]; rfl⟩
            refine start_ (n := 24) (S := fun w' => w'.cell? ⟨r, 3, none⟩ = some (.bool false) ∧ w'.cell? ⟨r, 1, none⟩ = some (.slice A9 m9 c9) ∧ w'.cell? ⟨r, 2, none⟩ = some (.slice Ao mo co)) (ds := []) #[false, false, false, false, false, false, false, false, false, false, false, false, false, false, false, false, false, false, false, false, false, false, false, false] (by kernel_rfl) rfl rfl ⟨HT3.out _ (below_drew (Below.refl _ _)), HT1.out _ (below_drew (Below.refl _ _)), HT2.out _ (below_drew (Below.refl _ _))⟩ (fun hHeld => ?_)
            refine pure_ (i := 0) (N := some 60) (v := ?_) (a' := ?_) #[true, false, false, false, false, false, false, false, false, false, false, false, false, false, false, false, false, false, false, false, false, false, false, false] rfl rfl (by kernel_rfl) (fun _ _ _ h => h) (Or.inl ⟨by rfl, ?_⟩) ?_ ?_
            rotate_left
            · intro w'
              go_simp
              with_reducible rfl
            rotate_left
            · simp only [Act.put, List.setIfInBounds_toArray, List.set_cons_zero, List.set_cons_succ, i64_w, i32_w]
              rfl
            refine pure_ (i := 1) (N := some 61) (v := ?_) (a' := ?_) #[true, true, false, false, false, false, false, false, false, false, false, false, false, false, false, false, false, false, false, false, false, false, false, false] rfl rfl (by kernel_rfl) (fun _ _ _ h => h) (Or.inl ⟨by rfl, ?_⟩) ?_ ?_
            rotate_left
            · intro w'
              go_simp
              with_reducible rfl
            rotate_left
            · simp only [Act.put, List.setIfInBounds_toArray, List.set_cons_zero, List.set_cons_succ, i64_w, i32_w]
              rfl
            refine pure_ (i := 2) (N := some 62) (v := ?_) (a' := ?_) #[true, true, true, false, false, false, false, false, false, false, false, false, false, false, false, false, false, false, false, false, false, false, false, false] rfl rfl (by kernel_rfl) (fun _ _ _ h => h) (Or.inl ⟨by rfl, ?_⟩) ?_ ?_
            rotate_left
            · intro w'
              go_simp
              with_reducible rfl
            rotate_left
            · simp only [Act.put, List.setIfInBounds_toArray, List.set_cons_zero, List.set_cons_succ, i64_w, i32_w]
              rfl
            refine take_ (i := 3) (N := some 63) (v := ?_) (a' := ?_) #[true, true, true, true, false, false, false, false, false, false, false, false, false, false, false, false, false, false, false, false, false, false, false, false] rfl rfl (by kernel_rfl) (fun _ _ _ h => h) (Or.inl ⟨by rfl, ?_⟩) hHeld ?_ ?_
            rotate_left
            · rintro w' ⟨s0, s1, s2⟩
              go_simp
              with_reducible rfl
            rotate_left
            · simp only [Act.put, List.setIfInBounds_toArray, List.set_cons_zero, List.set_cons_succ, i64_w, i32_w]
              rfl
            refine pure_ (i := 4) (N := some 64) (v := ?_) (a' := ?_) #[true, true, true, true, true, false, false, false, false, false, false, false, false, false, false, false, false, false, false, false, false, false, false, false] rfl rfl (by kernel_rfl) (fun _ _ _ h => h) (Or.inl ⟨by rfl, ?_⟩) ?_ ?_
            rotate_left
            · intro w'
              go_simp
              with_reducible rfl
            rotate_left
            · simp only [Act.put, List.setIfInBounds_toArray, List.set_cons_zero, List.set_cons_succ, i64_w, i32_w]
              rfl
            refine pure_ (i := 5) (N := some 65) (v := ?_) (a' := ?_) #[true, true, true, true, true, true, false, false, false, false, false, false, false, false, false, false, false, false, false, false, false, false, false, false] rfl rfl (by kernel_rfl) (fun _ _ _ h => h) (Or.inl ⟨by rfl, ?_⟩) ?_ ?_
            rotate_left
            · intro w'
              go_simp
              with_reducible rfl
            rotate_left
            · simp only [Act.put, List.setIfInBounds_toArray, List.set_cons_zero, List.set_cons_succ, i64_w, i32_w]
              rfl
            refine pure_ (i := 6) (N := some 66) (v := ?_) (a' := ?_) #[true, true, true, true, true, true, true, false, false, false, false, false, false, false, false, false, false, false, false, false, false, false, false, false] rfl rfl (by kernel_rfl) (fun _ _ _ h => h) (Or.inl ⟨by rfl, ?_⟩) ?_ ?_
            rotate_left
            · intro w'
              go_simp
              with_reducible rfl
            rotate_left
            · simp only [Act.put, List.setIfInBounds_toArray, List.set_cons_zero, List.set_cons_succ, i64_w, i32_w]
              rfl
            refine pure_ (i := 7) (N := some 67) (v := ?_) (a' := ?_) #[true, true, true, true, true, true, true, true, false, false, false, false, false, false, false, false, false, false, false, false, false, false, false, false] rfl rfl (by kernel_rfl) (fun _ _ _ h => h) (Or.inl ⟨by rfl, ?_⟩) ?_ ?_
            rotate_left
            · intro w'
              go_simp
              with_reducible rfl
            rotate_left
            · simp only [Act.put, List.setIfInBounds_toArray, List.set_cons_zero, List.set_cons_succ, i64_w, i32_w]
              rfl
            refine take_ (i := 8) (N := some 68) (v := ?_) (a' := ?_) #[true, true, true, true, true, true, true, true, true, false, false, false, false, false, false, false, false, false, false, false, false, false, false, false] rfl rfl (by kernel_rfl) (fun _ _ _ h => h) (Or.inl ⟨by rfl, ?_⟩) hHeld ?_ ?_
            rotate_left
            · rintro w' ⟨s0, s1, s2⟩
              go_simp
              with_reducible rfl
            rotate_left
            · simp only [Act.put, List.setIfInBounds_toArray, List.set_cons_zero, List.set_cons_succ, i64_w, i32_w]
              rfl
            refine one_ (i := 9) (N := some 69) #[true, true, true, true, true, true, true, true, true, true, false, false, false, false, false, false, false, false, false, false, false, false, false, false] rfl rfl (by kernel_rfl) (by decide) (fun K hK => ?_)
            refine goes_ Try.func18 (by kernel_rfl) rfl #[.slice A9 m9 c9] (by rfl) rfl rfl (by (try simp only [List.map_toArray, List.map_cons, List.map_nil]); first | done | rfl) ?_
            with_reducible refine (HPT.out _ (below_drew (Below.refl _ _))).mono ?_
            rintro e w3 ⟨rfl, hb3⟩
            refine ⟨_, rfl, ?_⟩
            have HB3 := Aside0.mk (below_step (below_drew (Below.refl _ _)) hb3)
            clear hb3
            refine hK.out _ _ ⟨HT3.out _ (HB3.out), HT1.out _ (HB3.out), HT2.out _ (HB3.out)⟩ (fun hHeld => ?_)
            clear hK K
            refine norm_ (a' := ?_) ?_ ?_
            rotate_left
            · show Act.put _ (some 69) _ = _
              simp only [Act.put, List.setIfInBounds_toArray, List.set_cons_zero, List.set_cons_succ, i64_w, i32_w]
              rfl
            refine pure_ (i := 10) (N := some 70) (v := ?_) (a' := ?_) #[true, true, true, true, true, true, true, true, true, true, true, false, false, false, false, false, false, false, false, false, false, false, false, false] rfl rfl (by kernel_rfl) (fun _ _ _ h => h) (Or.inl ⟨by rfl, ?_⟩) ?_ ?_
            rotate_left
            · intro w'
              go_simp
              with_reducible rfl
            rotate_left
            · simp only [Act.put, List.setIfInBounds_toArray, List.set_cons_zero, List.set_cons_succ, i64_w, i32_w]
              rfl
            refine pure_ (i := 11) (N := some 71) (v := ?_) (a' := ?_) #[true, true, true, true, true, true, true, true, true, true, true, true, false, false, false, false, false, false, false, false, false, false, false, false] rfl rfl (by kernel_rfl) (fun _ _ _ h => h) (Or.inl ⟨by rfl, ?_⟩) ?_ ?_
            rotate_left
            · intro w'
              go_simp
              with_reducible rfl
            rotate_left
            · simp only [Act.put, List.setIfInBounds_toArray, List.set_cons_zero, List.set_cons_succ, i64_w, i32_w]
              rfl
            refine pure_ (i := 12) (N := some 72) (v := ?_) (a' := ?_) #[true, true, true, true, true, true, true, true, true, true, true, true, true, false, false, false, false, false, false, false, false, false, false, false] rfl rfl (by kernel_rfl) (fun _ _ _ h => h) (Or.inl ⟨by rfl, ?_⟩) ?_ ?_
            rotate_left
            · intro w'
              go_simp
              with_reducible rfl
            rotate_left
            · simp only [Act.put, List.setIfInBounds_toArray, List.set_cons_zero, List.set_cons_succ, i64_w, i32_w]
              rfl
            refine pure_ (i := 13) (N := some 73) (v := ?_) (a' := ?_) #[true, true, true, true, true, true, true, true, true, true, true, true, true, true, false, false, false, false, false, false, false, false, false, false] rfl rfl (by kernel_rfl) (fun _ _ _ h => h) (Or.inl ⟨by rfl, ?_⟩) ?_ ?_
            rotate_left
            · intro w'
              go_simp
              with_reducible rfl
            rotate_left
            · simp only [Act.put, List.setIfInBounds_toArray, List.set_cons_zero, List.set_cons_succ, i64_w, i32_w]
              rfl
            refine pure_ (i := 14) (N := some 74) (v := ?_) (a' := ?_) #[true, true, true, true, true, true, true, true, true, true, true, true, true, true, true, false, false, false, false, false, false, false, false, false] rfl rfl (by kernel_rfl) (fun _ _ _ h => h) (Or.inl ⟨by rfl, ?_⟩) ?_ ?_
            rotate_left
            · intro w'
              go_simp
              with_reducible rfl
            rotate_left
            · simp only [Act.put, List.setIfInBounds_toArray, List.set_cons_zero, List.set_cons_succ, i64_w, i32_w]
              rfl
            refine pure_ (i := 15) (N := some 75) (v := ?_) (a' := ?_) #[true, true, true, true, true, true, true, true, true, true, true, true, true, true, true, true, false, false, false, false, false, false, false, false] rfl rfl (by kernel_rfl) (fun _ _ _ h => h) (Or.inl ⟨by rfl, ?_⟩) ?_ ?_
            rotate_left
            · intro w'
              go_simp
              with_reducible rfl
            rotate_left
            · simp only [Act.put, List.setIfInBounds_toArray, List.set_cons_zero, List.set_cons_succ, i64_w, i32_w]
              rfl
            refine pure_ (i := 17) (N := some 77) (v := ?_) (a' := ?_) #[true, true, true, true, true, true, true, true, true, true, true, true, true, true, true, true, false, true, false, false, false, false, false, false] rfl rfl (by kernel_rfl) (fun _ _ _ h => h) (Or.inl ⟨by rfl, ?_⟩) ?_ ?_
            rotate_left
            · intro w'
              go_simp
              with_reducible rfl
            rotate_left
            · simp only [Act.put, List.setIfInBounds_toArray, List.set_cons_zero, List.set_cons_succ, i64_w, i32_w]
              rfl
            refine pure_ (i := 18) (N := some 78) (v := ?_) (a' := ?_) #[true, true, true, true, true, true, true, true, true, true, true, true, true, true, true, true, false, true, true, false, false, false, false, false] rfl rfl (by kernel_rfl) (fun _ _ _ h => h) (Or.inl ⟨by rfl, ?_⟩) ?_ ?_
            rotate_left
            · intro w'
              go_simp
              with_reducible rfl
            rotate_left
            · simp only [Act.put, List.setIfInBounds_toArray, List.set_cons_zero, List.set_cons_succ, i64_w, i32_w]
              rfl
            refine pure_ (i := 19) (N := some 79) (v := ?_) (a' := ?_) #[true, true, true, true, true, true, true, true, true, true, true, true, true, true, true, true, false, true, true, true, false, false, false, false] rfl rfl (by kernel_rfl) (fun _ _ _ h => h) (Or.inl ⟨by rfl, ?_⟩) ?_ ?_
            rotate_left
            · intro w'
              go_simp
              with_reducible rfl
            rotate_left
            · simp only [Act.put, List.setIfInBounds_toArray, List.set_cons_zero, List.set_cons_succ, i64_w, i32_w]
              rfl
            refine take_ (i := 16) (N := some 76) (v := ?_) (a' := ?_) #[true, true, true, true, true, true, true, true, true, true, true, true, true, true, true, true, true, true, true, true, false, false, false, false] rfl rfl (by kernel_rfl) (fun _ _ _ h => h) (Or.inl ⟨by rfl, ?_⟩) hHeld ?_ ?_
            rotate_left
            · rintro w' ⟨s0, s1, s2⟩
              go_simp
              with_reducible rfl
            rotate_left
            · simp only [Act.put, List.setIfInBounds_toArray, List.set_cons_zero, List.set_cons_succ, i64_w, i32_w]
              rfl
            refine take_ (i := 20) (N := some 80) (v := ?_) (a' := ?_) #[true, true, true, true, true, true, true, true, true, true, true, true, true, true, true, true, true, true, true, true, true, false, false, false] rfl rfl (by kernel_rfl) (fun _ _ _ h => h) (Or.inl ⟨by rfl, ?_⟩) hHeld ?_ ?_
            rotate_left
            · rintro w' ⟨s0, s1, s2⟩
              go_simp
              with_reducible rfl
            rotate_left
            · simp only [Act.put, List.setIfInBounds_toArray, List.set_cons_zero, List.set_cons_succ, i64_w, i32_w]
              rfl
            refine one_ (i := 21) (N := some 81) #[true, true, true, true, true, true, true, true, true, true, true, true, true, true, true, true, true, true, true, true, true, true, false, false] rfl rfl (by kernel_rfl) (by decide) (fun K hK => ?_)
            refine goes_ Try.func34 (by kernel_rfl) rfl #[.slice Ao mo co, .slice A9 m9 c9] (by rfl) rfl rfl (by (try simp only [List.map_toArray, List.map_cons, List.map_nil]); first | done | rfl) ?_
            with_reducible refine (HAP.out _ HB3.out).mono ?_
            rintro e w4 ⟨rfl, hb4⟩
            refine ⟨_, rfl, ?_⟩
            have HB4 := Aside0.mk (below_step HB3.out hb4)
            clear hb4
            refine hK.out _ _ ⟨HT3.out _ (HB4.out), HT1.out _ (HB4.out), HT2.out _ (HB4.out)⟩ (fun hHeld => ?_)
            clear hK K
            refine norm_ (a' := ?_) ?_ ?_
            rotate_left
            · show Act.put _ (some 81) _ = _
              simp only [Act.put, List.setIfInBounds_toArray, List.set_cons_zero, List.set_cons_succ, i64_w, i32_w]
              rfl
            refine pure_ (i := 22) (N := some 82) (v := ?_) (a' := ?_) #[true, true, true, true, true, true, true, true, true, true, true, true, true, true, true, true, true, true, true, true, true, true, true, false] rfl rfl (by kernel_rfl) (fun _ _ _ h => h) (Or.inl ⟨by rfl, ?_⟩) ?_ ?_
            rotate_left
            · intro w'
              go_simp
              with_reducible rfl
            rotate_left
            · simp only [Act.put, List.setIfInBounds_toArray, List.set_cons_zero, List.set_cons_succ, i64_w, i32_w]
              rfl
            refine pure_ (i := 23) (N := some 83) (v := ?_) (a' := ?_) #[true, true, true, true, true, true, true, true, true, true, true, true, true, true, true, true, true, true, true, true, true, true, true, true] rfl rfl (by kernel_rfl) (fun _ _ _ h => h) (Or.inl ⟨by rfl, ?_⟩) ?_ ?_
            rotate_left
            · intro w'
              go_simp
              with_reducible rfl
            rotate_left
            · simp only [Act.put, List.setIfInBounds_toArray, List.set_cons_zero, List.set_cons_succ, i64_w, i32_w]
              rfl
            refine done_ (by kernel_rfl) ?_

            go_wp2_with fail
            go_ret3
            exact ⟨HRT.out.bl.trans (HB4.out.mono HRT.out.bl.size), fun _ => rfl, fun h => by rw [HBT.out] at h; cases h⟩
          | true =>
            have HBT : Aside0 (rdBad ws [d0, d1, d2, d3] s g = false) := ⟨by rw [HB11.out]; rfl⟩
            refine start_ (n := 24) (S := fun w' => w'.cell? ⟨r, 3, none⟩ = some (.bool false) ∧ w'.cell? ⟨r, 1, none⟩ = some (.slice A9 m9 c9) ∧ w'.cell? ⟨r, 2, none⟩ = some (.slice Ao mo co)) (ds := []) #[false, false, false, false, false, false, false, false, false, false, false, false, false, false, false, false, false, false, false, false, false, false, false, false] (by kernel_rfl) rfl rfl ⟨HT3.out _ (below_drew (Below.refl _ _)), HT1.out _ (below_drew (Below.refl _ _)), HT2.out _ (below_drew (Below.refl _ _))⟩ (fun hHeld => ?_)
            refine pure_ (i := 0) (N := some 60) (v := ?_) (a' := ?_) #[true, false, false, false, false, false, false, false, false, false, false, false, false, false, false, false, false, false, false, false, false, false, false, false] rfl rfl (by kernel_rfl) (fun _ _ _ h => h) (Or.inl ⟨by rfl, ?_⟩) ?_ ?_
            rotate_left
            · intro w'
              go_simp
              with_reducible rfl
            rotate_left
            · simp only [Act.put, List.setIfInBounds_toArray, List.set_cons_zero, List.set_cons_succ, i64_w, i32_w]
              rfl
            refine pure_ (i := 1) (N := some 61) (v := ?_) (a' := ?_) #[true, true, false, false, false, false, false, false, false, false, false, false, false, false, false, false, false, false, false, false, false, false, false, false] rfl rfl (by kernel_rfl) (fun _ _ _ h => h) (Or.inl ⟨by rfl, ?_⟩) ?_ ?_
            rotate_left
            · intro w'
              go_simp
              with_reducible rfl
            rotate_left
            · simp only [Act.put, List.setIfInBounds_toArray, List.set_cons_zero, List.set_cons_succ, i64_w, i32_w]
              rfl
            refine pure_ (i := 2) (N := some 62) (v := ?_) (a' := ?_) #[true, true, true, false, false, false, false, false, false, false, false, false, false, false, false, false, false, false, false, false, false, false, false, false] rfl rfl (by kernel_rfl) (fun _ _ _ h => h) (Or.inl ⟨by rfl, ?_⟩) ?_ ?_
            rotate_left
            · intro w'
              go_simp
              with_reducible rfl
            rotate_left
            · simp only [Act.put, List.setIfInBounds_toArray, List.set_cons_zero, List.set_cons_succ, i64_w, i32_w]
              rfl
            refine take_ (i := 3) (N := some 63) (v := ?_) (a' := ?_) #[true, true, true, true, false, false, false, false, false, false, false, false, false, false, false, false, false, false, false, false, false, false, false, false] rfl rfl (by kernel_rfl) (fun _ _ _ h => h) (Or.inl ⟨by rfl, ?_⟩) hHeld ?_ ?_
            rotate_left
            · rintro w' ⟨s0, s1, s2⟩
              go_simp
              with_reducible rfl
            rotate_left
            · simp only [Act.put, List.setIfInBounds_toArray, List.set_cons_zero, List.set_cons_succ, i64_w, i32_w]
              rfl
            refine pure_ (i := 4) (N := some 64) (v := ?_) (a' := ?_) #[true, true, true, true, true, false, false, false, false, false, false, false, false, false, false, false, false, false, false, false, false, false, false, false] rfl rfl (by kernel_rfl) (fun _ _ _ h => h) (Or.inl ⟨by rfl, ?_⟩) ?_ ?_
            rotate_left
            · intro w'
              go_simp
              with_reducible rfl
            rotate_left
            · simp only [Act.put, List.setIfInBounds_toArray, List.set_cons_zero, List.set_cons_succ, i64_w, i32_w]
              rfl
            refine pure_ (i := 5) (N := some 65) (v := ?_) (a' := ?_) #[true, true, true, true, true, true, false, false, false, false, false, false, false, false, false, false, false, false, false, false, false, false, false, false] rfl rfl (by kernel_rfl) (fun _ _ _ h => h) (Or.inl ⟨by rfl, ?_⟩) ?_ ?_
            rotate_left
            · intro w'
              go_simp
              with_reducible rfl
            rotate_left
            · simp only [Act.put, List.setIfInBounds_toArray, List.set_cons_zero, List.set_cons_succ, i64_w, i32_w]
              rfl
            refine pure_ (i := 6) (N := some 66) (v := ?_) (a' := ?_) #[true, true, true, true, true, true, true, false, false, false, false, false, false, false, false, false, false, false, false, false, false, false, false, false] rfl rfl (by kernel_rfl) (fun _ _ _ h => h) (Or.inl ⟨by rfl, ?_⟩) ?_ ?_
            rotate_left
            · intro w'
              go_simp
              with_reducible rfl
            rotate_left
            · simp only [Act.put, List.setIfInBounds_toArray, List.set_cons_zero, List.set_cons_succ, i64_w, i32_w]
              rfl
            refine pure_ (i := 7) (N := some 67) (v := ?_) (a' := ?_) #[true, true, true, true, true, true, true, true, false, false, false, false, false, false, false, false, false, false, false, false, false, false, false, false] rfl rfl (by kernel_rfl) (fun _ _ _ h => h) (Or.inl ⟨by rfl, ?_⟩) ?_ ?_
            rotate_left
            · intro w'
              go_simp
              with_reducible rfl
            rotate_left
            · simp only [Act.put, List.setIfInBounds_toArray, List.set_cons_zero, List.set_cons_succ, i64_w, i32_w]
              rfl
            refine take_ (i := 8) (N := some 68) (v := ?_) (a' := ?_) #[true, true, true, true, true, true, true, true, true, false, false, false, false, false, false, false, false, false, false, false, false, false, false, false] rfl rfl (by kernel_rfl) (fun _ _ _ h => h) (Or.inl ⟨by rfl, ?_⟩) hHeld ?_ ?_
            rotate_left
            · rintro w' ⟨s0, s1, s2⟩
              go_simp
              with_reducible rfl
            rotate_left
            · simp only [Act.put, List.setIfInBounds_toArray, List.set_cons_zero, List.set_cons_succ, i64_w, i32_w]
              rfl
            refine one_ (i := 9) (N := some 69) #[true, true, true, true, true, true, true, true, true, true, false, false, false, false, false, false, false, false, false, false, false, false, false, false] rfl rfl (by kernel_rfl) (by decide) (fun K hK => ?_)
            refine goes_ Try.func18 (by kernel_rfl) rfl #[.slice A9 m9 c9] (by rfl) rfl rfl (by (try simp only [List.map_toArray, List.map_cons, List.map_nil]); first | done | rfl) ?_
            with_reducible refine (HPT.out _ (below_drew (Below.refl _ _))).mono ?_
            rintro e w3 ⟨rfl, hb3⟩
            refine ⟨_, rfl, ?_⟩
            have HB3 := Aside0.mk (below_step (below_drew (Below.refl _ _)) hb3)
            clear hb3
            refine hK.out _ _ ⟨HT3.out _ (HB3.out), HT1.out _ (HB3.out), HT2.out _ (HB3.out)⟩ (fun hHeld => ?_)
            clear hK K
            refine norm_ (a' := ?_) ?_ ?_
            rotate_left
            · show Act.put _ (some 69) _ = _
              simp only [Act.put, List.setIfInBounds_toArray, List.set_cons_zero, List.set_cons_succ, i64_w, i32_w]
              rfl
            refine pure_ (i := 10) (N := some 70) (v := ?_) (a' := ?_) #[true, true, true, true, true, true, true, true, true, true, true, false, false, false, false, false, false, false, false, false, false, false, false, false] rfl rfl (by kernel_rfl) (fun _ _ _ h => h) (Or.inl ⟨by rfl, ?_⟩) ?_ ?_
            rotate_left
            · intro w'
              go_simp
              with_reducible rfl
            rotate_left
            · simp only [Act.put, List.setIfInBounds_toArray, List.set_cons_zero, List.set_cons_succ, i64_w, i32_w]
              rfl
            refine pure_ (i := 11) (N := some 71) (v := ?_) (a' := ?_) #[true, true, true, true, true, true, true, true, true, true, true, true, false, false, false, false, false, false, false, false, false, false, false, false] rfl rfl (by kernel_rfl) (fun _ _ _ h => h) (Or.inl ⟨by rfl, ?_⟩) ?_ ?_
            rotate_left
            · intro w'
              go_simp
              with_reducible rfl
            rotate_left
            · simp only [Act.put, List.setIfInBounds_toArray, List.set_cons_zero, List.set_cons_succ, i64_w, i32_w]
              rfl
            refine pure_ (i := 12) (N := some 72) (v := ?_) (a' := ?_) #[true, true, true, true, true, true, true, true, true, true, true, true, true, false, false, false, false, false, false, false, false, false, false, false] rfl rfl (by kernel_rfl) (fun _ _ _ h => h) (Or.inl ⟨by rfl, ?_⟩) ?_ ?_
            rotate_left
            · intro w'
              go_simp
              with_reducible rfl
            rotate_left
            · simp only [Act.put, List.setIfInBounds_toArray, List.set_cons_zero, List.set_cons_succ, i64_w, i32_w]
              rfl
            refine pure_ (i := 13) (N := some 73) (v := ?_) (a' := ?_) #[true, true, true, true, true, true, true, true, true, true, true, true, true, true, false, false, false, false, false, false, false, false, false, false] rfl rfl (by kernel_rfl) (fun _ _ _ h => h) (Or.inl ⟨by rfl, ?_⟩) ?_ ?_
            rotate_left
            · intro w'
              go_simp
              with_reducible rfl
            rotate_left
            · simp only [Act.put, List.setIfInBounds_toArray, List.set_cons_zero, List.set_cons_succ, i64_w, i32_w]
              rfl
            refine pure_ (i := 14) (N := some 74) (v := ?_) (a' := ?_) #[true, true, true, true, true, true, true, true, true, true, true, true, true, true, true, false, false, false, false, false, false, false, false, false] rfl rfl (by kernel_rfl) (fun _ _ _ h => h) (Or.inl ⟨by rfl, ?_⟩) ?_ ?_
            rotate_left
            · intro w'
              go_simp
              with_reducible rfl
            rotate_left
            · simp only [Act.put, List.setIfInBounds_toArray, List.set_cons_zero, List.set_cons_succ, i64_w, i32_w]
              rfl
            refine pure_ (i := 15) (N := some 75) (v := ?_) (a' := ?_) #[true, true, true, true, true, true, true, true, true, true, true, true, true, true, true, true, false, false, false, false, false, false, false, false] rfl rfl (by kernel_rfl) (fun _ _ _ h => h) (Or.inl ⟨by rfl, ?_⟩) ?_ ?_
            rotate_left
            · intro w'
              go_simp
              with_reducible rfl
            rotate_left
            · simp only [Act.put, List.setIfInBounds_toArray, List.set_cons_zero, List.set_cons_succ, i64_w, i32_w]
              rfl
            refine pure_ (i := 17) (N := some 77) (v := ?_) (a' := ?_) #[true, true, true, true, true, true, true, true, true, true, true, true, true, true, true, true, false, true, false, false, false, false, false, false] rfl rfl (by kernel_rfl) (fun _ _ _ h => h) (Or.inl ⟨by rfl, ?_⟩) ?_ ?_
            rotate_left
            · intro w'
              go_simp
              with_reducible rfl
            rotate_left
            · simp only [Act.put, List.setIfInBounds_toArray, List.set_cons_zero, List.set_cons_succ, i64_w, i32_w]
              rfl
            refine pure_ (i := 18) (N := some 78) (v := ?_) (a' := ?_) #[true, true, true, true, true, true, true, true, true, true, true, true, true, true, true, true, false, true, true, false, false, false, false, false] rfl rfl (by kernel_rfl) (fun _ _ _ h => h) (Or.inl ⟨by rfl, ?_⟩) ?_ ?_
            rotate_left
            · intro w'
              go_simp
              with_reducible rfl
            rotate_left
            · simp only [Act.put, List.setIfInBounds_toArray, List.set_cons_zero, List.set_cons_succ, i64_w, i32_w]
              rfl
            refine pure_ (i := 19) (N := some 79) (v := ?_) (a' := ?_) #[true, true, true, true, true, true, true, true, true, true, true, true, true, true, true, true, false, true, true, true, false, false, false, false] rfl rfl (by kernel_rfl) (fun _ _ _ h => h) (Or.inl ⟨by rfl, ?_⟩) ?_ ?_
            rotate_left
            · intro w'
              go_simp
              with_reducible rfl
            rotate_left
            · simp only [Act.put, List.setIfInBounds_toArray, List.set_cons_zero, List.set_cons_succ, i64_w, i32_w]
              rfl
            refine take_ (i := 16) (N := some 76) (v := ?_) (a' := ?_) #[true, true, true, true, true, true, true, true, true, true, true, true, true, true, true, true, true, true, true, true, false, false, false, false] rfl rfl (by kernel_rfl) (fun _ _ _ h => h) (Or.inl ⟨by rfl, ?_⟩) hHeld ?_ ?_
            rotate_left
            · rintro w' ⟨s0, s1, s2⟩
              go_simp
              with_reducible rfl
            rotate_left
            · simp only [Act.put, List.setIfInBounds_toArray, List.set_cons_zero, List.set_cons_succ, i64_w, i32_w]
              rfl
            refine take_ (i := 20) (N := some 80) (v := ?_) (a' := ?_) #[true, true, true, true, true, true, true, true, true, true, true, true, true, true, true, true, true, true, true, true, true, false, false, false] rfl rfl (by kernel_rfl) (fun _ _ _ h => h) (Or.inl ⟨by rfl, ?_⟩) hHeld ?_ ?_
            rotate_left
            · rintro w' ⟨s0, s1, s2⟩
              go_simp
              with_reducible rfl
            rotate_left
            · simp only [Act.put, List.setIfInBounds_toArray, List.set_cons_zero, List.set_cons_succ, i64_w, i32_w]
              rfl
            refine one_ (i := 21) (N := some 81) #[true, true, true, true, true, true, true, true, true, true, true, true, true, true, true, true, true, true, true, true, true, true, false, false] rfl rfl (by kernel_rfl) (by decide) (fun K hK => ?_)
            refine goes_ Try.func34 (by kernel_rfl) rfl #[.slice Ao mo co, .slice A9 m9 c9] (by rfl) rfl rfl (by (try simp only [List.map_toArray, List.map_cons, List.map_nil]); first | done | rfl) ?_
            with_reducible refine (HAP.out _ HB3.out).mono ?_
            rintro e w4 ⟨rfl, hb4⟩
            refine ⟨_, rfl, ?_⟩
            have HB4 := Aside0.mk (below_step HB3.out hb4)
            clear hb4
            refine hK.out _ _ ⟨HT3.out _ (HB4.out), HT1.out _ (HB4.out), HT2.out _ (HB4.out)⟩ (fun hHeld => ?_)
            clear hK K
            refine norm_ (a' := ?_) ?_ ?_
            rotate_left
            · show Act.put _ (some 81) _ = _
              simp only [Act.put, List.setIfInBounds_toArray, List.set_cons_zero, List.set_cons_succ, i64_w, i32_w]
              rfl
            refine pure_ (i := 22) (N := some 82) (v := ?_) (a' := ?_) #[true, true, true, true, true, true, true, true, true, true, true, true, true, true, true, true, true, true, true, true, true, true, true, false] rfl rfl (by kernel_rfl) (fun _ _ _ h => h) (Or.inl ⟨by rfl, ?_⟩) ?_ ?_
            rotate_left
            · intro w'
              go_simp
              with_reducible rfl
            rotate_left
            · simp only [Act.put, List.setIfInBounds_toArray, List.set_cons_zero, List.set_cons_succ, i64_w, i32_w]
              rfl
            refine pure_ (i := 23) (N := some 83) (v := ?_) (a' := ?_) #[true, true, true, true, true, true, true, true, true, true, true, true, true, true, true, true, true, true, true, true, true, true, true, true] rfl rfl (by kernel_rfl) (fun _ _ _ h => h) (Or.inl ⟨by rfl, ?_⟩) ?_ ?_
            rotate_left
            · intro w'
              go_simp
              with_reducible rfl
            rotate_left
            · simp only [Act.put, List.setIfInBounds_toArray, List.set_cons_zero, List.set_cons_succ, i64_w, i32_w]
              rfl
            refine done_ (by kernel_rfl) ?_

            go_wp2_with fail
            refine start_ (n := 11) (S := fun w' => w'.cell? ⟨r, 1, none⟩ = some (.slice A9 m9 c9) ∧ w'.cell? ⟨r, 2, none⟩ = some (.slice Ao mo co)) (ds := []) #[false, false, false, false, false, false, false, false, false, false, false] (by kernel_rfl) rfl rfl ⟨HT1.out _ (below_drew HB4.out), HT2.out _ (below_drew HB4.out)⟩ (fun hHeld => ?_)
            refine pure_ (i := 0) (N := some 84) (v := ?_) (a' := ?_) #[true, false, false, false, false, false, false, false, false, false, false] rfl rfl (by kernel_rfl) (fun _ _ _ h => h) (Or.inl ⟨by rfl, ?_⟩) ?_ ?_
            rotate_left
            · intro w'
              go_simp
              with_reducible rfl
            rotate_left
            · simp only [Act.put, List.setIfInBounds_toArray, List.set_cons_zero, List.set_cons_succ, i64_w, i32_w]
              rfl
            refine pure_ (i := 1) (N := some 85) (v := ?_) (a' := ?_) #[true, true, false, false, false, false, false, false, false, false, false] rfl rfl (by kernel_rfl) (fun _ _ _ h => h) (Or.inl ⟨by rfl, ?_⟩) ?_ ?_
            rotate_left
            · intro w'
              go_simp
              with_reducible rfl
            rotate_left
            · simp only [Act.put, List.setIfInBounds_toArray, List.set_cons_zero, List.set_cons_succ, i64_w, i32_w]
              rfl
            refine pure_ (i := 2) (N := some 86) (v := ?_) (a' := ?_) #[true, true, true, false, false, false, false, false, false, false, false] rfl rfl (by kernel_rfl) (fun _ _ _ h => h) (Or.inl ⟨by rfl, ?_⟩) ?_ ?_
            rotate_left
            · intro w'
              go_simp
              with_reducible rfl
            rotate_left
            · simp only [Act.put, List.setIfInBounds_toArray, List.set_cons_zero, List.set_cons_succ, i64_w, i32_w]
              rfl
            refine pure_ (i := 4) (N := some 88) (v := ?_) (a' := ?_) #[true, true, true, false, true, false, false, false, false, false, false] rfl rfl (by kernel_rfl) (fun _ _ _ h => h) (Or.inl ⟨by rfl, ?_⟩) ?_ ?_
            rotate_left
            · intro w'
              go_simp
              with_reducible rfl
            rotate_left
            · simp only [Act.put, List.setIfInBounds_toArray, List.set_cons_zero, List.set_cons_succ, i64_w, i32_w]
              rfl
            refine pure_ (i := 5) (N := some 89) (v := ?_) (a' := ?_) #[true, true, true, false, true, true, false, false, false, false, false] rfl rfl (by kernel_rfl) (fun _ _ _ h => h) (Or.inl ⟨by rfl, ?_⟩) ?_ ?_
            rotate_left
            · intro w'
              go_simp
              with_reducible rfl
            rotate_left
            · simp only [Act.put, List.setIfInBounds_toArray, List.set_cons_zero, List.set_cons_succ, i64_w, i32_w]
              rfl
            refine pure_ (i := 6) (N := some 90) (v := ?_) (a' := ?_) #[true, true, true, false, true, true, true, false, false, false, false] rfl rfl (by kernel_rfl) (fun _ _ _ h => h) (Or.inl ⟨by rfl, ?_⟩) ?_ ?_
            rotate_left
            · intro w'
              go_simp
              with_reducible rfl
            rotate_left
            · simp only [Act.put, List.setIfInBounds_toArray, List.set_cons_zero, List.set_cons_succ, i64_w, i32_w]
              rfl
            refine take_ (i := 3) (N := some 87) (v := ?_) (a' := ?_) #[true, true, true, true, true, true, true, false, false, false, false] rfl rfl (by kernel_rfl) (fun _ _ _ h => h) (Or.inl ⟨by rfl, ?_⟩) hHeld ?_ ?_
            rotate_left
            · rintro w' ⟨s0, s1⟩
              go_simp
              with_reducible rfl
            rotate_left
            · simp only [Act.put, List.setIfInBounds_toArray, List.set_cons_zero, List.set_cons_succ, i64_w, i32_w]
              rfl
            refine pure_ (i := 8) (N := some 4) (v := ?_) (a' := ?_) #[true, true, true, true, true, true, true, false, true, false, false] rfl rfl (by kernel_rfl) (fun _ _ _ h => h) (Or.inl ⟨by rfl, ?_⟩) ?_ ?_
            rotate_left
            · intro w'
              go_simp
              with_reducible rfl
            rotate_left
            · simp only [Act.put, List.setIfInBounds_toArray, List.set_cons_zero, List.set_cons_succ, i64_w, i32_w]
              rfl
            refine take_ (i := 7) (N := some 91) (v := ?_) (a' := ?_) #[true, true, true, true, true, true, true, true, true, false, false] rfl rfl (by kernel_rfl) (fun _ _ _ h => h) (Or.inl ⟨by rfl, ?_⟩) hHeld ?_ ?_
            rotate_left
            · rintro w' ⟨s0, s1⟩
              go_simp
              with_reducible rfl
            rotate_left
            · simp only [Act.put, List.setIfInBounds_toArray, List.set_cons_zero, List.set_cons_succ, i64_w, i32_w]
              rfl
            refine pure_ (i := 9) (N := some 5) (v := ?_) (a' := ?_) #[true, true, true, true, true, true, true, true, true, true, false] rfl rfl (by kernel_rfl) (fun _ _ _ h => h) (Or.inl ⟨by rfl, ?_⟩) ?_ ?_
            rotate_left
            · intro w'
              go_simp
              with_reducible rfl
            rotate_left
            · simp only [Act.put, List.setIfInBounds_toArray, List.set_cons_zero, List.set_cons_succ, i64_w, i32_w]
              rfl
            refine pure_ (i := 10) (N := some 6) (v := ?_) (a' := ?_) #[true, true, true, true, true, true, true, true, true, true, true] rfl rfl (by kernel_rfl) (fun _ _ _ h => h) (Or.inl ⟨by rfl, ?_⟩) ?_ ?_
            rotate_left
            · intro w'
              go_simp
              with_reducible rfl
            rotate_left
            · simp only [Act.put, List.setIfInBounds_toArray, List.set_cons_zero, List.set_cons_succ, i64_w, i32_w]
              rfl
            refine done_ (by kernel_rfl) ?_

            go_wp2_with fail
            go_ret3
            refine ⟨below_drew (HRT.out.bl.trans (HB4.out.mono HRT.out.bl.size)), fun h => (by rw [HBT.out] at h; cases h), fun _ => ⟨_, _, rfl, ?_, ?_⟩⟩
            · rw [HE11.out.1]; exact Kd.R_drew (Kd.R_below (Kd.R_mono HRT.out.hp (fun _ _ => trivial)) HB4.out)
            · rw [HE11.out.2]; exact Kd.R_drew (Kd.R_below (Kd.R_mono HRT.out.ho (fun _ _ => trivial)) HB4.out)
end Go.Proofs.Ytbdbjlfdnijfeaa.Tree
