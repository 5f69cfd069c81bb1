/- The laws' begin: a new disk with a log, and a journal on it. Conditions: a size from 64 to 480. -/
import Derived.Test.YtcihfmehbmficaaJrn11
import Derived.Test.YtcihfmehbmficaaDiskTexts
namespace Go.Proofs.Ytcihfmehbmficaa.Jrn
open Go Go.RowKit Go.Maps Go.Proofs.YtcihfmehbmficaaW.PrintWords Go.Proofs.YtcihfmehbmficaaW.PrintLast Go.Proofs.YtcihfmehbmficaaW.PrintMore Go.Proofs.Ytcihfmehbmficaa.Disk
set_option linter.unusedVariables false
set_option linter.unusedSimpArgs false
set_option maxRecDepth 100000
theorem infoS9 : (Try.prog.info? 9).map (fun i => (i.zero, i.size, i.bytes)) = some (some (.string ByteArray.empty), 1, 16) := by kernel_rfl
theorem exec_conv {P : Program} {a : Act} {o : Oper} {w : World} (src dst : TypeId) (x : Operand) (ho : o.op = .convert src dst x) (v u : Value) (hx : a.eval x = v) (h : (convert src dst v).run P w = .ok u w) : (execOp a.eval o).run P w = .ok (.value u) w := by
  unfold execOp
  simp only [ho, hx, Sem.run_bind, h]
  rfl
theorem rhead_at (a q : Int) (h : Go.Proofs.Ytcihfmehbmficaa.Super.headB a q = true) (w : World) : Calls Try.prog 18 #[.agg #[.int .i64 a, .int .i64 q]] w fun e w' => ∃ gz c, e = .returned (.tuple #[.slice (some ⟨gz, 0, none⟩) 64 c, .int .i64 0]) ∧ B.R 5 w' w.heap.size (fun _ => True) (.slice (some ⟨gz, 0, none⟩) 64 c) (headI64 a q) ∧ Below w.heap.size w w' := by
  have h1 : Go.Proofs.Ytcihfmehbmficaa.PAll.drydockref08_PutHead.f 6 a q = some (headI64 a q, 0) := by
    have h2 := Go.Proofs.Ytcihfmehbmficaa.Pure.refHead_eq 0 a q
    rw [Go.Proofs.Ytcihfmehbmficaa.Super.headF_eq, if_pos h] at h2
    exact h2
  refine (Go.Proofs.Ytcihfmehbmficaa.PAll.drydockref08_PutHead.calls 6 a q _ _ w h1).mono fun e w' hh => ?_
  obtain ⟨v, he, hr, hb⟩ := hh
  obtain ⟨gz, c, rfl⟩ := sb_slice (w := w) (Go.Proofs.Ytcihfmehbmficaa.Field.sealI_length _ (Go.Proofs.Ytcihfmehbmficaa.Super.headP_length _ _)) hr
  exact ⟨gz, c, he, hr, hb⟩
structure RGs (w6 wr : World) (gg g gj k : Nat) (vL : Value) (s : ByteArray) : Prop where
  hg : wr.heap[gg]? = some (.cells #[.pointer (some ⟨g, 0, none⟩), .pointer (some ⟨gj, 0, none⟩), vL, .slice none 0 0, .bool false] 32 (0, 0))
  bl : Below w6.heap.size w6 wr
  rL : Kd.string.R 9 wr w6.heap.size (fun _ => True) vL (List.replicate k s)
theorem JW.box {w : World} {F : Nat → Prop} {g gj b : Nat} {bs : List Blk} {h0 q0 h1 q1 u : Int} (h : JW w F g gj bs h0 q0 h1 q1 u) (v : Value) (i : Nat) (hn : ¬ FJ F gj b) : JW (w.setCell ⟨b, i, none⟩ v) F g gj bs h0 q0 h1 q1 u := by
  have far : ∀ k, k ≠ b → (w.setCell ⟨b, i, none⟩ v).heap[k]? = w.heap[k]? := fun k hk => heap_setCell_other _ _ _ _ hk
  have hsz : (w.setCell ⟨b, i, none⟩ v).heap.size = w.heap.size := World.size_setCell ..
  exact ⟨DW.kept h.dk (fun k hk => far k (fun e => hn (Or.inl (e ▸ hk)))) (by omega), (far gj (fun e => hn (Or.inr e.symm))).trans h.jb, h.nf⟩
theorem new_cap (n : Nat) : Cap (newS n).bs 0 := fun i b hi => by
  obtain ⟨_, rfl⟩ := newS_at hi
  exact Nat.le_refl _
theorem one_RW {w1 w2 : World} {F : Nat → Prop} {g gz cz : Nat} {s : DS} {l : List Int} (hr : B.R 5 w2 w1.heap.size (fun _ => True) (.slice (some ⟨gz, 0, none⟩) 64 cz) l) (hl : l.length = 64) (hd : DW w1 F g s) (hb : Below w1.heap.size w1 w2) (t : Int) :
    RW (w2.alloc (.cells #[.int .i64 t, .slice (some ⟨gz, 0, none⟩) 64 cz] 35)) F (some ⟨w2.heap.size, 0, none⟩) [⟨t, l⟩] := by
  have h := Kd.R_reads' hr
  have hg1 := Kd.R_base hr gz (by simp [Value.ownBlock])
  have hg2 := Kd.R_lt hr gz (by simp [Value.ownBlock])
  have hC : B.C w2 (some ⟨gz, 0, none⟩) 64 l := by have h3 := h.2.2; rw [hl] at h3; exact h3
  exact RW.one (blk_new w2 _) hl h.2.1 (Kd.C_below hC (below_alloc (Below.refl _ _) _)) (by rw [World.size_alloc]; omega) (fun hn => by have h1 := hd.lt _ hn; have h2 := hb.size; omega) (fun hn => by have h1 := hd.lt _ hn; omega)
/-- The game while its blocks are told one by one. -/
structure RG (w6 wr : World) (gg g gj k : Nat) (vL : Value) : Prop where
  hg : wr.heap[gg]? = some (.cells #[.pointer (some ⟨g, 0, none⟩), .pointer (some ⟨gj, 0, none⟩), vL, .slice none 0 0, .bool false] 32 (0, 0))
  bl : Below w6.heap.size w6 wr
  rL : Kd.string.R 9 wr w6.heap.size (fun _ => True) vL (List.replicate k (str z64))
set_option maxHeartbeats 4000000 in
theorem begin_calls (n : Nat) (h1 : 64 ≤ n) (h2 : n ≤ 480) (w : World) : Calls Try.prog 6 #[.int .i64 (n : Int)] w fun e w' => ∃ gg g gj F v1, e = .returned (.pointer (some ⟨gg, 0, none⟩)) ∧ w'.heap[gg]? = some (.cells #[.pointer (some ⟨g, 0, none⟩), .pointer (some ⟨gj, 0, none⟩), v1, v1, .bool false] 32 (0, 0)) ∧ JW w' F g gj (freshB n (headI64 0 1)) 0 1 0 1 0 ∧ ¬ FJ F gj gg ∧ (∀ k, FJ F gj k → w.heap.size ≤ k) ∧ w.heap.size ≤ gg ∧ Below w.heap.size w w' := by
  have H1 := Aside0.mk h1
  have H2 := Aside0.mk h2
  have hhb : Go.Proofs.Ytcihfmehbmficaa.Super.headB 0 1 = true := by decide
  have HPH := Aside0.mk (rhead_at 0 1 hhb)
  obtain ⟨HH, hH⟩ : ∃ q, headI64 0 1 = q := ⟨_, rfl⟩
  have HHE := Aside0.mk hH
  have HH64 : Aside0 (HH.length = 64) := ⟨by rw [← hH]; exact Go.Proofs.Ytcihfmehbmficaa.Field.sealI_length _ (Go.Proofs.Ytcihfmehbmficaa.Super.headP_length _ _)⟩
  rw [hH] at HPH
  rw [hH]
  have HFIT : Aside0 (Fit (newS n).bs.length [⟨1, HH⟩]) := ⟨fun x hx => by
    obtain rfl := List.mem_singleton.1 hx
    refine ⟨HH64.out, show (0 : Int) ≤ 1 by decide, ?_⟩
    rw [show (newS n).bs.length = n from List.length_replicate]
    show (1 : Int) < n
    omega⟩
  have HOP : Aside0 (∀ (W : World) (F : Nat → Prop) (g : Nat), DW W F g ⟨false, -1, freshB n HH⟩ → Calls Try.prog 10 #[.pointer (some ⟨g, 0, none⟩)] W fun e w' => ∃ gj F', e = .returned (.tuple #[.pointer (some ⟨gj, 0, none⟩), .int .i64 0]) ∧ JW w' F' g gj (freshB n HH) 0 1 0 1 0 ∧ Ch W w' F (FJ F' gj)) := ⟨fun W F g hd => by
    have hbH : Go.Proofs.Ytcihfmehbmficaa.Spin.Bytes HH := by rw [← hH]; exact head_bytes 0 1
    have hlk := look_none hd (by rw [freshB_length]; exact h1) (fresh_bytes hbH) (a := 0) (q := 1) (by rw [fresh_head (by omega), ← hH]; exact head_back 0 1 hhb) (by rw [fresh_log (by omega)]; exact find_zero 0 1 hhb)
    have h := open_none hd hlk hhb (by rw [freshB_length]; omega) (fun i b hi => by
      have hin : i < n := by have := (List.getElem?_eq_some_iff.1 hi).1; rw [freshB_length] at this; exact this
      rw [freshB_at i hin] at hi
      obtain rfl := Option.some.inj hi
      split <;> exact Nat.zero_le _)
    rw [hH, movB_fresh] at h
    exact h⟩
  have hmk := mk64
  generalize hZ : Array.replicate 64 (Value.int .u8 0) = Z at hmk
  have HZ : Aside0 (Z.toList = nums .u8 z64) := ⟨by subst hZ; rfl⟩
  clear hZ h1 h2 hH hhb
  go_enter Try.func6, Try.ntmps6
  go_wp2_with (first | (go_at_call 12; (with_reducible refine (Disk.new_at n (n : Int) rfl ?c1 H2.out _).mono ?_); (case c1 => have := H1.out; omega); rintro e w1 ⟨g, F, rfl, hd, hF, hb⟩; have HD1 := Aside0.mk hd; have HF1 := Aside0.mk hF; have HB1 := Aside0.mk hb; clear hd hF hb) | (go_at_call 18; (with_reducible refine (HPH.out _).mono ?_); rintro e w2 ⟨gz, cz, rfl, hr, hb⟩; have HB2 := Aside0.mk (below_step HB1.out hb); have HR2 := Aside0.mk hr; have HD2 := Aside0.mk (HD1.out.below hb); have HD3 := Aside0.mk ((HD1.out.below hb).below (below_alloc (Below.refl _ _) (.cells #[.int .i64 1, .slice (some ⟨gz, 0, none⟩) 64 cz] 35))); have HRW : Aside0 (RW (w2.alloc (.cells #[.int .i64 1, .slice (some ⟨gz, 0, none⟩) 64 cz] 35)) F (some ⟨w2.heap.size, 0, none⟩) [⟨1, HH⟩]) := ⟨one_RW hr HH64.out HD1.out hb 1⟩; clear hr hb) | (go_at_call 16; (with_reducible refine (put_ever (bs := (newS n).bs) HD3.out (new_cap n) _ 1 1 [⟨1, HH⟩] rfl HRW.out HFIT.out (by omega)).mono ?_); rintro e w4 ⟨rfl, F4, hd4, hc4⟩; have HD4 := Aside0.mk hd4; have HC4 := Aside0.mk hc4; clear hd4 hc4) | (go_at_call 19; (with_reducible refine (barrier_ever HD4.out).mono ?_); rintro e w5 ⟨rfl, F5, hd5, hc5⟩; have HD5 : Aside0 (DW w5 F5 g ⟨false, -1, freshB n HH⟩) := ⟨by rw [← newS_fresh]; exact hd5⟩; have HC5 := Aside0.mk (HC4.out.trans hc5); clear hd5 hc5) | (go_at_call 10; (with_reducible refine (HOP.out _ _ _ HD5.out).mono ?_); rintro e w6 ⟨gj, F6, rfl, hj6, hc6⟩; have HJ6 := Aside0.mk hj6; have HC6 := Aside0.mk (HC5.out.trans hc6); clear hj6 hc6))
  have hg6 := blk_new w6 (.cells #[.pointer (some ⟨g, 0, none⟩), .pointer (some ⟨gj, 0, none⟩), .slice none 0 0, .slice none 0 0, .bool false] 32)
  have hb6 := below_alloc (Below.refl w6.heap.size w6) (.cells #[.pointer (some ⟨g, 0, none⟩), .pointer (some ⟨gj, 0, none⟩), .slice none 0 0, .slice none 0 0, .bool false] 32)
  obtain ⟨gg, hgge⟩ : ∃ q, w6.heap.size = q := ⟨_, rfl⟩
  have HGG : Aside0 (w6.heap.size = gg) := ⟨hgge⟩
  rw [hgge] at hg6
  rw [hgge]
  clear hgge
  have HRG : Aside0 (RG w6 (w6.alloc (.cells #[.pointer (some ⟨g, 0, none⟩), .pointer (some ⟨gj, 0, none⟩), .slice none 0 0, .slice none 0 0, .bool false] 32)) gg g gj 0 (.slice none 0 0)) := ⟨⟨hg6, hb6, Kd.R_nil _ _ _ _ _⟩⟩
  clear hg6 hb6 HOP HPH HFIT HD2 HD3 HD4 HD5 HRW HR2
  go_loopg [9] n (fun gas i wr => ∃ (k : Nat) (vL : Value), k ≤ n ∧ n - k ≤ gas ∧ i = .int .i64 k ∧ Aside0 (RG w6 wr gg g gj k vL))
  case atStart => exact ⟨0, _, Nat.zero_le _, Nat.le_refl _, rfl, HRG⟩
  case round =>
    clear HRG
    obtain ⟨k, vL, hk, hgk, rfl, HN0⟩ := hrel
    by_cases hlt : k < n
    · have b1 : decide (k < n) = true := decide_eq_true hlt
      have b2 : decide ((k : Int) < (n : Int)) = true := decide_eq_true (by omega)
      obtain ⟨s, hs⟩ : ∃ s, str z64 = s := ⟨_, rfl⟩
      have HS := Aside0.mk hs
      have HN : Aside0 (RGs w6 wr gg g gj k vL s) := ⟨⟨HN0.out.hg, HN0.out.bl, by rw [← hs]; exact HN0.out.rL⟩⟩
      have HC0 : Aside0 (∀ W : World, Below wr.heap.size wr W → W.cell? ⟨gg, 2, none⟩ = some vL) := ⟨fun W hW => pw_cell_below hW (blk_cell HN.out.hg 2)⟩
      have HCV : Aside0 ((convert 23 9 (.slice (some ⟨wr.heap.size, 0, none⟩) 64 64)).run Try.prog (wr.drew.alloc (.cells Z 5)) = .ok (.string s) (wr.drew.alloc (.cells Z 5))) := ⟨by rw [← hs]; exact conv_str (C_blk (blk_new wr.drew _) HZ.out rfl (by omega))⟩
      have HCL : Aside0 ((List.replicate k s).length = k) := ⟨List.length_replicate⟩
      have HLT : Aside0 (k < 480) := ⟨by have := H2.out; omega⟩
      have HLN := Aside0.mk hlt
      have ewk : wrap64 ((k : Int) + 1) = ((k + 1 : Nat) : Int) := by have := HLT.out; unfold wrap64; omega
      clear hs hlt hk HN0
      go_wp2_with fail
      refine start_ (n := 12) (S := fun w' => w'.cell? ⟨gg, 2, none⟩ = some vL) (ds := [8, 11]) #[false, false, false, false, false, false, false, false, false, false, false, false] (by kernel_rfl) rfl rfl (HC0.out _ (below_drew (Below.refl _ _))) (fun hHeld => ?_)
      refine pure_ (i := 0) (N := some 63) (v := ?_) (a' := ?_) #[true, false, false, false, false, false, false, false, false, false, false, false] rfl rfl (by kernel_rfl) (fun _ _ _ h => h) (Or.inl ⟨by rfl, ?_⟩) ?_ ?_
      rotate_left
      · intro w'
        go_simp
        with_reducible rfl
      rotate_left
      · simp only [Act.put, List.setIfInBounds_toArray, List.set_cons_zero, List.set_cons_succ, i64_w, i32_w]
        rfl
      refine pure_ (i := 1) (N := some 64) (v := ?_) (a' := ?_) #[true, true, false, false, false, false, false, false, false, false, false, false] rfl rfl (by kernel_rfl) (fun _ _ _ h => h) (Or.inl ⟨by rfl, ?_⟩) ?_ ?_
      rotate_left
      · intro w'
        go_simp
        with_reducible rfl
      rotate_left
      · simp only [Act.put, List.setIfInBounds_toArray, List.set_cons_zero, List.set_cons_succ, i64_w, i32_w]
        rfl
      refine pure_ (i := 2) (N := some 65) (v := ?_) (a' := ?_) #[true, true, true, false, false, false, false, false, false, false, false, false] rfl rfl (by kernel_rfl) (fun _ _ _ h => h) (Or.inl ⟨by rfl, ?_⟩) ?_ ?_
      rotate_left
      · intro w'
        go_simp
        with_reducible rfl
      rotate_left
      · simp only [Act.put, List.setIfInBounds_toArray, List.set_cons_zero, List.set_cons_succ, i64_w, i32_w]
        rfl
      refine pure_ (i := 3) (N := some 66) (v := ?_) (a' := ?_) #[true, true, true, true, false, false, false, false, false, false, false, false] rfl rfl (by kernel_rfl) (fun _ _ _ h => h) (Or.inl ⟨by rfl, ?_⟩) ?_ ?_
      rotate_left
      · intro w'
        go_simp
        with_reducible rfl
      rotate_left
      · simp only [Act.put, List.setIfInBounds_toArray, List.set_cons_zero, List.set_cons_succ, i64_w, i32_w]
        rfl
      refine take_ (i := 4) (N := some 67) (v := ?_) (a' := ?_) #[true, true, true, true, true, false, false, false, false, false, false, false] rfl rfl (by kernel_rfl) (fun _ _ _ h => h) (Or.inl ⟨by rfl, ?_⟩) hHeld ?_ ?_
      rotate_left
      · intro w' s0
        go_simp
        with_reducible rfl
      rotate_left
      · simp only [Act.put, List.setIfInBounds_toArray, List.set_cons_zero, List.set_cons_succ, i64_w, i32_w]
        rfl
      refine one_ (i := 5) (N := some 68) #[true, true, true, true, true, true, false, false, false, false, false, false] rfl rfl (by kernel_rfl) (by decide) (fun K hK => ?_)
      refine value_ (w1 := ?_) (v := ?_) (by rfl) rfl ?_ ?_
      rotate_left 2
      · go_simp
        constructor
        · rfl
        · rfl
      refine hK.out _ _ (HC0.out _ (below_alloc (below_drew (Below.refl _ _)) _)) (fun hHeld => ?_)
      clear hK K
      refine norm_ (a' := ?_) ?_ ?_
      rotate_left
      · show Act.put _ (some 68) _ = _
        simp only [Act.put, List.setIfInBounds_toArray, List.set_cons_zero, List.set_cons_succ, i64_w, i32_w]
        rfl
      refine one_ (i := 6) (N := some 69) #[true, true, true, true, true, true, true, false, false, false, false, false] rfl rfl (by kernel_rfl) (by decide) (fun K hK => ?_)
      refine value_ (w1 := ?_) (v := ?_) (by rfl) rfl ?_ ?_
      rotate_left 2
      · refine (exec_conv _ _ (.tmp 68) ?_ _ _ ?_ HCV.out).trans ?_ <;> rfl
      refine hK.out _ _ (HC0.out _ (below_alloc (below_drew (Below.refl _ _)) _)) (fun hHeld => ?_)
      clear hK K
      refine norm_ (a' := ?_) ?_ ?_
      rotate_left
      · show Act.put _ (some 69) _ = _
        simp only [Act.put, List.setIfInBounds_toArray, List.set_cons_zero, List.set_cons_succ, i64_w, i32_w]
        rfl
      refine one_ (i := 7) (N := some 70) #[true, true, true, true, true, true, true, true, false, false, false, false] rfl rfl (by kernel_rfl) (by decide) (fun K hK => ?_)
      refine value_ (w1 := ?_) (v := ?_) (by rfl) rfl ?_ ?_
      rotate_left 2
      · go_simp
        constructor
        · rfl
        · rfl
      refine hK.out _ _ (HC0.out _ (below_alloc (below_alloc (below_drew (Below.refl _ _)) _) _)) (fun hHeld => ?_)
      clear hK K
      refine norm_ (a' := ?_) ?_ ?_
      rotate_left
      · show Act.put _ (some 70) _ = _
        simp only [Act.put, List.setIfInBounds_toArray, List.set_cons_zero, List.set_cons_succ, i64_w, i32_w]
        rfl
      refine last_ (i := 8) (N := some 71) #[true, true, true, true, true, true, true, true, true, false, false, false] rfl rfl (by kernel_rfl) (by decide) (fun K hK => ?_)
      refine Kd.R_append_step Kd.string (w0 := w6) (W := wr.drew.alloc (.cells Z 5)) w6.heap.size (by rfl) (.tmp 67) (.tmp 70) 27 9 (.string ByteArray.empty) 16 rfl Try.underlying27 infoS9 (by rfl) (by decide) (by omega) vL (List.replicate k s) s [.string s] (fun _ => True) (fun _ => False) (by rfl) ?hx ?hp ?hk ?hf ?hO ?hB ?hz ?hl ?_
      case hx => rw [World.size_alloc]; rfl
      case hp => exact rfl
      case hk => exact fun _ h => h.elim
      case hf => exact fun _ _ => trivial
      case hO => exact Kd.R_below HN.out.rL (below_alloc (below_drew (Below.refl _ _)) _)
      case hB => exact below_alloc (below_drew HN.out.bl) _
      case hz => exact (below_alloc (below_drew HN.out.bl) (.cells Z 5)).size
      case hl => have := HCL.out; have := HLT.out; omega
      intro v3 w3 ho3 hb3 hg3 hat3
      obtain ⟨A3, c3, rfl⟩ := Kd.R_slice ho3
      have HO3 := Aside0.mk ho3
      have HB3 := Aside0.mk hb3
      have hb3_ := blk_grown (blk_below HN.out.hg (below_alloc (below_drew (Below.refl _ _)) (.cells Z 5))) hg3 (Kd.R_ne (Kd.R_below HN.out.rL (below_alloc (below_drew (Below.refl _ _)) (.cells Z 5))) (blk_below HN.out.hg (below_alloc (below_drew (Below.refl _ _)) (.cells Z 5))) (by decide))
      have H3G := Aside0.mk hb3_
      have cc3 := blk_cell hb3_ 2
      have ff3 := blk_frozen hb3_ 2
      clear ho3 hb3 hg3 hat3 hb3_
      refine hK.out _ _ ?_
      clear hK K
      refine norm_ (a' := ?_) ?_ ?_
      rotate_left
      · show Act.put _ (some 71) _ = _
        simp only [Act.put, List.setIfInBounds_toArray, List.set_cons_zero, List.set_cons_succ, i64_w, i32_w]
        rfl
      refine pure_ (i := 9) (N := some 72) (v := ?_) (a' := ?_) #[true, true, true, true, true, true, true, true, true, true, false, false] rfl rfl (by kernel_rfl) (fun _ _ _ h => h) (Or.inl ⟨by rfl, ?_⟩) ?_ ?_
      rotate_left
      · intro w'
        go_simp
        with_reducible rfl
      rotate_left
      · simp only [Act.put, List.setIfInBounds_toArray, List.set_cons_zero, List.set_cons_succ, i64_w, i32_w]
        rfl
      refine pure_ (i := 10) (N := some 73) (v := ?_) (a' := ?_) #[true, true, true, true, true, true, true, true, true, true, true, false] rfl rfl (by kernel_rfl) (fun _ _ _ h => h) (Or.inl ⟨by rfl, ?_⟩) ?_ ?_
      rotate_left
      · intro w'
        go_simp
        with_reducible rfl
      rotate_left
      · simp only [Act.put, List.setIfInBounds_toArray, List.set_cons_zero, List.set_cons_succ, i64_w, i32_w]
        rfl
      refine last_ (i := 11) (N := none) #[true, true, true, true, true, true, true, true, true, true, true, true] rfl rfl (by kernel_rfl) (by decide) (fun K hK => ?_)
      refine skip_ (w1 := ?_) (by rfl) rfl ?_ ?_
      rotate_left
      · go_simp
        rfl
      refine hK.out _ _ ?_
      clear hK K
      refine done_ (by kernel_rfl) ?_

      have HG4 : Aside0 (RG w6 (w3.setCell ⟨gg, 2, none⟩ (.slice A3 (k + 1) c3)) gg g gj (k + 1) (.slice A3 (k + 1) c3)) := ⟨by
        have ho := HO3.out
        have e : (List.replicate k s ++ [s]).length = k + 1 := by rw [List.length_append, HCL.out]; rfl
        rw [e, ← List.replicate_succ', ← HS.out] at ho
        exact ⟨blk_set H3G.out 2 _, HB3.out.setCell (p := ⟨gg, 2, none⟩) (by show _ ≤ gg; have := HGG.out; omega) _, Kd.R_set ho H3G.out (by decide) 2 _⟩⟩
      go_wp2_with fail
      go_roundg (n - (k + 1))
      case measure => have := HLN.out; omega
      case rel => exact ⟨k + 1, _, HLN.out, Nat.le_refl _, by rw [ewk], HG4⟩
    · obtain rfl : k = n := by omega
      have b1 : decide (k < k) = false := decide_eq_false (by omega)
      have b2 : decide ((k : Int) < (k : Int)) = false := decide_eq_false (by omega)
      obtain ⟨Av, cv, rfl⟩ := Kd.R_slice HN0.out.rL
      rw [List.length_replicate] at HN0
      have cg2 : wr.cell? ⟨gg, 2, none⟩ = some (.slice Av k cv) := blk_cell HN0.out.hg 2
      have cg3 : wr.cell? ⟨gg, 3, none⟩ = some (.slice none 0 0) := blk_cell HN0.out.hg 3
      have fg3 : wr.frozen? ⟨gg, 3, none⟩ = false := blk_frozen HN0.out.hg 3
      clear hlt hk hgk
      go_wp2_with fail
      have hnF : ¬ FJ F6 gj gg := fun hn => by have h1 := HJ6.out.lt gg hn; have h2 := HGG.out; omega
      have hb0 : Below w.heap.size w (w2.alloc (.cells #[.int .i64 1, .slice (some ⟨gz, 0, none⟩) 64 cz] 35)) := below_alloc HB2.out _
      have hb6 : Below w.heap.size w w6 := hb0.trans (HC6.out.below HF1.out hb0.size)
      have hbr : Below w.heap.size w wr := hb6.trans (HN0.out.bl.mono hb6.size)
      have j7 := (HJ6.out.below HN0.out.bl).box (.slice Av k cv) 3 hnF
      refine bodyPost_ret (results_tmp rfl _ _ _) rfl ?_
      have hgw : w.heap.size ≤ gg := by have h1 := HGG.out; have h2 := hb6.size; omega
      exact ⟨gg, g, gj, F6, _, rfl, blk_set HN0.out.hg 3 _, j7, hnF, fun k hk => (HC6.out.new k hk).elim (HF1.out k) (fun a => Nat.le_trans hb0.size a), hgw, hbr.setCell (p := ⟨gg, 3, none⟩) hgw _⟩
end Go.Proofs.Ytcihfmehbmficaa.Jrn
/- The laws' awake: a journal takes a block and reads it. -/
namespace Go.Proofs.Ytcihfmehbmficaa.Jrn
open Go Go.RowKit Go.Maps Go.Proofs.YtcihfmehbmficaaW.PrintWords Go.Proofs.YtcihfmehbmficaaW.PrintLast Go.Proofs.YtcihfmehbmficaaW.PrintMore Go.Proofs.Ytcihfmehbmficaa.Disk
set_option linter.unusedVariables false
set_option linter.unusedSimpArgs false
set_option maxRecDepth 100000
theorem Z64.oneJ {w : World} {F : Nat → Prop} {g gj gz c : Nat} {bs : List Blk} {h0 q0 h1 q1 u : Int} {l : List Int} (h : Z64 w F gj gz c l) (hj : JW w F g gj bs h0 q0 h1 q1 u) (t : Int) : RW (w.alloc (.cells #[.int .i64 t, .slice (some ⟨gz, 0, none⟩) 64 c] 35)) (FJ F gj) (some ⟨w.heap.size, 0, none⟩) [⟨t, l⟩] := by
  have hb := below_alloc (Below.refl w.heap.size w) (.cells #[.int .i64 t, .slice (some ⟨gz, 0, none⟩) 64 c] 35)
  have h2 := h.below hb
  exact RW.one (blk_new w _) h2.len h2.c64 h2.rd h2.lt (fun hn => by have := hj.lt _ hn; omega) (fun hn => h2.nf hn)
theorem cur_push (l : List Int) (b : Blk) : curB (push l b) = l := by
  unfold curB push
  rw [List.getLastD_concat]
theorem write_at {bs : List Blk} {a : Nat} {first l last : List Int} {t : Nat} (h : t < bs.length) : ∃ b, (writeB bs a first l last (t : Int))[t]? = some (push l b) := by
  obtain ⟨X, hX⟩ : ∃ X, (pushAll ((pushAll ((pushAll bs (blankW a)).map kb) [⟨lp a, first⟩, ⟨lp (a + 1), l⟩]).map kb) [⟨lp (a + 2), last⟩]).map kb = X := ⟨_, rfl⟩
  have hl : X.length = bs.length := by rw [← hX]; simp only [List.length_map, pushAll_length]
  obtain ⟨b, hb⟩ : ∃ b, X[t]? = some b := ⟨_, List.getElem?_eq_getElem (by omega)⟩
  refine ⟨b, ?_⟩
  unfold writeB
  rw [hX]
  show (X.modify ((t : Int).toNat) (push l))[t]? = _
  rw [Int.toNat_natCast, List.getElem?_modify, hb]
  simp
def b59 : List Int := zr64.set 5 9
theorem fresh_cap (n : Nat) (H : List Int) : Cap (freshB n H) 1000 := fun i b hi => by
  have hin : i < n := by have := (List.getElem?_eq_some_iff.1 hi).1; rw [freshB_length] at this; exact this
  rw [freshB_at i hin] at hi
  obtain rfl := Option.some.inj hi
  split <;> exact Nat.zero_le _
theorem z64_new {w1 : World} {F : Nat → Prop} {g gj : Nat} {bs : List Blk} {h0 q0 h1 q1 u : Int} {Z : Array Value} {l : List Int} (hj : JW w1 F g gj bs h0 q0 h1 q1 u) (hZ : Z.toList = nums .u8 l) (hl : l.length = 64) : Z64 (w1.alloc (.cells Z 5)) F gj w1.heap.size 64 l :=
  ⟨by rw [World.size_alloc]; omega, fun hn => by have := hj.lt _ hn; omega, Nat.le_refl _, C_blk (blk_new w1 _) hZ hl (by omega), hl⟩
theorem row5 {w : World} {base : Nat} {v : Value} (hr : B.R 5 w base (fun _ => True) v b59) : ∃ g6 c6, v = .slice (some ⟨g6, 0, none⟩) 64 c6 ∧ w.cell? ⟨g6, 5, none⟩ = some (.int .u8 9) := by
  obtain ⟨g6, c6, rfl⟩ := sb_slice (w := w) rfl hr
  obtain ⟨ad, e, hc⟩ := Kd.at_int (Kd.R_reads' hr).2.2 5 (by decide) (by decide)
  obtain rfl := Option.some.inj e
  exact ⟨g6, c6, rfl, hc⟩
theorem field_seq (a b : Int) (W : World) : (Instr.field 46 (.agg #[.int .i64 a, .int .i64 b]) 1).run Try.prog W = .ok (.int .i64 b) W := by kernel_rfl
set_option maxHeartbeats 4000000 in
theorem awake_calls (w : World) : Calls Try.prog 7 #[] w fun e w' => e = .returned (.bool true) ∧ Below w.heap.size w w' := by
  have HBG : Aside0 (∀ W, Calls Try.prog 6 #[.int .i64 70] W fun e w' => ∃ gg g gj F v1, e = .returned (.pointer (some ⟨gg, 0, none⟩)) ∧ w'.heap[gg]? = some (.cells #[.pointer (some ⟨g, 0, none⟩), .pointer (some ⟨gj, 0, none⟩), v1, v1, .bool false] 32 (0, 0)) ∧ JW w' F g gj (freshB 70 (headI64 0 1)) 0 1 0 1 0 ∧ ¬ FJ F gj gg ∧ (∀ k, FJ F gj k → W.heap.size ≤ k) ∧ W.heap.size ≤ gg ∧ Below W.heap.size W w') := ⟨fun W => begin_calls 70 (by decide) (by decide) W⟩
  have hmk := mk64
  generalize hZ : Array.replicate 64 (Value.int .u8 0) = Z at hmk
  have HZ1 : Aside0 ((Z.setIfInBounds 5 (.int .u8 9)).toList = nums .u8 b59) := ⟨by subst hZ; rfl⟩
  have hZs : Z.size = 64 := by subst hZ; rfl
  have hZ0 : Z[5]? = some (.int .u8 0) := by subst hZ; rfl
  have HZS := Aside0.mk hZs
  have HH59 : Aside0 (b59.length = 64) := ⟨rfl⟩
  obtain ⟨HH, hH⟩ : ∃ q, headI64 0 1 = q := ⟨_, rfl⟩
  rw [hH] at HBG
  have HL70 : Aside0 (59 ≤ (freshB 70 HH).length) := ⟨by rw [freshB_length]; decide⟩
  have HFIT : Aside0 (Fit (freshB 70 HH).length [⟨60, b59⟩]) := ⟨fun x hx => by
    obtain rfl := List.mem_singleton.1 hx
    refine ⟨HH59.out, show (0 : Int) ≤ 60 by decide, ?_⟩
    rw [freshB_length]
    show (60 : Int) < ((70 : Nat) : Int)
    decide⟩
  have HWA : Aside0 (∃ b, (writeB (freshB 70 HH) 0 (firstB 1 60) b59 (lastB 1) 60)[60]? = some (push b59 b)) := ⟨write_at (t := 60) (by rw [freshB_length]; decide)⟩
  have hfd := field_seq
  clear hZ hH
  go_enter Try.func7, Try.ntmps7
  go_wp2_with (first | (go_at_call 6; (with_reducible refine (HBG.out _).mono ?_); rintro e w1 ⟨gg, g, gj, F, v1, rfl, hg1, hj1, hn1, hF1, hgg1, hb1⟩; have HG1 := Aside0.mk hg1; have HJ1 := Aside0.mk hj1; have HN1 := Aside0.mk hn1; have HF1 := Aside0.mk hF1; have HGG := Aside0.mk hgg1; have HB1 := Aside0.mk hb1; have cz1 : (w1.alloc (.cells Z 5)).cell? ⟨w1.heap.size, 5, none⟩ = some (.int .u8 0) := (blk_cell (blk_new w1 (.cells Z 5)) 5).trans hZ0; have cj1 : (w1.alloc (.cells (Z.setIfInBounds 5 (.int .u8 9)) 5)).cell? ⟨gg, 1, none⟩ = some (.pointer (some ⟨gj, 0, none⟩)) := blk_cell (blk_alloc hg1 _) 1; have hzz : Z64 (w1.alloc (.cells (Z.setIfInBounds 5 (.int .u8 9)) 5)) F gj w1.heap.size 64 b59 := z64_new hj1 HZ1.out HH59.out; have HJ4 : Aside0 (JW ((w1.alloc (.cells (Z.setIfInBounds 5 (.int .u8 9)) 5)).alloc (.cells #[.int .i64 60, .slice (some ⟨w1.heap.size, 0, none⟩) 64 64] 35)) F g gj (freshB 70 HH) 0 1 ((0 : Nat) : Int) 1 0) := ⟨(hj1.below (below_alloc (Below.refl _ _) _)).below (below_alloc (Below.refl _ _) _)⟩; have hrw := hzz.oneJ (hj1.below (below_alloc (Below.refl _ _) _)) 60; rw [World.size_alloc] at hrw; have HRW4 := Aside0.mk hrw; have HG4 := Aside0.mk (blk_alloc (blk_alloc hg1 (.cells (Z.setIfInBounds 5 (.int .u8 9)) 5)) (.cells #[.int .i64 60, .slice (some ⟨w1.heap.size, 0, none⟩) 64 64] 35)); have HB4 := Aside0.mk (below_alloc (below_alloc hb1 (.cells (Z.setIfInBounds 5 (.int .u8 9)) 5)) (.cells #[.int .i64 60, .slice (some ⟨w1.heap.size, 0, none⟩) 64 64] 35)); clear hg1 hj1 hn1 hF1 hgg1 hb1 hzz hrw) | (go_at_call 8; (with_reducible refine (commit_one HJ4.out (by decide) HL70.out (fresh_cap _ _) (by decide) (by decide) _ 1 60 b59 HRW4.out HFIT.out (by decide)).mono ?_); rintro e w5 ⟨rfl, F5, h5, hc5⟩; have HN5 : Aside0 (¬ FJ F5 gj gg) := ⟨fun hn => (hc5.new gg hn).elim HN1.out (fun a => by have := blk_lt HG4.out; omega)⟩; have HG5 := Aside0.mk ((hc5.far gg (blk_lt HG4.out) HN1.out).trans HG4.out); have cj5 : w5.cell? ⟨gg, 1, none⟩ = some (.pointer (some ⟨gj, 0, none⟩)) := blk_cell HG5.out 1; obtain ⟨b5, hb5⟩ := HWA.out; have HI5 := Aside0.mk hb5; have H5 := Aside0.mk h5; have HC5 := Aside0.mk hc5; clear h5 hc5 hb5) | (go_at_call 11; (with_reducible refine (read_yes H5.out 60 rfl HI5.out).mono ?_); rintro e w6 ⟨v6, rfl, hr6, hj6, hc6⟩; rw [cur_push] at hr6; obtain ⟨g6, c6, e6, c65⟩ := row5 hr6; subst e6; have HJ6 := Aside0.mk hj6; have HC6 := Aside0.mk (HC5.out.trans hc6); have hg6 := (hc6.far gg (blk_lt HG5.out) HN5.out).trans HG5.out; have cj6 : w6.cell? ⟨gg, 1, none⟩ = some (.pointer (some ⟨gj, 0, none⟩)) := blk_cell hg6 1; clear hr6 hj6 hc6 hg6) | (go_at_call 13; (with_reducible refine (head_calls HJ6.out).mono ?_); rintro e w7 ⟨rfl, hb7⟩; have HB7 := Aside0.mk hb7; clear hb7))
  go_ret
  have h6 : Below w.heap.size w w6 := HB4.out.trans (HC6.out.below (fun k hk => HF1.out k hk) HB4.out.size)
  exact ⟨rfl, h6.trans (HB7.out.mono h6.size)⟩
end Go.Proofs.Ytcihfmehbmficaa.Jrn
/- Package journal: look, Look and Open, where there is no head. -/
namespace Go.Proofs.Ytcihfmehbmficaa.Jrn
open Go Go.RowKit Go.Maps Go.Proofs.YtcihfmehbmficaaW.PrintWords Go.Proofs.YtcihfmehbmficaaW.PrintLast Go.Proofs.YtcihfmehbmficaaW.PrintMore Go.Proofs.Ytcihfmehbmficaa.Disk
set_option linter.unusedVariables false
set_option linter.unusedSimpArgs false
set_option maxRecDepth 100000
theorem look_small {w : World} {F : Nat → Prop} {g : Nat} {bs : List Blk} (h : DW w F g ⟨false, -1, bs⟩) (hl : bs.length < 64) : Calls Try.prog 27 #[.pointer (some ⟨g, 0, none⟩)] w fun e w' => e = .returned (.tuple #[.slice none 0 0, .slice none 0 0, .agg #[.int .i64 0, .int .i64 0], .int .i64 1]) ∧ Below w.heap.size w w' := by
  obtain ⟨n, hn⟩ : ∃ q, bs.length = q := ⟨_, rfl⟩
  have HD := Aside0.mk h
  have HBL : Aside0 ((DS.bs ⟨false, -1, bs⟩).length = n) := ⟨hn⟩
  have bn1 : decide ((n : Int) < 64) = true := decide_eq_true (by omega)
  have bn2 : decide (n < 64) = true := decide_eq_true (by omega)
  clear h hl hn
  go_enter Try.func27, Try.ntmps27
  go_wp2_with (go_at_call 20; (with_reducible refine (Disk.blocks_at (HD.out.below (below_alloc (Below.refl _ _) _)) (n : Int) (by rw [HBL.out])).mono ?_); rintro e w2 ⟨rfl, rfl⟩)
  have hb := blk_new w (.cells #[.int .i64 0, .int .i64 0] 46)
  have HBW := Aside0.mk (below_alloc (Below.refl w.heap.size w) (.cells #[.int .i64 0, .int .i64 0] 46))
  obtain ⟨b4, hb4⟩ : ∃ q, w.heap.size = q := ⟨_, rfl⟩
  obtain ⟨W, hW⟩ : ∃ q, w.alloc (.cells #[.int .i64 0, .int .i64 0] 46) = q := ⟨_, rfl⟩
  have HLE : Aside0 (w.heap.size ≤ b4) := ⟨by omega⟩
  rw [hW] at HBW
  rw [hb4, hW] at hb
  rw [hb4, hW]
  clear hb4 hW
  obtain ⟨a, ha⟩ : ∃ q : Int, (0 : Int) = q := ⟨_, rfl⟩
  obtain ⟨q, hq⟩ : ∃ x : Int, a = x := ⟨_, rfl⟩
  have hb' : W.heap[b4]? = some (.cells #[.int .i64 a, .int .i64 q] 46 (0, 0)) := by rw [← hq, ← ha]; exact hb
  have HS4 : Aside0 (∀ X : World, Below W.heap.size W X → X.cell? ⟨b4, 0, none⟩ = some (.int .i64 a) ∧ X.cell? ⟨b4, 1, none⟩ = some (.int .i64 q)) := ⟨fun X hX => ⟨pw_cell_below hX (blk_cell hb' 0), pw_cell_below hX (blk_cell hb' 1)⟩⟩
  obtain ⟨w10, hst, hz, hg⟩ := head_again W.drew b4 a q (blk_below hb' (below_drew (Below.refl _ _)))
  have HST := Aside0.mk hst
  have HZ := Aside0.mk hz
  have HB10 := Aside0.mk (below_own (below_drew HBW.out) hg HLE.out)
  have HAQ : Aside0 (a = 0 ∧ q = 0) := ⟨by rw [← hq, ← ha]; exact ⟨rfl, rfl⟩⟩
  clear hst hz hg hb hb' ha hq
  refine start_ (n := 5) (S := fun w' => w'.cell? ⟨b4, 0, none⟩ = some (.int .i64 a) ∧ w'.cell? ⟨b4, 1, none⟩ = some (.int .i64 q)) (ds := [3]) #[false, false, false, false, false] (by kernel_rfl) rfl rfl ⟨(HS4.out _ (below_drew (Below.refl _ _))).1, (HS4.out _ (below_drew (Below.refl _ _))).2⟩ (fun hHeld => ?_)
  refine pure_ (i := 1) (N := some 2) (v := ?_) (a' := ?_) #[false, true, false, false, false] rfl rfl (by kernel_rfl) (fun _ _ _ h => h) (Or.inl ⟨by rfl, ?_⟩) ?_ ?_
  rotate_left
  · intro w'
    go_simp
    with_reducible rfl
  rotate_left
  · simp only [Act.put, List.setIfInBounds_toArray, List.set_cons_zero, List.set_cons_succ, i64_w, i32_w]
    rfl
  refine pure_ (i := 2) (N := some 3) (v := ?_) (a' := ?_) #[false, true, true, false, false] rfl rfl (by kernel_rfl) (fun _ _ _ h => h) (Or.inl ⟨by rfl, ?_⟩) ?_ ?_
  rotate_left
  · intro w'
    go_simp
    with_reducible rfl
  rotate_left
  · simp only [Act.put, List.setIfInBounds_toArray, List.set_cons_zero, List.set_cons_succ, i64_w, i32_w]
    rfl
  refine take_ (i := 0) (N := some 21) (v := ?_) (a' := ?_) #[true, true, true, false, false] rfl rfl (by kernel_rfl) (fun _ _ _ h => h) (Or.inl ⟨by rfl, ?_⟩) hHeld ?_ ?_
  rotate_left
  · rintro w' ⟨s0, s1⟩
    go_simp
    with_reducible rfl
  rotate_left
  · simp only [Act.put, List.setIfInBounds_toArray, List.set_cons_zero, List.set_cons_succ, i64_w, i32_w]
    rfl
  refine last_ (i := 3) (N := none) #[true, true, true, true, false] rfl rfl (by kernel_rfl) (by decide) (fun K hK => ?_)
  refine skip_ (w1 := w10) (by rfl) rfl ?_ ?_
  · exact Whole.exec_store _ (.tmp 4) (.tmp 21) rfl _ _ (by rfl) (by rfl) HST.out
  refine hK.out _ _ ?_
  clear hK K
  refine pure_ (i := 4) (N := some 5) (v := ?_) (a' := ?_) #[true, true, true, true, true] rfl rfl (by kernel_rfl) (fun _ _ _ h => h) (Or.inl ⟨by rfl, ?_⟩) ?_ ?_
  rotate_left
  · intro w'
    go_simp
    with_reducible rfl
  rotate_left
  · simp only [Act.put, List.setIfInBounds_toArray, List.set_cons_zero, List.set_cons_succ, i64_w, i32_w]
    rfl
  refine done_ (by kernel_rfl) ?_

  go_wp2_with fail
  refine bodyPost_ret (results_ttct rfl _ _ b4 _ #[.int .i64 a, .int .i64 q] (0, 0) _ rfl HZ.out Try.underlying46 rfl infoH) rfl ?_
  rw [HAQ.out.1, HAQ.out.2]
  exact ⟨rfl, HB10.out⟩
set_option maxHeartbeats 4000000 in
theorem look_bad {w : World} {F : Nat → Prop} {g : Nat} {bs : List Blk} (h : DW w F g ⟨false, -1, bs⟩) (hl : 64 ≤ bs.length) (hby : ∀ b ∈ bs, Go.Proofs.Ytcihfmehbmficaa.Spin.Bytes (curB b)) (hh : Go.Proofs.Ytcihfmehbmficaa.Pure.headI ((bs.map curB).getD 1 []) = (0, 0, 2)) :
    Calls Try.prog 27 #[.pointer (some ⟨g, 0, none⟩)] w fun e w' => e = .returned (.tuple #[.slice none 0 0, .slice none 0 0, .agg #[.int .i64 0, .int .i64 0], .int .i64 2]) ∧ Below w.heap.size w w' := by
  have hn480 : bs.length ≤ 480 := by obtain ⟨_, _, _, _, h⟩ := h; exact h.n480
  obtain ⟨n, hn⟩ : ∃ q, bs.length = q := ⟨_, rfl⟩
  obtain ⟨L, hL⟩ : ∃ q, bs.map curB = q := ⟨_, rfl⟩
  have HLN : Aside0 (L.length = n) := ⟨by rw [← hL, List.length_map]; exact hn⟩
  have hnl : n ≤ 480 := by omega
  have hn64 : 64 ≤ n := by omega
  have HD := Aside0.mk h
  have HN := Aside0.mk hn
  have HG : Aside0 (∀ (k : Nat) (x : List Int) (W : World), L[k]? = some x → Below w.heap.size w W → Calls Try.prog 28 #[.pointer (some ⟨g, 0, none⟩), .int .i64 (k : Int)] W fun e w' => ∃ v0_ : Value, e = .returned (.tuple #[v0_, .int .i64 0]) ∧ B.R 5 w' W.heap.size (fun _ => True) v0_ x ∧ Below W.heap.size W w') := ⟨fun k x W hx hW => by
    rw [← hL, List.getElem?_map] at hx
    obtain ⟨b, hb, rfl⟩ := Option.map_eq_some_iff.1 hx
    exact Disk.get_at (h.below hW) rfl (k : Int) rfl hb⟩
  have HBL : Aside0 ((DS.bs ⟨false, -1, bs⟩).length = n) := ⟨hn⟩
  have HL64 : Aside0 (∀ (k : Nat) (x : List Int), L[k]? = some x → x.length = 64 ∧ Go.Proofs.Ytcihfmehbmficaa.Spin.Bytes x) := ⟨fun k x hx => by
    rw [← hL, List.getElem?_map] at hx
    obtain ⟨b, hb, rfl⟩ := Option.map_eq_some_iff.1 hx
    exact ⟨cur64 h hb, hby b (List.mem_of_getElem? hb)⟩⟩
  rw [hL] at hh
  have HH := Aside0.mk hh
  clear h hl hn480 hh hby hn hL
  go_enter Try.func27, Try.ntmps27
  have bn1 : decide ((n : Int) < 64) = false := decide_eq_false (by omega)
  have bn2 : decide (n < 64) = false := decide_eq_false (by omega)
  go_wp2_with (go_at_call 20; (with_reducible refine (Disk.blocks_at (HD.out.below (below_alloc (Below.refl _ _) _)) (n : Int) (by rw [HBL.out])).mono ?_); rintro e w2 ⟨rfl, rfl⟩)
  have hb4 := blk_new w (.cells #[.int .i64 0, .int .i64 0] 46)
  have HBW := Aside0.mk (below_alloc (Below.refl w.heap.size w) (.cells #[.int .i64 0, .int .i64 0] 46))
  obtain ⟨b4, hb4e⟩ : ∃ q, w.heap.size = q := ⟨_, rfl⟩
  have HLE : Aside0 (w.heap.size ≤ b4) := ⟨by omega⟩
  rw [hb4e] at hb4
  rw [hb4e]
  have HB4 := Aside0.mk hb4
  have HNL := Aside0.mk hnl
  have HN64 := Aside0.mk hn64
  clear hb4 hb4e bn1 bn2 hnl hn64
  go_loopg [2, 3, 24] n (fun gg vb v3 i wr => ∃ k : Nat, k ≤ n ∧ n - k ≤ gg ∧ i = .int .i64 k ∧ v3 = .slice none 0 0 ∧ Aside0 (Below w.heap.size w wr) ∧ Aside0 (wr.heap[b4]? = some (.cells #[.int .i64 0, .int .i64 0] 46 (0, 0))) ∧ Aside0 (kY.R 23 wr w.heap.size (fun _ => True) vb (L.take k)))
  case atStart => exact ⟨0, Nat.zero_le _, Nat.le_refl _, rfl, rfl, HBW, HB4, ⟨Kd.R_nil _ _ _ _ _⟩⟩
  case round =>
    clear HBW HB4
    obtain ⟨k, hk, hgk, rfl, rfl, HB, HB4, HR⟩ := hrel
    by_cases hlt : k < n
    · have b1 : decide ((k : Int) < (n : Int)) = true := decide_eq_true (by omega)
      have b2 : decide (k < n) = true := decide_eq_true hlt
      obtain ⟨x, hx⟩ : ∃ x, L[k]? = some x := ⟨_, List.getElem?_eq_getElem (by have := HLN.out; omega)⟩
      have HX := Aside0.mk hx
      have HX64 := Aside0.mk (HL64.out k x hx).1
      have HTK : Aside0 (L.take (k + 1) = L.take k ++ [x]) := ⟨by rw [List.take_add_one, hx]; rfl⟩
      have HKL : Aside0 ((L.take k).length = k) := ⟨by rw [List.length_take, HLN.out]; omega⟩
      have ewk : wrap64 ((k : Int) + 1) = ((k + 1 : Nat) : Int) := by have h1 := HNL.out; unfold wrap64; omega
      obtain ⟨Ab, cb, rfl⟩ := Kd.R_slice HR.out
      rw [HKL.out] at HR
      rw [HKL.out]
      have HLT := Aside0.mk hlt
      have HGK := Aside0.mk hgk
      clear hx hk hlt hgk
      go_wp2_with (first | (go_at_call 28; (with_reducible refine (HG.out k x _ HX.out HB.out).mono ?_); rintro e w5 ⟨v5, rfl, hr5, hb5⟩; obtain ⟨A5, c5, e5⟩ := Kd.R_slice hr5; rw [HX64.out] at e5; subst e5; have HB5 := Aside0.mk (below_step HB.out hb5); have HR5 := Aside0.mk hr5; have HRB5 := Aside0.mk (Kd.R_below HR.out hb5); have H45 := Aside0.mk (blk_below HB4.out hb5); clear hr5 hb5) | ((with_reducible refine gate_builtin (b := .append) (xs := #[.tmp 37, .tmp 39]) rfl ?_); at_builtin; refine Kd.R_append kY (w0 := w) (W := w5) w.heap.size rfl (.tmp 37) (.tmp 39) 22 23 (.slice none 0 0) 24 rfl Try.underlying22 infoY (by rfl) (show 0 < 1 from by decide) (by omega) (.slice Ab k cb) (L.take k) x [.slice A5 64 c5] (fun _ => True) (fun j => some j ≠ (Value.slice Ab k cb).ownBlock) rfl ?aX ?aP ?aK ?aF ?aO ?aB ?aS ?aL ?_; (case aX => with_unfolding_all rfl); (case aP => exact row_M HB.out HR.out HR5.out); (case aK => exact fun k hk => ⟨trivial, hk⟩); (case aF => exact fun _ _ => trivial); (case aO => exact HRB5.out); (case aB => exact HB5.out); (case aS => exact HB5.out.size); (case aL => have h1 := HKL.out; have h2 := HNL.out; have h3 := HLT.out; omega); intro v8 w8 ho hb hg hat; have HO8 := Aside0.mk ho; have HB8 := Aside0.mk hb; have H48 := Aside0.mk (blk_grown H45.out hg (Kd.R_ne HRB5.out H45.out (by decide))); clear ho hb hg hat))
      go_roundg (n - (k + 1))
      case measure => have h1 := HLT.out; have h2 := HGK.out; omega
      case rel => exact ⟨k + 1, HLT.out, Nat.le_refl _, by rw [ewk], rfl, HB8, H48, ⟨by rw [HTK.out]; exact HO8.out⟩⟩
    · obtain rfl : k = n := by omega
      have b1 : decide ((k : Int) < (k : Int)) = false := decide_eq_false (by omega)
      have hR : kY.R 23 wr w.heap.size (fun _ => True) u2 L := by have h := HR.out; rw [List.take_of_length_le (by have := HLN.out; omega)] at h; exact h
      obtain ⟨gB, cB, e2, hbB, hgB, cellsB, hhB⟩ := Kd.R_form hR (by have h1 := HLN.out; have h2 := HN64.out; omega)
      rw [HLN.out] at e2
      subst e2
      have hrr := Kd.R_reads' hR
      have HCB : Aside0 (k ≤ cB) := ⟨hrr.2.1⟩
      have hC : Kd.C kY wr (some ⟨gB, 0, none⟩) k L := by have h := hrr.2.2; rw [HLN.out] at h; exact h
      obtain ⟨ad1, A1, c1, ea, hcell, hl1, hC1⟩ := Go.Proofs.Ytcihfmehbmficaa.PAll.at_L2 hC 1 (by decide) (by have := HN64.out; omega)
      obtain rfl := Option.some.inj ea
      have hx1 : L[1]? = some (Go.Proofs.Ytcihfmehbmficaa.PAll.rd_L2 L 1) := by
        show L[1]? = some (L.getD 1 [])
        rw [List.getD_eq_getElem?_getD, List.getElem?_eq_getElem (by have h1 := HLN.out; have h2 := HN64.out; omega)]; rfl
      have h164 := HL64.out 1 _ hx1
      have cB1 : wr.cell? ⟨gB, 1, none⟩ = some (.slice A1 64 c1) := by rw [← h164.1]; exact hcell
      have HGH : Aside0 (Calls Try.prog 42 #[.slice A1 64 c1] wr fun e w' => e = .returned (.tuple #[.agg #[.int .i64 0, .int .i64 0], .int .i64 2]) ∧ Below wr.heap.size wr w') := ⟨by
        have h := Go.Proofs.Ytcihfmehbmficaa.PAll.super_GetHead.calls A1 c1 (Go.Proofs.Ytcihfmehbmficaa.PAll.rd_L2 L 1) 0 0 2 wr hC1 hl1 (by rw [Go.Proofs.Ytcihfmehbmficaa.Pure.GetHead_eq h164.2]; exact congrArg some HH.out)
        rw [h164.1] at h
        exact h⟩
      have HRW := Aside0.mk hR
      have hb0 : (0 : Int) < 64 := by decide
      have hk1 : (1 : Int) < (k : Int) := by have := HN64.out; omega
      have hk2 : 1 < k := by have := HN64.out; omega
      clear hR hrr hC hcell hl1 hC1 hx1 h164 hhB HR hk hgk hlt
      go_wp2_with (go_at_call 42; (with_reducible refine HGH.out.mono ?_); rintro e w12 ⟨rfl, hb12⟩; have HB12 := Aside0.mk (below_step HB.out hb12); have H412 := Aside0.mk (blk_below HB4.out hb12); have HR12 := Aside0.mk (Kd.R_below HRW.out hb12); have c40 : w12.cell? ⟨b4, 0, none⟩ = some (.int .i64 0) := blk_cell H412.out 0; have c41 : w12.cell? ⟨b4, 1, none⟩ = some (.int .i64 0) := blk_cell H412.out 1; have f40 : w12.frozen? ⟨b4, 0, none⟩ = false := blk_frozen H412.out 0; have f41 : w12.frozen? ⟨b4, 1, none⟩ = false := blk_frozen H412.out 1; clear hb12)
      have HB14 : Aside0 (Below w.heap.size w ((w12.setCell ⟨b4, 0, none⟩ (.int .i64 0)).setCell ⟨b4, 1, none⟩ (.int .i64 0))) := ⟨(HB12.out.setCell (p := ⟨b4, 0, none⟩) HLE.out _).setCell (p := ⟨b4, 1, none⟩) HLE.out _⟩
      have hbk1 := blk_set H412.out 0 (.int .i64 0)
      have hbk2 : ((w12.setCell ⟨b4, 0, none⟩ (.int .i64 0)).setCell ⟨b4, 1, none⟩ (.int .i64 0)).heap[b4]? = some (.cells #[.int .i64 0, .int .i64 0] 46 (0, 0)) := blk_set hbk1 1 (.int .i64 0)
      obtain ⟨a, ha⟩ : ∃ q : Int, (0 : Int) = q := ⟨_, rfl⟩
      obtain ⟨q, hq⟩ : ∃ x : Int, a = x := ⟨_, rfl⟩
      have hb' : ((w12.setCell ⟨b4, 0, none⟩ (.int .i64 0)).setCell ⟨b4, 1, none⟩ (.int .i64 0)).heap[b4]? = some (.cells #[.int .i64 a, .int .i64 q] 46 (0, 0)) := by rw [← hq, ← ha]; exact hbk2
      clear hbk1 hbk2 c40 c41 f40 f41 H412 HR12 HB12 cB1 hb0 hk1 hk2
      obtain ⟨W, hW⟩ : ∃ q_, (w12.setCell ⟨b4, 0, none⟩ (.int .i64 0)).setCell ⟨b4, 1, none⟩ (.int .i64 0) = q_ := ⟨_, rfl⟩
      rw [hW] at HB14 hb'
      rw [hW]
      clear hW
      have HS4 : Aside0 (∀ X : World, Below W.heap.size W X → X.cell? ⟨b4, 0, none⟩ = some (.int .i64 a) ∧ X.cell? ⟨b4, 1, none⟩ = some (.int .i64 q)) := ⟨fun X hX => ⟨pw_cell_below hX (blk_cell hb' 0), pw_cell_below hX (blk_cell hb' 1)⟩⟩
      obtain ⟨w10, hst, hz, hg⟩ := head_again W.drew b4 a q (blk_below hb' (below_drew (Below.refl _ _)))
      have HST := Aside0.mk hst
      have HZ := Aside0.mk hz
      have HB10 := Aside0.mk (below_own (below_drew HB14.out) hg HLE.out)
      have HAQ : Aside0 (a = 0 ∧ q = 0) := ⟨by rw [← hq, ← ha]; exact ⟨rfl, rfl⟩⟩
      clear hst hz hg hb' ha hq
      refine start_ (n := 6) (S := fun w' => w'.cell? ⟨b4, 0, none⟩ = some (.int .i64 a) ∧ w'.cell? ⟨b4, 1, none⟩ = some (.int .i64 q)) (ds := [4]) #[false, false, false, false, false, false] (by kernel_rfl) rfl rfl ⟨(HS4.out _ (below_drew (Below.refl _ _))).1, (HS4.out _ (below_drew (Below.refl _ _))).2⟩ (fun hHeld => ?_)
      refine pure_ (i := 1) (N := some 52) (v := ?_) (a' := ?_) #[false, true, false, false, false, false] rfl rfl (by kernel_rfl) (fun _ _ _ h => h) (Or.inl ⟨by rfl, ?_⟩) ?_ ?_
      rotate_left
      · intro w'
        go_simp
        with_reducible rfl
      rotate_left
      · simp only [Act.put, List.setIfInBounds_toArray, List.set_cons_zero, List.set_cons_succ, i64_w, i32_w]
        rfl
      refine pure_ (i := 2) (N := some 2) (v := ?_) (a' := ?_) #[false, true, true, false, false, false] rfl rfl (by kernel_rfl) (fun _ _ _ h => h) (Or.inl ⟨by rfl, ?_⟩) ?_ ?_
      rotate_left
      · intro w'
        go_simp
        with_reducible rfl
      rotate_left
      · simp only [Act.put, List.setIfInBounds_toArray, List.set_cons_zero, List.set_cons_succ, i64_w, i32_w]
        rfl
      refine pure_ (i := 3) (N := some 3) (v := ?_) (a' := ?_) #[false, true, true, true, false, false] rfl rfl (by kernel_rfl) (fun _ _ _ h => h) (Or.inl ⟨by rfl, ?_⟩) ?_ ?_
      rotate_left
      · intro w'
        go_simp
        with_reducible rfl
      rotate_left
      · simp only [Act.put, List.setIfInBounds_toArray, List.set_cons_zero, List.set_cons_succ, i64_w, i32_w]
        rfl
      refine take_ (i := 0) (N := some 51) (v := ?_) (a' := ?_) #[true, true, true, true, false, false] rfl rfl (by kernel_rfl) (fun _ _ _ h => h) (Or.inl ⟨by rfl, ?_⟩) hHeld ?_ ?_
      rotate_left
      · rintro w' ⟨s0, s1⟩
        go_simp
        with_reducible rfl
      rotate_left
      · simp only [Act.put, List.setIfInBounds_toArray, List.set_cons_zero, List.set_cons_succ, i64_w, i32_w]
        rfl
      refine last_ (i := 4) (N := none) #[true, true, true, true, true, false] rfl rfl (by kernel_rfl) (by decide) (fun K hK => ?_)
      refine skip_ (w1 := w10) (by rfl) rfl ?_ ?_
      · exact Whole.exec_store _ (.tmp 4) (.tmp 51) rfl _ _ (by rfl) (by rfl) HST.out
      refine hK.out _ _ ?_
      clear hK K
      refine pure_ (i := 5) (N := some 5) (v := ?_) (a' := ?_) #[true, true, true, true, true, true] rfl rfl (by kernel_rfl) (fun _ _ _ h => h) (Or.inl ⟨by rfl, ?_⟩) ?_ ?_
      rotate_left
      · intro w'
        go_simp
        with_reducible rfl
      rotate_left
      · simp only [Act.put, List.setIfInBounds_toArray, List.set_cons_zero, List.set_cons_succ, i64_w, i32_w]
        rfl
      refine done_ (by kernel_rfl) ?_

      go_wp2_with fail
      refine bodyPost_ret (results_ttct rfl _ _ b4 _ #[.int .i64 a, .int .i64 q] (0, 0) _ rfl HZ.out Try.underlying46 rfl infoH) rfl ?_
      rw [HAQ.out.1, HAQ.out.2]
      exact ⟨rfl, HB10.out⟩
theorem Look_err {w : World} {v : Value} (e : Int) (he : (e != 0) = true) (hlk : Calls Try.prog 27 #[v] w fun x w' => x = .returned (.tuple #[.slice none 0 0, .slice none 0 0, .agg #[.int .i64 0, .int .i64 0], .int .i64 e]) ∧ Below w.heap.size w w') :
    Calls Try.prog 14 #[v] w fun x w' => x = .returned (.tuple #[.slice none 0 0, .int .i64 e]) ∧ Below w.heap.size w w' := by
  have HLK := Aside0.mk hlk
  clear hlk
  go_enter Try.func14, Try.ntmps14
  go_wp2_with (go_at_call 27; (with_reducible refine HLK.out.mono ?_); rintro e w1 ⟨rfl, hb⟩; have HB := Aside0.mk hb; clear hb)
  refine bodyPost_ret (results_tmp2 rfl _ _ _) rfl ?_
  exact ⟨rfl, below_alloc HB.out _⟩
theorem Open_err {w : World} {v : Value} (e : Int) (he : (e != 0) = true) (hlk : Calls Try.prog 27 #[v] w fun x w' => x = .returned (.tuple #[.slice none 0 0, .slice none 0 0, .agg #[.int .i64 0, .int .i64 0], .int .i64 e]) ∧ Below w.heap.size w w') :
    Calls Try.prog 10 #[v] w fun x w' => x = .returned (.tuple #[.pointer none, .int .i64 e]) ∧ Below w.heap.size w w' := by
  have HLK := Aside0.mk hlk
  clear hlk
  go_enter Try.func10, Try.ntmps10
  go_wp2_with (go_at_call 27; (with_reducible refine HLK.out.mono ?_); rintro e w1 ⟨rfl, hb⟩; have HB := Aside0.mk hb; clear hb)
  refine bodyPost_ret (results_tmp2 rfl _ _ _) rfl ?_
  exact ⟨rfl, below_alloc HB.out _⟩
end Go.Proofs.Ytcihfmehbmficaa.Jrn
