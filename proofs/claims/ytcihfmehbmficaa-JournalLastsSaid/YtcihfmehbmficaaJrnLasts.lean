/- For all worlds: the law JournalLasts. Conditions: the bytes can be read. -/
import Derived.Test.YtcihfmehbmficaaJrn23
import Derived.Test.YtcihfmehbmficaaJrnArgs
namespace Go.Proofs.Ytcihfmehbmficaa.Jrn
open Go Go.RowKit Go.Maps Go.Proofs.YtcihfmehbmficaaW.PrintWords Go.Proofs.YtcihfmehbmficaaW.PrintLast Go.Proofs.YtcihfmehbmficaaW.PrintMore Go.Proofs.Ytcihfmehbmficaa.Disk Go.Proofs.Ytcihfmehbmficaa.Pure
set_option linter.unusedVariables false
set_option linter.unusedSimpArgs false
set_option maxRecDepth 100000
theorem mk140 (w : World) : (Instr.makeSlice 27 (.int .i64 140) (.int .i64 140)).run Try.prog w = .ok (.slice (some ⟨w.heap.size, 0, none⟩) 140 140) (w.alloc (.cells (Array.replicate 140 (.string ByteArray.empty)) 9)) := by kernel_rfl
/-- The law's own memory: the game at gg (disk g, journal gj), the table at gs; apart from what G owns. -/
structure FR (w0 wr : World) (gg gs g gj : Nat) (G : Nat → Prop) (v1 : Value) (Cl : Array Value) : Prop where
  hg : wr.heap[gg]? = some (.cells #[.pointer (some ⟨g, 0, none⟩), .pointer (some ⟨gj, 0, none⟩), v1, v1, .bool false] 32 (0, 0))
  hs : wr.heap[gs]? = some (.cells Cl 9 (0, 0))
  ng : ¬ G gg
  ns : ¬ G gs
  ff : ∀ k, G k → w0.heap.size ≤ k
  bg : w0.heap.size ≤ gg
  bs : w0.heap.size ≤ gs
  bl : Below w0.heap.size w0 wr
section
variable {w0 wr w1 : World} {gg gs g gj : Nat} {G G1 : Nat → Prop} {v1 : Value} {Cl : Array Value}
theorem FR.ch (h : FR w0 wr gg gs g gj G v1 Cl) (hc : Ch wr w1 G G1) : FR w0 w1 gg gs g gj G1 v1 Cl :=
  ⟨(hc.far gg (blk_lt h.hg) h.ng).trans h.hg, (hc.far gs (blk_lt h.hs) h.ns).trans h.hs, fun a => (hc.new gg a).elim h.ng (fun b => by have := blk_lt h.hg; omega), fun a => (hc.new gs a).elim h.ns (fun b => by have := blk_lt h.hs; omega), fun k hk => (hc.new k hk).elim (h.ff k) (fun b => Nat.le_trans h.bl.size b), h.bg, h.bs, h.bl.trans (hc.below h.ff h.bl.size)⟩
theorem FR.below (h : FR w0 wr gg gs g gj G v1 Cl) (hb : Below wr.heap.size wr w1) : FR w0 w1 gg gs g gj G v1 Cl := h.ch (Ch.of_below G hb)
theorem FR.mono (h : FR w0 wr gg gs g gj G v1 Cl) (hG : ∀ k, G1 k → G k) : FR w0 wr gg gs g gj G1 v1 Cl := ⟨h.hg, h.hs, fun a => h.ng (hG _ a), fun a => h.ns (hG _ a), fun k hk => h.ff k (hG k hk), h.bg, h.bs, h.bl⟩
theorem FR.ne (h : FR w0 wr gg gs g gj G v1 Cl) : gg ≠ gs := fun e => by
  have h1 := h.hg
  rw [e, h.hs] at h1
  injection h1 with h2
  injection h2 with _ h3 _
  exact absurd h3 (by decide)
theorem FR.put (h : FR w0 wr gg gs g gj G v1 Cl) (n : Nat) (v : Value) : FR w0 (wr.setCell ⟨gs, n, none⟩ v) gg gs g gj G v1 (Cl.setIfInBounds n v) :=
  ⟨blk_far h.hg (p := ⟨gs, n, none⟩) h.ne v, blk_set h.hs n v, h.ng, h.ns, h.ff, h.bg, h.bs, h.bl.setCell (p := ⟨gs, n, none⟩) h.bs v⟩
theorem FR.reg (h : FR w0 wr gg gs g gj G v1 Cl) (gk : Nat) : FR w0 (wr.setCell ⟨gg, 1, none⟩ (.pointer (some ⟨gk, 0, none⟩))) gg gs g gk G v1 Cl :=
  ⟨blk_set h.hg 1 _, blk_far h.hs (p := ⟨gg, 1, none⟩) (Ne.symm h.ne) _, h.ng, h.ns, h.ff, h.bg, h.bs, h.bl.setCell (p := ⟨gg, 1, none⟩) h.bg _⟩
theorem FR.c0 (h : FR w0 wr gg gs g gj G v1 Cl) : wr.cell? ⟨gg, 0, none⟩ = some (.pointer (some ⟨g, 0, none⟩)) := blk_cell h.hg 0
theorem FR.c1 (h : FR w0 wr gg gs g gj G v1 Cl) : wr.cell? ⟨gg, 1, none⟩ = some (.pointer (some ⟨gj, 0, none⟩)) := blk_cell h.hg 1
end
/-- The journal's own state. -/
structure JL (w : World) (F : Nat → Prop) (g gj : Nat) (BS : List Blk) (a0 : Nat) (q0 : Int) (T : List (List SW)) (a1 : Nat) (q1 : Int) (Cl : Array Value) (k : Nat) : Prop where
  jw : JW w F g gj BS (a0 : Int) q0 (a1 : Int) q1 (3 * (T.length : Int))
  ls : LS BS a0 q0 T a1 q1
  tf : T.flatten.length = T.length
  qk : 1 ≤ q1 ∧ q1 ≤ (k : Int) + 1
  tab : Tab Cl (curL BS)
theorem JL.com {w w7 : World} {F F7 : Nat → Prop} {g gj gs : Nat} {BS BS7 : List Blk} {a0 a07 : Nat} {q0 q07 : Int} {T T7 : List (List SW)} {a1 a17 : Nat} {q1 : Int} {Cl : Array Value} {k t : Nat} {l : List Int} {s : ByteArray} (h : JL w F g gj BS a0 q0 T a1 q1 Cl k)
    (hj : JW w7 F7 g gj BS7 (a07 : Int) q07 (a17 : Int) (q1 + 1) (3 * (T7.length : Int))) (hl : LS BS7 a07 q07 T7 a17 (q1 + 1)) (htf : T7.flatten.length = T7.length) (hcu : ∀ j, 60 ≤ j → (curL BS7)[j]? = ((curL BS).set (60 + t) l)[j]?) (ht : t < 140) (hl64 : l.length = 64) (hs : str l = s) (hn : ¬ FJ F7 gj gs) :
    JL (w7.setCell ⟨gs, t, none⟩ (.string s)) F7 g gj BS7 a07 q07 T7 a17 (q1 + 1) (Cl.setIfInBounds t (.string s)) (k + 1) := by
  refine ⟨hj.box _ t hn, hl, htf, ?_, ?_⟩
  · have := h.qk; omega
  · rw [← hs]
    exact h.tab.put ht hl64 (Nat.le_of_eq ((curL_length _).trans h.ls.len).symm) hcu
theorem JL.opened {w : World} {F : Nat → Prop} {g gj a : Nat} {BS : List Blk} {q : Int} {ws : List Wr} {Cl : Array Value} {k : Nat} (hj : JW w F g gj (movB (pushAll (rstB BS) ws) (headI64 (a : Int) q)) (a : Int) q (a : Int) q 0) (hr : RsP BS ws a q) (hq : 1 ≤ q ∧ q ≤ (k : Int) + 1) (ht : Tab Cl (curL BS)) :
    JL w F g gj (movB (pushAll (rstB BS) ws) (headI64 (a : Int) q)) a q [] a q Cl k := ⟨hj, hr.ls, rfl, hq, ht.same hr.cur⟩
theorem JL.below {w w1 : World} {F : Nat → Prop} {g gj : Nat} {BS : List Blk} {a0 : Nat} {q0 : Int} {T : List (List SW)} {a1 : Nat} {q1 : Int} {Cl : Array Value} {k : Nat} (h : JL w F g gj BS a0 q0 T a1 q1 Cl k) (hb : Below w.heap.size w w1) : JL w1 F g gj BS a0 q0 T a1 q1 Cl k := ⟨h.jw.below hb, h.ls, h.tf, h.qk, h.tab⟩
theorem emp_yes : (ByteArray.empty).toList.isEmpty = true := by rw [ByteArray.toList_eq]; rfl
theorem str_ne {x : List Int} (h : x.length = 64) : (str x).toList.isEmpty = false := by
  show (strOfNums x).toList.isEmpty = false
  rw [ByteArray.toList_eq, strOfNums_data]
  cases x with
  | nil => exact absurd h (by decide)
  | cons a l => rfl
theorem set_id {α : Type} {l : List α} {i : Nat} {a : α} (h : l[i]? = some a) : l.set i a = l := by
  apply List.ext_getElem?
  intro j
  by_cases e : i = j
  · subst e
    rw [List.getElem?_set_self (List.getElem?_eq_some_iff.1 h).1, h]
  · rw [List.getElem?_set_ne e]
theorem row64 {w1 : World} {base : Nat} {v : Value} {x : List Int} (hr : B.R 5 w1 base (fun _ => True) v x) (hx : x.length = 64) : ∃ g6 c6, v = .slice (some ⟨g6, 0, none⟩) 64 c6 ∧ base ≤ g6 ∧ g6 < w1.heap.size ∧ B.C w1 (some ⟨g6, 0, none⟩) 64 x := by
  obtain ⟨g6, c6, rfl⟩ := sb_slice (w := w1) hx hr
  have h1 := (Kd.R_bound hr).1 g6 rfl
  have h2 := (Kd.R_reads' hr).2.2
  rw [hx] at h2
  exact ⟨g6, c6, rfl, h1.2.1, h1.2.2.1, h2⟩
theorem fjl {F : Nat → Prop} {gj k : Nat} (h : F k) : FJ F gj k := Or.inl h
set_option maxHeartbeats 4000000 in
theorem lasts_calls (A0 : Option Addr) (c0 : Nat) (l0 : List (List Int)) (A1 : Option Addr) (c1 : Nat) (l1 : List Int) (w : World)
    (hr0 : Kd.C (Kd.slice 5 B) w A0 l0.length l0) (hc0 : l0.length ≤ c0) (hr1 : Kd.C B w A1 l1.length l1) (hc1 : l1.length ≤ c1)
    (h0 : ∀ b ∈ l0, ∀ x ∈ b, (Lit.int .u8 x).wf = true) (h1 : ∀ x ∈ l1, (Lit.int .u8 x).wf = true) :
    Calls Try.prog 3 #[.slice A0 l0.length c0, .slice A1 l1.length c1] w fun e w' => e = .returned (.bool true) ∧ Below w.heap.size w w' := by
  have hmk := mk64
  have hmk2 := mk140
  generalize hZ : Array.replicate 64 (Value.int .u8 0) = Z at hmk
  have hts := tab_start
  generalize hY : Array.replicate 140 (Value.string ByteArray.empty) = Y at hmk2 hts
  have HTS := Aside0.mk hts
  have HZ : Aside0 (Z.toList = nums .u8 z64) := ⟨by subst hZ; rfl⟩
  have HR0 := Aside0.mk hr0
  have HR1 := Aside0.mk hr1
  have HW0 : Aside0 (∀ b ∈ l0, Go.Proofs.Ytcihfmehbmficaa.Spin.Bytes b) := ⟨fun b hb => bytes_wf (h0 b hb)⟩
  have HW1 := Aside0.mk h1
  obtain ⟨n0, e0⟩ : ∃ n, l0.length = n := ⟨_, rfl⟩
  obtain ⟨n1, e1⟩ : ∃ n, l1.length = n := ⟨_, rfl⟩
  have HM0 := Aside0.mk e0
  have HM1 := Aside0.mk e1
  rw [e0] at HR0
  rw [e1] at HR1
  rw [e0, e1]
  have HBG : Aside0 (∀ W, Calls Try.prog 6 #[.int .i64 200] W fun e w' => ∃ gg g gj F v1, e = .returned (.pointer (some ⟨gg, 0, none⟩)) ∧ w'.heap[gg]? = some (.cells #[.pointer (some ⟨g, 0, none⟩), .pointer (some ⟨gj, 0, none⟩), v1, v1, .bool false] 32 (0, 0)) ∧ JW w' F g gj (freshB 200 (headI64 0 1)) 0 1 0 1 0 ∧ ¬ FJ F gj gg ∧ (∀ k, FJ F gj k → W.heap.size ≤ k) ∧ W.heap.size ≤ gg ∧ Below W.heap.size W w') := ⟨fun W => begin_calls 200 (by decide) (by decide) W⟩
  clear hZ hY hts hr0 hr1 h0 h1 e0 e1 hc0 hc1
  go_enter Try.func3, Try.ntmps3
  go_wp2_with (first | (go_at_call 6; (with_reducible refine (HBG.out _).mono ?_); rintro e w1 ⟨gg, g, gj, F, v1, rfl, hg1, hj1, hn1, hF1, hgg1, hb1⟩; have HG1 := Aside0.mk hg1; have HJ1 := Aside0.mk hj1; have HN1 := Aside0.mk hn1; have HF1 := Aside0.mk hF1; have HGG := Aside0.mk hgg1; have HB1 := Aside0.mk hb1; clear hg1 hj1 hn1 hF1 hgg1 hb1) | (go_at_call 7; (with_reducible refine (awake_calls _).mono ?_); rintro e w2 ⟨rfl, hb⟩; have HJ2 := Aside0.mk (HJ1.out.below hb); have HG2 := Aside0.mk (blk_below HG1.out hb); have HB2 := Aside0.mk (below_step HB1.out hb); clear hb))
  have HFR : Aside0 (FR w (w2.alloc (.cells Y 9)) gg w2.heap.size g gj (FJ F gj) v1 Y) := ⟨⟨blk_alloc HG2.out _, blk_new _ _, HN1.out, fun hn => by have := HJ2.out.lt _ hn; omega, HF1.out, HGG.out, HB2.out.size, below_alloc HB2.out _⟩⟩
  have HJL : Aside0 (JL (w2.alloc (.cells Y 9)) F g gj (freshB 200 (headI64 0 1)) 0 1 [] 0 1 Y 0) := ⟨⟨HJ2.out.below (below_alloc (Below.refl _ _) _), ls_start, rfl, ⟨by decide, by decide⟩, HTS.out⟩⟩
  obtain ⟨gs, hgs⟩ : ∃ q_, w2.heap.size = q_ := ⟨_, rfl⟩
  rw [hgs] at HFR
  rw [hgs]
  clear HG1 HJ1 HN1 HF1 HGG HB1 HJ2 HG2 HB2 hgs HTS HBG
  go_loopg [7] 60 (fun gk_ i wr => ∃ (k gj : Nat) (F : Nat → Prop) (BS : List Blk) (a0 : Nat) (q0 : Int) (T : List (List SW)) (a1 : Nat) (q1 : Int) (Cl : Array Value), k ≤ 60 ∧ k ≤ n0 ∧ k ≤ n1 ∧ 60 - k ≤ gk_ ∧ i = .int .i64 k ∧ Aside0 (FR w wr gg gs g gj (FJ F gj) v1 Cl) ∧ Aside0 (JL wr F g gj BS a0 q0 T a1 q1 Cl k))
  case atStart => exact ⟨0, gj, F, _, 0, 1, [], 0, 1, Y, Nat.zero_le _, Nat.zero_le _, Nat.zero_le _, Nat.le_refl _, rfl, HFR, HJL⟩
  case round =>
    clear HFR HJL
    obtain ⟨k, gj, F, BS, a0, q0, T, a1, q1, Cl, hk, hkn, hkm, hgk, rfl, HFR, HJ⟩ := hrel
    by_cases hall : k < n0 ∧ k < n1 ∧ k < 60
    case pos =>
      obtain ⟨hl0, hl1, hl2⟩ := hall
      have b1 : decide ((k : Int) < (n0 : Int)) = true := decide_eq_true (by omega)
      have b2 : decide (k < n0) = true := decide_eq_true hl0
      have b3 : decide ((k : Int) < (n1 : Int)) = true := decide_eq_true (by omega)
      have b4 : decide (k < n1) = true := decide_eq_true hl1
      have b5 : decide ((k : Int) < 60) = true := decide_eq_true (by omega)
      obtain ⟨x, hx⟩ : ∃ x, l0[k]? = some x := ⟨_, List.getElem?_eq_getElem (by have := HM0.out; omega)⟩
      have HXB := Aside0.mk (HW0.out x (List.mem_of_getElem? hx))
      obtain ⟨ad0, Ax, cx, e0, hcx, hlx, hCx⟩ := at_row (Kd.C_below HR0.out HFR.out.bl) hx
      subst e0
      obtain ⟨ad1, e1, hy0⟩ := Kd.at_int HR1.out (k : Int) (by omega) (by omega)
      subst e1
      rw [Int.toNat_natCast] at hy0
      obtain ⟨y, hyk⟩ : ∃ y, rd l1 (k : Int) = y := ⟨_, rfl⟩
      have hyg : l1.getD k 0 = y := by rw [← hyk]; show _ = l1.getD (k : Int).toNat 0; rw [Int.toNat_natCast]
      have hy : 0 ≤ y ∧ y < 256 := by
        have h := HW1.out y (by
          rw [← hyg, List.getD_eq_getElem?_getD, List.getElem?_eq_getElem (by have := HM1.out; omega)]
          exact List.getElem_mem _)
        simp [Lit.wf, IntKind.min, IntKind.max, IntKind.signed, IntKind.bits] at h; omega
      rw [hyk] at hy0
      obtain ⟨hy1, hy2⟩ := hy
      obtain ⟨t, ht⟩ : ∃ t : Nat, y % 140 = t := ⟨(y % 140).toNat, by omega⟩
      have ht2 : Int.tmod y 140 = t := by rw [Int.tmod_eq_emod_of_nonneg hy1]; exact ht
      have ht7 : t < 140 := by omega
      have ht7i : (t : Int) < 140 := by omega
      obtain ⟨m, hm⟩ : ∃ m, x.length = m := ⟨_, rfl⟩
      rw [hm] at hcx hCx
      have HM := Aside0.mk hm
      have HCX := Aside0.mk hCx
      have HY0 := Aside0.mk hy0
      have HTL : Aside0 ((x.take 64).length = Nat.min m 64) := ⟨by rw [List.length_take, ← hm]; exact Nat.min_comm _ _⟩
      have hcxa := pw_cell_below (below_alloc (Below.refl wr.heap.size wr) (.cells Z 5)) hcx
      have HFA : Aside0 (0 + (nums .u8 (x.take 64)).length ≤ Z.toList.length) := ⟨by rw [HZ.out, Go.Proofs.YtcihfmehbmficaaW.PrintWords.nums_length, Go.Proofs.YtcihfmehbmficaaW.PrintWords.nums_length, HTL.out]; show 0 + Nat.min m 64 ≤ 64; rw [Nat.zero_add]; exact Nat.min_le_right _ _⟩
      have HQK : Aside0 (1 ≤ q1 ∧ q1 < 100000) := ⟨by have := HJ.out.qk; omega⟩
      have HT60 : Aside0 (60 ≤ 60 + t ∧ 60 + t < 200) := ⟨by omega⟩
      have HPX : Aside0 ((pad x).length = 64 ∧ Go.Proofs.Ytcihfmehbmficaa.Spin.Bytes (pad x)) := ⟨⟨pad_length x, pad_bytes HXB.out⟩⟩
      obtain ⟨s, hs⟩ : ∃ s, str (pad x) = s := ⟨_, rfl⟩
      have HS := Aside0.mk hs
      obtain ⟨uc, huc⟩ : ∃ u, Cl[t]? = some u := ⟨_, Array.getElem?_eq_getElem (by have := HJ.out.tab.1; omega)⟩
      have HCT := Aside0.mk huc
      obtain ⟨r, hr⟩ : ∃ r : Int, ((60 + t : Nat) : Int) = r := ⟨_, rfl⟩
      have HRN := Aside0.mk hr
      have ewt2 : (60 + (t : Int)) = r := by omega
      have ewt : wrap64 (60 + (t : Int)) = r := by unfold wrap64; omega
      clear hr
      have HL0 := Aside0.mk hl0
      have HL1 := Aside0.mk hl1
      have HL2 := Aside0.mk hl2
      have HGK := Aside0.mk hgk
      have HT140 := Aside0.mk ht7
      clear hx hm hCx hlx hcx hgk hk hkn hkm hyk hyg hy0 hs huc
      go_wp2_with (first | (with_reducible refine wpList_copy_splice (o := ⟨some 47, _, _, _, _, _⟩) ?ca (.tmp 42) (.tmp 46) 23 23 ?co 5 ?cu ?ci (some ⟨wr.heap.size, 0, none⟩) Ax 64 64 m cx ?cd ?cs wr.heap.size 0 Z.toList 5 ?cg (nums .u8 (x.take 64)) ?cn ?cp ?cf ?c1 wr.heap.size wr ?cb ?cl ?_; (case ca => rfl); (case co => rfl); (case cu => exact Try.underlying23); (case ci => kernel_rfl); (case cd => with_unfolding_all rfl); (case cs => with_unfolding_all rfl); (case cl => exact Nat.le_refl _); (case cg => exact blk_new wr _); (case cn => rw [Go.Proofs.YtcihfmehbmficaaW.PrintWords.nums_length]; exact HTL.out); (case cp => exact copy_from (Kd.C_alloc HCX.out _) HM.out); (case cf => exact HFA.out); (case c1 => exact nums_one _); (case cb => exact grown_below _ _); intro w5 hw5 hb5; have hg5 := hw5.out; rw [pad_splice HZ.out] at hg5; have HG5 := Aside0.mk hg5; have hj5 := HJ.out.below hb5; have hf5 := HFR.out.below hb5; have HJ5 := Aside0.mk hj5; have HF5 := Aside0.mk hf5; have c15 := hf5.c1; have cy5 := pw_cell_below (HFR.out.bl.trans (hb5.mono HFR.out.bl.size)) HY0.out; have HRW := Aside0.mk ((Z64.mk (blk_lt hg5) (fun hn => by have h1 := HJ.out.jw.lt _ hn; omega) (Nat.le_refl 64) (C_blk hg5 rfl (pad_length x) (by omega)) (pad_length x) : Z64 w5 F gj wr.heap.size 64 (pad x)).oneJ hj5.jw r); have hj6 := hj5.below (below_alloc (Below.refl _ _) (.cells #[.int .i64 r, .slice (some ⟨wr.heap.size, 0, none⟩) 64 64] 35)); have hf6 := hf5.below (below_alloc (Below.refl _ _) (.cells #[.int .i64 r, .slice (some ⟨wr.heap.size, 0, none⟩) 64 64] 35)); have HJ6 := Aside0.mk hj6; have HF6 := Aside0.mk hf6; have HG6 := Aside0.mk (blk_alloc hg5 (.cells #[.int .i64 r, .slice (some ⟨wr.heap.size, 0, none⟩) 64 64] 35)); have HN6 : Aside0 (¬ FJ F gj wr.heap.size) := ⟨fun hn => by have h1 := HJ.out.jw.lt _ hn; omega⟩; clear hw5 hb5 hg5 hj5 hf5 hj6 hf6) | (go_at_call 8; (with_reducible refine (commit_ls HJ6.out.jw HJ6.out.ls HJ6.out.tf HQK.out _ 1 (60 + t) (pad x) (by rw [HRN.out]; exact HRW.out) HT60.out HPX.out).mono ?_); rintro e w7 ⟨rfl, F7, BS7, a07, q07, T7, a17, hj7, hc7, hl7, htf7, hcu7⟩; have hf7 := HF6.out.ch hc7; have HJ8 := Aside0.mk (HJ6.out.com hj7 hl7 htf7 hcu7 HT140.out HPX.out.1 HS.out hf7.ns); have HF8 := Aside0.mk (hf7.put t (.string s)); have c08 := HF8.out.c0; have hg7 := (hc7.far _ (blk_lt HG6.out) HN6.out).trans HG6.out; have hcv7 : (convert 23 9 (.slice (some ⟨wr.heap.size, 0, none⟩) 64 64)).run Try.prog w7 = .ok (.string s) w7 := (by rw [← HS.out]; exact conv_str (C_blk hg7 rfl (pad_length x) (by omega))); have ct7 : ∃ u, w7.cell? ⟨gs, t, none⟩ = some u := ⟨_, (blk_cell hf7.hs t).trans HCT.out⟩; have ft7 := blk_frozen hf7.hs t; obtain ⟨ut, ct7⟩ := ct7; clear hj7 hc7 hl7 htf7 hcu7 hf7 hg7) | (go_at_call 9; (with_reducible refine (restart_none HJ8.out.jw.dk).mono ?_); rintro e w9 ⟨rfl, hp⟩; have hp2 : PutP (w7.setCell ⟨gs, t, none⟩ (.string s)) w9 F7 g ⟨false, -1, rstB BS7⟩ := hp; obtain ⟨F9, hj9, hc9⟩ := HJ8.out.jw.disk hp2; obtain ⟨ws, hws⟩ : ∃ ws, RsP BS7 ws a17 (q1 + 1) := ⟨_, HJ8.out.ls.again⟩; have HRS := Aside0.mk hws; have HJ9 := Aside0.mk hj9; have hf9 := HF8.out.ch hc9; have HF9 := Aside0.mk hf9; have c09 := hf9.c0; clear hp hp2 hj9 hc9 hf9 hws) | (go_at_call 10; (with_reducible refine (Open_some HJ9.out.dk (HRS.out.lk _ F9 g HJ9.out.dk) HRS.out.fit HRS.out.wl HRS.out.hb HRS.out.l1 HRS.out.c1).mono ?_); rintro e w10 ⟨gz, F10, rfl, hj10, hc10⟩; have hf10 := (HF9.out.mono (fun k hk => fjl hk)).ch hc10; have HJ10 := Aside0.mk (JL.opened (hj10.box (.pointer (some ⟨gz, 0, none⟩)) 1 hf10.ng) HRS.out HJ8.out.qk HJ8.out.tab); have HF10 := Aside0.mk (hf10.reg gz); have c110 := hf10.c1; have f110 := blk_frozen hf10.hg 1; clear hj10 hc10 hf10))
      · go_roundg (60 - (k + 1))
        case measure => exact meas HL2.out HGK.out
        case rel => exact ⟨k + 1, gz, F10, _, a17, q1 + 1, [], a17, q1 + 1, _, HL2.out, HL0.out, HL1.out, Nat.le_refl _, congrArg (Value.int .i64) (by omega), HF10, HJ10⟩
      · go_roundg (60 - (k + 1))
        case measure => exact meas HL2.out HGK.out
        case rel => exact ⟨k + 1, gj, F7, BS7, a07, q07, T7, a17, q1 + 1, _, HL2.out, HL0.out, HL1.out, Nat.le_refl _, congrArg (Value.int .i64) (by omega), HF8, HJ8⟩
    case neg =>
      have hcs : (decide ((k : Int) < (n0 : Int)) = false ∧ decide (k < n0) = false) ∨ (decide ((k : Int) < (n0 : Int)) = true ∧ decide (k < n0) = true ∧ decide ((k : Int) < (n1 : Int)) = false ∧ decide (k < n1) = false) ∨ (k = 60 ∧ decide ((60 : Int) < (n0 : Int)) = true ∧ decide (60 < n0) = true ∧ decide ((60 : Int) < (n1 : Int)) = true ∧ decide (60 < n1) = true) := by
        by_cases h1 : k < n0
        · by_cases h2 : k < n1
          · exact Or.inr (Or.inr ⟨by omega, decide_eq_true (by omega), decide_eq_true (by omega), decide_eq_true (by omega), decide_eq_true (by omega)⟩)
          · exact Or.inr (Or.inl ⟨decide_eq_true (by omega), decide_eq_true h1, decide_eq_false (by omega), decide_eq_false h2⟩)
        · exact Or.inl ⟨decide_eq_false (by omega), decide_eq_false h1⟩
      clear hall hk hkn hkm hgk
      have c00 := HFR.out.c0
      rcases hcs with ⟨hc1, hc2⟩ | ⟨hc1, hc2, hc3, hc4⟩ | ⟨rfl, hc1, hc2, hc3, hc4⟩
      all_goals
        go_wp2_with (first | (go_at_call 9; (with_reducible refine (restart_none HJ.out.jw.dk).mono ?_); rintro e w9 ⟨rfl, hp⟩; have hp2 : PutP wr w9 F g ⟨false, -1, rstB BS⟩ := hp; obtain ⟨F9, hj9, hc9⟩ := HJ.out.jw.disk hp2; obtain ⟨ws, hws⟩ : ∃ ws, RsP BS ws a1 q1 := ⟨_, HJ.out.ls.again⟩; have HRS := Aside0.mk hws; have HJ9 := Aside0.mk hj9; have hf9 := HFR.out.ch hc9; have HF9 := Aside0.mk hf9; have c09 := hf9.c0; clear hp hp2 hj9 hc9 hf9 hws) | (go_at_call 10; (with_reducible refine (Open_some HJ9.out.dk (HRS.out.lk _ F9 g HJ9.out.dk) HRS.out.fit HRS.out.wl HRS.out.hb HRS.out.l1 HRS.out.c1).mono ?_); rintro e w10 ⟨gz, F10, rfl, hj10, hc10⟩; have HF10 := Aside0.mk ((HF9.out.mono (fun k hk => fjl hk)).ch hc10); have HJ10 := Aside0.mk hj10; have HTB := Aside0.mk (HJ.out.tab.same HRS.out.cur); clear hj10 hc10))
        obtain ⟨BO, hBO⟩ : ∃ q_, movB (pushAll (rstB BS) ws) (headI64 (a1 : Int) q1) = q_ := ⟨_, rfl⟩
        rw [hBO] at HJ10 HTB
        have HL2 : Aside0 (200 ≤ (curL BO).length) := ⟨by rw [← hBO, curL_length, mov_length, pushAll_length]; exact Nat.le_of_eq ((by rw [rst_eq, List.length_map]; exact HJ.out.ls.len : (rstB BS).length = 200).symm)⟩
        clear hBO HFR HJ c00 HRS HJ9 HF9 c09
        go_loopg [14] 140 (fun gg_ i wr => ∃ (n : Nat) (Cl : Array Value), n ≤ 140 ∧ 140 - n ≤ gg_ ∧ i = .int .i64 n ∧ Aside0 (FR w wr gg gs g gj (FJ F10 gz) v1 Cl) ∧ Aside0 (JW wr F10 g gz BO (a1 : Int) q1 (a1 : Int) q1 0) ∧ Aside0 (Tab Cl (curL BO)))
        case atStart => exact ⟨0, Cl, Nat.zero_le _, Nat.le_refl _, rfl, HF10, HJ10, HTB⟩
        case round =>
          clear HF10 HJ10 HTB
          obtain ⟨n, Cl, hn, hgn, rfl, HF, HJ, HT⟩ := hrel
          by_cases hlt : n < 140
          · have b1 : decide ((n : Int) < 140) = true := decide_eq_true (by omega)
            have b2 : decide (n < 140) = true := decide_eq_true hlt
            have b7 : (n : Int) < 140 := by omega
            obtain ⟨s, x, hs1, hs2, hs3, hs4⟩ := HT.out.2 n hlt
            obtain ⟨b, hb, hbx⟩ : ∃ b, BO[60 + n]? = some b ∧ curB b = x := by
              unfold curL at hs2
              rw [List.getElem?_map] at hs2
              obtain ⟨b, hb, e⟩ := Option.map_eq_some_iff.1 hs2
              exact ⟨b, hb, e⟩
            subst hbx
            obtain ⟨r, hr⟩ : ∃ r : Int, ((60 + n : Nat) : Int) = r := ⟨_, rfl⟩
            have HRN := Aside0.mk hr
            have ewt2 : (60 + (n : Int)) = r := by omega
            have ewt : wrap64 (60 + (n : Int)) = r := by unfold wrap64; omega
            have HB := Aside0.mk hb
            have HX64 := Aside0.mk hs3
            have HCT := Aside0.mk hs1
            have HCU := Aside0.mk hs2
            have HLT := Aside0.mk hlt
            have HGN := Aside0.mk hgn
            clear hb hs1 hs2 hs3 hr hlt hgn hn
            rcases hs4 with hz | ⟨hse, hx⟩
            · obtain ⟨z, hsz⟩ : ∃ z, z = s := ⟨_, rfl⟩
              subst hsz
              have hne : z.toList.isEmpty = false := by rw [hz]; exact str_ne HX64.out
              have HZS := Aside0.mk hz.symm
              clear hz
              go_wp2_with (go_at_call 11; (with_reducible refine (read_yes HJ.out (i := 60 + n) r HRN.out HB.out).mono ?_); rintro e w9 ⟨v9, rfl, hr9, hj9, hc9⟩; obtain ⟨g9, c9, e9, hg9, hl9, hC9⟩ := row64 hr9 HX64.out; subst e9; have HC9 := Aside0.mk hC9; have HG9 := Aside0.mk hg9; have HL9 := Aside0.mk hl9; have HJ9 := Aside0.mk hj9; have HF9 := Aside0.mk (HF.out.ch hc9); have cs9 : w9.cell? ⟨gs, n, none⟩ = some (.string z) := (blk_cell HF9.out.hs n).trans HCT.out; have fs9 := blk_frozen HF9.out.hs n; clear hr9 hj9 hc9 hC9 hg9 hl9)
              have HSC : Aside0 (∀ W : World, Below w9.heap.size w9 W → W.cell? ⟨gs, n, none⟩ = some (.string z) ∧ (convert 23 9 (.slice (some ⟨g9, 0, none⟩) 64 c9)).run Try.prog W = .ok (.string z) W) := ⟨fun W hW => ⟨pw_cell_below hW cs9, by rw [← HZS.out]; exact conv_str (Kd.C_below HC9.out hW)⟩⟩
              clear cs9 fs9
              refine start_ (n := 11) (S := fun w' => w'.cell? ⟨gs, n, none⟩ = some (.string z) ∧ (convert 23 9 (.slice (some ⟨g9, 0, none⟩) 64 c9)).run Try.prog w' = .ok (.string z) w') (ds := []) #[false, false, false, false, false, false, false, false, false, false, false] (by kernel_rfl) rfl rfl ⟨(HSC.out _ (below_drew (Below.refl _ _))).1, (HSC.out _ (below_drew (Below.refl _ _))).2⟩ (fun hHeld => ?_)
              refine pure_ (i := 0) (N := some 136) (v := ?_) (a' := ?_) #[true, false, false, false, false, false, false, false, false, false, false] rfl rfl (by kernel_rfl) (fun _ _ _ h => h) (Or.inl ⟨by rfl, ?_⟩) ?_ ?_
              rotate_left
              · intro w'
                go_simp
                with_reducible rfl
              rotate_left
              · simp only [Act.put, List.setIfInBounds_toArray, List.set_cons_zero, List.set_cons_succ, i64_w, i32_w]
                rfl
              refine pure_ (i := 1) (N := some 137) (v := ?_) (a' := ?_) #[true, true, false, false, false, false, false, false, false, false, false] rfl rfl (by kernel_rfl) (fun _ _ _ h => h) (Or.inl ⟨by rfl, ?_⟩) ?_ ?_
              rotate_left
              · intro w'
                go_simp
                with_reducible rfl
              rotate_left
              · simp only [Act.put, List.setIfInBounds_toArray, List.set_cons_zero, List.set_cons_succ, i64_w, i32_w]
                rfl
              refine pure_ (i := 2) (N := some 138) (v := ?_) (a' := ?_) #[true, true, true, false, false, false, false, false, false, false, false] rfl rfl (by kernel_rfl) (fun _ _ _ h => h) (Or.inl ⟨by rfl, ?_⟩) ?_ ?_
              rotate_left
              · intro w'
                go_simp
                with_reducible rfl
              rotate_left
              · simp only [Act.put, List.setIfInBounds_toArray, List.set_cons_zero, List.set_cons_succ, i64_w, i32_w]
                rfl
              refine pure_ (i := 3) (N := some 139) (v := ?_) (a' := ?_) #[true, true, true, true, false, false, false, false, false, false, false] rfl rfl (by kernel_rfl) (fun _ _ _ h => h) (Or.inl ⟨by rfl, ?_⟩) ?_ ?_
              rotate_left
              · intro w'
                go_simp
                with_reducible rfl
              rotate_left
              · simp only [Act.put, List.setIfInBounds_toArray, List.set_cons_zero, List.set_cons_succ, i64_w, i32_w]
                rfl
              refine pure_ (i := 5) (N := some 141) (v := ?_) (a' := ?_) #[true, true, true, true, false, true, false, false, false, false, false] rfl rfl (by kernel_rfl) (fun _ _ _ h => h) (Or.inl ⟨by rfl, ?_⟩) ?_ ?_
              rotate_left
              · intro w'
                go_simp
                with_reducible rfl
              rotate_left
              · simp only [Act.put, List.setIfInBounds_toArray, List.set_cons_zero, List.set_cons_succ, i64_w, i32_w]
                rfl
              refine pure_ (i := 6) (N := some 142) (v := ?_) (a' := ?_) #[true, true, true, true, false, true, true, false, false, false, false] rfl rfl (by kernel_rfl) (fun _ _ _ h => h) (Or.inl ⟨by rfl, ?_⟩) ?_ ?_
              rotate_left
              · intro w'
                go_simp
                with_reducible rfl
              rotate_left
              · simp only [Act.put, List.setIfInBounds_toArray, List.set_cons_zero, List.set_cons_succ, i64_w, i32_w]
                rfl
              refine pure_ (i := 7) (N := some 143) (v := ?_) (a' := ?_) #[true, true, true, true, false, true, true, true, false, false, false] rfl rfl (by kernel_rfl) (fun _ _ _ h => h) (Or.inl ⟨by rfl, ?_⟩) ?_ ?_
              rotate_left
              · intro w'
                go_simp
                with_reducible rfl
              rotate_left
              · simp only [Act.put, List.setIfInBounds_toArray, List.set_cons_zero, List.set_cons_succ, i64_w, i32_w]
                rfl
              refine take_ (i := 4) (N := some 140) (v := ?_) (a' := ?_) #[true, true, true, true, true, true, true, true, false, false, false] rfl rfl (by kernel_rfl) (fun _ _ _ h => h) (Or.inl ⟨by rfl, ?_⟩) hHeld ?_ ?_
              rotate_left
              · rintro w' ⟨s0, s1⟩
                go_simp
                with_reducible rfl
              rotate_left
              · simp only [Act.put, List.setIfInBounds_toArray, List.set_cons_zero, List.set_cons_succ, i64_w, i32_w]
                rfl
              refine take_ (i := 8) (N := some 144) (v := ?_) (a' := ?_) #[true, true, true, true, true, true, true, true, true, false, false] rfl rfl (by kernel_rfl) (fun _ _ _ h => h) (Or.inl ⟨by rfl, ?_⟩) hHeld ?_ ?_
              rotate_left
              · rintro w' ⟨s0, s1⟩
                go_simp
                with_reducible rfl
              rotate_left
              · simp only [Act.put, List.setIfInBounds_toArray, List.set_cons_zero, List.set_cons_succ, i64_w, i32_w]
                rfl
              refine pure_ (i := 9) (N := some 145) (v := ?_) (a' := ?_) #[true, true, true, true, true, true, true, true, true, true, false] rfl rfl (by kernel_rfl) (fun _ _ _ h => h) (Or.inl ⟨by rfl, ?_⟩) ?_ ?_
              rotate_left
              · intro w'
                go_simp
                with_reducible rfl
              rotate_left
              · simp only [Act.put, List.setIfInBounds_toArray, List.set_cons_zero, List.set_cons_succ, i64_w, i32_w]
                rfl
              refine pure_ (i := 10) (N := some 146) (v := ?_) (a' := ?_) #[true, true, true, true, true, true, true, true, true, true, true] rfl rfl (by kernel_rfl) (fun _ _ _ h => h) (Or.inl ⟨by rfl, ?_⟩) ?_ ?_
              rotate_left
              · intro w'
                go_simp
                with_reducible rfl
              rotate_left
              · simp only [Act.put, List.setIfInBounds_toArray, List.set_cons_zero, List.set_cons_succ, i64_w, i32_w]
                rfl
              refine done_ (by kernel_rfl) ?_

              go_wp2_with fail
              go_roundg (140 - (n + 1))
              case measure => exact meas HLT.out HGN.out
              case rel => exact ⟨n + 1, Cl, HLT.out, Nat.le_refl _, congrArg (Value.int .i64) (by omega), ⟨HF9.out.below (below_drew (Below.refl _ _))⟩, ⟨HJ9.out.below (below_drew (Below.refl _ _))⟩, HT⟩
            · obtain ⟨z, hsz⟩ : ∃ z, z = s := ⟨_, rfl⟩
              subst hsz
              have hne : z.toList.isEmpty = true := by rw [hse]; exact emp_yes
              have HX := Aside0.mk hx
              clear hx hse
              obtain ⟨y, hy⟩ : ∃ y, str (curB b) = y := ⟨_, rfl⟩
              have HY := Aside0.mk hy
              clear hy
              go_wp2_with (go_at_call 11; (with_reducible refine (read_yes HJ.out (i := 60 + n) r HRN.out HB.out).mono ?_); rintro e w9 ⟨v9, rfl, hr9, hj9, hc9⟩; obtain ⟨g9, c9, e9, hg9, hl9, hC9⟩ := row64 hr9 HX64.out; subst e9; have HC9 := Aside0.mk hC9; have HG9 := Aside0.mk hg9; have HL9 := Aside0.mk hl9; have HJ9 := Aside0.mk hj9; have HF9 := Aside0.mk (HF.out.ch hc9); have cs9 : w9.cell? ⟨gs, n, none⟩ = some (.string z) := (blk_cell HF9.out.hs n).trans HCT.out; have fs9 := blk_frozen HF9.out.hs n; clear hr9 hj9 hc9 hC9 hg9 hl9; have hca := (Kd.C_below HC9.out (below_alloc (Below.refl _ _) (.cells Z 5))); have hca2 := hca; rw [HX.out] at hca2; have hz9 : B.C (w9.alloc (.cells Z 5)) (some ⟨w9.heap.size, 0, none⟩) 64 zr64 := C_blk (blk_new w9 _) HZ.out (by decide) (by omega); have hcvz : (convert 23 9 (.slice (some ⟨w9.heap.size, 0, none⟩) 64 64)).run Try.prog (w9.alloc (.cells Z 5)) = .ok (.string y) (w9.alloc (.cells Z 5)) := (by rw [← HY.out, HX.out]; exact conv_str hz9); have hf30 := HF9.out.below (below_alloc (Below.refl _ _) (.cells Z 5)); have csz := (blk_cell hf30.hs n).trans HCT.out; have fsz := blk_frozen hf30.hs n; have HF30 := Aside0.mk (hf30.put n (.string y)); have HJ30 := Aside0.mk ((HJ9.out.below (below_alloc (Below.refl _ _) (.cells Z 5))).box (.string y) n HF9.out.ns); have HC30 := Aside0.mk (C_far hca (w1 := (w9.alloc (.cells Z 5)).setCell ⟨gs, n, none⟩ (.string y)) (fun ad e => (by obtain rfl := Option.some.inj e; exact heap_setCell_other _ _ _ _ (fun e2 => (by have h1 := blk_lt HF.out.hs; have h2 := HG9.out; have h3 : g9 = gs := e2; omega))))); clear hca hca2 hz9 hf30)
              have HSC : Aside0 (∀ W : World, Below ((w9.alloc (.cells Z 5)).setCell ⟨gs, n, none⟩ (.string y)).heap.size ((w9.alloc (.cells Z 5)).setCell ⟨gs, n, none⟩ (.string y)) W → W.cell? ⟨gs, n, none⟩ = some (.string y) ∧ (convert 23 9 (.slice (some ⟨g9, 0, none⟩) 64 c9)).run Try.prog W = .ok (.string y) W) := ⟨fun W hW => ⟨pw_cell_below hW ((blk_cell HF30.out.hs n).trans (Array.getElem?_setIfInBounds_self_of_lt (by have h1 := HT.out.1; have h2 := HLT.out; omega))), by rw [← HY.out]; exact conv_str (Kd.C_below HC30.out hW)⟩⟩
              have HT30 : Aside0 (Tab (Cl.setIfInBounds n (.string y)) (curL BO)) := ⟨by rw [← HY.out]; exact HT.out.put HLT.out HX64.out HL2.out (fun j _ => by rw [set_id HCU.out])⟩
              clear cs9 fs9 csz fsz hcvz
              refine start_ (n := 11) (S := fun w' => w'.cell? ⟨gs, n, none⟩ = some (.string y) ∧ (convert 23 9 (.slice (some ⟨g9, 0, none⟩) 64 c9)).run Try.prog w' = .ok (.string y) w') (ds := []) #[false, false, false, false, false, false, false, false, false, false, false] (by kernel_rfl) rfl rfl ⟨(HSC.out _ (below_drew (Below.refl _ _))).1, (HSC.out _ (below_drew (Below.refl _ _))).2⟩ (fun hHeld => ?_)
              refine pure_ (i := 0) (N := some 136) (v := ?_) (a' := ?_) #[true, false, false, false, false, false, false, false, false, false, false] rfl rfl (by kernel_rfl) (fun _ _ _ h => h) (Or.inl ⟨by rfl, ?_⟩) ?_ ?_
              rotate_left
              · intro w'
                go_simp
                with_reducible rfl
              rotate_left
              · simp only [Act.put, List.setIfInBounds_toArray, List.set_cons_zero, List.set_cons_succ, i64_w, i32_w]
                rfl
              refine pure_ (i := 1) (N := some 137) (v := ?_) (a' := ?_) #[true, true, false, false, false, false, false, false, false, false, false] rfl rfl (by kernel_rfl) (fun _ _ _ h => h) (Or.inl ⟨by rfl, ?_⟩) ?_ ?_
              rotate_left
              · intro w'
                go_simp
                with_reducible rfl
              rotate_left
              · simp only [Act.put, List.setIfInBounds_toArray, List.set_cons_zero, List.set_cons_succ, i64_w, i32_w]
                rfl
              refine pure_ (i := 2) (N := some 138) (v := ?_) (a' := ?_) #[true, true, true, false, false, false, false, false, false, false, false] rfl rfl (by kernel_rfl) (fun _ _ _ h => h) (Or.inl ⟨by rfl, ?_⟩) ?_ ?_
              rotate_left
              · intro w'
                go_simp
                with_reducible rfl
              rotate_left
              · simp only [Act.put, List.setIfInBounds_toArray, List.set_cons_zero, List.set_cons_succ, i64_w, i32_w]
                rfl
              refine pure_ (i := 3) (N := some 139) (v := ?_) (a' := ?_) #[true, true, true, true, false, false, false, false, false, false, false] rfl rfl (by kernel_rfl) (fun _ _ _ h => h) (Or.inl ⟨by rfl, ?_⟩) ?_ ?_
              rotate_left
              · intro w'
                go_simp
                with_reducible rfl
              rotate_left
              · simp only [Act.put, List.setIfInBounds_toArray, List.set_cons_zero, List.set_cons_succ, i64_w, i32_w]
                rfl
              refine pure_ (i := 5) (N := some 141) (v := ?_) (a' := ?_) #[true, true, true, true, false, true, false, false, false, false, false] rfl rfl (by kernel_rfl) (fun _ _ _ h => h) (Or.inl ⟨by rfl, ?_⟩) ?_ ?_
              rotate_left
              · intro w'
                go_simp
                with_reducible rfl
              rotate_left
              · simp only [Act.put, List.setIfInBounds_toArray, List.set_cons_zero, List.set_cons_succ, i64_w, i32_w]
                rfl
              refine pure_ (i := 6) (N := some 142) (v := ?_) (a' := ?_) #[true, true, true, true, false, true, true, false, false, false, false] rfl rfl (by kernel_rfl) (fun _ _ _ h => h) (Or.inl ⟨by rfl, ?_⟩) ?_ ?_
              rotate_left
              · intro w'
                go_simp
                with_reducible rfl
              rotate_left
              · simp only [Act.put, List.setIfInBounds_toArray, List.set_cons_zero, List.set_cons_succ, i64_w, i32_w]
                rfl
              refine pure_ (i := 7) (N := some 143) (v := ?_) (a' := ?_) #[true, true, true, true, false, true, true, true, false, false, false] rfl rfl (by kernel_rfl) (fun _ _ _ h => h) (Or.inl ⟨by rfl, ?_⟩) ?_ ?_
              rotate_left
              · intro w'
                go_simp
                with_reducible rfl
              rotate_left
              · simp only [Act.put, List.setIfInBounds_toArray, List.set_cons_zero, List.set_cons_succ, i64_w, i32_w]
                rfl
              refine take_ (i := 4) (N := some 140) (v := ?_) (a' := ?_) #[true, true, true, true, true, true, true, true, false, false, false] rfl rfl (by kernel_rfl) (fun _ _ _ h => h) (Or.inl ⟨by rfl, ?_⟩) hHeld ?_ ?_
              rotate_left
              · rintro w' ⟨s0, s1⟩
                go_simp
                with_reducible rfl
              rotate_left
              · simp only [Act.put, List.setIfInBounds_toArray, List.set_cons_zero, List.set_cons_succ, i64_w, i32_w]
                rfl
              refine take_ (i := 8) (N := some 144) (v := ?_) (a' := ?_) #[true, true, true, true, true, true, true, true, true, false, false] rfl rfl (by kernel_rfl) (fun _ _ _ h => h) (Or.inl ⟨by rfl, ?_⟩) hHeld ?_ ?_
              rotate_left
              · rintro w' ⟨s0, s1⟩
                go_simp
                with_reducible rfl
              rotate_left
              · simp only [Act.put, List.setIfInBounds_toArray, List.set_cons_zero, List.set_cons_succ, i64_w, i32_w]
                rfl
              refine pure_ (i := 9) (N := some 145) (v := ?_) (a' := ?_) #[true, true, true, true, true, true, true, true, true, true, false] rfl rfl (by kernel_rfl) (fun _ _ _ h => h) (Or.inl ⟨by rfl, ?_⟩) ?_ ?_
              rotate_left
              · intro w'
                go_simp
                with_reducible rfl
              rotate_left
              · simp only [Act.put, List.setIfInBounds_toArray, List.set_cons_zero, List.set_cons_succ, i64_w, i32_w]
                rfl
              refine pure_ (i := 10) (N := some 146) (v := ?_) (a' := ?_) #[true, true, true, true, true, true, true, true, true, true, true] rfl rfl (by kernel_rfl) (fun _ _ _ h => h) (Or.inl ⟨by rfl, ?_⟩) ?_ ?_
              rotate_left
              · intro w'
                go_simp
                with_reducible rfl
              rotate_left
              · simp only [Act.put, List.setIfInBounds_toArray, List.set_cons_zero, List.set_cons_succ, i64_w, i32_w]
                rfl
              refine done_ (by kernel_rfl) ?_

              go_wp2_with fail
              go_roundg (140 - (n + 1))
              case measure => exact meas HLT.out HGN.out
              case rel => exact ⟨n + 1, _, HLT.out, Nat.le_refl _, congrArg (Value.int .i64) (by omega), ⟨HF30.out.below (below_drew (Below.refl _ _))⟩, ⟨HJ30.out.below (below_drew (Below.refl _ _))⟩, HT30⟩
          · obtain rfl : n = 140 := by omega
            go_wp2_with fail
            go_ret
            exact ⟨rfl, HF.out.bl⟩
end Go.Proofs.Ytcihfmehbmficaa.Jrn
