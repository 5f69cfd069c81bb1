/- For all texts, places and numbers: after a restart each block holds a prefix of its writes in their order. Conditions: the places are bytes. -/
import Derived.Test.YtiengbimednonaaDiskBarriers
import Derived.Test.YtiengbimednonaaDiskStates
import Derived.StillTailTactics
namespace Go.Proofs.Ytiengbimednonaa.Disk
open Go Go.RowKit Go.Proofs.YtiengbimednonaaW.PrintWords Go.Proofs.YtiengbimednonaaW.PrintLast Go.Proofs.YtiengbimednonaaW.PrintMore
set_option linter.unusedVariables false
set_option linter.unusedSimpArgs false
theorem mk6 (w : World) : (Instr.makeSlice 30 (.int .i64 6) (.int .i64 6)).run Try.prog w = .ok (.slice (some ⟨w.heap.size, 0, none⟩) 6 6) (w.alloc (.cells (Array.replicate 6 (.slice none 0 0)) 31)) := by kernel_rfl
theorem infoS : (Try.prog.info? 9).map (fun i => (i.zero, i.size, i.bytes)) = some (some (.string ByteArray.empty), 1, 16) := by kernel_rfl
/-- The rows behind k rounds of the first loop. -/
def xs0 (k : Nat) : List (List ByteArray) := (List.range 6).map fun i => if i < k then [str z64] else []
theorem xs0_succ (k : Nat) (hk : k < 6) : (xs0 k).set k [str z64] = xs0 (k + 1) := by
  apply List.ext_getElem?
  intro i
  unfold xs0
  rw [List.getElem?_set, List.length_map, List.length_range, List.getElem?_map, List.getElem?_map]
  by_cases e : k = i
  · subst e
    rw [if_pos rfl, if_pos hk, List.getElem?_range hk]
    simp
  · rw [if_neg e]
    by_cases hi : i < 6
    · rw [List.getElem?_range hi]
      have : (i < k) ↔ (i < k + 1) := by omega
      simp [this]
    · rw [List.getElem?_eq_none (by simp; omega)]
      rfl
theorem R_str {w : World} {base b : Nat} {ok : Nat → Prop} {s : ByteArray} (hb : w.heap[b]? = some (.cells #[.string s] 9 (0, 0))) (hbase : base ≤ b) (hok : ok b) : Kd.string.R 9 w base ok (.slice (some ⟨b, 0, none⟩) 1 1) [s] := by
  refine Kd.R_of_own (enc := Value.string) (h1 := fun _ => rfl) ⟨rfl, .inr ⟨b, 1, #[.string s], rfl, hbase, hb, Nat.le_refl _, by decide, rfl, ?_⟩⟩ (fun k hk => by
    simp [Value.ownBlock] at hk; subst hk; exact hok)
  rfl
theorem xs0_done : xs0 6 = (newS 6).bs.map texts := rfl
theorem Sx.start (w : World) {F : Nat → Prop} {base : Nat} {Y : Array Value} (hY : Y = Array.replicate 6 (.slice none 0 0)) (hF : ∀ j, F j → j < w.heap.size) : Sx (w.alloc (.cells Y 31)) F base w.heap.size Y (xs0 0) := by
  have hv : ∀ (i : Nat) (v : Value), Y[i]? = some v → v = .slice none 0 0 := by
    intro i v h
    rw [hY, Array.getElem?_replicate] at h
    split at h
    · exact (Option.some.inj h).symm
    · cases h
  refine ⟨blk_new _ _, by rw [hY]; rfl, fun i v x h hx => ?_, fun i j vi vj _ hi _ k hk => ?_, fun h => Nat.lt_irrefl _ (hF _ h)⟩
  · rw [hv i v h]
    obtain rfl : x = [] := by
      unfold xs0 at hx
      rw [List.getElem?_map] at hx
      cases hr : (List.range 6)[i]? with
      | none => rw [hr] at hx; cases hx
      | some y => rw [hr] at hx; exact (Option.some.inj hx).symm
    exact Kd.R_nil _ _ _ _ _
  · rw [hv i vi hi] at hk
    simp [Value.ownBlock] at hk
set_option maxHeartbeats 4000000 in
set_option maxRecDepth 100000 in
theorem order_calls (A0 : Option Addr) (c0 : Nat) (l0 : List (List Int)) (A1 : Option Addr) (c1 : Nat) (l1 : List Int) (A2 : Option Addr) (c2 : Nat) (l2 : List Int) (w : World)
    (hr0 : Kd.C (Kd.slice 5 B) w A0 l0.length l0) (hc0 : l0.length ≤ c0) (hr1 : Kd.C B w A1 l1.length l1) (hc1 : l1.length ≤ c1) (hr2 : Kd.C (Kd.int .i64) w A2 l2.length l2) (hc2 : l2.length ≤ c2)
    (h1 : ∀ x ∈ l1, (Lit.int .u8 x).wf = true) :
    Calls Try.prog 3 #[.slice A0 l0.length c0, .slice A1 l1.length c1, .slice A2 l2.length c2] w fun e w' => e = .returned (.bool true) ∧ Below w.heap.size w w' := by
  have hmk := mk64
  generalize hZ : Array.replicate 64 (Value.int .u8 0) = Z at hmk
  have HZ : Aside0 (Z.toList = nums .u8 z64) := ⟨by subst hZ; rfl⟩
  have hmk6 := mk6
  generalize hY : Array.replicate 6 (Value.slice none 0 0) = Y at hmk6
  have HYE := Aside0.mk hY.symm
  have HR0 := Aside0.mk hr0
  have HR1 := Aside0.mk hr1
  have HR2 := Aside0.mk hr2
  have HW1 := Aside0.mk h1
  have hn0 := hr0.2.1
  have hn1 := hr1.2.1
  have hn2 := hr2.2.1
  obtain ⟨n0, e0⟩ : ∃ n, l0.length = n := ⟨_, rfl⟩
  obtain ⟨n1, e1⟩ : ∃ n, l1.length = n := ⟨_, rfl⟩
  obtain ⟨n2, e2⟩ : ∃ n, l2.length = n := ⟨_, rfl⟩
  have HM0 := Aside0.mk e0
  have HM1 := Aside0.mk e1
  have HM2 := Aside0.mk e2
  rw [e0] at hn0 HR0
  rw [e1] at hn1 HR1
  rw [e2] at hn2 HR2
  have HA2 : Aside0 (0 < n2 → ∀ ad, A2 = some ad → ad.block < w.heap.size) := ⟨fun h ad e => by
    obtain ⟨ad', e', hc⟩ := Kd.at_int HR2.out 0 (by omega) (by omega)
    obtain rfl : ad = ad' := Option.some.inj (e.symm.trans e')
    exact World.block_lt_of_cell? _ _ hc⟩
  rw [e0, e1, e2]
  clear hZ hY hr0 hr1 hr2 h1 e0 e1 e2 hc0 hc1 hc2
  go_enter Try.func3, Try.ntmps3
  go_wp2_with (first | (go_at_call 8; (with_reducible refine (new_at 6 6 rfl (by omega) (by omega) _).mono ?_); rintro e w1 ⟨g, F, rfl, hd, hF, hb⟩; have HD := Aside0.mk hd; have HF := Aside0.mk hF; have HB := Aside0.mk hb; clear hd hF hb) | (go_at_call 9; (with_reducible refine (awake_calls _).mono ?_); rintro e w2 ⟨rfl, hb⟩; have HD2 := Aside0.mk (HD.out.below hb); have HB2 := Aside0.mk (HB.out.trans (hb.mono HB.out.size)); clear hb))
  have hFd : Aside0 (∀ j, F j → w.heap.size ≤ j ∧ j < w2.heap.size) := ⟨fun j hj => ⟨HF.out j hj, HD2.out.lt j hj⟩⟩
  obtain ⟨Wd, rfl⟩ : ∃ Wd : World, Wd = w2 := ⟨_, rfl⟩
  go_loopg [10] 6 (fun gg i wr => ∃ (k : Nat) (C : Array Value), k ≤ 6 ∧ 6 - k ≤ gg ∧ i = .int .i64 k ∧ Aside0 (Sx wr F w.heap.size Wd.heap.size C (xs0 k)) ∧ Aside0 (Below Wd.heap.size Wd wr))
  case atStart => exact ⟨0, Y, by omega, Nat.le_refl _, rfl, ⟨Sx.start Wd HYE.out (fun j hj => (hFd.out j hj).2)⟩, ⟨below_alloc (Below.refl _ _) _⟩⟩
  case round =>
    obtain ⟨k, C, hk, hgk, rfl, HX, HBl⟩ := hrel
    by_cases hlt : k < 6
    · have b1 : decide ((k : Int) < 6) = true := decide_eq_true (by omega)
      have hsz : C.size = 6 := HX.out.sz
      obtain ⟨u, hu⟩ : ∃ u, C[k]? = some u := ⟨_, Array.getElem?_eq_getElem (by omega)⟩
      have HU := Aside0.mk hu
      have hcl : wr.cell? ⟨Wd.heap.size, k, none⟩ = some u := (blk_cell HX.out.hb k).trans hu
      have hfl := blk_frozen HX.out.hb k
      have hgl := blk_lt HX.out.hb
      have hcv : (convert 23 9 (.slice (some ⟨wr.heap.size, 0, none⟩) 64 64)).run Try.prog (wr.alloc (.cells Z 5)) = .ok (.string (str z64)) (wr.alloc (.cells Z 5)) := conv_str (C_blk (blk_new _ _) HZ.out rfl (by omega))
      have hki : (k : Int) < 6 := by omega
      clear hu hsz
      go_wp2_with fail
      go_roundg (6 - (k + 1))
      case measure => omega
      case rel =>
        obtain ⟨x, hx⟩ : ∃ x, (xs0 k)[k]? = some x := ⟨_, List.getElem?_eq_getElem (by simp [xs0]; omega)⟩
        have hsl : Below wr.heap.size wr ((wr.alloc (.cells Z 5)).alloc (.cells #[.string (str z64)] 9)) := below_alloc (below_alloc (Below.refl _ _) _) _
        have s1 : (wr.alloc (.cells Z 5)).heap.size = wr.heap.size + 1 := Array.size_push _
        have hbn := blk_new (wr.alloc (.cells Z 5)) (.cells #[.string (str z64)] 9)
        rw [s1] at hbn
        refine ⟨k + 1, C.setIfInBounds k (.slice (some ⟨wr.heap.size + 1, 0, none⟩) 1 1), by omega, Nat.le_refl _, by go_num, ⟨?_⟩, ⟨below_alloc (below_alloc (HBl.out.setCell (p := ⟨Wd.heap.size, k, none⟩) (Nat.le_refl _) _) _) _⟩⟩
        rw [← World.setCell_alloc_past (hn := hgl), ← World.setCell_alloc_past (hn := by rw [s1]; omega), ← xs0_succ k hlt]
        have hbase := (HB2.out.trans (HBl.out.mono HB2.out.size)).size
        exact HX.out.put HU.out hsl.size (fun j hj _ => hsl.block j hj) (Kd.R_ne (HX.out.row k u x HU.out hx) HX.out.hb (by decide)) (R_str hbn (by omega) (fun hF => by have h2 : wr.heap.size + 1 < Wd.heap.size := (hFd.out _ hF).2; have := HBl.out.size; omega)) (.inr ⟨wr.heap.size + 1, rfl, by omega⟩)
    · have b1 : decide ((k : Int) < 6) = false := decide_eq_false (by omega)
      obtain rfl : k = 6 := by omega
      go_wp2_with fail
      have HX6 : Aside0 (Sx wr F w.heap.size Wd.heap.size C ((newS 6).bs.map texts)) := HX
      have HBw : Aside0 (Below w.heap.size w wr) := ⟨HB2.out.trans (HBl.out.mono HB2.out.size)⟩
      have HD6 : Aside0 (DW wr F g ⟨false, -1, (newS 6).bs⟩) := ⟨HD2.out.below HBl.out⟩
      clear HX HBl hmk6 b1 hgk hlt hk
      go_loopg [11] 50 (fun gg i w' => ∃ (k : Nat) (BS : List Blk) (C1 : Array Value) (F1 : Nat → Prop), k ≤ n0 ∧ k ≤ n1 ∧ k ≤ 50 ∧ 50 - k ≤ gg ∧ i = .int .i64 k ∧ Aside0 (DW w' F1 g ⟨false, -1, BS⟩) ∧ Aside0 (Sx w' F1 w.heap.size Wd.heap.size C1 (BS.map texts)) ∧ Aside0 (Below w.heap.size w w') ∧ Aside0 (∀ j, F1 j → w.heap.size ≤ j) ∧ Aside0 (BS.length = 6 ∧ ∀ (i : Nat) (b : Blk), BS[i]? = some b → b.opn.length ≤ k))
      case atStart => exact ⟨0, _, C, F, Nat.zero_le _, Nat.zero_le _, Nat.zero_le _, Nat.le_refl _, rfl, HD6, HX6, HBw, ⟨fun j hj => (hFd.out j hj).1⟩, ⟨rfl, fun i b hi => by obtain ⟨_, rfl⟩ := newS_at hi; exact Nat.le_refl _⟩⟩
      case round =>
        clear HX6 HBw HD6
        obtain ⟨k, BS, C1, F1, hk0, hk1, hk, hgk, rfl, HD, HX, HBl, HF1, HBS⟩ := hrel
        by_cases hall : k < n0 ∧ k < n1 ∧ k < 50
        case pos =>
          obtain ⟨hl0, hl1, hl2⟩ := hall
          have b1 : decide (k < n0) = true := decide_eq_true hl0
          have b2 : decide (k < n1) = true := decide_eq_true hl1
          have b3 : decide ((k : Int) < 50) = true := decide_eq_true (by omega)
          obtain ⟨x, hx⟩ : ∃ x, l0[k]? = some x := ⟨_, List.getElem?_eq_getElem (by have := HM0.out; omega)⟩
          obtain ⟨ad0, Ax, cx, e0, hcx, hlx, hCx⟩ := at_row (Kd.C_below HR0.out HBl.out) hx
          subst e0
          obtain ⟨ad1, e1, hy0⟩ := Kd.at_int HR1.out (k : Int) (by omega) (by omega)
          subst e1
          rw [Int.toNat_natCast] at hy0
          obtain ⟨y, hyk⟩ : ∃ y, rd l1 (k : Int) = y := ⟨_, rfl⟩
          have hyg : l1.getD k 0 = y := by rw [← hyk]; show _ = l1.getD (k : Int).toNat 0; rw [Int.toNat_natCast]
          have hy : 0 ≤ y ∧ y < 256 := by
            have h := HW1.out y (by
              rw [← hyg, List.getD_eq_getElem?_getD, List.getElem?_eq_getElem (by have := HM1.out; omega)]
              exact List.getElem_mem _)
            simp [Lit.wf, IntKind.min, IntKind.max, IntKind.signed, IntKind.bits] at h; omega
          rw [hyk] at hy0
          obtain ⟨hy1, hy2⟩ := hy
          obtain ⟨t, ht⟩ : ∃ t : Nat, y % 6 = t := ⟨(y % 6).toNat, by omega⟩
          have ht6 : t < 6 := by omega
          have ht6i : (t : Int) < 6 := by omega
          obtain ⟨m, hm⟩ : ∃ m, x.length = m := ⟨_, rfl⟩
          rw [hm] at hcx hCx
          have HM := Aside0.mk hm
          have HCX := Aside0.mk hCx
          have HY0 := Aside0.mk hy0
          have htl : Aside0 ((x.take 64).length = Nat.min m 64) := ⟨by rw [List.length_take, ← hm]; exact Nat.min_comm _ _⟩
          have hfitA : Aside0 (0 + (nums .u8 (x.take 64)).length ≤ Z.toList.length) := ⟨by rw [HZ.out, Go.Proofs.YtiengbimednonaaW.PrintWords.nums_length, Go.Proofs.YtiengbimednonaaW.PrintWords.nums_length, htl.out]; show 0 + Nat.min m 64 ≤ 64; rw [Nat.zero_add]; exact Nat.min_le_right _ _⟩
          have hcxa := pw_cell_below (below_alloc (Below.refl wr.heap.size wr) (.cells Z 5)) hcx
          have HCAP : Aside0 (∀ (i : Nat) (b : Blk), BS[i]? = some b → b.opn.length + 1 ≤ 2199023255551) := ⟨fun i b hi => by have := HBS.out.2 i b hi; omega⟩
          have HNF : Aside0 (¬ F1 wr.heap.size) := ⟨fun h => Nat.lt_irrefl _ (HD.out.lt _ h)⟩
          have HT6 := Aside0.mk ht6
          clear hx hyk hyg hy0 hm hCx hlx
          go_wp2_with (first | (with_reducible refine wpList_copy_splice (o := ⟨some 65, _, _, _, _, _⟩) ?ca (.tmp 60) (.tmp 64) 23 23 ?co 5 ?cu ?ci (some ⟨wr.heap.size, 0, none⟩) Ax 64 64 m cx ?cd ?cs wr.heap.size 0 Z.toList 5 ?cg (nums .u8 (x.take 64)) ?cn ?cp ?cf ?c1 wr.heap.size wr ?cb ?cl ?_; (case ca => rfl); (case co => rfl); (case cu => exact Try.underlying23); (case ci => kernel_rfl); (case cd => with_unfolding_all rfl); (case cs => with_unfolding_all rfl); (case cl => exact Nat.le_refl _); (case cg => exact blk_new wr _); (case cn => rw [Go.Proofs.YtiengbimednonaaW.PrintWords.nums_length]; exact htl.out); (case cp => exact copy_src (Kd.C_alloc HCX.out _) HM.out); (case cf => exact hfitA.out); (case c1 => exact nums_one _); (case cb => exact grown_below _ _); intro w3 hw3 hb3; have hg3 := hw3.out; rw [pad_splice HZ.out] at hg3; have HG3 := Aside0.mk hg3; have HB3 := Aside0.mk hb3; have hy3 := pw_cell_below (HBl.out.trans (HB3.out.mono HBl.out.size)) HY0.out; have HPUT := Aside0.mk (put_one (HD.out.below hb3) HBS.out.1 HT6.out (pad_length x) hg3 HNF.out HCAP.out); clear hw3 hb3 hg3) | (go_at_call 10; (with_reducible refine HPUT.out.mono ?_); rintro e w5 ⟨rfl, hp⟩; obtain ⟨F5, hd5, hc5⟩ := hp; have HD5 := Aside0.mk hd5; have HC5 := Aside0.mk ((Ch.of_below F1 (below_alloc HB3.out _)).trans hc5); have HC53 := Aside0.mk hc5; clear hd5 hc5))
          have HX5 := Aside0.mk (HX.out.ch HC5.out)
          obtain ⟨vt, hvt⟩ : ∃ vt, C1[t]? = some vt := ⟨_, Array.getElem?_eq_getElem (by rw [HX.out.sz, List.length_map, HBS.out.1]; exact ht6)⟩
          obtain ⟨b, hbt⟩ : ∃ b, BS[t]? = some b := ⟨_, List.getElem?_eq_getElem (by rw [HBS.out.1]; exact ht6)⟩
          obtain ⟨tx, htx⟩ : ∃ tx, texts b = tx := ⟨_, rfl⟩
          have htl2 := texts_length b
          rw [htx] at htl2
          have hbo := HBS.out.2 t b hbt
          have HCB : Aside0 (tx.length ≤ 60) := ⟨by omega⟩
          have hrow : Kd.string.R 9 w5 w.heap.size (fun k => ¬ F5 k) vt tx := HX5.out.row t vt tx hvt (by rw [List.getElem?_map, hbt, ← htx]; rfl)
          have HROW := Aside0.mk hrow
          obtain ⟨s, hs⟩ : ∃ s, str (pad x) = s := ⟨_, rfl⟩
          have hbw5 : Below w.heap.size w w5 := HBl.out.trans (HC5.out.below HF1.out HBl.out.size)
          have HBW5 := Aside0.mk hbw5
          have hgz5 : w5.heap[wr.heap.size]? = some (.cells (nums .u8 (pad x)).toArray 5 (0, 0)) := (HC53.out.far _ (by have := blk_lt HG3.out; rw [World.size_alloc]; omega) HNF.out).trans (blk_alloc HG3.out _)
          have HVT := Aside0.mk hvt
          have HBT := Aside0.mk hbt
          have HTX := Aside0.mk htx
          have HSX := Aside0.mk hs
          have HSV : Aside0 (∀ W : World, Below w5.heap.size w5 W → W.cell? ⟨Wd.heap.size, t, none⟩ = some vt) := ⟨fun W hW => pw_cell_below hW ((blk_cell HX5.out.hb t).trans hvt)⟩
          have HCV : Aside0 (∀ W : World, Below w5.heap.size w5 W → (convert 23 9 (.slice (some ⟨wr.heap.size, 0, none⟩) 64 64)).run Try.prog W = .ok (.string s) W) := ⟨fun W hW => by rw [← hs]; exact conv_str (C_blk (blk_below hgz5 hW) rfl (pad_length x) (by omega))⟩
          have HRO : Aside0 (∀ W : World, Below w5.heap.size w5 W → Kd.string.R 9 W w.heap.size (fun k => ¬ F5 k) vt tx) := ⟨fun W hW => Kd.R_below hrow hW⟩
          have HBW : Aside0 (∀ W : World, Below w5.heap.size w5 W → Below w.heap.size w W) := ⟨fun W hW => hbw5.trans (hW.mono hbw5.size)⟩
          have HFR : Aside0 (∀ W : World, Below w5.heap.size w5 W → ∀ k, W.heap.size ≤ k → ¬ F5 k) := ⟨fun W hW k hk hF => by have := HD5.out.lt k hF; have := hW.size; omega⟩
          have HGW : Aside0 (∀ W : World, Below w5.heap.size w5 W → W.heap[Wd.heap.size]? = some (.cells C1 31 (0, 0))) := ⟨fun W hW => blk_below HX5.out.hb hW⟩
          have HNE : Aside0 (some Wd.heap.size ≠ vt.ownBlock) := ⟨Kd.R_ne hrow HX5.out.hb (by decide)⟩
          have htz : (0 : Int) ≤ (t : Int) := by omega
          clear hvt hbt htx htl2 hbo hrow hs hbw5 hgz5
          refine start_ (n := 12) (S := fun w' => w'.cell? ⟨Wd.heap.size, t, none⟩ = some vt ∧ (convert 23 9 (.slice (some ⟨wr.heap.size, 0, none⟩) 64 64)).run Try.prog w' = .ok (.string s) w') (ds := [9, 11]) #[false, false, false, false, false, false, false, false, false, false, false, false] (by kernel_rfl) rfl rfl ⟨HSV.out _ (below_drew (Below.refl _ _)), HCV.out _ (below_drew (Below.refl _ _))⟩ (fun hHeld => ?_)
          refine pure_ (i := 0) (N := some 79) (v := ?_) (a' := ?_) #[true, false, false, false, false, false, false, false, false, false, false, false] rfl rfl (by kernel_rfl) (fun _ _ _ h => h) (Or.inl ⟨by rfl, ?_⟩) ?_ ?_
          rotate_left
          · intro w'
            go_simp
            with_reducible rfl
          rotate_left
          · simp only [Act.put, List.setIfInBounds_toArray, List.set_cons_zero, List.set_cons_succ, i64_w, i32_w]
            rfl
          refine pure_ (i := 1) (N := some 80) (v := ?_) (a' := ?_) #[true, true, false, false, false, false, false, false, false, false, false, false] rfl rfl (by kernel_rfl) (fun _ _ _ h => h) (Or.inl ⟨by rfl, ?_⟩) ?_ ?_
          rotate_left
          · intro w'
            go_simp
            with_reducible rfl
          rotate_left
          · simp only [Act.put, List.setIfInBounds_toArray, List.set_cons_zero, List.set_cons_succ, i64_w, i32_w]
            rfl
          refine pure_ (i := 2) (N := some 81) (v := ?_) (a' := ?_) #[true, true, true, false, false, false, false, false, false, false, false, false] rfl rfl (by kernel_rfl) (fun _ _ _ h => h) (Or.inl ⟨by rfl, ?_⟩) ?_ ?_
          rotate_left
          · intro w'
            go_simp
            with_reducible rfl
          rotate_left
          · simp only [Act.put, List.setIfInBounds_toArray, List.set_cons_zero, List.set_cons_succ, i64_w, i32_w]
            rfl
          refine pure_ (i := 3) (N := some 82) (v := ?_) (a' := ?_) #[true, true, true, true, false, false, false, false, false, false, false, false] rfl rfl (by kernel_rfl) (fun _ _ _ h => h) (Or.inl ⟨by rfl, ?_⟩) ?_ ?_
          rotate_left
          · intro w'
            go_simp
            with_reducible rfl
          rotate_left
          · simp only [Act.put, List.setIfInBounds_toArray, List.set_cons_zero, List.set_cons_succ, i64_w, i32_w]
            rfl
          refine pure_ (i := 4) (N := some 83) (v := ?_) (a' := ?_) #[true, true, true, true, true, false, false, false, false, false, false, false] rfl rfl (by kernel_rfl) (fun _ _ _ h => h) (Or.inl ⟨by rfl, ?_⟩) ?_ ?_
          rotate_left
          · intro w'
            go_simp
            with_reducible rfl
          rotate_left
          · simp only [Act.put, List.setIfInBounds_toArray, List.set_cons_zero, List.set_cons_succ, i64_w, i32_w]
            rfl
          refine pure_ (i := 6) (N := some 85) (v := ?_) (a' := ?_) #[true, true, true, true, true, false, true, false, false, false, false, false] rfl rfl (by kernel_rfl) (fun _ _ _ h => h) (Or.inl ⟨by rfl, ?_⟩) ?_ ?_
          rotate_left
          · intro w'
            go_simp
            with_reducible rfl
          rotate_left
          · simp only [Act.put, List.setIfInBounds_toArray, List.set_cons_zero, List.set_cons_succ, i64_w, i32_w]
            rfl
          refine take_ (i := 5) (N := some 84) (v := ?_) (a' := ?_) #[true, true, true, true, true, true, true, false, false, false, false, false] rfl rfl (by kernel_rfl) (fun _ _ _ h => h) (Or.inl ⟨by rfl, ?_⟩) hHeld ?_ ?_
          rotate_left
          · rintro w' ⟨s0, s1⟩
            go_simp
            with_reducible rfl
          rotate_left
          · simp only [Act.put, List.setIfInBounds_toArray, List.set_cons_zero, List.set_cons_succ, i64_w, i32_w]
            rfl
          refine take_ (i := 7) (N := some 86) (v := ?_) (a' := ?_) #[true, true, true, true, true, true, true, true, false, false, false, false] rfl rfl (by kernel_rfl) (fun _ _ _ h => h) (Or.inl ⟨by rfl, ?_⟩) hHeld ?_ ?_
          rotate_left
          · rintro w' ⟨s0, s1⟩
            go_simp
            with_reducible rfl
          rotate_left
          · simp only [Act.put, List.setIfInBounds_toArray, List.set_cons_zero, List.set_cons_succ, i64_w, i32_w]
            rfl
          refine one_ (i := 8) (N := some 87) #[true, true, true, true, true, true, true, true, true, false, false, false] rfl rfl (by kernel_rfl) (by decide) (fun K hK => ?_)
          refine value_ (w1 := ?_) (v := ?_) (by rfl) rfl ?_ ?_
          rotate_left 2
          · go_simp
            constructor
            · rfl
            · rfl
          refine hK.out _ _ ⟨HSV.out _ (below_alloc (below_drew (Below.refl _ _)) _), HCV.out _ (below_alloc (below_drew (Below.refl _ _)) _)⟩ (fun hHeld => ?_)
          clear hK K
          refine norm_ (a' := ?_) ?_ ?_
          rotate_left
          · show Act.put _ (some 87) _ = _
            simp only [Act.put, List.setIfInBounds_toArray, List.set_cons_zero, List.set_cons_succ, i64_w, i32_w]
            rfl
          refine last_ (i := 9) (N := some 88) #[true, true, true, true, true, true, true, true, true, true, false, false] rfl rfl (by kernel_rfl) (by decide) (fun K hK => ?_)
          refine Kd.R_append_step Kd.string (w0 := w) (W := w5.drew) w.heap.size (by rfl) (.tmp 84) (.tmp 87) 31 9 (.string ByteArray.empty) 16 rfl Try.underlying31 infoS (by rfl) (by decide) (by omega) vt tx s [.string s] (fun k => ¬ F5 k) (fun _ => False) (by rfl) (by rfl) ?hp ?hk ?hf ?hO ?hB ?hz ?hl ?_
          case hp => exact rfl
          case hk => exact fun _ h => h.elim
          case hf => exact HFR.out _ (below_drew (Below.refl _ _))
          case hO => exact HRO.out _ (below_drew (Below.refl _ _))
          case hB => exact HBW.out _ (below_drew (Below.refl _ _))
          case hz => exact (HBW.out _ (below_drew (Below.refl _ _))).size
          case hl => have := HCB.out; omega
          intro v6 w6 ho6 hb6 hg6 hat6
          obtain ⟨A6, c6, rfl⟩ := Kd.R_slice ho6
          have HO6 := Aside0.mk ho6
          have HB6 := Aside0.mk hb6
          have HG6 := Aside0.mk hg6
          have HT6 := Aside0.mk hat6
          have hb6_ := blk_grown (HGW.out _ (below_drew (Below.refl _ _))) HG6.out HNE.out
          have cc6 := (blk_cell hb6_ t).trans HVT.out
          have ff6 := blk_frozen hb6_ t
          clear ho6 hb6 hg6 hat6 hb6_
          refine hK.out _ _ ?_
          clear hK K
          refine norm_ (a' := ?_) ?_ ?_
          rotate_left
          · show Act.put _ (some 88) _ = _
            simp only [Act.put, List.setIfInBounds_toArray, List.set_cons_zero, List.set_cons_succ, i64_w, i32_w]
            rfl
          refine pure_ (i := 10) (N := some 89) (v := ?_) (a' := ?_) #[true, true, true, true, true, true, true, true, true, true, true, false] rfl rfl (by kernel_rfl) (fun _ _ _ h => h) (Or.inl ⟨by rfl, ?_⟩) ?_ ?_
          rotate_left
          · intro w'
            go_simp
            with_reducible rfl
          rotate_left
          · simp only [Act.put, List.setIfInBounds_toArray, List.set_cons_zero, List.set_cons_succ, i64_w, i32_w]
            rfl
          refine last_ (i := 11) (N := none) #[true, true, true, true, true, true, true, true, true, true, true, true] rfl rfl (by kernel_rfl) (by decide) (fun K hK => ?_)
          refine skip_ (w1 := ?_) (by rfl) rfl ?_ ?_
          rotate_left
          · go_simp
            rfl
          refine hK.out _ _ ?_
          clear hK K
          refine done_ (by kernel_rfl) ?_

          go_wp2_with fail
          go_roundg (50 - (k + 1))
          case measure => omega
          case rel =>
            have hX := HX5.out.below (below_drew (Below.refl _ _))
            have hXp := hX.put HVT.out HG6.out.size (fun j hj hne => HG6.out.block j hj hne) HNE.out HO6.out HT6.out
            have el : (tx ++ [s]).length = tx.length + 1 := by simp
            have em : (BS.map texts).set t (tx ++ [s]) = (BS.modify t (push (pad x))).map texts := by rw [← HTX.out, ← HSX.out, texts_modify BS t (pad x) b HBT.out]
            rw [el, em] at hXp
            refine ⟨k + 1, BS.modify t (push (pad x)), C1.setIfInBounds t _, F5, by omega, by omega, by omega, Nat.le_refl _, by go_num, ⟨?_⟩, ⟨hXp⟩, ⟨HB6.out.setCell (p := ⟨Wd.heap.size, t, none⟩) HB2.out.size _⟩, ⟨fun j hj => ?_⟩, ⟨by rw [List.length_modify]; exact HBS.out.1, fun i b' hi => ?_⟩⟩
            · exact HD5.out.kept (fun j hj => (heap_setCell_other _ _ j _ (fun e => HX5.out.far (by have e2 : j = Wd.heap.size := e; exact e2 ▸ hj))).trans (HG6.out.block j (HD5.out.lt j hj) (fun e => HROW.out.1 j e.symm hj))) (by rw [World.size_setCell]; exact HG6.out.size)
            · exact (HC5.out.new j hj).elim (HF1.out j) (fun h => Nat.le_trans HBl.out.size h)
            · rw [List.getElem?_modify] at hi
              cases hb : BS[i]? with
              | none => rw [hb] at hi; cases hi
              | some b0 =>
                rw [hb] at hi
                have h0 := HBS.out.2 i b0 hb
                have h2 := Option.some.inj hi
                subst h2
                split
                · show (b0.opn ++ [pad x]).length ≤ k + 1
                  simp; omega
                · exact Nat.le_succ_of_le h0
        have hcases : (¬ k < n0) ∨ (k < n0 ∧ ¬ k < n1) ∨ (k < n0 ∧ k < n1 ∧ ¬ k < 50) := by omega
        clear hall
        rcases hcases with h0 | ⟨h0, h1⟩ | ⟨h0, h1, h2⟩
        case' inl =>
          have b1 : decide (k < n0) = false := decide_eq_false h0
          clear h0
        case' inr.inl =>
          have b1 : decide (k < n0) = true := decide_eq_true h0
          have b2 : decide (k < n1) = false := decide_eq_false h1
          clear h0 h1
        case' inr.inr =>
          have b1 : decide (k < n0) = true := decide_eq_true h0
          have b2 : decide (k < n1) = true := decide_eq_true h1
          have b3 : decide ((k : Int) < 50) = false := decide_eq_false (by omega)
          clear h0 h1 h2
        all_goals
          have hres := restart_at HD.out A2 n2 c2 l2 HM2.out (Kd.C_below HR2.out HBl.out) (fun h0 ad e h => by have := HA2.out h0 ad e; have := HF1.out _ h; omega) (fun h0 ad e => Nat.lt_of_lt_of_le (HA2.out h0 ad e) HBl.out.size)
          have HRES := Aside0.mk hres
          clear hres
          go_wp2_with (go_at_call 11; (with_reducible refine HRES.out.mono ?_); rintro e w7 ⟨rfl, hp⟩; obtain ⟨F7, hd7, hc7⟩ := hp; have HD7 := Aside0.mk hd7; have HC7 := Aside0.mk hc7; clear hd7 hc7)
          have HX7 := Aside0.mk (HX.out.ch HC7.out)
          have HB7 : Aside0 (Below w.heap.size w w7) := ⟨HBl.out.trans (HC7.out.below HF1.out HBl.out.size)⟩
          obtain ⟨W7, rfl⟩ : ∃ W7 : World, W7 = w7 := ⟨_, rfl⟩
          clear HD HX HC7 HRES HF1
          go_loopg [14] 6 (fun gg i w' => ∃ (j : Nat), j ≤ 6 ∧ 6 - j ≤ gg ∧ i = .int .i64 j ∧ Aside0 (Below W7.heap.size W7 w'))
          case atStart => exact ⟨0, Nat.zero_le _, Nat.le_refl _, rfl, ⟨Below.refl _ _⟩⟩
          case round =>
            obtain ⟨j, hj, hgj, rfl, HBW⟩ := hrel
            by_cases hjl : j < 6
            case pos =>
              obtain ⟨b, hb⟩ : ∃ b, BS[j]? = some b := ⟨_, List.getElem?_eq_getElem (by rw [HBS.out.1]; exact hjl)⟩
              obtain ⟨m, hm⟩ : ∃ m, l2.getD j 0 = m := ⟨_, rfl⟩
              have hbk : (BS.mapIdx (fun i b => keepB b (l2.getD i 0)))[j]? = some (keepB b m) := by rw [List.getElem?_mapIdx, hb, ← hm]; rfl
              have hcur : curB (keepB b m) = (keepB b m).last := rfl
              have htext := keep_text b m
              have hlb := HBS.out.2 j b hb
              obtain ⟨p, hp⟩ : ∃ p, keepN b m = p := ⟨_, rfl⟩
              have hpe : p = (min m (b.opn.length : Int)).toNat := hp.symm
              rw [hp, ← hcur] at htext
              obtain ⟨s, hs⟩ : ∃ s, str (curB (keepB b m)) = s := ⟨_, rfl⟩
              rw [hs] at htext
              have hlt' := texts_length b
              obtain ⟨tx, htx⟩ : ∃ tx, texts b = tx := ⟨_, rfl⟩
              rw [htx] at htext hlt'
              obtain ⟨vt, hvt⟩ : ∃ vt, C1[j]? = some vt := ⟨_, Array.getElem?_eq_getElem (by rw [HX7.out.sz, List.length_map, HBS.out.1]; exact hjl)⟩
              have hrow := HX7.out.row j vt tx hvt (by rw [List.getElem?_map, hb, ← htx]; rfl)
              obtain ⟨At, ct, rfl⟩ := Kd.R_slice hrow
              obtain ⟨ad2, e2, hcs⟩ := at_text (Kd.R_reads' hrow).2.2 htext
              subst e2
              obtain ⟨L, hL⟩ : ∃ L, tx.length = L := ⟨_, rfl⟩
              rw [hL] at hlt' hvt
              have hst : wr.cell? ⟨Wd.heap.size, j, none⟩ = some (.slice (some ad2) L ct) := pw_cell_below HBW.out ((blk_cell HX7.out.hb j).trans hvt)
              have hjz : (j : Int) < 6 := by omega
              have b4 : decide ((j : Int) < 6) = true := decide_eq_true hjz
              have hpL : (p : Int) < (L : Int) := by omega
              have hgo := open_at (HD7.out.below HBW.out) (i := j) (b := keepB b m) (j : Int) rfl hbk 0 rfl
              have HOPN : Aside0 (∀ W : World, Below wr.heap.size wr W → Calls Try.prog 13 #[.pointer (some ⟨g, 0, none⟩), .int .i64 (j : Int)] W fun e w' => e = .returned (.int .i64 0) ∧ W = w') := ⟨fun W hW => open_at ((HD7.out.below HBW.out).below hW) (i := j) (b := keepB b m) (j : Int) rfl hbk 0 rfl⟩
              have HGET := Aside0.mk (get_at (HD7.out.below HBW.out) rfl (i := j) (b := keepB b m) (j : Int) rfl hbk)
              have HS := Aside0.mk hs
              have HCS := Aside0.mk (pw_cell_below HBW.out hcs)
              have HST := Aside0.mk hst
              have HBW7 : Aside0 (Below w.heap.size w wr) := ⟨HB7.out.trans (HBW.out.mono HB7.out.size)⟩
              have hall : (¬ j < n2 ∧ p = 0) ∨ (j < n2 ∧ ¬ 0 < m ∧ p = 0) ∨ (j < n2 ∧ 0 < m ∧ ¬ (L : Int) ≤ m ∧ m = (p : Int)) ∨ (j < n2 ∧ 0 < m ∧ (L : Int) ≤ m ∧ (L : Int) - 1 = (p : Int)) := by
                by_cases hjn : j < n2
                · omega
                · have hm0 : m = 0 := by rw [← hm, List.getD_eq_getElem?_getD, List.getElem?_eq_none (by have := HM2.out; omega)]; rfl
                  omega
              have hL61 : L ≤ 61 := by have := HBS.out.2; omega
              clear hgo hb hbk hcur htext hlb hp hpe hs htx hvt hrow hcs hL hlt'
              have hrd : rd l2 (j : Int) = m := by rw [← hm]; show l2.getD (j : Int).toNat 0 = _; rw [Int.toNat_natCast]
              have HRD := Aside0.mk hrd
              clear hm hrd
              rcases hall with ⟨q1, q2⟩ | ⟨q1, q2, q3⟩ | ⟨q1, q2, q3, q4⟩ | ⟨q1, q2, q3, q4⟩
              case' inl =>
                subst q2
                have b5 : decide (j < n2) = false := decide_eq_false q1
                have b6 : decide ((L : Int) ≤ 0) = false := decide_eq_false (by omega)
                have HCI : Aside0 (wr.cell? ad2 = some (.string s)) := ⟨by have h := HCS.out; rwa [Addr.add_zero'] at h⟩
                have HCJ := HCI
                clear q1
              case' inr.inl =>
                subst q3
                obtain ⟨ad3, e3, hm3⟩ := Kd.at_int (Kd.C_below HR2.out HBW7.out) (j : Int) (by omega) (by omega)
                subst e3
                rw [Int.toNat_natCast, HRD.out] at hm3
                have b5 : decide (j < n2) = true := decide_eq_true q1
                have b6 : decide (0 < m) = false := decide_eq_false q2
                have b7 : decide ((L : Int) ≤ 0) = false := decide_eq_false (by omega)
                have hjn : (j : Int) < (n2 : Int) := by omega
                have HCI : Aside0 (wr.cell? ad2 = some (.string s)) := ⟨by have h := HCS.out; rwa [Addr.add_zero'] at h⟩
                have HCJ := HCI
                clear q1 q2
              case' inr.inr.inl =>
                obtain ⟨ad3, e3, hm3⟩ := Kd.at_int (Kd.C_below HR2.out HBW7.out) (j : Int) (by omega) (by omega)
                subst e3
                rw [Int.toNat_natCast, HRD.out] at hm3
                have b5 : decide (j < n2) = true := decide_eq_true q1
                have b6 : decide (0 < m) = true := decide_eq_true q2
                have b7 : decide ((L : Int) ≤ m) = false := decide_eq_false q3
                have hjn : (j : Int) < (n2 : Int) := by omega
                have hm0 : 0 ≤ m := by omega
                have hmL : m < (L : Int) := by omega
                have HCI : Aside0 (wr.cell? (ad2.add m.toNat) = some (.string s)) := ⟨by rw [q4, Int.toNat_natCast]; exact HCS.out⟩
                have HCJ := HCI
                clear q1 q2 q3 q4
              case' inr.inr.inr =>
                obtain ⟨ad3, e3, hm3⟩ := Kd.at_int (Kd.C_below HR2.out HBW7.out) (j : Int) (by omega) (by omega)
                subst e3
                rw [Int.toNat_natCast, HRD.out] at hm3
                have b5 : decide (j < n2) = true := decide_eq_true q1
                have b6 : decide (0 < m) = true := decide_eq_true q2
                have b7 : decide ((L : Int) ≤ m) = true := decide_eq_true q3
                have hjn : (j : Int) < (n2 : Int) := by omega
                have hm0 : 0 ≤ (L : Int) - 1 := by omega
                have hm1 : (1 : Int) ≤ (L : Int) := by omega
                have hm2 : 1 ≤ L := by omega
                have hm4 : 0 < L := by omega
                have hmL : (L : Int) - 1 < (L : Int) := by omega
                have HCI : Aside0 (wr.cell? (ad2.add ((L : Int) - 1).toNat) = some (.string s)) := ⟨by rw [q4, Int.toNat_natCast]; exact HCS.out⟩
                have HCJ : Aside0 (wr.cell? (ad2.add (L - 1)) = some (.string s)) := ⟨by rw [show L - 1 = p by omega]; exact HCS.out⟩
                clear q1 q2 q3 q4
              all_goals
                go_wp2_with (go_at_call 12; (with_reducible refine HGET.out.mono ?_); rintro e w8 ⟨v8, rfl, hr, hb8⟩; obtain ⟨A8, c8, rfl⟩ := Kd.R_slice hr; have HC8 := Aside0.mk (Kd.R_reads' hr).2.2; have HB8 := Aside0.mk hb8; clear hr hb8)
                have hcv : ∀ n : Nat, (convert 23 9 (.slice A8 (curB (keepB b m)).length c8)).run Try.prog (w8.drewN n) = .ok (.string s) (w8.drewN n) := fun n => by rw [← HS.out]; exact conv_str (Kd.C_drewN HC8.out n)
                have hst8 := pw_cell_below HB8.out HST.out
                have hcs8 := pw_cell_below HB8.out HCI.out
                have hcs9 := pw_cell_below HB8.out HCJ.out
                go_quiet ((go_at_call 13; refine Calls.quiet_of_same ((HOPN.out _ (pw_below_drewN HB8.out _)).mono fun e w' h => ⟨h.1, h.2.symm⟩)))
                go_wp2_with fail
                go_roundg (6 - (j + 1))
                case measure => omega
                case rel => exact ⟨j + 1, by omega, Nat.le_refl _, by go_num, ⟨pw_below_drewN (HBW.out.trans (HB8.out.mono HBW.out.size)) _⟩⟩
            have b4 : decide ((j : Int) < 6) = false := decide_eq_false (by omega)
            go_wp2_with fail
            go_ret
            exact ⟨rfl, HB7.out.trans (HBW.out.mono HB7.out.size)⟩
end Go.Proofs.Ytiengbimednonaa.Disk
