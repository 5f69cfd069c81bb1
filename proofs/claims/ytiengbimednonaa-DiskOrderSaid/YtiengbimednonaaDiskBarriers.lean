/- For all texts, places and numbers: behind a barrier nothing is open, and a restart changes nothing. Conditions: the places are bytes. -/
import Derived.Test.YtiengbimednonaaDiskTexts
import Derived.StillTailTactics
namespace Go.Proofs.Ytiengbimednonaa.Disk
open Go Go.RowKit Go.Proofs.YtiengbimednonaaW.PrintWords Go.Proofs.YtiengbimednonaaW.PrintLast Go.Proofs.YtiengbimednonaaW.PrintMore
set_option linter.unusedVariables false
set_option linter.unusedSimpArgs false

theorem mk7 (w : World) : (Instr.makeSlice 31 (.int .i64 7) (.int .i64 7)).run Try.prog w = .ok (.slice (some ⟨w.heap.size, 0, none⟩) 7 7) (w.alloc (.cells (Array.replicate 7 (.string ByteArray.empty)) 9)) := by kernel_rfl
theorem nums_one (l : List Int) : ∀ v ∈ nums .u8 l, v.oneCell' = true := fun v hv => by
  simp only [nums, List.mem_map] at hv
  obtain ⟨_, _, rfl⟩ := hv
  rfl
theorem copy_src {w : World} {A : Option Addr} {m g : Nat} {x : List Int} (h : B.C w A m x) (hm : x.length = m) : 0 < (nums .u8 (x.take 64)).length → (some (⟨g, 0, none⟩ : Addr)) = some ⟨g, 0, none⟩ ∧ ∃ ad, A = some ad ∧ ∀ j v, (nums .u8 (x.take 64))[j]? = some v → w.cell? (ad.add j) = some v := by
  intro h0
  have hm0 : 0 < m := by
    rw [Go.Proofs.YtiengbimednonaaW.PrintWords.nums_length, List.length_take] at h0; omega
  obtain ⟨ad, e, _⟩ := Kd.at_int h 0 (by omega) (by omega)
  refine ⟨rfl, ad, e, fun j v hv => ?_⟩
  unfold nums at hv
  rw [List.getElem?_map, List.getElem?_take] at hv
  by_cases hj : j < 64
  · rw [if_pos hj] at hv
    cases hx : x[j]? with
    | none => rw [hx] at hv; cases hv
    | some y =>
      rw [hx] at hv
      obtain rfl := Option.some.inj hv
      have hjl : j < m := by rw [← hm]; exact (List.getElem?_eq_some_iff.1 hx).1
      obtain ⟨ad', e', hc⟩ := Kd.at_int h (j : Int) (by omega) (by omega)
      obtain rfl : ad = ad' := Option.some.inj (e.symm.trans e')
      rw [Int.toNat_natCast] at hc
      rw [hc]
      show some (Value.int .u8 (x.getD (j : Int).toNat 0)) = _
      rw [Int.toNat_natCast, List.getD_eq_getElem?_getD, hx]; rfl
  · rw [if_neg hj] at hv; cases hv
/-- The writes of the first k texts. -/
def wsN (m : Int) (ts : List (List Int)) (at_ : List Int) (k : Nat) : List Wr := (List.range k).map fun i : Nat => ⟨at_.getD i 0 % m, pad (ts.getD i [])⟩
theorem wsN_length (m : Int) (ts : List (List Int)) (at_ : List Int) (k : Nat) : (wsN m ts at_ k).length = k := by simp [wsN]
theorem wsN_succ (m : Int) (ts : List (List Int)) (at_ : List Int) (k : Nat) : wsN m ts at_ (k + 1) = wsN m ts at_ k ++ [⟨at_.getD k 0 % m, pad (ts.getD k [])⟩] := by simp [wsN, List.range_succ]
theorem wsN_ok (m : Nat) (hm : 1 ≤ m) (ts : List (List Int)) (at_ : List Int) (k : Nat) : badLen (wsN m ts at_ k) = false ∧ badTo m (wsN m ts at_ k) = false := by
  constructor
  · refine List.any_eq_false.2 fun x hx => ?_
    simp only [wsN, List.mem_map, List.mem_range] at hx
    obtain ⟨i, _, rfl⟩ := hx
    simp [pad_length]
  · refine List.any_eq_false.2 fun x hx => ?_
    simp only [wsN, List.mem_map, List.mem_range] at hx
    obtain ⟨i, _, rfl⟩ := hx
    have h1 := Int.emod_nonneg (at_.getD i 0) (show (m : Int) ≠ 0 by omega)
    have h2 := Int.emod_lt_of_pos (at_.getD i 0) (show (0 : Int) < (m : Int) by omega)
    rw [Bool.not_eq_true, Bool.or_eq_false_iff]
    exact ⟨decide_eq_false (by show ¬ (at_.getD i 0 % (m : Int) < 0); omega), decide_eq_false (by show ¬ ((m : Int) ≤ at_.getD i 0 % (m : Int)); omega)⟩
set_option maxHeartbeats 4000000 in
set_option maxRecDepth 100000 in
theorem barriers_calls (A0 : Option Addr) (c0 : Nat) (l0 : List (List Int)) (A1 : Option Addr) (c1 : Nat) (l1 : List Int) (A2 : Option Addr) (c2 : Nat) (l2 : List Int) (w : World)
    (hr0 : Kd.C (Kd.slice 5 B) w A0 l0.length l0) (hc0 : l0.length ≤ c0) (hr1 : Kd.C B w A1 l1.length l1) (hc1 : l1.length ≤ c1) (hr2 : Kd.C (Kd.int .i64) w A2 l2.length l2) (hc2 : l2.length ≤ c2)
    (h1 : ∀ x ∈ l1, (Lit.int .u8 x).wf = true) :
    Calls Try.prog 4 #[.slice A0 l0.length c0, .slice A1 l1.length c1, .slice A2 l2.length c2] w fun e w' => e = .returned (.bool true) ∧ Below w.heap.size w w' := by
  have HNL : Aside0 ((-1 : Int) ≤ 9223372036854775807) := ⟨by decide⟩
  have HN1 : Aside0 ((-1 : Int) ≠ 0) := ⟨by decide⟩
  have HN2 : Aside0 ((-1 : Int) ≤ 9223372036854775807) := ⟨by decide⟩
  have hmk := mk64
  generalize hZ : Array.replicate 64 (Value.int .u8 0) = Z at hmk
  have HZ : Aside0 (Z.toList = nums .u8 z64) := ⟨by subst hZ; rfl⟩
  have hmk7 := mk7
  generalize hY : Array.replicate 7 (Value.string ByteArray.empty) = Y at hmk7
  have HY : Aside0 (Y.size = 7) := ⟨by subst hY; rfl⟩
  have HR0 := Aside0.mk hr0
  have HR1 := Aside0.mk hr1
  have HR2 := Aside0.mk hr2
  have HW1 := Aside0.mk h1
  have hn0 := hr0.2.1
  have hn1 := hr1.2.1
  obtain ⟨n0, e0⟩ : ∃ n, l0.length = n := ⟨_, rfl⟩
  obtain ⟨n1, e1⟩ : ∃ n, l1.length = n := ⟨_, rfl⟩
  obtain ⟨n2, e2⟩ : ∃ n, l2.length = n := ⟨_, rfl⟩
  have HM0 := Aside0.mk e0
  have HM1 := Aside0.mk e1
  have HM2 := Aside0.mk e2
  rw [e0] at hn0 HR0
  rw [e1] at hn1 HR1
  rw [e2] at HR2
  have HA2 : Aside0 (0 < n2 → ∀ ad, A2 = some ad → ad.block < w.heap.size) := ⟨fun h ad e => by
    obtain ⟨ad', e', hc⟩ := Kd.at_int HR2.out 0 (by omega) (by omega)
    obtain rfl : ad = ad' := Option.some.inj (e.symm.trans e')
    exact World.block_lt_of_cell? _ _ hc⟩
  rw [e0, e1, e2]
  clear hZ hY hr0 hr1 hr2 h1 e0 e1 e2 hc0 hc1 hc2
  go_enter Try.func4, Try.ntmps4
  go_wp2_with (first | (go_at_call 8; (with_reducible refine (new_at 7 7 rfl (by omega) (by omega) _).mono ?_); rintro e w1 ⟨g, F, rfl, hd, hF, hb⟩; have HD := Aside0.mk hd; have HF := Aside0.mk hF; have HB := Aside0.mk hb; clear hd hF hb) | (go_at_call 9; (with_reducible refine (awake_calls _).mono ?_); rintro e w2 ⟨rfl, hb⟩; have HD2 := Aside0.mk (HD.out.below hb); have HB2 := Aside0.mk (HB.out.trans (hb.mono HB.out.size)); clear hb))
  have hFd : Aside0 (∀ j, F j → w.heap.size ≤ j ∧ j < w2.heap.size) := ⟨fun j hj => ⟨HF.out j hj, HD2.out.lt j hj⟩⟩
  obtain ⟨Wd, rfl⟩ : ∃ Wd : World, Wd = w2 := ⟨_, rfl⟩
  go_loopg [11] 7 (fun gg i wr => ∃ (k : Nat) (Cl : Array Value), k ≤ 7 ∧ 7 - k ≤ gg ∧ i = .int .i64 k ∧ Aside0 (wr.heap[Wd.heap.size + 1]? = some (.cells Cl 9 (0, 0))) ∧ Aside0 (Cl.size = 7 ∧ ∀ j, j < k → Cl[j]? = some (.string (str z64))) ∧ Aside0 (kW.R 34 wr Wd.heap.size (fun _ => True) (.slice (some ⟨Wd.heap.size, 0, none⟩) 0 0) []) ∧ Aside0 (Below Wd.heap.size Wd wr))
  case atStart =>
    have s1 : (Wd.alloc (.cells #[] 34)).heap.size = Wd.heap.size + 1 := Array.size_push _
    have h1 := blk_new (Wd.alloc (.cells #[] 34)) (.cells Y 9)
    rw [s1] at h1
    exact ⟨0, Y, by omega, Nat.le_refl _, rfl, ⟨h1⟩, ⟨HY.out, fun j h => absurd h (by omega)⟩, ⟨Kd.R_alloc (W_nil Wd _ (Nat.le_refl _)) _⟩, ⟨below_alloc (below_alloc (Below.refl _ _) _) _⟩⟩
  case round =>
    obtain ⟨k, Cl, hk, hgk, rfl, HCl, HCC, HO, HBl⟩ := hrel
    by_cases hlt : k < 7
    · have b1 : decide ((k : Int) < 7) = true := decide_eq_true (by omega)
      obtain ⟨u, hu⟩ : ∃ u, Cl[k]? = some u := ⟨_, Array.getElem?_eq_getElem (by have := HCC.out.1; omega)⟩
      have hcl : wr.cell? ⟨Wd.heap.size + 1, k, none⟩ = some u := (blk_cell HCl.out k).trans hu
      have hfl := blk_frozen HCl.out k
      have hgl := blk_lt HCl.out
      have hcv : (convert 23 9 (.slice (some ⟨wr.heap.size, 0, none⟩) 64 64)).run Try.prog (wr.alloc (.cells Z 5)) = .ok (.string (str z64)) (wr.alloc (.cells Z 5)) := conv_str (C_blk (blk_new _ _) HZ.out rfl (by omega))
      have hki : (k : Int) < 7 := by omega
      clear hu
      go_wp2_with fail
      go_roundg (7 - (k + 1))
      case measure => omega
      case rel =>
        refine ⟨k + 1, Cl.setIfInBounds k (.string (str z64)), by omega, Nat.le_refl _, by go_num, ⟨blk_alloc (blk_set HCl.out k _) _⟩, ⟨by rw [Array.size_setIfInBounds]; exact HCC.out.1, fun j hj => ?_⟩, ⟨Kd.R_alloc (Kd.R_set HO.out HCl.out (by decide) k _) _⟩, ⟨below_alloc (HBl.out.setCell (p := ⟨Wd.heap.size + 1, k, none⟩) (by show _ ≤ Wd.heap.size + 1; omega) _) _⟩⟩
        by_cases e : j = k
        · subst e
          rw [Array.getElem?_setIfInBounds_self_of_lt (by have := HCC.out.1; omega)]
        · rw [Array.getElem?_setIfInBounds_ne (by omega)]
          exact HCC.out.2 j (by omega)
    · have b1 : decide ((k : Int) < 7) = false := decide_eq_false (by omega)
      obtain rfl : k = 7 := by omega
      go_wp2_with fail
      have hCl : Cl = (strs (lastS (runs (newS 7).bs (wsN 7 l0 l1 0)))).toArray := by
        have e : (strs (lastS (runs (newS 7).bs (wsN 7 l0 l1 0)))).toArray = Array.replicate 7 (.string (str z64)) := rfl
        rw [e]
        apply Array.ext
        · rw [HCC.out.1, Array.size_replicate]
        · intro i h1 h2
          have h3 := HCC.out.2 i (by rw [HCC.out.1] at h1; exact h1)
          rw [Array.getElem?_eq_getElem h1] at h3
          rw [Array.getElem_replicate]
          exact Option.some.inj h3
      rw [hCl] at HCl
      clear HCC hCl hmk7 b1 hgk hlt hk
      go_loopg [9, 12] 40 (fun gg v9 i w' => ∃ (k : Nat), k ≤ n0 ∧ k ≤ n1 ∧ k ≤ 40 ∧ 40 - k ≤ gg ∧ i = .int .i64 k ∧ Aside0 (kW.R 34 w' Wd.heap.size (fun _ => True) v9 (wsN 7 l0 l1 k)) ∧ Aside0 (w'.heap[Wd.heap.size + 1]? = some (.cells (strs (lastS (runs (newS 7).bs (wsN 7 l0 l1 k)))).toArray 9 (0, 0))) ∧ Aside0 (Below Wd.heap.size Wd w'))
      case atStart => exact ⟨0, Nat.zero_le _, Nat.zero_le _, Nat.zero_le _, Nat.le_refl _, rfl, HO, HCl, HBl⟩
      case round =>
        clear HO HCl HBl
        obtain ⟨k, hk0, hk1, hk, hgk, rfl, HO, HCl, HBl⟩ := hrel
        by_cases hall : k < n0 ∧ k < n1 ∧ k < 40
        case pos =>
          obtain ⟨hl0, hl1, hl2⟩ := hall
          have b1 : decide (k < n0) = true := decide_eq_true hl0
          have b2 : decide (k < n1) = true := decide_eq_true hl1
          have b3 : decide ((k : Int) < 40) = true := decide_eq_true (by omega)
          obtain ⟨x, hx⟩ : ∃ x, l0[k]? = some x := ⟨_, List.getElem?_eq_getElem (by have := HM0.out; omega)⟩
          obtain ⟨ad0, Ax, cx, e0, hcx, hlx, hCx⟩ := at_row (Kd.C_below HR0.out (HB2.out.trans (HBl.out.mono HB2.out.size))) hx
          subst e0
          obtain ⟨ad1, e1, hy0⟩ := Kd.at_int HR1.out (k : Int) (by omega) (by omega)
          subst e1
          rw [Int.toNat_natCast] at hy0
          obtain ⟨y, hyk⟩ : ∃ y, rd l1 (k : Int) = y := ⟨_, rfl⟩
          have hyg : l1.getD k 0 = y := by rw [← hyk]; show _ = l1.getD (k : Int).toNat 0; rw [Int.toNat_natCast]
          have hy : 0 ≤ y ∧ y < 256 := by
            have h := HW1.out y (by
              rw [← hyg, List.getD_eq_getElem?_getD, List.getElem?_eq_getElem (by have := HM1.out; omega)]
              exact List.getElem_mem _)
            simp [Lit.wf, IntKind.min, IntKind.max, IntKind.signed, IntKind.bits] at h; omega
          rw [hyk] at hy0
          obtain ⟨hy1, hy2⟩ := hy
          obtain ⟨t, ht⟩ : ∃ t : Nat, y % 7 = t := ⟨(y % 7).toNat, by omega⟩
          have ht7 : t < 7 := by omega
          have ht7i : (t : Int) < 7 := by omega
          obtain ⟨m, hm⟩ : ∃ m, x.length = m := ⟨_, rfl⟩
          rw [hm] at hcx hCx
          have hxg : l0.getD k [] = x := by rw [List.getD_eq_getElem?_getD, hx]; rfl
          have HYG := Aside0.mk hyg
          have HXG := Aside0.mk hxg
          have HX := Aside0.mk hx
          have HM := Aside0.mk hm
          have HCX := Aside0.mk hCx
          have HY0 := Aside0.mk hy0
          have HT := Aside0.mk ht
          have htl : Aside0 ((x.take 64).length = Nat.min m 64) := ⟨by rw [List.length_take, ← hm]; exact Nat.min_comm _ _⟩
          have hcxa := pw_cell_below (below_alloc (Below.refl wr.heap.size wr) (.cells Z 5)) hcx
          have HLN : Aside0 (((wsN 7 l0 l1 k).length + 1) * 32 ≤ 140737488355328) := ⟨by rw [wsN_length]; omega⟩
          have hfitA : Aside0 (0 + (nums .u8 (x.take 64)).length ≤ Z.toList.length) := ⟨by rw [HZ.out, Go.Proofs.YtiengbimednonaaW.PrintWords.nums_length, Go.Proofs.YtiengbimednonaaW.PrintWords.nums_length, htl.out]; show 0 + Nat.min m 64 ≤ 64; rw [Nat.zero_add]; exact Nat.min_le_right _ _⟩
          clear hx hyk hyg hy0 hm hxg hCx hlx
          go_wp2_with (first | (with_reducible refine wpList_copy_splice (o := ⟨some 65, _, _, _, _, _⟩) ?ca (.tmp 60) (.tmp 64) 23 23 ?co 5 ?cu ?ci (some ⟨wr.heap.size, 0, none⟩) Ax 64 64 m cx ?cd ?cs wr.heap.size 0 Z.toList 5 ?cg (nums .u8 (x.take 64)) ?cn ?cp ?cf ?c1 wr.heap.size wr ?cb ?cl ?_; (case ca => rfl); (case co => rfl); (case cu => exact Try.underlying23); (case ci => kernel_rfl); (case cd => with_unfolding_all rfl); (case cs => with_unfolding_all rfl); (case cl => exact Nat.le_refl _); (case cg => exact blk_new wr _); (case cn => rw [Go.Proofs.YtiengbimednonaaW.PrintWords.nums_length]; exact htl.out); (case cp => exact copy_src (Kd.C_alloc HCX.out _) HM.out); (case cf => exact hfitA.out); (case c1 => exact nums_one _); (case cb => exact grown_below _ _); intro w3 hw3 hb3; have hg3 := hw3.out; rw [pad_splice HZ.out] at hg3; have HG3 := Aside0.mk hg3; have HB3 := Aside0.mk hb3; have HP3 : Aside0 (kW.M w3 Wd.heap.size (fun k => k = wr.heap.size) ⟨(t : Int), pad x⟩ [.int .i64 (t : Int), .slice (some ⟨wr.heap.size, 0, none⟩) 64 64]) := ⟨kW_mkM _ _ _ ⟨(t : Int), pad x⟩ (R_blk hg3 rfl (pad_length x) HBl.out.size rfl (by decide))⟩; have HO3 := Aside0.mk (Kd.R_below HO.out hb3); have HBw3 := Aside0.mk (HBl.out.trans (hb3.mono HBl.out.size)); have hy3 := pw_cell_below ((HB2.out.trans (HBl.out.mono HB2.out.size)).trans (HB3.out.mono (Nat.le_trans HB2.out.size HBl.out.size))) HY0.out; clear hw3 hb3 hg3) | ((with_reducible refine gate_builtin (b := .append) (xs := #[.tmp 66, .tmp 75]) rfl ?_); at_builtin; refine Kd.R_append kW (w0 := Wd) Wd.heap.size ?e1 (.tmp 66) (.tmp 75) 40 34 (.agg #[(.int .i64 0), (.slice none 0 0)]) 32 ?e2 Try.underlying40 infoW ?e3 (by decide) ?e4 ?vv (wsN 7 l0 l1 k) ⟨(t : Int), pad x⟩ [.int .i64 (t : Int), .slice (some ⟨wr.heap.size, 0, none⟩) 64 64] (fun _ => True) (fun k => k = wr.heap.size) ?e5 ?aX ?aP ?aK ?aF ?aO ?aB ?aS ?aL ?_; (case e1 => exact rfl); (case e2 => with_unfolding_all rfl); (case e3 => with_unfolding_all rfl); (case e4 => exact Nat.succ_pos 31); (case e5 => with_unfolding_all rfl); (case aX => with_unfolding_all rfl); (case aP => exact HP3.out); (case aK => exact fun k hk => ⟨trivial, fun e => by subst hk; exact absurd (Kd.R_lt HO.out _ e.symm) (Nat.lt_irrefl _)⟩); (case aF => exact fun _ _ => trivial); (case aO => exact HO3.out); (case aB => exact HBw3.out); (case aS => exact HBw3.out.size); (case aL => exact HLN.out); intro v4 w4 ho hb hg hat; have HO4 := Aside0.mk ho; have HB4 := Aside0.mk hb; have HG4 := Aside0.mk hg; clear ho hb hg hat))
          have hgd4 : w4.heap[wr.heap.size]? = some (.cells (nums .u8 (pad x)).toArray 5 (0, 0)) := blk_grown HG3.out HG4.out (Kd.R_ne_new HO.out 0)
          have hl3 := blk_below HCl.out HB3.out
          have hl4 := blk_grown hl3 HG4.out (Kd.R_ne HO3.out hl3 (by decide))
          have hy4 := pw_cell_below (HB2.out.trans (HB4.out.mono HB2.out.size)) HY0.out
          obtain ⟨s, hs⟩ : ∃ s, str (pad x) = s := ⟨_, rfl⟩
          have hC4 : B.C w4 (some ⟨wr.heap.size, 0, none⟩) 64 (pad x) := C_blk hgd4 rfl (pad_length x) (by omega)
          have hcv : (convert 23 9 (.slice (some ⟨wr.heap.size, 0, none⟩) 64 64)).run Try.prog w4.drew = .ok (.string s) w4.drew := by rw [← hs]; exact conv_str (Kd.C_drewN hC4 1)
          have HSX := Aside0.mk hs
          have HL4 := Aside0.mk hl4
          have hcl4 : ∃ u, w4.cell? ⟨Wd.heap.size + 1, t, none⟩ = some u := by
            have hlen : t < (strs (lastS (runs (newS 7).bs (wsN 7 l0 l1 k)))).toArray.size := by
              rw [List.size_toArray, strs, List.length_map, lastS, List.length_map, runs_length]; exact ht7
            exact ⟨_, (blk_cell hl4 t).trans (Array.getElem?_eq_getElem hlen)⟩
          obtain ⟨u, hcl4⟩ := hcl4
          have hfl4 := blk_frozen hl4 t
          have hgl4 := blk_lt hl4
          clear hgd4 hl3 hl4 hC4 hs
          have htm : y.tmod 7 = (t : Int) := (Int.tmod_eq_emod_of_nonneg hy1).trans ht
          go_still_tail 9, (by kernel_rfl)
          obtain ⟨W4, hW4⟩ : ∃ W4, w4.drewN 1 = W4 := ⟨_, rfl⟩
          have HWE := Aside0.mk hW4
          change wpList _ _ _ _ _ (w4.drewN 1)
          have hcl5 : W4.cell? ⟨Wd.heap.size + 1, t, none⟩ = some u := by rw [← hW4]; exact hcl4
          have hl5 : W4.heap[Wd.heap.size + 1]? = some (.cells (strs (lastS (runs (newS 7).bs (wsN 7 l0 l1 k)))).toArray 9 (0, 0)) := by rw [← hW4]; exact HL4.out
          have hfl5 := blk_frozen hl5 t
          have hgl5 := blk_lt hl5
          have HL5 := Aside0.mk hl5
          have HO5 : Aside0 (kW.R 34 W4 Wd.heap.size (fun _ => True) v4 (wsN 7 l0 l1 k ++ [⟨(t : Int), pad x⟩])) := ⟨by rw [← hW4]; exact Kd.R_drewN HO4.out 1⟩
          have HB5 : Aside0 (Below Wd.heap.size Wd W4) := ⟨by rw [← hW4]; exact pw_below_drewN HB4.out 1⟩
          rw [hW4]
          clear hcl4 hfl4 hgl4 hl5 hcv hy4 hW4 HO4 HB4 HG4 HL4
          go_wp2_with fail
          go_roundg (40 - (k + 1))
          case measure => omega
          case rel =>
            refine ⟨k + 1, by omega, by omega, by omega, Nat.le_refl _, by go_num, ?_, ?_, ?_⟩
            · have e := wsN_succ 7 l0 l1 k
              rw [HYG.out, HXG.out, HT.out] at e
              refine ⟨?_⟩
              rw [e]
              exact Kd.R_set HO5.out HL5.out (by decide) t _
            · have e := wsN_succ 7 l0 l1 k
              rw [HYG.out, HXG.out, HT.out] at e
              have h := blk_set HL5.out t (.string s)
              rw [← HSX.out, strs_set, ← lastS_push] at h
              refine ⟨?_⟩
              rw [e, runs_snoc]
              rw [← HSX.out]
              exact h
            · exact ⟨HB5.out.setCell (p := ⟨Wd.heap.size + 1, t, none⟩) (by show _ ≤ Wd.heap.size + 1; omega) _⟩
        have hcases : (¬ k < n0) ∨ (k < n0 ∧ ¬ k < n1) ∨ (k < n0 ∧ k < n1 ∧ ¬ k < 40) := by omega
        clear hall
        rcases hcases with h0 | ⟨h0, h1⟩ | ⟨h0, h1, h2⟩
        case' inl =>
          have b1 : decide (k < n0) = false := decide_eq_false h0
          clear h0
        case' inr.inl =>
          have b1 : decide (k < n0) = true := decide_eq_true h0
          have b2 : decide (k < n1) = false := decide_eq_false h1
          clear h0 h1
        case' inr.inr =>
          have b1 : decide (k < n0) = true := decide_eq_true h0
          have b2 : decide (k < n1) = true := decide_eq_true h1
          have b3 : decide ((k : Int) < 40) = false := decide_eq_false (by omega)
          clear h0 h1 h2
        all_goals
          obtain ⟨Al, cl, hv⟩ := Kd.R_slice HO.out
          rw [wsN_length] at hv
          subst hv
          have hput : putF (newS 7) (wsN 7 l0 l1 k) = (⟨false, -1, runs (newS 7).bs (wsN 7 l0 l1 k)⟩, 0) := by
            obtain ⟨g1, g2⟩ := wsN_ok 7 (by omega) l0 l1 k
            rw [show ((7 : Nat) : Int) = 7 from rfl] at g1 g2
            unfold putF
            rw [if_neg (by decide), g1, if_neg (by decide), show (newS 7).bs.length = 7 from rfl, g2, if_neg (by decide)]
            exact putRun_free _ _
          have hcon := put_at (HD2.out.below HBl.out) rfl HNL.out Al cl k (wsN 7 l0 l1 k) (wsN_length _ _ _ _) (RW.of_R HO.out (fun j hj _ hF => absurd (hFd.out j hF).2 (Nat.not_lt.2 hj))) (by omega) (fun i b hi => by obtain ⟨_, rfl⟩ := newS_at hi; show 0 + k ≤ _; omega)
          rw [hput] at hcon
          have HCON := Aside0.mk hcon
          obtain ⟨BS, hBS⟩ : ∃ BS, runs (newS 7).bs (wsN 7 l0 l1 k) = BS := ⟨_, rfl⟩
          have hBl : BS.length = 7 := by rw [← hBS, runs_length]; rfl
          rw [hBS] at HCl HCON
          have HBLEN := Aside0.mk hBl
          clear hcon hput hBS hBl HO
          go_wp2_with (first | (go_at_call 10; (with_reducible refine HCON.out.mono ?_); rintro e w5 ⟨rfl, hp⟩; obtain ⟨F5, hd5, hc5⟩ := hp; have HD5 := Aside0.mk hd5; have HC5 := Aside0.mk hc5; clear hd5 hc5) | (go_at_call 14; (with_reducible refine (barrier_at HD5.out rfl HN1.out HN2.out).mono ?_); rintro e w6 ⟨rfl, hp⟩; obtain ⟨F6, hd6, hc6⟩ := hp; have HD6 := Aside0.mk hd6; have HC6 := Aside0.mk (HC5.out.trans hc6); clear hd6 hc6))
          have HF6 : Aside0 (∀ j, F6 j → w.heap.size ≤ j ∧ j ≠ Wd.heap.size + 1) := ⟨fun j hj => by
            have hgl := blk_lt HCl.out
            have hs := HB2.out.size
            rcases HC6.out.new j hj with h | h
            · have := hFd.out j h; omega
            · have := HBl.out.size; omega⟩
          have HL6 : Aside0 (w6.heap[Wd.heap.size + 1]? = some (.cells (strs (lastS BS)).toArray 9 (0, 0))) := ⟨(HC6.out.far _ (blk_lt HCl.out) (fun h => by have := (hFd.out _ h).2; omega)).trans HCl.out⟩
          have HB6 : Aside0 (Below w.heap.size w w6) := ⟨(HB2.out.trans (HBl.out.mono HB2.out.size)).trans (HC6.out.below (fun j hj => (hFd.out j hj).1) (Nat.le_trans HB2.out.size HBl.out.size))⟩
          clear HCl HBl HC5 HC6 HD5 HCON
          have HD6' : Aside0 (DW w6 F6 g ⟨false, (spendS false (-1)).2.1, BS.map kb⟩) := HD6
          clear HD6
          obtain ⟨W6, rfl⟩ : ∃ W6 : World, W6 = w6 := ⟨_, rfl⟩
          go_loopg [14] 7 (fun gg i w' => ∃ (j : Nat), j ≤ 7 ∧ 7 - j ≤ gg ∧ i = .int .i64 j ∧ Aside0 (W6 = w'))
          case atStart => exact ⟨0, Nat.zero_le _, Nat.le_refl _, rfl, ⟨rfl⟩⟩
          case round =>
            obtain ⟨j, hj, hgj, rfl, HWE⟩ := hrel
            obtain rfl := HWE.out
            by_cases hjl : j < 7
            case pos =>
              obtain ⟨b, hb⟩ : ∃ b, BS[j]? = some b := ⟨_, List.getElem?_eq_getElem (by have := HBLEN.out; omega)⟩
              have hbk : (BS.map kb)[j]? = some (kb b) := by rw [List.getElem?_map, hb]; rfl
              have HOP := Aside0.mk (open_at HD6'.out (i := j) (b := kb b) (j : Int) rfl hbk 0 (by rw [kb_eq]; rfl))
              have b4 : decide ((j : Int) < 7) = true := decide_eq_true (by omega)
              clear hb hbk
              go_wp2_with (go_at_call 13; (with_reducible refine HOP.out.mono ?_); rintro e w' ⟨rfl, rfl⟩)
              go_roundg (7 - (j + 1))
              case measure => omega
              case rel => exact ⟨j + 1, by omega, Nat.le_refl _, by go_num, ⟨rfl⟩⟩
            have b4 : decide ((j : Int) < 7) = false := decide_eq_false (by omega)
            have hres := restart_at HD6'.out A2 n2 c2 l2 HM2.out (Kd.C_below HR2.out HB6.out) (fun h0 ad e h => by have := HA2.out h0 ad e; have := (HF6.out _ h).1; omega) (fun h0 ad e => Nat.lt_of_lt_of_le (HA2.out h0 ad e) HB6.out.size)
            have hst : (⟨false, -1, (BS.map kb).mapIdx (fun i b => keepB b (l2.getD i 0))⟩ : DS) = ⟨false, -1, BS.map kb⟩ := by rw [restart_kb]
            have HRES := Aside0.mk hres
            have HST := Aside0.mk hst
            clear hres hst HWE hjl hj hgj
            go_wp2_with (go_at_call 11; (with_reducible refine HRES.out.mono ?_); rintro e w7 ⟨rfl, hp⟩; obtain ⟨F7, hd7, hc7⟩ := hp; have HD7 := Aside0.mk hd7; have HC7 := Aside0.mk hc7; clear hd7 hc7)
            have HD7' : Aside0 (DW w7 F7 g ⟨false, -1, BS.map kb⟩) := ⟨HST.out ▸ HD7.out⟩
            have HL7 : Aside0 (w7.heap[Wd.heap.size + 1]? = some (.cells (strs (lastS BS)).toArray 9 (0, 0))) := ⟨(HC7.out.far _ (blk_lt HL6.out) (fun h => (HF6.out _ h).2 rfl)).trans HL6.out⟩
            have HB7 : Aside0 (Below w.heap.size w w7) := ⟨HB6.out.trans (HC7.out.below (fun j hj => (HF6.out j hj).1) HB6.out.size)⟩
            clear HD7 HC7 HRES HST b4
            obtain ⟨W7, rfl⟩ : ∃ W7 : World, W7 = w7 := ⟨_, rfl⟩
            go_loopg [15] 7 (fun gg i w' => ∃ (j : Nat), j ≤ 7 ∧ 7 - j ≤ gg ∧ i = .int .i64 j ∧ Aside0 (Below W7.heap.size W7 w'))
            case atStart => exact ⟨0, Nat.zero_le _, Nat.le_refl _, rfl, ⟨Below.refl _ _⟩⟩
            case round =>
              obtain ⟨j, hj, hgj, rfl, HBW⟩ := hrel
              by_cases hjl : j < 7
              case pos =>
                obtain ⟨b, hb⟩ : ∃ b, BS[j]? = some b := ⟨_, List.getElem?_eq_getElem (by have := HBLEN.out; omega)⟩
                have hbk : (BS.map kb)[j]? = some (kb b) := by rw [List.getElem?_map, hb]; rfl
                obtain ⟨s, hs⟩ : ∃ s, str (curB b) = s := ⟨_, rfl⟩
                have hls : (strs (lastS BS)).toArray[j]? = some (.string s) := by
                  rw [List.getElem?_toArray, strs, List.getElem?_map, lastS, List.getElem?_map, hb, ← hs]; rfl
                have hkb : curB (kb b) = curB b := by rw [kb_eq]; rfl
                have hget := get_at (HD7'.out.below HBW.out) rfl (i := j) (b := kb b) (j : Int) rfl hbk
                rw [hkb] at hget
                have HGET := Aside0.mk hget
                have HLS := Aside0.mk hls
                have HS := Aside0.mk hs
                have b4 : decide ((j : Int) < 7) = true := decide_eq_true (by omega)
                have hjz : (j : Int) < 7 := by omega
                clear hb hbk hs hls hkb hget
                go_wp2_with (go_at_call 12; (with_reducible refine HGET.out.mono ?_); rintro e w8 ⟨v8, rfl, hr, hb8⟩; obtain ⟨A8, c8, rfl⟩ := Kd.R_slice hr; have HC8 := Aside0.mk (Kd.R_reads' hr).2.2; have HB8 := Aside0.mk (HBW.out.trans (hb8.mono HBW.out.size)); clear hr hb8)
                have hcv : ∀ m : Nat, (convert 23 9 (.slice A8 (curB b).length c8)).run Try.prog (w8.drewN m) = .ok (.string s) (w8.drewN m) := fun m => by rw [← HS.out]; exact conv_str (Kd.C_drewN HC8.out m)
                have hl8 := blk_below HL7.out HB8.out
                have hcl8 : w8.cell? ⟨Wd.heap.size + 1, j, none⟩ = some (.string s) := (blk_cell hl8 j).trans HLS.out
                clear hl8
                go_quiet (fail)
                go_wp2_with fail
                go_roundg (7 - (j + 1))
                case measure => omega
                case rel => exact ⟨j + 1, by omega, Nat.le_refl _, by go_num, ⟨pw_below_drewN HB8.out _⟩⟩
              have b4 : decide ((j : Int) < 7) = false := decide_eq_false (by omega)
              go_wp2_with fail
              go_ret
              exact ⟨rfl, HB7.out.trans (HBW.out.mono HB7.out.size)⟩
end Go.Proofs.Ytiengbimednonaa.Disk
