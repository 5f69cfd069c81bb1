/- For all worlds: the law JournalAgain. Conditions: the bytes can be read. -/
import Derived.Test.YtcihfmehbmficaaJrn18
import Derived.Test.YtcihfmehbmficaaJrnArgs
namespace Go.Proofs.Ytcihfmehbmficaa.Jrn
open Go Go.RowKit Go.Maps Go.Proofs.YtcihfmehbmficaaW.PrintWords Go.Proofs.YtcihfmehbmficaaW.PrintLast Go.Proofs.YtcihfmehbmficaaW.PrintMore Go.Proofs.Ytcihfmehbmficaa.Disk Go.Proofs.Ytcihfmehbmficaa.Pure
set_option linter.unusedVariables false
set_option linter.unusedSimpArgs false
set_option maxRecDepth 100000
/-- A disk of 480 blocks behind k writes. -/
structure PB (k : Nat) (BS : List Blk) : Prop where
  len : BS.length = 480
  bl : Bl (BS.map curB)
  cap : Cap BS k
theorem PB.new : PB 0 (newS 480).bs := ⟨List.length_replicate, fun b hb => by
  obtain ⟨x, hx, rfl⟩ := List.mem_map.1 hb
  obtain rfl := List.eq_of_mem_replicate hx
  exact ⟨by decide, zr64_bytes⟩, new_cap 480⟩
theorem PB.push {k : Nat} {BS : List Blk} (h : PB k BS) {x : List Int} (hx : Go.Proofs.Ytcihfmehbmficaa.Spin.Bytes x) : PB (k + 1) (pushAll BS [⟨(k : Int), pad x⟩]) := by
  refine ⟨by rw [pushAll_length]; exact h.len, ?_, h.cap.push ⟨(k : Int), pad x⟩⟩
  show Bl ((BS.modify ((k : Int)).toNat (Disk.push (pad x))).map curB)
  rw [cur_mod]
  exact h.bl.set ⟨pad_length x, pad_bytes hx⟩ _
theorem pad_RWk {w6 : World} {F : Nat → Prop} {g gz : Nat} {s : DS} {l : List Int} (t : Int) (h6 : DW w6 F g s) (hg : w6.heap[gz]? = some (.cells (nums .u8 l).toArray 5 (0, 0))) (hl : l.length = 64) (hz : ¬ F gz) :
    RW (w6.alloc (.cells #[.int .i64 t, .slice (some ⟨gz, 0, none⟩) 64 64] 35)) F (some ⟨w6.heap.size, 0, none⟩) [⟨t, l⟩] := by
  have hb := below_alloc (Below.refl w6.heap.size w6) (.cells #[.int .i64 t, .slice (some ⟨gz, 0, none⟩) 64 64] 35)
  exact RW.one (blk_new w6 _) hl (Nat.le_refl _) (Kd.C_below (C_blk hg rfl hl (by omega)) hb) (by rw [World.size_alloc]; have := blk_lt hg; omega) (fun hn => by have := h6.lt _ hn; omega) hz
/-- What JournalAgain's disk comes to: BS as it was written, LL as look tells it, ws the writes, BS2 and BS3 behind the first Open and the second. -/
structure AgP (BS : List Blk) (LL : List (List Int)) (ws : List Wr) (a2 q2 : Int) (BS2 BS3 : List Blk) : Prop where
  hb : Go.Proofs.Ytcihfmehbmficaa.Super.headB a2 q2 = true
  wl : ws.length ≤ 1000
  fit : Fit BS.length ws
  e2 : BS2 = movB (pushAll BS ws) (headI64 a2 q2)
  e3 : BS3 = movB (pushAll BS2 []) (headI64 a2 q2)
  l1 : 1 < BS.length
  l2 : 1 < BS2.length
  c1 : Cap BS 1000
  c2 : Cap BS2 1000
  re : ∀ l : List Int, BS2.mapIdx (fun i b => keepB b (l.getD i 0)) = BS2
  lk1 : ∀ (W : World) (F : Nat → Prop) (g : Nat), DW W F g ⟨false, -1, BS⟩ → Calls Try.prog 27 #[.pointer (some ⟨g, 0, none⟩)] W (LkP W 480 LL ws a2 q2)
  lk2 : ∀ (W : World) (F : Nat → Prop) (g : Nat), DW W F g ⟨false, -1, BS2⟩ → Calls Try.prog 27 #[.pointer (some ⟨g, 0, none⟩)] W (LkP W 480 (BS2.map curB) [] a2 q2)
  same : ∀ i, i < 480 → ∃ b x, BS3[i]? = some b ∧ LL[i]? = some x ∧ (i ≠ 1 → curB b = x) ∧ (curB b).length = 64 ∧ x.length = 64
theorem ag_plain {BS : List Blk} (h : PB 480 BS) {a q : Int} (hh : headI ((BS.map curB).getD 1 []) = (a, q, 0)) (hB : Go.Proofs.Ytcihfmehbmficaa.Super.headB a q = true) : ∃ LL ws a2 q2 BS2 BS3, AgP BS LL ws a2 q2 BS2 BS3 := by
  have hlen : (BS.map curB).length = 480 := by rw [List.length_map]; exact h.len
  have h40 : (((BS.map curB).drop 19).take 40).length = 40 := by rw [List.length_take, List.length_drop, hlen]; rfl
  obtain ⟨r1, a2, q2, hf, hB2, hf2, hhm, hr1, hr2⟩ := find_ok h40 h.bl.log hB
  have hH : (headI64 a2 q2).length = 64 ∧ Go.Proofs.Ytcihfmehbmficaa.Spin.Bytes (headI64 a2 q2) := ⟨Go.Proofs.Ytcihfmehbmficaa.Field.sealI_length _ (Go.Proofs.Ytcihfmehbmficaa.Super.headP_length _ _), head_bytes a2 q2⟩
  have hLL : Bl (setAll (BS.map curB) r1.flatten) := h.bl.setAll _ hhm
  have hLLl : (setAll (BS.map curB) r1.flatten).length = 480 := by rw [setAll_length]; exact hlen
  have e2c : (movB (pushAll BS (r1.flatten.map cv)) (headI64 a2 q2)).map curB = (setAll (BS.map curB) r1.flatten).set 1 (headI64 a2 q2) := by rw [cur_mov, cur_pushAll]
  have hl2 : (movB (pushAll BS (r1.flatten.map cv)) (headI64 a2 q2)).length = 480 := by rw [mov_length, pushAll_length]; exact h.len
  have hbl2 : Bl ((movB (pushAll BS (r1.flatten.map cv)) (headI64 a2 q2)).map curB) := by rw [e2c]; exact hLL.set hH 1
  have hx : ∀ x ∈ r1.flatten, 0 ≤ x.f0 ∧ x.f0 < BS.length ∧ x.f1.length = 64 := fun x hx => by
    have h1 := hhm x hx
    have h2 := (homeB_iff _).1 h1.1
    rw [h.len]
    exact ⟨h2.1, h2.2.1, h1.2.1⟩
  refine ⟨setAll (BS.map curB) r1.flatten, r1.flatten.map cv, a2, q2, movB (pushAll BS (r1.flatten.map cv)) (headI64 a2 q2), movB (pushAll (movB (pushAll BS (r1.flatten.map cv)) (headI64 a2 q2)) []) (headI64 a2 q2), ⟨hB2, by rw [List.length_map]; exact hr2, fun x hx2 => ?_, rfl, rfl, by rw [h.len]; omega, by rw [hl2]; omega, h.cap.mono (by omega), mov_cap _ _ _, fun l => mov_restart _ _ l, fun W F g hd => ?_, fun W F g hd => ?_, fun i hi => ?_⟩⟩
  · obtain ⟨y, hy, rfl⟩ := List.mem_map.1 hx2
    have := hx y hy
    exact ⟨this.2.2, this.1, this.2.1⟩
  · have h1 := look_some hd (by rw [h.len]; omega) h.bl.cur hh hf hx hr2 hr1
    rw [h.len] at h1
    exact h1
  · have h1 := look_some hd (a := a2) (q := q2) (a2 := a2) (q2 := q2) (r1 := []) (by rw [hl2]; omega) hbl2.cur (by
      rw [e2c, List.getD_eq_getElem?_getD, List.getElem?_set_self (by omega)]
      exact head_back a2 q2 hB2) (by
      rw [e2c, set_log _ (by omega), setAll_log _ _ hhm]
      exact hf2) (fun x hx => by nomatch hx) (by decide) (by decide)
    rw [hl2] at h1
    exact h1
  · have e3c : (movB (pushAll (movB (pushAll BS (r1.flatten.map cv)) (headI64 a2 q2)) []) (headI64 a2 q2)).map curB = ((setAll (BS.map curB) r1.flatten).set 1 (headI64 a2 q2)).set 1 (headI64 a2 q2) := by
      rw [cur_mov, show pushAll (movB (pushAll BS (r1.flatten.map cv)) (headI64 a2 q2)) [] = movB (pushAll BS (r1.flatten.map cv)) (headI64 a2 q2) from rfl, e2c]
    obtain ⟨b, hb⟩ : ∃ b, (movB (pushAll (movB (pushAll BS (r1.flatten.map cv)) (headI64 a2 q2)) []) (headI64 a2 q2))[i]? = some b := ⟨_, List.getElem?_eq_getElem (by rw [mov_length, pushAll_length, hl2]; exact hi)⟩
    obtain ⟨x, hx3⟩ : ∃ x, (setAll (BS.map curB) r1.flatten)[i]? = some x := ⟨_, List.getElem?_eq_getElem (by rw [hLLl]; exact hi)⟩
    have h9 : (((setAll (BS.map curB) r1.flatten).set 1 (headI64 a2 q2)).set 1 (headI64 a2 q2))[i]? = some (curB b) := by rw [← e3c, List.getElem?_map, hb]; rfl
    refine ⟨b, x, hb, hx3, fun h1 => ?_, ?_, (hLL x (List.mem_of_getElem? hx3)).1⟩
    · rw [List.getElem?_set_ne (Ne.symm h1), List.getElem?_set_ne (Ne.symm h1), hx3] at h9
      exact (Option.some.inj h9).symm
    · exact (((hLL.set hH 1).set hH 1) _ (List.mem_of_getElem? h9)).1
/-- What lies in memory from lo on, as it was at w3, is not touched. -/
structure Apt (lo : Nat) (w3 W : World) (G : Nat → Prop) : Prop where
  sz : w3.heap.size ≤ W.heap.size
  ap : ∀ k, lo ≤ k → k < w3.heap.size → ¬ G k ∧ W.heap[k]? = w3.heap[k]?
theorem Apt.ch {lo : Nat} {w3 W W1 : World} {G G1 : Nat → Prop} (h : Apt lo w3 W G) (hc : Ch W W1 G G1) : Apt lo w3 W1 G1 :=
  ⟨Nat.le_trans h.sz hc.size, fun k h1 h2 => ⟨fun hg => (hc.new k hg).elim (h.ap k h1 h2).1 (fun a => by have := h.sz; omega), (hc.far k (Nat.lt_of_lt_of_le h2 h.sz) (h.ap k h1 h2).1).trans (h.ap k h1 h2).2⟩⟩
theorem Apt.below {lo : Nat} {w3 W W1 : World} {G : Nat → Prop} (h : Apt lo w3 W G) (hb : Below W.heap.size W W1) : Apt lo w3 W1 G := h.ch (Ch.of_below G hb)
theorem Apt.mono {lo : Nat} {w3 W : World} {G G1 : Nat → Prop} (h : Apt lo w3 W G) (hg : ∀ k, G1 k → G k) : Apt lo w3 W G1 := ⟨h.sz, fun k h1 h2 => ⟨fun a => (h.ap k h1 h2).1 (hg k a), (h.ap k h1 h2).2⟩⟩
theorem fjl {F : Nat → Prop} {gj k : Nat} (h : F k) : FJ F gj k := Or.inl h
/-- Another journal on the same disk. -/
theorem jw_other {w w1 : World} {F F1 : Nat → Prop} {g gj gk : Nat} {bs bs1 : List Blk} {h0 q0 h1 q1 u a0 b0 a1 b1 v : Int} (h : JW w F g gj bs h0 q0 h1 q1 u) (k : JW w1 F1 g gk bs1 a0 b0 a1 b1 v) (hc : Ch w w1 F (FJ F1 gk)) : JW w1 F1 g gj bs1 h0 q0 h1 q1 u :=
  ⟨k.dk, (hc.far gj (blk_lt h.jb) h.nf).trans h.jb, fun hF => (hc.new gj (Or.inl hF)).elim h.nf (fun a => by have := blk_lt h.jb; omega)⟩
set_option maxHeartbeats 4000000 in
theorem again_calls (A0 : Option Addr) (c0 : Nat) (l0 : List (List Int)) (A1 : Option Addr) (c1 : Nat) (l1 : List Int) (w : World)
    (hr0 : Kd.C (Kd.slice 5 B) w A0 l0.length l0) (hc0 : l0.length ≤ c0) (hr1 : Kd.C (Kd.int .i64) w A1 l1.length l1) (hc1 : l1.length ≤ c1)
    (h0 : ∀ b ∈ l0, ∀ x ∈ b, (Lit.int .u8 x).wf = true) :
    Calls Try.prog 5 #[.slice A0 l0.length c0, .slice A1 l1.length c1] w fun e w' => e = .returned (.bool true) ∧ Below w.heap.size w w' := by
  have hmk := mk64
  generalize hZ : Array.replicate 64 (Value.int .u8 0) = Z at hmk
  have HZ : Aside0 (Z.toList = nums .u8 z64) := ⟨by subst hZ; rfl⟩
  have HR0 := Aside0.mk hr0
  have HR1 := Aside0.mk hr1
  have HW0 : Aside0 (∀ b ∈ l0, Go.Proofs.Ytcihfmehbmficaa.Spin.Bytes b) := ⟨fun b hb => bytes_wf (h0 b hb)⟩
  obtain ⟨n0, e0⟩ : ∃ n, l0.length = n := ⟨_, rfl⟩
  obtain ⟨n1, e1⟩ : ∃ n, l1.length = n := ⟨_, rfl⟩
  have HM0 := Aside0.mk e0
  have HM1 := Aside0.mk e1
  rw [e0] at HR0
  rw [e1] at HR1
  have HA1 : Aside0 (0 < n1 → ∀ ad, A1 = some ad → ad.block < w.heap.size) := ⟨fun h ad e => by
    obtain ⟨ad', e', hc⟩ := Kd.at_int HR1.out 0 (by omega) (by omega)
    obtain rfl : ad = ad' := Option.some.inj (e.symm.trans e')
    exact World.block_lt_of_cell? _ _ hc⟩
  rw [e0, e1]
  clear hZ hr0 hr1 h0 e0 e1 hc0 hc1
  go_enter Try.func5, Try.ntmps5
  go_wp2_with (first | (go_at_call 12; (with_reducible refine (Disk.new_at 480 480 rfl (by omega) (by omega) _).mono ?_); rintro e w1 ⟨g, F, rfl, hd, hF, hb⟩; have HD0 := Aside0.mk hd; have HF0 := Aside0.mk hF; have HB0 := Aside0.mk hb; clear hd hF hb) | (go_at_call 7; (with_reducible refine (awake_calls _).mono ?_); rintro e w2 ⟨rfl, hb⟩; have HD2 := Aside0.mk (HD0.out.below hb); have HB2 := Aside0.mk (below_step HB0.out hb); clear hb))
  go_loopg [7] 480 (fun gg i wr => ∃ (k : Nat) (F : Nat → Prop) (BS : List Blk), k ≤ 480 ∧ k ≤ n0 ∧ 480 - k ≤ gg ∧ i = .int .i64 k ∧ Aside0 (DW wr F g ⟨false, -1, BS⟩) ∧ Aside0 (∀ j, F j → w.heap.size ≤ j) ∧ Aside0 (Below w.heap.size w wr) ∧ Aside0 (PB k BS))
  case atStart => exact ⟨0, F, _, Nat.zero_le _, Nat.zero_le _, Nat.le_refl _, rfl, HD2, HF0, HB2, ⟨PB.new⟩⟩
  case round =>
    clear HD0 HD2 HB0 HB2 HF0
    obtain ⟨k, F, BS, hk, hkn, hgk, rfl, HD, HF, HB, HPB⟩ := hrel
    by_cases hall : k < n0 ∧ k < 480
    case pos =>
      obtain ⟨hl0, hl2⟩ := hall
      have b1 : decide ((k : Int) < (n0 : Int)) = true := decide_eq_true (by omega)
      have b2 : decide (k < n0) = true := decide_eq_true hl0
      have b3 : decide ((k : Int) < 480) = true := decide_eq_true (by omega)
      obtain ⟨x, hx⟩ : ∃ x, l0[k]? = some x := ⟨_, List.getElem?_eq_getElem (by have := HM0.out; omega)⟩
      have HXB := Aside0.mk (HW0.out x (List.mem_of_getElem? hx))
      obtain ⟨ad0, Ax, cx, e0, hcx, hlx, hCx⟩ := at_row (Kd.C_below HR0.out HB.out) hx
      subst e0
      obtain ⟨m, hm⟩ : ∃ m, x.length = m := ⟨_, rfl⟩
      rw [hm] at hcx hCx
      have HM := Aside0.mk hm
      have HCX := Aside0.mk hCx
      have HTL : Aside0 ((x.take 64).length = Nat.min m 64) := ⟨by rw [List.length_take, ← hm]; exact Nat.min_comm _ _⟩
      have hcxa := pw_cell_below (below_alloc (Below.refl wr.heap.size wr) (.cells Z 5)) hcx
      have HFA : Aside0 (0 + (nums .u8 (x.take 64)).length ≤ Z.toList.length) := ⟨by rw [HZ.out, Go.Proofs.YtcihfmehbmficaaW.PrintWords.nums_length, Go.Proofs.YtcihfmehbmficaaW.PrintWords.nums_length, HTL.out]; show 0 + Nat.min m 64 ≤ 64; rw [Nat.zero_add]; exact Nat.min_le_right _ _⟩
      have HFIT : Aside0 (Fit BS.length [⟨(k : Int), pad x⟩]) := ⟨fun y hy => by
        obtain rfl := List.mem_singleton.1 hy
        refine ⟨pad_length x, show (0 : Int) ≤ (k : Int) by omega, ?_⟩
        rw [HPB.out.len]
        show (k : Int) < (480 : Nat)
        omega⟩
      have HL2 := Aside0.mk hl2
      have HL0 := Aside0.mk hl0
      have HGK := Aside0.mk hgk
      have ewk : wrap64 ((k : Int) + 1) = ((k + 1 : Nat) : Int) := by unfold wrap64; omega
      clear hx hm hCx hlx hcx hgk hk hkn
      go_wp2_with (first | (with_reducible refine wpList_copy_splice (o := ⟨some 48, _, _, _, _, _⟩) ?ca (.tmp 43) (.tmp 47) 23 23 ?co 5 ?cu ?ci (some ⟨wr.heap.size, 0, none⟩) Ax 64 64 m cx ?cd ?cs wr.heap.size 0 Z.toList 5 ?cg (nums .u8 (x.take 64)) ?cn ?cp ?cf ?c1 wr.heap.size wr ?cb ?cl ?_; (case ca => rfl); (case co => rfl); (case cu => exact Try.underlying23); (case ci => kernel_rfl); (case cd => with_unfolding_all rfl); (case cs => with_unfolding_all rfl); (case cl => exact Nat.le_refl _); (case cg => exact blk_new wr _); (case cn => rw [Go.Proofs.YtcihfmehbmficaaW.PrintWords.nums_length]; exact HTL.out); (case cp => exact copy_from (Kd.C_alloc HCX.out _) HM.out); (case cf => exact HFA.out); (case c1 => exact nums_one _); (case cb => exact grown_below _ _); intro w5 hw5 hb5; have hg5 := hw5.out; rw [pad_splice HZ.out] at hg5; have HRW5 := Aside0.mk (pad_RWk (k : Int) (HD.out.below hb5) hg5 (pad_length x) (fun hn => by have h1 := HD.out.lt _ hn; omega)); have HB5 := Aside0.mk (below_alloc (below_step HB.out hb5) (.cells #[.int .i64 (k : Int), .slice (some ⟨wr.heap.size, 0, none⟩) 64 64] 35)); have HD5 := Aside0.mk ((HD.out.below hb5).below (below_alloc (Below.refl _ _) (.cells #[.int .i64 (k : Int), .slice (some ⟨wr.heap.size, 0, none⟩) 64 64] 35))); clear hw5 hb5 hg5) | (go_at_call 16; (with_reducible refine (put_ever (bs := BS) HD5.out HPB.out.cap _ 1 1 [⟨(k : Int), pad x⟩] rfl HRW5.out HFIT.out (by omega)).mono ?_); rintro e w8 ⟨rfl, F8, hd8, hc8⟩; have HD8 := Aside0.mk hd8; have HF8 := Aside0.mk (below_F HB5.out HF.out hc8); have HB8 := Aside0.mk (HB5.out.trans (hc8.below HF.out HB5.out.size)); clear hd8 hc8))
      go_roundg (480 - (k + 1))
      case measure => exact meas HL2.out HGK.out
      case rel => exact ⟨k + 1, F8, _, HL2.out, HL0.out, Nat.le_refl _, congrArg (Value.int .i64) (by omega), HD8, HF8, HB8, ⟨HPB.out.push HXB.out⟩⟩
    case neg =>
      have HPB1 : Aside0 (PB 480 BS) := ⟨⟨HPB.out.len, HPB.out.bl, HPB.out.cap.mono hk⟩⟩
      have hcs : (decide ((k : Int) < (n0 : Int)) = false ∧ decide (k < n0) = false) ∨ (k = 480 ∧ decide ((480 : Int) < (n0 : Int)) = true ∧ decide (480 < n0) = true) := by
        by_cases h1 : k < n0
        · exact Or.inr ⟨by omega, decide_eq_true (by omega), decide_eq_true (by omega)⟩
        · exact Or.inl ⟨decide_eq_false (by omega), decide_eq_false (by omega)⟩
      clear hall hk hkn hgk HPB
      rcases headI_cases ((BS.map curB).getD 1 []) with ⟨a, q, hh, hB⟩ | hh
      · obtain ⟨LL, ws, a2, q2, BS2, BS3, hp⟩ := ag_plain HPB1.out hh hB
        have HP := Aside0.mk hp
        clear hh hB hp
        rcases hcs with ⟨hc1, hc2⟩ | ⟨rfl, hc1, hc2⟩
        all_goals
          go_wp2_with (first | (go_at_call 14; (with_reducible refine (Look_some (HP.out.lk1 _ F g HD.out)).mono ?_); rintro e w3 ⟨gB, cB, rfl, hcB, hrd, hb⟩; have HCB := Aside0.mk hcB; have HRD := Aside0.mk hrd; have HB3 := Aside0.mk (below_step HB.out hb); have HD3 := Aside0.mk (HD.out.below hb); have AP3 : Aside0 (Apt wr.heap.size w3 w3 F) := ⟨⟨Nat.le_refl _, fun k h1 _ => ⟨fun hk => by have := HD.out.lt k hk; omega, rfl⟩⟩⟩; clear hcB hrd hb) | (go_at_call 10; (with_reducible refine (Open_some HD3.out (HP.out.lk1 _ F g HD3.out) HP.out.fit HP.out.wl HP.out.hb HP.out.l1 HP.out.c1).mono ?_); rintro e w4 ⟨gj, F4, rfl, hj, hc⟩; have HJ4 : Aside0 (JW w4 F4 g gj BS2 a2 q2 a2 q2 0) := ⟨by rw [HP.out.e2]; exact hj⟩; have AP4 := Aside0.mk (AP3.out.ch hc); have HF4 : Aside0 (∀ j, FJ F4 gj j → w.heap.size ≤ j) := ⟨fun j hj => (hc.new j hj).elim (HF.out j) (fun a => Nat.le_trans HB3.out.size a)⟩; have HB4 := Aside0.mk (HB3.out.trans (hc.below HF.out HB3.out.size)); clear hj hc) | (go_at_call 9; (with_reducible refine (restart_at HJ4.out.dk A1 n1 c1 l1 HM1.out (Kd.C_below HR1.out HB4.out) (fun h0 ad e h => by have h1 := HA1.out h0 ad e; have h2 := HF4.out _ (fjl h); omega) (fun h0 ad e => Nat.lt_of_lt_of_le (HA1.out h0 ad e) HB4.out.size)).mono ?_); rintro e w5 ⟨rfl, hp⟩; have hp2 : PutP w4 w5 F4 g ⟨false, -1, BS2⟩ := (by have h := hp; rw [show (DS.bs ⟨false, -1, BS2⟩).mapIdx (fun i b => keepB b (l1.getD i 0)) = BS2 from HP.out.re l1] at h; exact h); obtain ⟨F5, hj5, hc5⟩ := HJ4.out.disk hp2; have HJ5 := Aside0.mk hj5; have AP5 := Aside0.mk (AP4.out.ch hc5); have HF5 : Aside0 (∀ j, FJ F5 gj j → w.heap.size ≤ j) := ⟨fun j hj => (hc5.new j hj).elim (HF4.out j) (fun a => Nat.le_trans HB4.out.size a)⟩; have HB5 := Aside0.mk (HB4.out.trans (hc5.below HF4.out HB4.out.size)); clear hp hp2 hj5 hc5) | (go_at_call 10; (with_reducible refine (Open_some HJ5.out.dk (HP.out.lk2 _ F5 g HJ5.out.dk) (Fit.none _) (by decide) HP.out.hb HP.out.l2 HP.out.c2).mono ?_); rintro e w6 ⟨gk, F6, rfl, hj, hc⟩; have hj6 : JW w6 F6 g gk BS3 a2 q2 a2 q2 0 := (by rw [HP.out.e3]; exact hj); have HJ6 := Aside0.mk hj6; have HO6 := Aside0.mk (jw_other HJ5.out hj6 hc); have AP6 := Aside0.mk ((AP5.out.mono (fun k hk => Or.inl hk)).ch hc); have HF6 : Aside0 (∀ j, FJ F6 gk j → w.heap.size ≤ j) := ⟨fun j hj => (hc.new j hj).elim (fun a => HF5.out j (Or.inl a)) (fun a => Nat.le_trans HB5.out.size a)⟩; have HB6 := Aside0.mk (HB5.out.trans (hc.below (fun j hj => HF5.out j (Or.inl hj)) HB5.out.size)); clear hj hj6 hc) | (go_at_call 13; (with_reducible refine (head_calls HJ6.out).mono ?_); rintro e w7 ⟨rfl, hb⟩; have HJ7 := Aside0.mk (HJ6.out.below hb); have HO7 := Aside0.mk (HO6.out.below hb); have AP7 := Aside0.mk (AP6.out.below hb); have HB7 := Aside0.mk (below_step HB6.out hb); clear hb) | (go_at_call 13; (with_reducible refine (head_calls HO7.out).mono ?_); rintro e w8 ⟨rfl, hb⟩; have HJ8 := Aside0.mk (HJ7.out.below hb); have AP8 := Aside0.mk (AP7.out.below hb); have HB8 := Aside0.mk (below_step HB7.out hb); clear hb))
          have HLC : Aside0 (∀ (W : World) (G : Nat → Prop), Apt wr.heap.size w3 W G → kY.C W (some ⟨gB, 0, none⟩) 480 LL) := ⟨fun W G hA => HRD.out W (fun k h1 h2 => (hA.ap k h1 h2).2)⟩
          obtain ⟨lo, hlo⟩ : ∃ q_, wr.heap.size = q_ := ⟨_, rfl⟩
          rw [hlo] at HLC AP8
          clear hlo HRD HB3 HD3 AP3 HJ4 AP4 HF4 HB4 HJ5 AP5 HF5 HB5 HJ6 HO6 AP6 HB6 HJ7 HO7 AP7 HB7 HD HB HF hc1 hc2
          go_loopg [15] 480 (fun gg ii wr => ∃ i : Nat, i ≤ 480 ∧ 480 - i ≤ gg ∧ ii = .int .i64 i ∧ Aside0 (JW wr F6 g gk BS3 a2 q2 a2 q2 0) ∧ Aside0 (Apt lo w3 wr (FJ F6 gk)) ∧ Aside0 (Below w.heap.size w wr))
          case atStart => exact ⟨0, Nat.zero_le _, Nat.le_refl _, rfl, HJ8, AP8, HB8⟩
          case round =>
            clear HJ8 AP8 HB8
            obtain ⟨i, hi, hgi, rfl, HJ, HAP, HBB⟩ := hrel
            by_cases hlt : i < 480
            · have b1 : decide ((i : Int) < 480) = true := decide_eq_true (by omega)
              have b2 : decide (i < 480) = true := decide_eq_true hlt
              have b7 : (i : Int) < 480 := by omega
              obtain ⟨b, x, hb3, hx, heq, hb64, hx64⟩ := HP.out.same i hlt
              have HB3 := Aside0.mk hb3
              have HB64 := Aside0.mk hb64
              have HX64 := Aside0.mk hx64
              have HX := Aside0.mk hx
              have HEQ := Aside0.mk heq
              have HLT := Aside0.mk hlt
              have HGI := Aside0.mk hgi
              clear hi hgi hb3 hx heq hb64 hx64
              go_wp2_with (go_at_call 11; (with_reducible refine (read_yes HJ.out (i := i) (i : Int) rfl HB3.out).mono ?_); rintro e w9 ⟨v9, rfl, hr9, hj9, hc9⟩; obtain ⟨A9, c9, e9⟩ := Kd.R_slice hr9; rw [HB64.out] at e9; subst e9; have HR9 := Aside0.mk hr9; have HJ9 := Aside0.mk hj9; have HAP9 := Aside0.mk (HAP.out.ch hc9); have HBB9 := Aside0.mk (HBB.out.trans (hc9.below HF6.out HBB.out.size)); clear hr9 hj9 hc9)
              have hrow := at_row (HLC.out w9 _ HAP9.out) HX.out
              obtain ⟨ad0, Ax, cx, ea, hcx, hlx, hCx⟩ := hrow
              obtain rfl := Option.some.inj ea
              rw [HX64.out] at hcx hCx
              rw [Addr.add_mid, Nat.zero_add] at hcx
              have hr9 := (Kd.R_reads' HR9.out).2.2
              rw [HB64.out] at hr9
              by_cases h1 : i = 1
              · subst h1
                refine start_ (n := 16) (S := fun w' => True) (ds := []) #[false, false, false, false, false, false, false, false, false, false, false, false, false, false, false, false] (by kernel_rfl) rfl rfl trivial (fun hHeld => ?_)
                refine pure_ (i := 0) (N := some 115) (v := ?_) (a' := ?_) #[true, false, false, false, false, false, false, false, false, false, false, false, false, false, false, false] rfl rfl (by kernel_rfl) (fun _ _ _ h => h) (Or.inl ⟨by rfl, ?_⟩) ?_ ?_
                rotate_left
                · intro w'
                  go_simp
                  with_reducible rfl
                rotate_left
                · simp only [Act.put, List.setIfInBounds_toArray, List.set_cons_zero, List.set_cons_succ, i64_w, i32_w]
                  rfl
                refine pure_ (i := 1) (N := some 116) (v := ?_) (a' := ?_) #[true, true, false, false, false, false, false, false, false, false, false, false, false, false, false, false] rfl rfl (by kernel_rfl) (fun _ _ _ h => h) (Or.inl ⟨by rfl, ?_⟩) ?_ ?_
                rotate_left
                · intro w'
                  go_simp
                  with_reducible rfl
                rotate_left
                · simp only [Act.put, List.setIfInBounds_toArray, List.set_cons_zero, List.set_cons_succ, i64_w, i32_w]
                  rfl
                refine pure_ (i := 2) (N := some 117) (v := ?_) (a' := ?_) #[true, true, true, false, false, false, false, false, false, false, false, false, false, false, false, false] rfl rfl (by kernel_rfl) (fun _ _ _ h => h) (Or.inl ⟨by rfl, ?_⟩) ?_ ?_
                rotate_left
                · intro w'
                  go_simp
                  with_reducible rfl
                rotate_left
                · simp only [Act.put, List.setIfInBounds_toArray, List.set_cons_zero, List.set_cons_succ, i64_w, i32_w]
                  rfl
                refine pure_ (i := 3) (N := some 118) (v := ?_) (a' := ?_) #[true, true, true, true, false, false, false, false, false, false, false, false, false, false, false, false] rfl rfl (by kernel_rfl) (fun _ _ _ h => h) (Or.inl ⟨by rfl, ?_⟩) ?_ ?_
                rotate_left
                · intro w'
                  go_simp
                  with_reducible rfl
                rotate_left
                · simp only [Act.put, List.setIfInBounds_toArray, List.set_cons_zero, List.set_cons_succ, i64_w, i32_w]
                  rfl
                refine pure_ (i := 4) (N := some 119) (v := ?_) (a' := ?_) #[true, true, true, true, true, false, false, false, false, false, false, false, false, false, false, false] rfl rfl (by kernel_rfl) (fun _ _ _ h => h) (Or.inl ⟨by rfl, ?_⟩) ?_ ?_
                rotate_left
                · intro w'
                  go_simp
                  with_reducible rfl
                rotate_left
                · simp only [Act.put, List.setIfInBounds_toArray, List.set_cons_zero, List.set_cons_succ, i64_w, i32_w]
                  rfl
                refine pure_ (i := 5) (N := some 120) (v := ?_) (a' := ?_) #[true, true, true, true, true, true, false, false, false, false, false, false, false, false, false, false] rfl rfl (by kernel_rfl) (fun _ _ _ h => h) (Or.inl ⟨by rfl, ?_⟩) ?_ ?_
                rotate_left
                · intro w'
                  go_simp
                  with_reducible rfl
                rotate_left
                · simp only [Act.put, List.setIfInBounds_toArray, List.set_cons_zero, List.set_cons_succ, i64_w, i32_w]
                  rfl
                refine pure_ (i := 6) (N := some 121) (v := undef) (a' := ?_) #[true, true, true, true, true, true, true, false, false, false, false, false, false, false, false, false] rfl rfl (by kernel_rfl) (fun _ _ _ h => h) (Or.inr ⟨by rfl, rfl⟩) ?_ ?_
                rotate_left
                · simp only [Act.put, List.setIfInBounds_toArray, List.set_cons_zero, List.set_cons_succ, i64_w, i32_w]
                  rfl
                refine pure_ (i := 7) (N := some 122) (v := undef) (a' := ?_) #[true, true, true, true, true, true, true, true, false, false, false, false, false, false, false, false] rfl rfl (by kernel_rfl) (fun _ _ _ h => h) (Or.inr ⟨by rfl, rfl⟩) ?_ ?_
                rotate_left
                · simp only [Act.put, List.setIfInBounds_toArray, List.set_cons_zero, List.set_cons_succ, i64_w, i32_w]
                  rfl
                refine pure_ (i := 8) (N := some 123) (v := undef) (a' := ?_) #[true, true, true, true, true, true, true, true, true, false, false, false, false, false, false, false] rfl rfl (by kernel_rfl) (fun _ _ _ h => h) (Or.inr ⟨by rfl, rfl⟩) ?_ ?_
                rotate_left
                · simp only [Act.put, List.setIfInBounds_toArray, List.set_cons_zero, List.set_cons_succ, i64_w, i32_w]
                  rfl
                refine pure_ (i := 9) (N := some 124) (v := undef) (a' := ?_) #[true, true, true, true, true, true, true, true, true, true, false, false, false, false, false, false] rfl rfl (by kernel_rfl) (fun _ _ _ h => h) (Or.inr ⟨by rfl, rfl⟩) ?_ ?_
                rotate_left
                · simp only [Act.put, List.setIfInBounds_toArray, List.set_cons_zero, List.set_cons_succ, i64_w, i32_w]
                  rfl
                refine pure_ (i := 10) (N := some 125) (v := undef) (a' := ?_) #[true, true, true, true, true, true, true, true, true, true, true, false, false, false, false, false] rfl rfl (by kernel_rfl) (fun _ _ _ h => h) (Or.inr ⟨by rfl, rfl⟩) ?_ ?_
                rotate_left
                · simp only [Act.put, List.setIfInBounds_toArray, List.set_cons_zero, List.set_cons_succ, i64_w, i32_w]
                  rfl
                refine pure_ (i := 11) (N := some 126) (v := undef) (a' := ?_) #[true, true, true, true, true, true, true, true, true, true, true, true, false, false, false, false] rfl rfl (by kernel_rfl) (fun _ _ _ h => h) (Or.inr ⟨by rfl, rfl⟩) ?_ ?_
                rotate_left
                · simp only [Act.put, List.setIfInBounds_toArray, List.set_cons_zero, List.set_cons_succ, i64_w, i32_w]
                  rfl
                refine pure_ (i := 12) (N := some 127) (v := undef) (a' := ?_) #[true, true, true, true, true, true, true, true, true, true, true, true, true, false, false, false] rfl rfl (by kernel_rfl) (fun _ _ _ h => h) (Or.inr ⟨by rfl, rfl⟩) ?_ ?_
                rotate_left
                · simp only [Act.put, List.setIfInBounds_toArray, List.set_cons_zero, List.set_cons_succ, i64_w, i32_w]
                  rfl
                refine pure_ (i := 13) (N := some 128) (v := undef) (a' := ?_) #[true, true, true, true, true, true, true, true, true, true, true, true, true, true, false, false] rfl rfl (by kernel_rfl) (fun _ _ _ h => h) (Or.inr ⟨by rfl, rfl⟩) ?_ ?_
                rotate_left
                · simp only [Act.put, List.setIfInBounds_toArray, List.set_cons_zero, List.set_cons_succ, i64_w, i32_w]
                  rfl
                refine pure_ (i := 14) (N := some 129) (v := ?_) (a' := ?_) #[true, true, true, true, true, true, true, true, true, true, true, true, true, true, true, false] rfl rfl (by kernel_rfl) (fun _ _ _ h => h) (Or.inl ⟨by rfl, ?_⟩) ?_ ?_
                rotate_left
                · intro w'
                  go_simp
                  with_reducible rfl
                rotate_left
                · simp only [Act.put, List.setIfInBounds_toArray, List.set_cons_zero, List.set_cons_succ, i64_w, i32_w]
                  rfl
                refine pure_ (i := 15) (N := some 130) (v := ?_) (a' := ?_) #[true, true, true, true, true, true, true, true, true, true, true, true, true, true, true, true] rfl rfl (by kernel_rfl) (fun _ _ _ h => h) (Or.inl ⟨by rfl, ?_⟩) ?_ ?_
                rotate_left
                · intro w'
                  go_simp
                  with_reducible rfl
                rotate_left
                · simp only [Act.put, List.setIfInBounds_toArray, List.set_cons_zero, List.set_cons_succ, i64_w, i32_w]
                  rfl
                refine done_ (by kernel_rfl) ?_

                go_wp2_with fail
                go_roundg (480 - (1 + 1))
                case measure => exact meas HLT.out HGI.out
                case rel => exact ⟨1 + 1, HLT.out, Nat.le_refl _, rfl, ⟨HJ9.out.below (below_drew (Below.refl _ _))⟩, ⟨HAP9.out.below (below_drew (Below.refl _ _))⟩, ⟨below_drew HBB9.out⟩⟩
              · have hne := HEQ.out h1
                rw [hne] at hr9
                obtain ⟨s, hs⟩ : ∃ s, str x = s := ⟨_, rfl⟩
                have HSC : Aside0 (∀ W : World, Below w9.heap.size w9 W → W.cell? ⟨gB, i, none⟩ = some (.slice Ax 64 cx) ∧ (convert 23 9 (.slice A9 64 c9)).run Try.prog W = .ok (.string s) W ∧ (convert 23 9 (.slice Ax 64 cx)).run Try.prog W = .ok (.string s) W) := ⟨fun W hW => ⟨pw_cell_below hW hcx, by rw [← hs]; exact conv_str (Kd.C_below hr9 hW), by rw [← hs]; exact conv_str (Kd.C_below hCx hW)⟩⟩
                have b4 : ((i : Int) != 1) = true := by rw [bne_iff_ne]; omega
                have b5 : ((i : Int) == 1) = false := by rw [beq_eq_false_iff_ne]; omega
                have b6 : ¬ i = 1 := h1
                clear hcx hCx hr9 hs hne hlx
                refine start_ (n := 16) (S := fun w' => w'.cell? ⟨gB, i, none⟩ = some (.slice Ax 64 cx) ∧ (convert 23 9 (.slice A9 64 c9)).run Try.prog w' = .ok (.string s) w' ∧ (convert 23 9 (.slice Ax 64 cx)).run Try.prog w' = .ok (.string s) w') (ds := []) #[false, false, false, false, false, false, false, false, false, false, false, false, false, false, false, false] (by kernel_rfl) rfl rfl ⟨(HSC.out _ (below_drew (Below.refl _ _))).1, (HSC.out _ (below_drew (Below.refl _ _))).2.1, (HSC.out _ (below_drew (Below.refl _ _))).2.2⟩ (fun hHeld => ?_)
                refine pure_ (i := 0) (N := some 115) (v := ?_) (a' := ?_) #[true, false, false, false, false, false, false, false, false, false, false, false, false, false, false, false] rfl rfl (by kernel_rfl) (fun _ _ _ h => h) (Or.inl ⟨by rfl, ?_⟩) ?_ ?_
                rotate_left
                · intro w'
                  go_simp
                  with_reducible rfl
                rotate_left
                · simp only [Act.put, List.setIfInBounds_toArray, List.set_cons_zero, List.set_cons_succ, i64_w, i32_w]
                  rfl
                refine pure_ (i := 1) (N := some 116) (v := ?_) (a' := ?_) #[true, true, false, false, false, false, false, false, false, false, false, false, false, false, false, false] rfl rfl (by kernel_rfl) (fun _ _ _ h => h) (Or.inl ⟨by rfl, ?_⟩) ?_ ?_
                rotate_left
                · intro w'
                  go_simp
                  with_reducible rfl
                rotate_left
                · simp only [Act.put, List.setIfInBounds_toArray, List.set_cons_zero, List.set_cons_succ, i64_w, i32_w]
                  rfl
                refine pure_ (i := 2) (N := some 117) (v := ?_) (a' := ?_) #[true, true, true, false, false, false, false, false, false, false, false, false, false, false, false, false] rfl rfl (by kernel_rfl) (fun _ _ _ h => h) (Or.inl ⟨by rfl, ?_⟩) ?_ ?_
                rotate_left
                · intro w'
                  go_simp
                  with_reducible rfl
                rotate_left
                · simp only [Act.put, List.setIfInBounds_toArray, List.set_cons_zero, List.set_cons_succ, i64_w, i32_w]
                  rfl
                refine pure_ (i := 3) (N := some 118) (v := ?_) (a' := ?_) #[true, true, true, true, false, false, false, false, false, false, false, false, false, false, false, false] rfl rfl (by kernel_rfl) (fun _ _ _ h => h) (Or.inl ⟨by rfl, ?_⟩) ?_ ?_
                rotate_left
                · intro w'
                  go_simp
                  with_reducible rfl
                rotate_left
                · simp only [Act.put, List.setIfInBounds_toArray, List.set_cons_zero, List.set_cons_succ, i64_w, i32_w]
                  rfl
                refine pure_ (i := 4) (N := some 119) (v := ?_) (a' := ?_) #[true, true, true, true, true, false, false, false, false, false, false, false, false, false, false, false] rfl rfl (by kernel_rfl) (fun _ _ _ h => h) (Or.inl ⟨by rfl, ?_⟩) ?_ ?_
                rotate_left
                · intro w'
                  go_simp
                  with_reducible rfl
                rotate_left
                · simp only [Act.put, List.setIfInBounds_toArray, List.set_cons_zero, List.set_cons_succ, i64_w, i32_w]
                  rfl
                refine pure_ (i := 5) (N := some 120) (v := ?_) (a' := ?_) #[true, true, true, true, true, true, false, false, false, false, false, false, false, false, false, false] rfl rfl (by kernel_rfl) (fun _ _ _ h => h) (Or.inl ⟨by rfl, ?_⟩) ?_ ?_
                rotate_left
                · intro w'
                  go_simp
                  with_reducible rfl
                rotate_left
                · simp only [Act.put, List.setIfInBounds_toArray, List.set_cons_zero, List.set_cons_succ, i64_w, i32_w]
                  rfl
                refine pure_ (i := 6) (N := some 121) (v := ?_) (a' := ?_) #[true, true, true, true, true, true, true, false, false, false, false, false, false, false, false, false] rfl rfl (by kernel_rfl) (fun _ _ _ h => h) (Or.inl ⟨by rfl, ?_⟩) ?_ ?_
                rotate_left
                · intro w'
                  go_simp
                  with_reducible rfl
                rotate_left
                · simp only [Act.put, List.setIfInBounds_toArray, List.set_cons_zero, List.set_cons_succ, i64_w, i32_w]
                  rfl
                refine pure_ (i := 8) (N := some 123) (v := ?_) (a' := ?_) #[true, true, true, true, true, true, true, false, true, false, false, false, false, false, false, false] rfl rfl (by kernel_rfl) (fun _ _ _ h => h) (Or.inl ⟨by rfl, ?_⟩) ?_ ?_
                rotate_left
                · intro w'
                  go_simp
                  with_reducible rfl
                rotate_left
                · simp only [Act.put, List.setIfInBounds_toArray, List.set_cons_zero, List.set_cons_succ, i64_w, i32_w]
                  rfl
                refine pure_ (i := 9) (N := some 124) (v := ?_) (a' := ?_) #[true, true, true, true, true, true, true, false, true, true, false, false, false, false, false, false] rfl rfl (by kernel_rfl) (fun _ _ _ h => h) (Or.inl ⟨by rfl, ?_⟩) ?_ ?_
                rotate_left
                · intro w'
                  go_simp
                  with_reducible rfl
                rotate_left
                · simp only [Act.put, List.setIfInBounds_toArray, List.set_cons_zero, List.set_cons_succ, i64_w, i32_w]
                  rfl
                refine pure_ (i := 10) (N := some 125) (v := ?_) (a' := ?_) #[true, true, true, true, true, true, true, false, true, true, true, false, false, false, false, false] rfl rfl (by kernel_rfl) (fun _ _ _ h => h) (Or.inl ⟨by rfl, ?_⟩) ?_ ?_
                rotate_left
                · intro w'
                  go_simp
                  with_reducible rfl
                rotate_left
                · simp only [Act.put, List.setIfInBounds_toArray, List.set_cons_zero, List.set_cons_succ, i64_w, i32_w]
                  rfl
                refine take_ (i := 7) (N := some 122) (v := ?_) (a' := ?_) #[true, true, true, true, true, true, true, true, true, true, true, false, false, false, false, false] rfl rfl (by kernel_rfl) (fun _ _ _ h => h) (Or.inl ⟨by rfl, ?_⟩) hHeld ?_ ?_
                rotate_left
                · rintro w' ⟨s0, s1, s2⟩
                  go_simp
                  with_reducible rfl
                rotate_left
                · simp only [Act.put, List.setIfInBounds_toArray, List.set_cons_zero, List.set_cons_succ, i64_w, i32_w]
                  rfl
                refine take_ (i := 11) (N := some 126) (v := ?_) (a' := ?_) #[true, true, true, true, true, true, true, true, true, true, true, true, false, false, false, false] rfl rfl (by kernel_rfl) (fun _ _ _ h => h) (Or.inl ⟨by rfl, ?_⟩) hHeld ?_ ?_
                rotate_left
                · rintro w' ⟨s0, s1, s2⟩
                  go_simp
                  with_reducible rfl
                rotate_left
                · simp only [Act.put, List.setIfInBounds_toArray, List.set_cons_zero, List.set_cons_succ, i64_w, i32_w]
                  rfl
                refine take_ (i := 12) (N := some 127) (v := ?_) (a' := ?_) #[true, true, true, true, true, true, true, true, true, true, true, true, true, false, false, false] rfl rfl (by kernel_rfl) (fun _ _ _ h => h) (Or.inl ⟨by rfl, ?_⟩) hHeld ?_ ?_
                rotate_left
                · rintro w' ⟨s0, s1, s2⟩
                  go_simp
                  with_reducible rfl
                rotate_left
                · simp only [Act.put, List.setIfInBounds_toArray, List.set_cons_zero, List.set_cons_succ, i64_w, i32_w]
                  rfl
                refine pure_ (i := 13) (N := some 128) (v := ?_) (a' := ?_) #[true, true, true, true, true, true, true, true, true, true, true, true, true, true, false, false] rfl rfl (by kernel_rfl) (fun _ _ _ h => h) (Or.inl ⟨by rfl, ?_⟩) ?_ ?_
                rotate_left
                · intro w'
                  go_simp
                  with_reducible rfl
                rotate_left
                · simp only [Act.put, List.setIfInBounds_toArray, List.set_cons_zero, List.set_cons_succ, i64_w, i32_w]
                  rfl
                refine pure_ (i := 14) (N := some 129) (v := ?_) (a' := ?_) #[true, true, true, true, true, true, true, true, true, true, true, true, true, true, true, false] rfl rfl (by kernel_rfl) (fun _ _ _ h => h) (Or.inl ⟨by rfl, ?_⟩) ?_ ?_
                rotate_left
                · intro w'
                  go_simp
                  with_reducible rfl
                rotate_left
                · simp only [Act.put, List.setIfInBounds_toArray, List.set_cons_zero, List.set_cons_succ, i64_w, i32_w]
                  rfl
                refine pure_ (i := 15) (N := some 130) (v := ?_) (a' := ?_) #[true, true, true, true, true, true, true, true, true, true, true, true, true, true, true, true] rfl rfl (by kernel_rfl) (fun _ _ _ h => h) (Or.inl ⟨by rfl, ?_⟩) ?_ ?_
                rotate_left
                · intro w'
                  go_simp
                  with_reducible rfl
                rotate_left
                · simp only [Act.put, List.setIfInBounds_toArray, List.set_cons_zero, List.set_cons_succ, i64_w, i32_w]
                  rfl
                refine done_ (by kernel_rfl) ?_

                go_wp2_with fail
                go_roundg (480 - (i + 1))
                case measure => exact meas HLT.out HGI.out
                case rel => exact ⟨i + 1, HLT.out, Nat.le_refl _, congrArg (Value.int .i64) (by omega), ⟨HJ9.out.below (below_drew (Below.refl _ _))⟩, ⟨HAP9.out.below (below_drew (Below.refl _ _))⟩, ⟨below_drew HBB9.out⟩⟩
            · obtain rfl : i = 480 := by omega
              go_wp2_with fail
              go_ret
              exact ⟨rfl, HBB.out⟩
      · have HLK : Aside0 (∀ (W : World) (F : Nat → Prop) (g : Nat), DW W F g ⟨false, -1, BS⟩ → Calls Try.prog 27 #[.pointer (some ⟨g, 0, none⟩)] W fun e w' => e = .returned (.tuple #[.slice none 0 0, .slice none 0 0, .agg #[.int .i64 0, .int .i64 0], .int .i64 2]) ∧ Below W.heap.size W w') := ⟨fun W F g hd => look_bad hd (by rw [HPB1.out.len]; omega) HPB1.out.bl.cur hh⟩
        clear hh
        rcases hcs with ⟨hc1, hc2⟩ | ⟨rfl, hc1, hc2⟩
        all_goals
          go_wp2_with (first | (go_at_call 14; (with_reducible refine (Look_err 2 (by decide) (HLK.out _ _ _ HD.out)).mono ?_); rintro e w3 ⟨rfl, hb⟩; have HB3 := Aside0.mk (below_step HB.out hb); have HD3 := Aside0.mk (HD.out.below hb); clear hb) | (go_at_call 10; (with_reducible refine (Open_err 2 (by decide) (HLK.out _ _ _ HD3.out)).mono ?_); rintro e w4 ⟨rfl, hb⟩; have HB4 := Aside0.mk (below_step HB3.out hb); clear hb))
          go_ret
          exact ⟨rfl, HB4.out⟩
end Go.Proofs.Ytcihfmehbmficaa.Jrn
