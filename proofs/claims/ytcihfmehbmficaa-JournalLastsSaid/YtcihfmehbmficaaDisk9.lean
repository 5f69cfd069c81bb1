/- Walks of package disk: Fail, Barrier, Restart. -/
import Derived.Test.YtcihfmehbmficaaDisk4
import Derived.StillTailTactics
namespace Go.Proofs.Ytcihfmehbmficaa.Disk
open Go Go.RowKit Go.Proofs.YtcihfmehbmficaaW.PrintWords Go.Proofs.YtcihfmehbmficaaW.PrintLast Go.Proofs.YtcihfmehbmficaaW.PrintMore
attribute [local go_sem] max2_int min2_int max_two min_two
set_option linter.unusedVariables false
set_option maxRecDepth 100000
set_option linter.unusedSimpArgs false

theorem if_max (n : Int) : (if n < -1 then -1 else n) = max n (-1) := by
  by_cases h : n < -1
  · rw [if_pos h]; omega
  · rw [if_neg h]; omega
theorem Kpt.of {w w1 : World} {F : Nat → Prop} {g gb : Nat} {C : Array Value} {v : Nat → Value} {f : Nat → Nat} {s : DS} (h : DWx w1 F g gb C v f s) (hc : Ch w w1 F F) : Kpt w w1 F g gb f s := ⟨⟨C, v, h⟩, hc⟩
theorem Kpt.trans {w w1 w2 : World} {F : Nat → Prop} {g gb : Nat} {f : Nat → Nat} {s s1 : DS} (h : Kpt w w1 F g gb f s) (k : Kpt w1 w2 F g gb f s1) : Kpt w w2 F g gb f s1 := ⟨k.st, h.ch.trans k.ch⟩
theorem Ch.from {w w0 w1 : World} {F F' : Nat → Prop} (k : Ch w0 w1 F F') (h1 : w0.os = w.os) (h2 : w0.tape = w.tape) (h3 : w0.output = w.output) (h4 : w0.heap = w.heap) : Ch w w1 F F' :=
  ⟨k.os.trans h1, k.tape.trans h2, k.output.trans h3, h4 ▸ k.size, fun i hi hF => (k.far i (h4 ▸ hi) hF).trans (by rw [h4]), fun i hi => (k.new i hi).imp id (fun h => h4 ▸ h)⟩
theorem step_list {α : Type} (l : List α) (f : α → α) (k : Nat) (b : α) (h : l[k]? = some b) : ((l.take k).map f ++ l.drop k).set k (f b) = (l.take (k + 1)).map f ++ l.drop (k + 1) := by
  obtain ⟨hk, hb⟩ := List.getElem?_eq_some_iff.1 h
  have hl : ((l.take k).map f).length = k := by rw [List.length_map, List.length_take]; omega
  rw [List.set_append_right _ _ (by omega), hl, Nat.sub_self, List.drop_eq_getElem_cons hk, List.set_cons_zero, List.take_succ_eq_append_getElem hk, List.map_append, hb]
  simp
theorem C_far {k : IntKind} {w w1 : World} {A : Option Addr} {n : Nat} {xs : List Int} (h : (Kd.int k).C w A n xs) (hA : ∀ ad, A = some ad → w1.heap[ad.block]? = w.heap[ad.block]?) : (Kd.int k).C w1 A n xs := by
  refine Kd.C_of_reads (d := (0 : Int)) (h1 := fun _ => rfl) ⟨h.1, h.2.1, fun hn => ?_⟩
  obtain ⟨ad, e, hc⟩ := (Kd.reads_of_C (enc := Value.int k) (d := (0 : Int)) (h1 := fun _ => rfl) h).2.2 hn
  refine ⟨ad, e, fun j hj => ?_⟩
  rw [← hc j hj]
  exact World.cell?_of_block (by rw [add_block]; exact hA ad e)
/-- The first k blocks of a disk that is restarted. -/
structure PW (l : List Int) (k : Nat) (bs bs' : List Blk) : Prop where
  len : bs'.length = bs.length
  at_ : ∀ (i : Nat) (b : Blk), bs[i]? = some b → bs'[i]? = some (if i < k then keepB b (l.getD i 0) else b)
theorem PW.zero (l : List Int) (bs : List Blk) : PW l 0 bs bs := ⟨rfl, fun i b h => by rw [if_neg (by omega)]; exact h⟩
theorem PW.next {l : List Int} {k : Nat} {bs bs' : List Blk} {b : Blk} (h : PW l k bs bs') (hb : bs[k]? = some b) : PW l (k + 1) bs (bs'.set k (keepB b (l.getD k 0))) := by
  have hk := (List.getElem?_eq_some_iff.1 hb).1
  refine ⟨by rw [List.length_set, h.len], fun i c hc => ?_⟩
  by_cases e : i = k
  · subst e
    obtain rfl : b = c := Option.some.inj (hb.symm.trans hc)
    rw [List.getElem?_set_self (by rw [h.len]; exact hk), if_pos (by omega)]
  · rw [List.getElem?_set_ne (Ne.symm e), h.at_ i c hc]
    by_cases g : i < k
    · rw [if_pos g, if_pos (by omega)]
    · rw [if_neg g, if_neg (by omega)]
theorem PW.all {l : List Int} {bs bs' : List Blk} (h : PW l bs.length bs bs') : bs' = bs.mapIdx (fun i b => keepB b (l.getD i 0)) := by
  apply List.ext_getElem?
  intro i
  rw [List.getElem?_mapIdx]
  cases hi : bs[i]? with
  | none =>
    have := List.getElem?_eq_none_iff.1 hi
    rw [List.getElem?_eq_none (by rw [h.len]; exact this)]; rfl
  | some b =>
    rw [h.at_ i b hi, if_pos (List.getElem?_eq_some_iff.1 hi).1]; rfl
section
variable {w : World} {F : Nat → Prop} {g gb : Nat} {C : Array Value} {v : Nat → Value} {f : Nat → Nat} {s : DS}
def kb (b : Blk) : Blk := keepB b (b.opn.length : Int)
theorem barrier_off (h : DWx w F g gb C v f s) (ho : s.off = true) : Calls Try.prog 19 #[.pointer (some ⟨g, 0, none⟩)] w fun e w' => e = .returned (.int .i64 8) ∧ w = w' := by
  have HC := Aside0.mk (ready_calls g true w (by rw [h.cellg, ho]; rfl))
  clear h ho
  go_enter Try.func19, Try.ntmps19
  go_wp2_with (go_at_call 30; (with_reducible refine HC.out.mono ?_); rintro e w' ⟨rfl, rfl⟩)
  refine wp_loop_rounds 1 ?_
  rw [rounds_succ]
  go_wp2_with fail
  go_ret
  exact ⟨rfl, rfl⟩
theorem barrier_power (h : DWx w F g gb C v f s) (ho : s.off = false) (hl : s.left = 0) : Calls Try.prog 19 #[.pointer (some ⟨g, 0, none⟩)] w fun e w' => e = .returned (.int .i64 8) ∧ Kpt w w' F g gb f ⟨true, 0, s.bs⟩ := by
  have HC := Aside0.mk (ready_calls g false w (by rw [h.cellg, ho]; rfl))
  have hg := h.hg
  rw [ho, hl] at hg
  have HS := Aside0.mk (spend_calls g false 0 _ (by omega) w hg)
  have H := Aside0.mk h
  clear h ho hl hg
  go_enter Try.func19, Try.ntmps19
  go_wp2_with (first | (go_at_call 30; (with_reducible refine HC.out.mono ?_); rintro e w' ⟨rfl, rfl⟩) | (go_at_call 31; (with_reducible refine HS.out.mono ?_); rintro e w1 ⟨rfl, hg1, hb1⟩; have HG1 := Aside0.mk hg1; have HB1 := Aside0.mk hb1; clear hg1 hb1; simp only [spendS, if_pos]))
  refine wp_loop_rounds 1 ?_
  rw [rounds_succ]
  go_wp2_with fail
  go_ret
  obtain ⟨h1, h2⟩ := H.out.power HG1.out _ _ HB1.out
  exact ⟨rfl, Kpt.of h1 h2⟩
theorem barrier_calls (h : DWx w F g gb C v f s) (ho : s.off = false) (hl : s.left ≠ 0) (hlo : s.left ≤ 9223372036854775807) : Calls Try.prog 19 #[.pointer (some ⟨g, 0, none⟩)] w fun e w' => e = .returned (.int .i64 0) ∧ Kpt w w' F g gb f ⟨false, (spendS false s.left).2.1, s.bs.map kb⟩ := by
  have HC := Aside0.mk (ready_calls g false w (by rw [h.cellg, ho]; rfl))
  have hg := h.hg
  rw [ho] at hg
  have hsp : (spendS false s.left).2.2 = 0 ∧ (spendS false s.left).1 = false := by
    unfold spendS; rw [if_neg hl]; split <;> exact ⟨rfl, rfl⟩
  have hs := spend_calls g false s.left _ hlo w hg
  rw [hsp.1, hsp.2] at hs
  have HS := Aside0.mk hs
  have H := Aside0.mk h
  have n480 := h.n480
  obtain ⟨n, hn⟩ : ∃ n, n = s.bs.length := ⟨_, rfl⟩
  have HN := Aside0.mk hn
  rw [← hn] at n480
  clear h ho hl hg hsp hs hn
  go_enter Try.func19, Try.ntmps19
  go_wp2_with (first | (go_at_call 30; (with_reducible refine HC.out.mono ?_); rintro e w' ⟨rfl, rfl⟩) | (go_at_call 31; (with_reducible refine HS.out.mono ?_); rintro e w1 ⟨rfl, hg1, hb1⟩; have HG1 := Aside0.mk hg1; have HB1 := Aside0.mk hb1; clear hg1 hb1))
  obtain ⟨h1, h2⟩ := H.out.power HG1.out _ _ HB1.out
  have HK1 := Aside0.mk (Kpt.of h1 h2)
  clear h1 h2
  obtain ⟨L, hL⟩ : ∃ L, (spendS false s.left).2.1 = L := ⟨_, rfl⟩
  rw [hL] at HK1
  have HL := Aside0.mk hL
  clear hL
  go_loopw [4] (fun i wr => ∃ k : Nat, k ≤ n ∧ i = .int .i64 k ∧ Aside0 (Kpt w wr F g gb f ⟨false, L, (s.bs.take k).map kb ++ s.bs.drop k⟩)) (fun i _ => n - (intOf i).toNat)
  case atStart => exact ⟨0, Nat.zero_le _, rfl, ⟨by simpa using HK1.out⟩⟩
  case round =>
    obtain ⟨k, hk, rfl, HR⟩ := hrel
    obtain ⟨⟨C', v', hd⟩, hch⟩ := HR.out
    have hlen : ((s.bs.take k).map kb ++ s.bs.drop k).length = n := by
      have := HN.out
      rw [List.length_append, List.length_map, List.length_take, List.length_drop]; omega
    have c2 : wr.cell? ⟨g, 2, none⟩ = some (.slice (some ⟨gb, 0, none⟩) n n) := by
      have h_ := hd.cellg 2
      rw [hlen] at h_
      exact h_
    by_cases hlt : k < n
    · obtain ⟨b, hb⟩ : ∃ b, s.bs[k]? = some b := ⟨_, List.getElem?_eq_getElem (by have := HN.out; omega)⟩
      have hbk : ((s.bs.take k).map kb ++ s.bs.drop k)[k]? = some b := by
        have := HN.out
        have hlk : ((s.bs.take k).map kb).length = k := by rw [List.length_map, List.length_take]; omega
        rw [List.getElem?_append_right (by omega), hlk, List.getElem?_drop, Nat.sub_self, Nat.add_zero, hb]
      obtain ⟨A, c, hrow⟩ := hd.row hbk
      obtain ⟨m, hm⟩ : ∃ m, b.opn.length = m := ⟨_, rfl⟩
      have cv : wr.cell? ⟨gb, k * 65 + 64, none⟩ = some (.slice A m c) := by rw [hd.cell, hd.hv k (by rw [← hlen] at hlt; exact hlt), hrow, hm]
      have HBK := Aside0.mk hbk
      have HD := Aside0.mk hd
      have HM := Aside0.mk hm
      have HB := Aside0.mk hb
      have HLEN := Aside0.mk hlen
      have b1 : decide ((k : Int) < (n : Int)) = true := decide_eq_true (by omega)
      clear hd hch hlen hrow hm hb hbk
      go_wp2_with fail
      go_still_tail 15, (by kernel_rfl)
      go_wp2_with (go_at_call 26; (with_reducible refine (keep_calls (by exact HD.out.kept (fun _ _ => rfl) (Nat.le_refl _)) HBK.out (m : Int)).mono ?_); rintro e w2 ⟨rfl, hk2⟩; have HK2 := Aside0.mk hk2; clear hk2)
      go_roundw
      case rel =>
        refine ⟨k + 1, by omega, by go_num, ⟨?_⟩⟩
        have h2 := HK2.out
        have e : keepB b (m : Int) = kb b := by unfold kb; rw [HM.out]
        rw [e, step_list _ _ _ _ HB.out] at h2
        exact ⟨h2.st, HR.out.ch.trans (h2.ch.from rfl rfl rfl rfl)⟩
      case measure => simp [intOf]; omega
    · have b1 : decide ((k : Int) < (n : Int)) = false := decide_eq_false (by omega)
      have HD := Aside0.mk hd
      have HCH := Aside0.mk hch
      clear hd hch hlen
      go_wp2_with fail
      go_ret
      refine ⟨rfl, ?_⟩
      have hkn : k = n := by omega
      have h2 := HR.out
      rw [hkn, HN.out, List.take_length, List.drop_length, List.append_nil, ← HL.out] at h2
      exact h2
theorem restart_calls (h : DWx w F g gb C v f s) (A : Option Addr) (c : Nat) (l : List Int) (hr : Kd.C (Kd.int .i64) w A l.length l) (hA : 0 < l.length → ∀ ad, A = some ad → ¬ F ad.block) (hlt : 0 < l.length → ∀ ad, A = some ad → ad.block < w.heap.size) :
    Calls Try.prog 9 #[.pointer (some ⟨g, 0, none⟩), .slice A l.length c] w fun e w' => e = .returned (.tuple #[]) ∧ Kpt w w' F g gb f ⟨false, -1, s.bs.mapIdx (fun i b => keepB b (l.getD i 0))⟩ := by
  have c2 := h.cellg 2
  have n480 := h.n480
  obtain ⟨n, hn⟩ : ∃ n, n = s.bs.length := ⟨_, rfl⟩
  have HN := Aside0.mk hn
  obtain ⟨q, hq⟩ : ∃ q, l.length = q := ⟨_, rfl⟩
  have HQ := Aside0.mk hq
  have hq63 := hr.2.1
  rw [← hn] at c2 n480
  rw [hq] at hr hq63 hA hlt
  rw [hq]
  have HR := Aside0.mk hr
  have HA := Aside0.mk hA
  have HLT := Aside0.mk hlt
  have H := Aside0.mk h
  clear h hn hq hr hA hlt
  go_enter Try.func9, Try.ntmps9
  go_wp2_with fail
  clear c2
  go_loopw [13] (fun i wr => ∃ (k : Nat) (bs' : List Blk), k ≤ n ∧ i = .int .i64 k ∧ Aside0 (PW l k s.bs bs') ∧ Aside0 (Kpt w wr F g gb f ⟨s.off, s.left, bs'⟩)) (fun i _ => n - (intOf i).toNat)
  case atStart => exact ⟨0, s.bs, Nat.zero_le _, rfl, ⟨PW.zero _ _⟩, ⟨Kpt.of H.out (Ch.refl _ _)⟩⟩
  case round =>
    obtain ⟨k, bs', hk, rfl, HP, HK⟩ := hrel
    obtain ⟨⟨C', v', hd⟩, hch⟩ := HK.out
    have hlen : bs'.length = n := by rw [HP.out.len, HN.out]
    have c2 : wr.cell? ⟨g, 2, none⟩ = some (.slice (some ⟨gb, 0, none⟩) n n) := by
      have h_ := hd.cellg 2
      rw [hlen] at h_
      exact h_
    have HD := Aside0.mk hd
    by_cases hlt : k < n
    · obtain ⟨b, hb⟩ : ∃ b, s.bs[k]? = some b := ⟨_, List.getElem?_eq_getElem (by have := HN.out; omega)⟩
      have hbk : bs'[k]? = some b := by rw [HP.out.at_ k b hb, if_neg (by omega)]
      have HB := Aside0.mk hb
      have HBK := Aside0.mk hbk
      have b1 : decide ((k : Int) < (n : Int)) = true := decide_eq_true (by omega)
      obtain ⟨x, hx⟩ : ∃ x, l.getD k 0 = x := ⟨_, rfl⟩
      have HX := Aside0.mk hx
      have HLEN := Aside0.mk hlen
      have HCH := Aside0.mk hch
      by_cases hkq : k < q
      · obtain ⟨ad, hAd, hx0⟩ := Kd.at_int (C_far HR.out (fun ad e => hch.far _ (HLT.out (by omega) ad e) (HA.out (by omega) ad e))) (k : Int) (by omega) (by omega)
        subst hAd
        rw [Int.toNat_natCast, show rd l (k : Int) = x from by rw [← hx]; show l.getD (k : Int).toNat 0 = _; rw [Int.toNat_natCast]] at hx0
        have b2 : decide ((k : Int) < (q : Int)) = true := decide_eq_true (by omega)
        clear hd hch hlen hb hbk hx
        go_wp2_with (go_at_call 26; (with_reducible refine (keep_calls (by exact HD.out) HBK.out x).mono ?_); rintro e w2 ⟨rfl, hk2⟩; have HK2 := Aside0.mk hk2; clear hk2)
        go_roundw
        case rel =>
          refine ⟨k + 1, _, by omega, by go_num, ⟨HP.out.next HB.out⟩, ⟨?_⟩⟩
          rw [HX.out]
          exact ⟨HK2.out.st, HCH.out.trans HK2.out.ch⟩
        case measure => simp [intOf]; omega
      · have b2 : decide ((k : Int) < (q : Int)) = false := decide_eq_false (by omega)
        have hx0 : x = 0 := by rw [← hx, List.getD_eq_getElem?_getD, List.getElem?_eq_none (by have := HQ.out; omega)]; rfl
        have HX0 := Aside0.mk hx0
        clear hd hch hlen hb hbk hx hx0
        go_wp2_with (go_at_call 26; (with_reducible refine (keep_calls (by exact HD.out) HBK.out 0).mono ?_); rintro e w2 ⟨rfl, hk2⟩; have HK2 := Aside0.mk hk2; clear hk2)
        go_roundw
        case rel =>
          refine ⟨k + 1, _, by omega, by go_num, ⟨HP.out.next HB.out⟩, ⟨?_⟩⟩
          rw [HX.out, HX0.out]
          exact ⟨HK2.out.st, HCH.out.trans HK2.out.ch⟩
        case measure => simp [intOf]; omega
    · have b1 : decide ((k : Int) < (n : Int)) = false := decide_eq_false (by omega)
      have c0 := hd.cellg 0
      have c1 := hd.cellg 1
      have f0 := blk_frozen hd.hg 0
      have f1 := blk_frozen hd.hg 1
      have HCH := Aside0.mk hch
      clear hd hch hlen
      go_wp2_with fail
      go_end0
      refine ⟨rfl, ?_⟩
      have hkn : k = s.bs.length := by rw [← HN.out]; omega
      have hp := HP.out
      rw [hkn] at hp
      have hpa := hp.all
      subst hpa
      obtain ⟨h1, h2⟩ := HD.out.power (w1 := (wr.setCell ⟨g, 0, none⟩ (.bool false)).setCell ⟨g, 1, none⟩ (.int .i64 (-1))) ⟨rfl, rfl, rfl, by simp [World.setCell], fun k _ hn => (heap_setCell_other _ _ _ _ (fun e => hn (by rw [e]))).trans (heap_setCell_other _ _ _ _ (fun e => hn (by rw [e])))⟩ false (-1) (blk_set (blk_set HD.out.hg 0 _) 1 _)
      exact Kpt.of h1 (HCH.out.trans h2)
end
end Go.Proofs.Ytcihfmehbmficaa.Disk
/- Walks of package disk: Put. -/
namespace Go.Proofs.Ytcihfmehbmficaa.Disk
open Go Go.RowKit Go.Proofs.YtcihfmehbmficaaW.PrintWords Go.Proofs.YtcihfmehbmficaaW.PrintLast Go.Proofs.YtcihfmehbmficaaW.PrintMore
attribute [local go_sem] max2_int min2_int max_two min_two
set_option linter.unusedVariables false
set_option maxRecDepth 100000
set_option linter.unusedSimpArgs false

/-- A block that is to lie somewhere. -/
structure Wr where
  tgt : Int
  data : List Int
def zW : Wr := ⟨0, []⟩
def kW : Kd Wr := Kd.iso (Kd.pair (Kd.int .i64) (Kd.slice 5 B)) (fun x : Wr => (x.tgt, x.data))
theorem kW_open {w : World} {x : Wr} {cs : List Value} (h : kW.K w x cs) : ∃ A1 c1, cs = [.int .i64 x.tgt, .slice A1 x.data.length c1] ∧ x.data.length ≤ c1 ∧ B.C w A1 x.data.length x.data := by
  obtain ⟨_, _, rfl, rfl, ⟨A1, c1, rfl, l1, g1⟩⟩ := h
  exact ⟨A1, c1, rfl, l1, g1⟩
theorem at_W {w : World} {A : Option Addr} {n : Nat} {xs : List Wr} (h : Kd.C kW w A n xs) {i : Nat} {x : Wr} (hi : xs[i]? = some x) :
    ∃ ad A1 c1, A = some ad ∧ w.cell? (ad.add (i * 2)) = some (.int .i64 x.tgt) ∧ w.cell? ⟨(ad.add (i * 2)).block, (ad.add (i * 2)).off + 1, none⟩ = some (.slice A1 x.data.length c1) ∧ x.data.length ≤ c1 ∧ B.C w A1 x.data.length x.data := by
  have hl : i < n := by rw [← h.1]; exact (List.getElem?_eq_some_iff.1 hi).1
  obtain ⟨ad, c, e, _, hK, hc0⟩ := Kd.C_get h zW (i : Int) (by omega) (by omega)
  have hx : xs.getD ((i : Int)).toNat zW = x := by rw [Int.toNat_natCast, List.getD_eq_getElem?_getD, hi]; rfl
  rw [hx] at hK
  have hc : ∀ j u, c[j]? = some u → w.cell? (ad.add (i * 2 + j)) = some u := hc0
  obtain ⟨A1, c1, rfl, l1, g1⟩ := kW_open hK
  exact ⟨ad, A1, c1, e, hc 0 _ rfl, by rw [← add_field _ _ 1 (by omega)]; exact hc 1 _ rfl, l1, g1⟩
theorem C_far0 {k : IntKind} {w w1 : World} {A : Option Addr} {n : Nat} {xs : List Int} (h : (Kd.int k).C w A n xs) (hA : 0 < n → ∀ ad, A = some ad → w1.heap[ad.block]? = w.heap[ad.block]?) : (Kd.int k).C w1 A n xs := by
  by_cases h0 : 0 < n
  · exact C_far h (hA h0)
  · exact ⟨h.1, h.2.1, fun hn => absurd hn h0⟩
/-- Blocks to be written, read out of memory; none of what they lie in is the disk's. -/
def RW (w : World) (F : Nat → Prop) (A : Option Addr) (ws : List Wr) : Prop := ∀ (i : Nat) (x : Wr), ws[i]? = some x → ∃ ad A1 c1, A = some ad ∧ ad.block < w.heap.size ∧ ¬ F ad.block ∧
  w.cell? (ad.add (i * 2)) = some (.int .i64 x.tgt) ∧ w.cell? ⟨(ad.add (i * 2)).block, (ad.add (i * 2)).off + 1, none⟩ = some (.slice A1 x.data.length c1) ∧ x.data.length ≤ c1 ∧ B.C w A1 x.data.length x.data ∧ (0 < x.data.length → ∀ ad1, A1 = some ad1 → ad1.block < w.heap.size ∧ ¬ F ad1.block)
theorem RW.ch {w w1 : World} {F F1 : Nat → Prop} {A : Option Addr} {ws : List Wr} (h : RW w F A ws) (hc : Ch w w1 F F1) : RW w1 F1 A ws := fun i x hi => by
  obtain ⟨ad, A1, c1, e, hb, hF, ca, cd, hl, hC, hA⟩ := h i x hi
  have far : ∀ k, k < w.heap.size → ¬ F k → w1.heap[k]? = w.heap[k]? ∧ k < w1.heap.size ∧ ¬ F1 k := fun k hk hn => ⟨hc.far k hk hn, Nat.lt_of_lt_of_le hk hc.size, fun h1 => (hc.new k h1).elim hn (fun h2 => by omega)⟩
  obtain ⟨f1, f2, f3⟩ := far _ hb hF
  refine ⟨ad, A1, c1, e, f2, f3, ?_, ?_, hl, C_far0 hC (fun h0 ad1 e1 => (far _ (hA h0 ad1 e1).1 (hA h0 ad1 e1).2).1), fun h0 ad1 e1 => (far _ (hA h0 ad1 e1).1 (hA h0 ad1 e1).2).2⟩
  · rw [← ca]; exact World.cell?_of_block (by rw [add_block]; exact f1)
  · rw [← cd]; exact World.cell?_of_block (by show w1.heap[(ad.add (i * 2)).block]? = w.heap[(ad.add (i * 2)).block]?; rw [add_block]; exact f1)
def push (x : List Int) (b : Blk) : Blk := ⟨b.last, b.opn ++ [x]⟩
def putRun : Bool → Int → List Blk → List Wr → DS × Int
  | off, left, bs, [] => (⟨off, left, bs⟩, 0)
  | off, left, bs, x :: xs => if left = 0 then (⟨true, 0, bs⟩, 8) else putRun off (spendS off left).2.1 (bs.modify x.tgt.toNat (push x.data)) xs
def badLen (ws : List Wr) : Bool := ws.any (fun x => x.data.length != 64)
def badTo (n : Nat) (ws : List Wr) : Bool := ws.any (fun x => decide (x.tgt < 0) || decide ((n : Int) ≤ x.tgt))
def putF (s : DS) (ws : List Wr) : DS × Int := if s.off = true then (s, 8) else if badLen ws = true then (s, 1) else if badTo s.bs.length ws = true then (s, 7) else putRun s.off s.left s.bs ws
def PutP (w w' : World) (F : Nat → Prop) (g : Nat) (s : DS) : Prop := ∃ F', DW w' F' g s ∧ Ch w w' F F'
theorem load_arr {w : World} {ad : Addr} {l : List Int} {n : Nat} (hn : n = 64) (h : Kd.C B w (some ad) n l) : (Instr.loadAt 71 (.pointer (some ad))).run Try.prog w = .ok (.agg (nums .u8 l).toArray) w := by
  subst hn
  have hl64 : l.length = 64 := h.1
  have hl : (loadCells ad 64).run Try.prog w = .ok (nums .u8 l).toArray w := by
    have h1 := run_loadCells_list (P := Try.prog) w ad (nums .u8 l) (fun j u hu => by
      unfold nums at hu
      rw [List.getElem?_map] at hu
      cases hj : l[j]? with
      | none => rw [hj] at hu; cases hu
      | some y =>
        rw [hj] at hu
        obtain rfl := Option.some.inj hu
        have hj64 : j < 64 := by rw [← hl64]; exact (List.getElem?_eq_some_iff.1 hj).1
        obtain ⟨ad', e, hx⟩ := Kd.at_int h (j : Int) (by omega) (by omega)
        obtain rfl := Option.some.inj e
        rw [Int.toNat_natCast] at hx
        rw [hx]
        show some (Value.int .u8 (l.getD (j : Int).toNat 0)) = _
        rw [Int.toNat_natCast, List.getD_eq_getElem?_getD, hj]; rfl)
    rw [show (nums .u8 l).length = 64 from by rw [Go.Proofs.YtcihfmehbmficaaW.PrintWords.nums_length, hl64]] at h1
    exact h1
  have hsz : (Try.prog.info? 71).map (·.size) = some 64 := by kernel_rfl
  cases hq : Try.prog.info? 71 with
  | none => simp [hq] at hsz
  | some i =>
    have hs : i.size = 64 := by simpa [hq] using hsz
    have hagg : (isAgg 71).run Try.prog w = .ok true w := by
      unfold isAgg
      rw [Sem.run_bind, run_underlying Try.underlying71 w]
      rfl
    simp only [Instr.loadAt, Instr.sureAddr, Sem.run_bind, Sem.run_pure, Result.andThen_ok]
    simp [loadVar, Sem.run_bind, hagg, sizeOf, typeInfo, hq, hs, hl]
section
variable {w : World} {F : Nat → Prop} {g gb : Nat} {C : Array Value} {v : Nat → Value} {f : Nat → Nat} {s : DS}
theorem put_off (h : DWx w F g gb C v f s) (ho : s.off = true) (A : Option Addr) (n c : Nat) : Calls Try.prog 16 #[.pointer (some ⟨g, 0, none⟩), .slice A n c] w fun e w' => e = .returned (.int .i64 8) ∧ w = w' := by
  have HC := Aside0.mk (ready_calls g true w (by rw [h.cellg, ho]; rfl))
  clear h ho
  go_enter Try.func16, Try.ntmps16
  go_wp2_with (go_at_call 30; (with_reducible refine HC.out.mono ?_); rintro e w' ⟨rfl, rfl⟩)
  go_ret
  exact ⟨rfl, rfl⟩
/-- An open write more. -/
theorem DWx.pushed (h : DWx w F g gb C v f s) {i : Nat} {b : Blk} (hi : s.bs[i]? = some b) (x : List Int) (w1 : World) (v1 : Value) (F1 : Nat → Prop) (hF1 : F1 = fun k => F k ∨ (w.heap.size ≤ k ∧ k < w1.heap.size))
    (hR : KA.R 71 w1 0 (fun k => k < w.heap.size → F k ∧ f k = i) v1 (b.opn ++ [x])) (hg : w.grownBy w1 (v i).ownBlock) :
    DWx (w1.setCell ⟨gb, i * 65 + 64, none⟩ v1) F1 g gb (C.setIfInBounds (i * 65 + 64) v1) (fun k => if k = i then v1 else v k) (fun k => if k < w.heap.size then f k else i) ⟨s.off, s.left, s.bs.modify i (push x)⟩ ∧ Ch w (w1.setCell ⟨gb, i * 65 + 64, none⟩ v1) F F1 := by
  have hlen := h.len hi
  have hsz : i * 65 + 65 ≤ C.size := by rw [h.hC]; omega
  have hRi := h.ho i b hi
  have hne := Kd.R_ne hRi h.hb (by decide)
  have hneg := Kd.R_ne hRi h.hg (by decide)
  have hb1 : w1.heap[gb]? = some (.cells C 74 (0, 0)) := blk_grown h.hb hg hne
  have s2 : (w1.setCell ⟨gb, i * 65 + 64, none⟩ v1).heap.size = w1.heap.size := by simp [World.setCell]
  have hmod : s.bs.modify i (push x) = s.bs.set i (push x b) := by
    apply List.ext_getElem?
    intro j
    rw [List.getElem?_modify, List.getElem?_set]
    by_cases e : i = j
    · subst e; simp [hlen, (List.getElem?_eq_some_iff.1 hi).2]
    · simp [e]
  rw [hmod]
  have own : ∀ k, (v i).ownBlock = some k → F k ∧ f k = i := hRi.1
  have far : ∀ k, k < w.heap.size → k ≠ gb → (v i).ownBlock ≠ some k → (w1.setCell ⟨gb, i * 65 + 64, none⟩ v1).heap[k]? = w.heap[k]? := fun k hk hn hv => (heap_setCell_other _ _ _ _ hn).trans (hg.block k hk (Ne.symm hv))
  have hneb : v1.ownBlock ≠ some gb := fun e => by
    have hR2 := Kd.R_ne hR hb1 (by decide)
    exact hR2 e.symm
  refine ⟨h.setB hlen (push x b) v1 _ _ F1 _ (blk_set hb1 _ _) (by rw [Array.size_setIfInBounds]) (h.h64 i b hi) (fun j y hj => ?_) ?_ (fun k hk => ?_) ?_ (fun k hF hn hf => ?_) (fun k hF => ?_) (fun k hF => ?_), ⟨hg.os, hg.tape, hg.output, by rw [s2]; exact hg.size, fun k hk hF => far k hk (fun e => hF (e ▸ h.fb)) (fun e => hF (own k e).1), fun k hF => ?_⟩⟩
  · have hj64 : j < 64 := by rw [← h.h64 i b hi]; exact (List.getElem?_eq_some_iff.1 hj).1
    rw [Array.getElem?_setIfInBounds_ne (by omega)]
    exact h.hl i b hi j y hj
  · rw [Array.getElem?_setIfInBounds_self_of_lt (by omega)]
  · rw [Array.getElem?_setIfInBounds_ne (by omega)]
  · refine Kd.R_mono (Kd.R_set (Kd.R_bound hR) hb1 (by decide) (i * 65 + 64) v1) (fun k hk => ?_)
    obtain ⟨hk1, _, hk2, _⟩ := hk
    rw [hF1]
    by_cases hlt : k < w.heap.size
    · exact ⟨.inl (hk1 hlt).1, by rw [if_pos hlt]; exact (hk1 hlt).2⟩
    · exact ⟨.inr ⟨by omega, hk2⟩, by rw [if_neg hlt]⟩
  · refine far k (h.lt k hF) hn (fun e => ?_)
    rcases hf with rfl | hf
    · exact hneg e.symm
    · exact hf (own k e).2
  · rw [hF1]
    exact ⟨.inl hF, by rw [if_pos (h.lt k hF)]⟩
  · rw [hF1] at hF
    rw [s2]
    rcases hF with hF | hF
    · exact Nat.lt_of_lt_of_le (h.lt k hF) hg.size
    · exact hF.2
  · rw [hF1] at hF
    exact hF.imp id (fun h => h.1)
end
end Go.Proofs.Ytcihfmehbmficaa.Disk
/- Walks of package disk: Put, its loops. -/
namespace Go.Proofs.Ytcihfmehbmficaa.Disk
open Go Go.RowKit Go.Proofs.YtcihfmehbmficaaW.PrintWords Go.Proofs.YtcihfmehbmficaaW.PrintLast Go.Proofs.YtcihfmehbmficaaW.PrintMore
attribute [local go_sem] max2_int min2_int max_two min_two
set_option linter.unusedVariables false
set_option maxRecDepth 100000
set_option linter.unusedSimpArgs false

theorem grown_below (w : World) (o : Obj) : Below w.heap.size w (w.alloc o) := (Below.refl _ _).alloc (Nat.le_refl _) o
theorem exec_load {P : Program} {a : Act} {o : Oper} {w : World} (ty : TypeId) (x : Operand) (ho : o.op = .load ty x) (p u : Value) (hx : a.eval x = p) (h : (Instr.loadAt ty p).run P w = .ok u w) : (execOp a.eval o).run P w = .ok (.value u) w := by
  unfold execOp
  simp only [ho, hx, Sem.run_bind, h]
  rfl
theorem exec_arr {a : Act} {o : Oper} {w : World} (x : Operand) (ho : o.op = .sliceToArrayPointer 71 x) (A : Option Addr) (c : Nat) (hx : a.eval x = .slice A 64 c) : (execOp a.eval o).run Try.prog w = .ok (.value (.pointer A)) w := by
  unfold execOp
  simp only [ho, hx, Instr.arrayAt, Sem.run_bind, run_underlying Try.underlying71 w]
  rfl
theorem set_all (l : List Value) : ∀ (pre : List Value) (cs : Array Value), cs.size = pre.length + l.length → cs.toList.take pre.length = pre → (l.zipIdx pre.length).foldl (fun (cs : Array Value) (x : Value × Nat) => cs.setIfInBounds (0 + x.2) x.1) cs = (pre ++ l).toArray := by
  induction l with
  | nil =>
    intro pre cs hs ht
    simp at hs
    rw [List.take_of_length_le (by rw [Array.length_toList]; omega)] at ht
    simp [← ht]
  | cons u l ih =>
    intro pre cs hs ht
    rw [List.zipIdx_cons, List.foldl_cons]
    have h1 := ih (pre ++ [u]) (cs.setIfInBounds (0 + pre.length) u) (by simp at hs ⊢; omega) (by
      rw [Nat.zero_add, Array.toList_setIfInBounds, List.length_append, List.length_singleton, List.take_succ_eq_append_getElem (by simp at hs ⊢; omega), List.take_set_of_le (Nat.le_refl _), ht, List.getElem_set_self])
    rw [List.length_append, List.length_singleton] at h1
    rw [h1, List.append_assoc]; rfl
theorem spend_le (off : Bool) (L : Int) (h : L ≤ 9223372036854775807) : (spendS off L).2.1 ≤ 9223372036854775807 := by
  unfold spendS
  split
  · show (0 : Int) ≤ _; omega
  · split
    · show L - 1 ≤ _; omega
    · exact h
theorem fill_arr (X cs : Array Value) (hX : X.size = 64) (hc : cs.size = 64) : Instr.fill (fun i => some (i * 64, 64)) cs [(0, .agg X)] = some X := by
  have h1 := set_all X.toList [] cs (by simp [hX, hc]) rfl
  have h2 : (X.zipIdx.foldl (fun (cs : Array Value) (x : Value × Nat) => cs.setIfInBounds (0 + x.2) x.1) cs) = X := by
    rw [← Array.foldl_toList, Array.toList_zipIdx]
    simpa using h1
  have h3 : Value.cells (.agg X) = X := rfl
  simp only [Instr.fill, h3, hX, hc, Nat.zero_mul]
  rw [if_neg (by simp)]
  exact congrArg some h2
theorem exec_build {a : Act} {o : Oper} {w : World} (x : Operand) (ho : o.op = .buildSlice 72 1 #[(0, x)]) (X : Array Value) (hx : a.eval x = .agg X) (hX : X.size = 64) : (execOp a.eval o).run Try.prog w = .ok (.value (.slice (some ⟨w.heap.size, 0, none⟩) 1 1)) (w.alloc (.cells X 71)) := by
  obtain ⟨i0, hi0, hz0, hs0, _⟩ := info_parts infoA
  obtain ⟨Z, hZ⟩ : ∃ Z, Array.replicate 64 (Value.int .u8 0) = Z := ⟨_, rfl⟩
  rw [hZ] at hz0
  have hz : (zeroValue 71).run Try.prog w = .ok (.agg Z) w := by simp [zeroValue, typeInfo, hi0, hz0]
  have hsz : (sizeOf 71).run Try.prog w = .ok 64 w := by simp [sizeOf, typeInfo, hi0, hs0]
  unfold execOp
  simp only [ho, Instr.buildSlice, Sem.run_bind, run_underlying Try.underlying72 w, Result.andThen_ok, hsz, List.map_toArray, List.map_cons, List.map_nil, hx]
  simp [hz, fill_arr X _ hX]
  rfl
theorem badLen_true {ws : List Wr} {k : Nat} {x : Wr} (h : ws[k]? = some x) (hx : x.data.length ≠ 64) : badLen ws = true :=
  List.any_eq_true.2 ⟨x, List.mem_of_getElem? h, by simpa using hx⟩
theorem badLen_false {ws : List Wr} (h : ∀ (j : Nat) (x : Wr), ws[j]? = some x → x.data.length = 64) : badLen ws = false :=
  List.any_eq_false.2 fun x hx => by
    obtain ⟨j, hj⟩ := List.mem_iff_getElem?.1 hx
    simp [h j x hj]
theorem badTo_true {n : Nat} {ws : List Wr} {k : Nat} {x : Wr} (h : ws[k]? = some x) (hx : x.tgt < 0 ∨ (n : Int) ≤ x.tgt) : badTo n ws = true :=
  List.any_eq_true.2 ⟨x, List.mem_of_getElem? h, by simpa using hx⟩
theorem badTo_false {n : Nat} {ws : List Wr} (h : ∀ (j : Nat) (x : Wr), ws[j]? = some x → 0 ≤ x.tgt ∧ x.tgt < n) : badTo n ws = false :=
  List.any_eq_false.2 fun x hx => by
    obtain ⟨j, hj⟩ := List.mem_iff_getElem?.1 hx
    have := h j x hj
    simp; omega
/-- Behind the first k writes. -/
structure PutSt (w wr : World) (F : Nat → Prop) (g : Nat) (s : DS) (ws : List Wr) (N k : Nat) (F1 : Nat → Prop) (left1 : Int) (bs1 : List Blk) : Prop where
  d : DW wr F1 g ⟨false, left1, bs1⟩
  ch : Ch w wr F F1
  run : putRun false s.left s.bs ws = putRun false left1 bs1 (ws.drop k)
  len : bs1.length = N
  lo : left1 ≤ 9223372036854775807
  cap : ∀ (i : Nat) (b : Blk), bs1[i]? = some b → b.opn.length + (ws.length - k) ≤ 2199023255551
section
variable {w : World} {F : Nat → Prop} {g : Nat} {s : DS}
set_option maxHeartbeats 4000000 in
set_option maxRecDepth 100000 in
theorem put_on (h : DW w F g s) (ho : s.off = false) (hlo : s.left ≤ 9223372036854775807) (A : Option Addr) (c : Nat) (ws : List Wr) (hC : RW w F A ws) (hn63 : ws.length ≤ 9223372036854775807)
    (hcap : ∀ (i : Nat) (b : Blk), s.bs[i]? = some b → b.opn.length + ws.length ≤ 2199023255551) :
    Calls Try.prog 16 #[.pointer (some ⟨g, 0, none⟩), .slice A ws.length c] w fun e w' => e = .returned (.int .i64 (putF s ws).2) ∧ PutP w w' F g (putF s ws).1 := by
  obtain ⟨gb, C, v, f, hx⟩ := h
  have HX := Aside0.mk hx
  have HRC := Aside0.mk (ready_calls g false w (by rw [hx.cellg, ho]; rfl))
  have HO := Aside0.mk ho
  have HCC := Aside0.mk hC
  have HCAP := Aside0.mk hcap
  obtain ⟨n, hn⟩ : ∃ n, ws.length = n := ⟨_, rfl⟩
  have HN := Aside0.mk hn
  rw [hn] at hn63
  rw [hn]
  have n480 := hx.n480
  obtain ⟨N, hNN⟩ : ∃ N, s.bs.length = N := ⟨_, rfl⟩
  have HNN := Aside0.mk hNN
  rw [hNN] at n480
  have HLO := Aside0.mk hlo
  clear hx ho hC hcap hn hNN hlo
  go_enter Try.func16, Try.ntmps16
  go_wp2_with (go_at_call 30; (with_reducible refine HRC.out.mono ?_); rintro e w' ⟨rfl, rfl⟩)
  go_loopw [21] (fun i wr => ∃ k : Nat, k ≤ n ∧ i = .int .i64 k ∧ Aside0 (Below w.heap.size w wr) ∧ Aside0 (∀ (j : Nat) (x : Wr), j < k → ws[j]? = some x → x.data.length = 64)) (fun i _ => n - (intOf i).toNat)
  case atStart => exact ⟨0, Nat.zero_le _, rfl, ⟨Below.refl _ _⟩, ⟨fun j x h _ => absurd h (by omega)⟩⟩
  case round =>
    obtain ⟨k, hk, rfl, HB, HG⟩ := hrel
    by_cases hlt : k < n
    · have b1 : decide (k < n) = true := decide_eq_true (by omega)
      obtain ⟨x, hx⟩ : ∃ x, ws[k]? = some x := ⟨_, List.getElem?_eq_getElem (by have := HN.out; omega)⟩
      obtain ⟨ad, A1, c1, rfl, _, _, ca, cd, _, _, _⟩ := (HCC.out.ch (Ch.of_below F HB.out)) k x hx
      obtain ⟨m, hm⟩ : ∃ m, x.data.length = m := ⟨_, rfl⟩
      rw [hm] at cd
      have HXK := Aside0.mk hx
      have HM := Aside0.mk hm
      clear hx hm
      by_cases h64 : m = 64
      · subst h64
        go_wp2_with fail
        go_roundw
        case rel =>
          refine ⟨k + 1, by omega, by go_num, ⟨below_alloc HB.out _⟩, ⟨fun j y hj hy => ?_⟩⟩
          by_cases e : j = k
          · subst e
            obtain rfl := Option.some.inj (HXK.out.symm.trans hy)
            exact HM.out
          · exact HG.out j y (by omega) hy
        case measure => simp [intOf]; omega
      · have b2 : ((m : Int) == 64) = false := beq_eq_false_iff_ne.2 (by omega)
        have b3 : ((m : Int) != 64) = true := bne_iff_ne.2 (by omega)
        have H64 := Aside0.mk h64
        clear h64
        go_wp2_with fail
        go_ret
        have hf : putF s ws = (s, 1) := by
          unfold putF
          rw [HO.out, if_neg (by decide), if_pos (badLen_true HXK.out (by rw [HM.out]; exact H64.out))]
        rw [hf]
        exact ⟨rfl, F, ⟨gb, C, v, f, HX.out.below (below_alloc HB.out _)⟩, Ch.of_below F (below_alloc HB.out _)⟩
    · have b1 : decide (k < n) = false := decide_eq_false (by omega)
      have HLEN : Aside0 (badLen ws = false) := ⟨badLen_false fun j x hj => HG.out j x (by have := (List.getElem?_eq_some_iff.1 hj).1; have := HN.out; omega) hj⟩
      have H64 : Aside0 (∀ (j : Nat) (x : Wr), ws[j]? = some x → x.data.length = 64) := ⟨fun j x hj => HG.out j x (by have := (List.getElem?_eq_some_iff.1 hj).1; have := HN.out; omega) hj⟩
      clear hlt hk
      go_wp2_with fail
      clear b1 HG
      go_loopw [32] (fun i wr => ∃ k : Nat, k ≤ n ∧ i = .int .i64 k ∧ Aside0 (Below w.heap.size w wr) ∧ Aside0 (∀ (j : Nat) (x : Wr), j < k → ws[j]? = some x → 0 ≤ x.tgt ∧ x.tgt < N)) (fun i _ => n - (intOf i).toNat)
      case atStart => exact ⟨0, Nat.zero_le _, rfl, HB, ⟨fun j x h _ => absurd h (by omega)⟩⟩
      case round =>
        clear HB
        obtain ⟨k, hk, rfl, HB, HG⟩ := hrel
        by_cases hlt : k < n
        · have b1 : decide (k < n) = true := decide_eq_true (by omega)
          obtain ⟨x, hx⟩ : ∃ x, ws[k]? = some x := ⟨_, List.getElem?_eq_getElem (by have := HN.out; omega)⟩
          obtain ⟨ad, A1, c1, rfl, _, _, ca, cd, _, _, _⟩ := (HCC.out.ch (Ch.of_below F HB.out)) k x hx
          obtain ⟨m, hm⟩ : ∃ m, x.data.length = m := ⟨_, rfl⟩
          rw [hm] at cd
          obtain ⟨y, hy⟩ : ∃ y, x.tgt = y := ⟨_, rfl⟩
          rw [hy] at ca
          have HXK := Aside0.mk hx
          have HY := Aside0.mk hy
          have HDB := Aside0.mk (HX.out.below HB.out)
          have c2 : wr.cell? ⟨g, 2, none⟩ = some (.slice (some ⟨gb, 0, none⟩) N N) := by
            have h_ := HDB.out.cellg 2
            rw [HNN.out] at h_
            exact h_
          have hgl : g < wr.heap.size := HDB.out.lt g HDB.out.fg
          clear hx hm hy
          go_wp2_with fail
          by_cases hy0 : y < 0
          · have b2 : decide (y < 0) = true := decide_eq_true hy0
            go_quiet (fail)
            go_wp2_with fail
            go_ret
            have hf : putF s ws = (s, 7) := by
              unfold putF
              rw [HO.out, if_neg (by decide), HLEN.out, if_neg (by decide), if_pos (badTo_true HXK.out (.inl (by rw [HY.out]; exact hy0)))]
            rw [hf]
            exact ⟨rfl, F, ⟨gb, C, v, f, HX.out.below (pw_below_drewN (below_alloc HB.out _) _)⟩, Ch.of_below F (pw_below_drewN (below_alloc HB.out _) _)⟩
          · have b2 : decide (y < 0) = false := decide_eq_false hy0
            by_cases hyn : (N : Int) ≤ y
            · have b3 : decide ((N : Int) ≤ y) = true := decide_eq_true hyn
              go_quiet (fail)
              go_wp2_with fail
              go_ret
              have hf : putF s ws = (s, 7) := by
                unfold putF
                rw [HO.out, if_neg (by decide), HLEN.out, if_neg (by decide), if_pos (badTo_true HXK.out (.inr (by rw [HNN.out, HY.out]; exact hyn)))]
              rw [hf]
              exact ⟨rfl, F, ⟨gb, C, v, f, HX.out.below (pw_below_drewN (below_alloc HB.out _) _)⟩, Ch.of_below F (pw_below_drewN (below_alloc HB.out _) _)⟩
            · have b3 : decide ((N : Int) ≤ y) = false := decide_eq_false hyn
              go_quiet (fail)
              go_wp2_with fail
              go_roundw
              case rel =>
                refine ⟨k + 1, by omega, by go_num, ⟨pw_below_drewN (below_alloc HB.out _) _⟩, ⟨fun j z hj hz => ?_⟩⟩
                by_cases e : j = k
                · subst e
                  obtain rfl := Option.some.inj (HXK.out.symm.trans hz)
                  have := HY.out
                  omega
                · exact HG.out j z (by omega) hz
              case measure => simp [intOf]; omega
        · have b1 : decide (k < n) = false := decide_eq_false (by omega)
          have HTO : Aside0 (badTo N ws = false) := ⟨badTo_false fun j x hj => HG.out j x (by have := (List.getElem?_eq_some_iff.1 hj).1; have := HN.out; omega) hj⟩
          have HT : Aside0 (∀ (j : Nat) (x : Wr), ws[j]? = some x → 0 ≤ x.tgt ∧ x.tgt < N) := ⟨fun j x hj => HG.out j x (by have := (List.getElem?_eq_some_iff.1 hj).1; have := HN.out; omega) hj⟩
          clear hlt hk
          go_wp2_with fail
          clear b1 HG
          go_loopw [52] (fun i wr => ∃ (k : Nat) (F1 : Nat → Prop) (left1 : Int) (bs1 : List Blk), k ≤ n ∧ i = .int .i64 k ∧ Aside0 (PutSt w wr F g s ws N k F1 left1 bs1)) (fun i _ => n - (intOf i).toNat)
          case atStart =>
            refine ⟨0, F, s.left, s.bs, Nat.zero_le _, rfl, ⟨⟨?_, Ch.of_below F HB.out, by rw [List.drop_zero], HNN.out, HLO.out, fun i b hi => ?_⟩⟩⟩
            · have h1 := HX.out.below HB.out
              have h2 : s = ⟨false, s.left, s.bs⟩ := by rw [← HO.out]
              rw [h2] at h1
              exact ⟨gb, C, v, f, h1⟩
            · have := HCAP.out i b hi
              omega
          case round =>
            clear HB
            obtain ⟨k, F1, L1, bs1, hk, rfl, HS⟩ := hrel
            by_cases hlt : k < n
            · have b1 : decide (k < n) = true := decide_eq_true (by omega)
              obtain ⟨x, hx⟩ : ∃ x, ws[k]? = some x := ⟨_, List.getElem?_eq_getElem (by have := HN.out; omega)⟩
              obtain ⟨ad, A1, c1, rfl, _, _, ca, cd, hlc, hdc, hdA⟩ := (HCC.out.ch HS.out.ch) k x hx
              have hx64 := H64.out k x hx
              rw [hx64] at cd hdc hlc
              obtain ⟨ad1, rfl, _⟩ := hdc.2.2 (by omega)
              have HDA := Aside0.mk (hdA (by omega) ad1 rfl)
              clear hdA
              obtain ⟨t, ht⟩ : ∃ t : Nat, x.tgt = t := ⟨x.tgt.toNat, by have := HT.out k x hx; omega⟩
              have htN : t < N := by have := HT.out k x hx; omega
              rw [ht] at ca
              have hrun := HS.out.run
              obtain ⟨hkl, hxe⟩ := List.getElem?_eq_some_iff.1 hx
              rw [List.drop_eq_getElem_cons hkl, hxe, putRun] at hrun
              obtain ⟨gb1, C1, v1, f1, hd⟩ := HS.out.d
              have HD := Aside0.mk hd
              have HXK := Aside0.mk hx
              have HX64 := Aside0.mk hx64
              have HDC := Aside0.mk hdc
              have HLC := Aside0.mk hlc
              have HTT := Aside0.mk ht
              have hgl : g < wr.heap.size := hd.lt g hd.fg
              have hgbl : gb1 < wr.heap.size := hd.lt gb1 hd.fb
              clear hx hx64 hdc hlc ht hd hkl hxe
              by_cases hl0 : L1 = 0
              · subst hl0
                rw [if_pos rfl] at hrun
                have HRUN := Aside0.mk hrun
                clear hrun
                go_wp2_with (go_at_call 31; (with_reducible refine (spend_calls g false 0 _ (by omega) _ (by exact blk_alloc HD.out.hg _)).mono ?_); rintro e w2 ⟨rfl, hg2, hb2⟩; have HG2 := Aside0.mk hg2; have HB2 := Aside0.mk hb2; clear hg2 hb2; simp only [spendS, if_pos])
                go_ret
                have hf : putF s ws = (⟨true, 0, bs1⟩, 8) := by
                  unfold putF
                  rw [HO.out, if_neg (by decide), HLEN.out, if_neg (by decide), HNN.out, HTO.out, if_neg (by decide)]
                  exact HRUN.out
                rw [hf]
                have hbl := grown_below wr (.cells #[.int .i64 (t : Int), .slice (some ad1) 64 c1] 35)
                obtain ⟨h1, h2⟩ := (HD.out.below hbl).power HG2.out _ _ HB2.out
                exact ⟨rfl, F1, ⟨gb1, C1, v1, f1, h1⟩, HS.out.ch.trans ((Ch.of_below F1 hbl).trans h2)⟩
              · rw [if_neg hl0] at hrun
                have HRUN := Aside0.mk hrun
                have hsp : spendS false L1 = (false, (spendS false L1).2.1, 0) := by
                  unfold spendS; rw [if_neg hl0]; split <;> rfl
                obtain ⟨L2, hL2⟩ : ∃ L2, (spendS false L1).2.1 = L2 := ⟨_, rfl⟩
                rw [hL2] at hsp
                have HSP := Aside0.mk hsp
                have HL2 := Aside0.mk hL2
                clear hrun hsp hL2 hl0
                go_wp2_with (go_at_call 31; (with_reducible refine (spend_calls g false L1 _ HS.out.lo _ (by exact blk_alloc HD.out.hg _)).mono ?_); rintro e w2 ⟨rfl, hg2, hb2⟩; rw [HSP.out] at hb2; have HG2 := Aside0.mk hg2; have HB2 := Aside0.mk hb2; clear hg2 hb2; rw [HSP.out]; dsimp only)
                have hb2 := HB2.out
                have hbl := grown_below wr (.cells #[.int .i64 (t : Int), .slice (some ad1) 64 c1] 35)
                have hdb := HD.out.below hbl
                obtain ⟨hd2, hch2⟩ := hdb.power HG2.out false L2 hb2
                have hlenN := HS.out.len
                rw [hlenN] at hb2
                have cg2 : w2.cell? ⟨g, 2, none⟩ = some (.slice (some ⟨gb1, 0, none⟩) N N) := blk_cell hb2 2
                have hbx : w2.heap[wr.heap.size]? = some (.cells #[.int .i64 (t : Int), .slice (some ad1) 64 c1] 35 (0, 0)) := blk_grown (blk_new wr _) HG2.out (fun e => by have := Option.some.inj e; omega)
                have cx0 := blk_cell hbx 0
                have hchw : Ch w w2 F F1 := HS.out.ch.trans ((Ch.of_below F1 hbl).trans hch2)
                -- the block
                obtain ⟨b, hbt⟩ : ∃ b, bs1[t]? = some b := ⟨_, List.getElem?_eq_getElem (by omega)⟩
                have hRt := hd2.ho t b hbt
                obtain ⟨vq, hvq⟩ : ∃ vq, v1 t = vq := ⟨_, rfl⟩
                have hVQ : C1[t * 65 + 64]? = some vq := by rw [hd2.hv t (by show t < bs1.length; omega), hvq]
                rw [hvq] at hRt
                obtain ⟨X, hX⟩ : ∃ X : Array Value, (encs (Value.int .u8) x.data).toArray = X := ⟨_, rfl⟩
                have HX0 : Aside0 (X.toList = encs (Value.int .u8) x.data) := ⟨by rw [← hX]⟩
                have HXS : Aside0 (X.size = 64) := ⟨by rw [← hX, List.size_toArray, encs_length, HX64.out]⟩
                have hdc2 : Kd.C B w2 (some ad1) 64 x.data := by
                  refine C_far HDC.out (fun ad' e1 => ?_)
                  obtain rfl := Option.some.inj e1
                  exact ((Ch.of_below F1 hbl).trans hch2).far _ HDA.out.1 HDA.out.2
                have HLD : Aside0 (∀ W : World, Below w2.heap.size w2 W → (Instr.loadAt 71 (.pointer (some ad1))).run Try.prog W = .ok (.agg X) W) := ⟨fun W hW => by rw [← hX]; exact load_arr rfl (Kd.C_below hdc2 hW)⟩
                have HSV : Aside0 (∀ W : World, Below w2.heap.size w2 W → W.cell? ⟨gb1, t * 65 + 64, none⟩ = some vq) := ⟨fun W hW => pw_cell_below hW ((hd2.cell _).trans hVQ)⟩
                have HSB : Aside0 (∀ W : World, Below w2.heap.size w2 W → W.cell? ⟨wr.heap.size, 1, none⟩ = some (.slice (some ad1) 64 c1)) := ⟨fun W hW => pw_cell_below hW (blk_cell hbx 1)⟩
                have HGW : Aside0 (∀ W : World, Below w2.heap.size w2 W → W.heap[gb1]? = some (.cells C1 74 (0, 0))) := ⟨fun W hW => (hW.block gb1 (hd2.lt gb1 hd2.fb)).trans hd2.hb⟩
                have HRO : Aside0 (∀ W : World, Below w2.heap.size w2 W → KA.R 71 W 0 (fun k => k < w2.heap.size → F1 k ∧ f1 k = t) vq b.opn) := ⟨fun W hW => Kd.R_mono (Kd.R_below hRt hW) (fun k hk _ => hk)⟩
                have HNE : Aside0 (some gb1 ≠ vq.ownBlock) := ⟨Kd.R_ne hRt hd2.hb (by decide)⟩
                have HVQ := Aside0.mk hVQ
                have HCB : Aside0 (b.opn.length + 1 ≤ 2199023255551) := ⟨by have := HS.out.cap t b hbt; have := HN.out; omega⟩
                have HD2 := Aside0.mk hd2
                have HBT := Aside0.mk hbt
                have HVV := Aside0.mk hvq
                have HCHW := Aside0.mk hchw
                have htz : (0 : Int) ≤ (t : Int) := by omega
                have htN2 : (t : Int) < (N : Int) := by omega
                clear hb2 hbl hdb hd2 hch2 hbx hbt hRt hvq hVQ hX hdc2 hchw hlenN
                go_quiet (fail)
                go_wp2_with fail
                refine start_ (n := 14) (S := fun w' => w'.cell? ⟨gb1, t * 65 + 64, none⟩ = some vq ∧ w'.cell? ⟨wr.heap.size, 1, none⟩ = some (.slice (some ad1) 64 c1) ∧ (Instr.loadAt 71 (.pointer (some ad1))).run Try.prog w' = .ok (.agg X) w') (ds := [10, 13]) #[false, false, false, false, false, false, false, false, false, false, false, false, false, false] (by kernel_rfl) rfl rfl ⟨HSV.out _ (below_drew (pw_below_drewN (Below.refl _ _) _)), HSB.out _ (below_drew (pw_below_drewN (Below.refl _ _) _)), HLD.out _ (below_drew (pw_below_drewN (Below.refl _ _) _))⟩ (fun hHeld => ?_)
                refine pure_ (i := 0) (N := some 70) (v := ?_) (a' := ?_) #[true, false, false, false, false, false, false, false, false, false, false, false, false, false] rfl rfl (by kernel_rfl) (fun _ _ _ h => h) (Or.inl ⟨by rfl, ?_⟩) ?_ ?_
                rotate_left
                · intro w'
                  go_simp
                  with_reducible rfl
                rotate_left
                · simp only [Act.put, List.setIfInBounds_toArray, List.set_cons_zero, List.set_cons_succ, i64_w, i32_w]
                  rfl
                refine pure_ (i := 1) (N := some 71) (v := ?_) (a' := ?_) #[true, true, false, false, false, false, false, false, false, false, false, false, false, false] rfl rfl (by kernel_rfl) (fun _ _ _ h => h) (Or.inl ⟨by rfl, ?_⟩) ?_ ?_
                rotate_left
                · intro w'
                  go_simp
                  with_reducible rfl
                rotate_left
                · simp only [Act.put, List.setIfInBounds_toArray, List.set_cons_zero, List.set_cons_succ, i64_w, i32_w]
                  rfl
                refine pure_ (i := 2) (N := some 72) (v := ?_) (a' := ?_) #[true, true, true, false, false, false, false, false, false, false, false, false, false, false] rfl rfl (by kernel_rfl) (fun _ _ _ h => h) (Or.inl ⟨by rfl, ?_⟩) ?_ ?_
                rotate_left
                · intro w'
                  go_simp
                  with_reducible rfl
                rotate_left
                · simp only [Act.put, List.setIfInBounds_toArray, List.set_cons_zero, List.set_cons_succ, i64_w, i32_w]
                  rfl
                refine pure_ (i := 3) (N := some 73) (v := ?_) (a' := ?_) #[true, true, true, true, false, false, false, false, false, false, false, false, false, false] rfl rfl (by kernel_rfl) (fun _ _ _ h => h) (Or.inl ⟨by rfl, ?_⟩) ?_ ?_
                rotate_left
                · intro w'
                  go_simp
                  with_reducible rfl
                rotate_left
                · simp only [Act.put, List.setIfInBounds_toArray, List.set_cons_zero, List.set_cons_succ, i64_w, i32_w]
                  rfl
                refine pure_ (i := 5) (N := some 75) (v := ?_) (a' := ?_) #[true, true, true, true, false, true, false, false, false, false, false, false, false, false] rfl rfl (by kernel_rfl) (fun _ _ _ h => h) (Or.inl ⟨by rfl, ?_⟩) ?_ ?_
                rotate_left
                · intro w'
                  go_simp
                  with_reducible rfl
                rotate_left
                · simp only [Act.put, List.setIfInBounds_toArray, List.set_cons_zero, List.set_cons_succ, i64_w, i32_w]
                  rfl
                refine take_ (i := 4) (N := some 74) (v := ?_) (a' := ?_) #[true, true, true, true, true, true, false, false, false, false, false, false, false, false] rfl rfl (by kernel_rfl) (fun _ _ _ h => h) (Or.inl ⟨by rfl, ?_⟩) hHeld ?_ ?_
                rotate_left
                · rintro w' ⟨s0, s1, s2⟩
                  go_simp
                  with_reducible rfl
                rotate_left
                · simp only [Act.put, List.setIfInBounds_toArray, List.set_cons_zero, List.set_cons_succ, i64_w, i32_w]
                  rfl
                refine take_ (i := 6) (N := some 76) (v := ?_) (a' := ?_) #[true, true, true, true, true, true, true, false, false, false, false, false, false, false] rfl rfl (by kernel_rfl) (fun _ _ _ h => h) (Or.inl ⟨by rfl, ?_⟩) hHeld ?_ ?_
                rotate_left
                · rintro w' ⟨s0, s1, s2⟩
                  go_simp
                  with_reducible rfl
                rotate_left
                · simp only [Act.put, List.setIfInBounds_toArray, List.set_cons_zero, List.set_cons_succ, i64_w, i32_w]
                  rfl
                refine take_ (i := 7) (N := some 77) (v := ?_) (a' := ?_) #[true, true, true, true, true, true, true, true, false, false, false, false, false, false] rfl rfl (by kernel_rfl) (fun _ _ _ h => h) (Or.inl ⟨by rfl, ?_⟩) hHeld ?_ ?_
                rotate_left
                · rintro w' ⟨s0, s1, s2⟩
                  refine (exec_arr (.tmp 76) ?_ (some ad1) c1 ?_).trans ?_ <;> rfl
                rotate_left
                · simp only [Act.put, List.setIfInBounds_toArray, List.set_cons_zero, List.set_cons_succ, i64_w, i32_w]
                  rfl
                refine take_ (i := 8) (N := some 78) (v := ?_) (a' := ?_) #[true, true, true, true, true, true, true, true, true, false, false, false, false, false] rfl rfl (by kernel_rfl) (fun _ _ _ h => h) (Or.inl ⟨by rfl, ?_⟩) hHeld ?_ ?_
                rotate_left
                · rintro w' ⟨s0, s1, s2⟩
                  refine (exec_load _ (.tmp 77) ?_ (.pointer (some ad1)) _ ?_ s2).trans ?_ <;> rfl
                rotate_left
                · simp only [Act.put, List.setIfInBounds_toArray, List.set_cons_zero, List.set_cons_succ, i64_w, i32_w]
                  rfl
                refine one_ (i := 9) (N := some 79) #[true, true, true, true, true, true, true, true, true, true, false, false, false, false] rfl rfl (by kernel_rfl) (by decide) (fun K hK => ?_)
                refine value_ (w1 := ?_) (v := ?_) (by rfl) rfl ?_ ?_
                rotate_left 2
                · refine (exec_build (.tmp 78) ?_ X ?_ HXS.out).trans ?_ <;> rfl
                refine hK.out _ _ ⟨HSV.out _ (below_alloc (below_drew (pw_below_drewN (Below.refl _ _) _)) _), HSB.out _ (below_alloc (below_drew (pw_below_drewN (Below.refl _ _) _)) _), HLD.out _ (below_alloc (below_drew (pw_below_drewN (Below.refl _ _) _)) _)⟩ (fun hHeld => ?_)
                clear hK K
                refine norm_ (a' := ?_) ?_ ?_
                rotate_left
                · show Act.put _ (some 79) _ = _
                  simp only [Act.put, List.setIfInBounds_toArray, List.set_cons_zero, List.set_cons_succ, i64_w, i32_w]
                  rfl
                refine last_ (i := 10) (N := some 80) #[true, true, true, true, true, true, true, true, true, true, true, false, false, false] rfl rfl (by kernel_rfl) (by decide) (fun K hK => ?_)
                refine Kd.R_append_step KA (w0 := w2) 0 (by rfl) (.tmp 74) (.tmp 79) 72 71 (.agg (Array.replicate 64 (.int .u8 0))) 64 rfl Try.underlying72 infoA (by rfl) (by decide) (by omega) vq b.opn x.data X.toList (fun k => k < w2.heap.size → F1 k ∧ f1 k = t) (fun _ => False) (by rfl) (by rfl) ?hp (fun _ h => h.elim) (fun k hk hk2 => absurd hk2 (Nat.not_lt.2 hk)) ?hO ?hB (Nat.zero_le _) ?hl ?_
                case hp => rw [HX0.out]; exact Kd.arr_of_cells HX64.out
                case hO => exact HRO.out _ (below_drew (pw_below_drewN (Below.refl _ _) _))
                case hB => exact below_drew (pw_below_drewN (Below.refl _ _) _)
                case hl => have := HCB.out; omega
                intro v3 w3 ho3 hb3 hg3 hat3
                obtain ⟨A3, c3, rfl⟩ := Kd.R_slice ho3
                have HO3 := Aside0.mk ho3
                have HB3 := Aside0.mk hb3
                have HG3 := Aside0.mk hg3
                have hb3_ := blk_grown (HGW.out _ (below_drew (pw_below_drewN (Below.refl _ _) _))) HG3.out HNE.out
                have cc3 := (blk_cell hb3_ (t * 65 + 64)).trans HVQ.out
                have ff3 := blk_frozen hb3_ (t * 65 + 64)
                clear ho3 hb3 hg3 hat3 hb3_
                refine hK.out _ _ ?_
                clear hK K
                refine norm_ (a' := ?_) ?_ ?_
                rotate_left
                · show Act.put _ (some 80) _ = _
                  simp only [Act.put, List.setIfInBounds_toArray, List.set_cons_zero, List.set_cons_succ, i64_w, i32_w]
                  rfl
                refine pure_ (i := 11) (N := some 81) (v := ?_) (a' := ?_) #[true, true, true, true, true, true, true, true, true, true, true, true, false, false] rfl rfl (by kernel_rfl) (fun _ _ _ h => h) (Or.inl ⟨by rfl, ?_⟩) ?_ ?_
                rotate_left
                · intro w'
                  go_simp
                  with_reducible rfl
                rotate_left
                · simp only [Act.put, List.setIfInBounds_toArray, List.set_cons_zero, List.set_cons_succ, i64_w, i32_w]
                  rfl
                refine pure_ (i := 12) (N := some 82) (v := ?_) (a' := ?_) #[true, true, true, true, true, true, true, true, true, true, true, true, true, false] rfl rfl (by kernel_rfl) (fun _ _ _ h => h) (Or.inl ⟨by rfl, ?_⟩) ?_ ?_
                rotate_left
                · intro w'
                  go_simp
                  with_reducible rfl
                rotate_left
                · simp only [Act.put, List.setIfInBounds_toArray, List.set_cons_zero, List.set_cons_succ, i64_w, i32_w]
                  rfl
                refine last_ (i := 13) (N := none) #[true, true, true, true, true, true, true, true, true, true, true, true, true, true] rfl rfl (by kernel_rfl) (by decide) (fun K hK => ?_)
                refine skip_ (w1 := ?_) (by rfl) rfl ?_ ?_
                rotate_left
                · go_simp
                  rfl
                refine hK.out _ _ ?_
                clear hK K
                refine done_ (by kernel_rfl) ?_

                go_wp2_with fail
                go_roundw
                case rel =>
                  have hdW : DWx ((w2.drewN nq).drew) F1 g gb1 C1 v1 f1 ⟨false, L2, bs1⟩ := HD2.out.kept (fun _ _ => rfl) (Nat.le_refl _)
                  obtain ⟨h1, h2⟩ := hdW.pushed HBT.out x.data w3 _ _ rfl HO3.out (by rw [HVV.out]; exact HG3.out)
                  rw [show (b.opn ++ [x.data]).length = b.opn.length + 1 from by simp] at h1 h2
                  have hchW : Ch w ((w2.drewN nq).drew) F F1 := ⟨HCHW.out.os, HCHW.out.tape, HCHW.out.output, HCHW.out.size, HCHW.out.far, HCHW.out.new⟩
                  have hrun := HRUN.out
                  rw [HL2.out, HTT.out, Int.toNat_natCast] at hrun
                  refine ⟨k + 1, _, L2, bs1.modify t (push x.data), by omega, by go_num, ⟨⟨⟨gb1, _, _, _, h1⟩, hchW.trans h2, hrun, by rw [List.length_modify]; exact HS.out.len, ?_, fun i b' hi => ?_⟩⟩⟩
                  · rw [← HL2.out]
                    exact spend_le false L1 HS.out.lo
                  · have hkl := HN.out
                    rw [List.getElem?_modify] at hi
                    by_cases e : t = i
                    · subst e
                      rw [HBT.out] at hi
                      simp only [if_true, Option.map_eq_map, Option.map_some] at hi
                      obtain rfl := Option.some.inj hi
                      have := HS.out.cap t b HBT.out
                      show (b.opn ++ [x.data]).length + _ ≤ _
                      rw [List.length_append, List.length_singleton]
                      omega
                    · have hi' : bs1[i]? = some b' := by simpa [e] using hi
                      have := HS.out.cap i b' hi'
                      omega
                case measure => simp [intOf]; omega
            · have b1 : decide (k < n) = false := decide_eq_false (by omega)
              have hkn : k = n := by omega
              have HKN := Aside0.mk hkn
              clear hkn
              go_wp2_with fail
              go_ret
              have hf : putF s ws = (⟨false, L1, bs1⟩, 0) := by
                unfold putF
                rw [HO.out, if_neg (by decide), HLEN.out, if_neg (by decide), HNN.out, HTO.out, if_neg (by decide), HS.out.run, HKN.out, List.drop_of_length_le (by have := HN.out; omega)]
                rfl
              rw [hf]
              exact ⟨rfl, F1, HS.out.d, HS.out.ch⟩
end
end Go.Proofs.Ytcihfmehbmficaa.Disk
/- Package disk: the contracts together; the law's awake. -/
namespace Go.Proofs.Ytcihfmehbmficaa.Disk
open Go Go.RowKit Go.Proofs.YtcihfmehbmficaaW.PrintWords Go.Proofs.YtcihfmehbmficaaW.PrintLast Go.Proofs.YtcihfmehbmficaaW.PrintMore
attribute [local go_sem] max2_int min2_int max_two min_two
set_option linter.unusedVariables false
set_option maxRecDepth 100000
set_option linter.unusedSimpArgs false

theorem mk64 (w : World) : (Instr.makeSlice 23 (.int .i64 64) (.int .i64 64)).run Try.prog w = .ok (.slice (some ⟨w.heap.size, 0, none⟩) 64 64) (w.alloc (.cells (Array.replicate 64 (.int .u8 0)) 5)) := by kernel_rfl
theorem new_at (n : Nat) (nI : Int) (h : (n : Int) = nI) (h1 : 1 ≤ n) (h2 : n ≤ 480) (w : World) :
    Calls Try.prog 12 #[.int .i64 nI] w fun e w' => ∃ g F, e = .returned (.tuple #[.pointer (some ⟨g, 0, none⟩), .int .i64 0]) ∧ DW w' F g (newS n) ∧ (∀ k, F k → w.heap.size ≤ k) ∧ Below w.heap.size w w' := by
  subst h; exact new_ok n h1 h2 w
theorem get_at {w : World} {F : Nat → Prop} {g : Nat} {s : DS} (h : DW w F g s) (ho : s.off = false) {i : Nat} {b : Blk} (iI : Int) (hI : (i : Int) = iI) (hi : s.bs[i]? = some b) : Calls Try.prog 28 #[.pointer (some ⟨g, 0, none⟩), .int .i64 iI] w fun e w' => ∃ v0_ : Value, e = .returned (.tuple #[v0_, .int .i64 0]) ∧ Kd.R B 5 w' w.heap.size (fun _ => True) v0_ (curB b) ∧ Below w.heap.size w w' := by
  subst hI; obtain ⟨_, _, _, _, h⟩ := h; exact get_yes h ho hi
theorem open_at {w : World} {F : Nat → Prop} {g : Nat} {s : DS} (h : DW w F g s) {i : Nat} {b : Blk} (iI : Int) (hI : (i : Int) = iI) (hi : s.bs[i]? = some b) (n : Int) (hn : (b.opn.length : Int) = n) : Calls Try.prog 17 #[.pointer (some ⟨g, 0, none⟩), .int .i64 iI] w fun e w' => e = .returned (.int .i64 n) ∧ w = w' := by
  subst hI hn; obtain ⟨_, _, _, _, h⟩ := h; exact open_yes h i b hi
theorem blocks_at {w : World} {F : Nat → Prop} {g : Nat} {s : DS} (h : DW w F g s) (n : Int) (hn : (s.bs.length : Int) = n) : Calls Try.prog 20 #[.pointer (some ⟨g, 0, none⟩)] w fun e w' => e = .returned (.int .i64 n) ∧ w = w' := by
  subst hn; obtain ⟨_, _, _, _, h⟩ := h; exact blocks_calls h
theorem put_at {w : World} {F : Nat → Prop} {g : Nat} {s : DS} (h : DW w F g s) (ho : s.off = false) (hlo : s.left ≤ 9223372036854775807) (A : Option Addr) (c n : Nat) (ws : List Wr) (hn : ws.length = n) (hC : RW w F A ws) (hn63 : n ≤ 9223372036854775807)
    (hcap : ∀ (i : Nat) (b : Blk), s.bs[i]? = some b → b.opn.length + n ≤ 2199023255551) :
    Calls Try.prog 16 #[.pointer (some ⟨g, 0, none⟩), .slice A n c] w fun e w' => e = .returned (.int .i64 (putF s ws).2) ∧ PutP w w' F g (putF s ws).1 := by
  subst hn; exact put_on h ho hlo A c ws hC hn63 hcap
theorem DW.below {w w1 : World} {F : Nat → Prop} {g : Nat} {s : DS} (h : DW w F g s) (hb : Below w.heap.size w w1) : DW w1 F g s := by
  obtain ⟨gb, C, v, f, h⟩ := h; exact ⟨gb, C, v, f, h.below hb⟩
theorem DW.lt {w : World} {F : Nat → Prop} {g : Nat} {s : DS} (h : DW w F g s) : ∀ k, F k → k < w.heap.size := by
  obtain ⟨gb, C, v, f, h⟩ := h; exact h.lt
theorem RW.one {w : World} {F : Nat → Prop} {b1 gz c : Nat} {t : Int} {data : List Int} (hb : w.heap[b1]? = some (.cells #[.int .i64 t, .slice (some ⟨gz, 0, none⟩) 64 c] 35 (0, 0))) (h64 : data.length = 64) (hc : 64 ≤ c) (hC : B.C w (some ⟨gz, 0, none⟩) 64 data)
    (hz : gz < w.heap.size) (n1 : ¬ F b1) (n2 : ¬ F gz) : RW w F (some ⟨b1, 0, none⟩) [⟨t, data⟩] := fun i x hi => by
  cases i with
  | succ i => simp at hi
  | zero =>
    obtain rfl := Option.some.inj hi
    refine ⟨_, _, c, rfl, blk_lt hb, n1, blk_cell hb 0, ?_, by show data.length ≤ c; omega, by show B.C w _ data.length data; rw [h64]; exact hC, fun _ ad1 e => by obtain rfl := Option.some.inj e; exact ⟨hz, n2⟩⟩
    show w.cell? ⟨b1, 0 + 1, none⟩ = some (.slice _ data.length c)
    rw [h64]
    exact blk_cell hb 1
theorem C_blk {w : World} {gz : Nat} {cs : Array Value} {l : List Int} {n : Nat} (hb : w.heap[gz]? = some (.cells cs 5 (0, 0))) (hl : cs.toList = nums .u8 l) (hn : l.length = n) (h63 : n ≤ 9223372036854775807) : B.C w (some ⟨gz, 0, none⟩) n l := by
  subst hn
  refine c_of_cells (o := 0) h63 (fun j x hj => ?_)
  rw [blk_cell hb, ← Array.getElem?_toList, hl]
  simp [nums, hj]
def b7 : List Int := 7 :: List.replicate 63 0
def aw1 : DS := ⟨false, -1, [⟨List.replicate 64 0, []⟩, ⟨List.replicate 64 0, [b7]⟩]⟩
theorem put_awake : putF (newS 2) [⟨1, b7⟩] = (aw1, 0) := by rfl
theorem awake_get {w : World} {F : Nat → Prop} {g : Nat} (h : DW w F g aw1) : Calls Try.prog 28 #[.pointer (some ⟨g, 0, none⟩), .int .i64 1] w fun e w' => ∃ ad c, e = .returned (.tuple #[.slice (some ad) 64 c, .int .i64 0]) ∧ w'.cell? ad = some (.int .u8 7) ∧ Below w.heap.size w w' := by
  refine (get_at h rfl (i := 1) (b := ⟨List.replicate 64 0, [b7]⟩) 1 rfl rfl).mono ?_
  rintro e w' ⟨v, rfl, hr, hb⟩
  obtain ⟨A, c, rfl⟩ := Kd.R_slice hr
  obtain ⟨ad, rfl, hx⟩ := Kd.at_int (Kd.R_reads' hr).2.2 0 (by decide) (by decide)
  exact ⟨ad, c, rfl, by rw [show (0 : Int).toNat = 0 from rfl, Addr.add_zero'] at hx; exact hx, hb⟩
end Go.Proofs.Ytcihfmehbmficaa.Disk
/- Package disk: contracts at a disk whose inner places are not named; lists of writes that a law makes. -/
namespace Go.Proofs.Ytcihfmehbmficaa.Disk
open Go Go.RowKit Go.Proofs.YtcihfmehbmficaaW.PrintWords Go.Proofs.YtcihfmehbmficaaW.PrintLast Go.Proofs.YtcihfmehbmficaaW.PrintMore
set_option linter.unusedVariables false
set_option maxRecDepth 100000
set_option linter.unusedSimpArgs false

theorem Kpt.put {w w1 : World} {F : Nat → Prop} {g gb : Nat} {f : Nat → Nat} {s : DS} (h : Kpt w w1 F g gb f s) : PutP w w1 F g s := by
  obtain ⟨⟨C, v, hd⟩, hc⟩ := h; exact ⟨F, ⟨gb, C, v, f, hd⟩, hc⟩
section
variable {w : World} {F : Nat → Prop} {g : Nat} {s : DS}
theorem barrier_off_at (h : DW w F g s) (ho : s.off = true) : Calls Try.prog 19 #[.pointer (some ⟨g, 0, none⟩)] w fun e w' => e = .returned (.int .i64 8) ∧ w = w' := by
  obtain ⟨gb, C, v, f, h⟩ := h; exact barrier_off h ho
theorem barrier_power_at (h : DW w F g s) (ho : s.off = false) (hl : s.left = 0) : Calls Try.prog 19 #[.pointer (some ⟨g, 0, none⟩)] w fun e w' => e = .returned (.int .i64 8) ∧ PutP w w' F g ⟨true, 0, s.bs⟩ := by
  obtain ⟨gb, C, v, f, h⟩ := h; exact (barrier_power h ho hl).mono fun e w' ⟨he, hk⟩ => ⟨he, hk.put⟩
theorem barrier_at (h : DW w F g s) (ho : s.off = false) (hl : s.left ≠ 0) (hlo : s.left ≤ 9223372036854775807) : Calls Try.prog 19 #[.pointer (some ⟨g, 0, none⟩)] w fun e w' => e = .returned (.int .i64 0) ∧ PutP w w' F g ⟨false, (spendS false s.left).2.1, s.bs.map kb⟩ := by
  obtain ⟨gb, C, v, f, h⟩ := h; exact (barrier_calls h ho hl hlo).mono fun e w' ⟨he, hk⟩ => ⟨he, hk.put⟩
theorem restart_at (h : DW w F g s) (A : Option Addr) (n c : Nat) (l : List Int) (hn : l.length = n) (hr : Kd.C (Kd.int .i64) w A n l) (hA : 0 < n → ∀ ad, A = some ad → ¬ F ad.block) (hlt : 0 < n → ∀ ad, A = some ad → ad.block < w.heap.size) :
    Calls Try.prog 9 #[.pointer (some ⟨g, 0, none⟩), .slice A n c] w fun e w' => e = .returned (.tuple #[]) ∧ PutP w w' F g ⟨false, -1, s.bs.mapIdx (fun i b => keepB b (l.getD i 0))⟩ := by
  subst hn; obtain ⟨gb, C, v, f, h⟩ := h; exact (restart_calls h A c l hr hA hlt).mono fun e w' ⟨he, hk⟩ => ⟨he, hk.put⟩
theorem restart_none (h : DW w F g s) : Calls Try.prog 9 #[.pointer (some ⟨g, 0, none⟩), .slice none 0 0] w fun e w' => e = .returned (.tuple #[]) ∧ PutP w w' F g ⟨false, -1, s.bs.mapIdx (fun i b => keepB b (([] : List Int).getD i 0))⟩ :=
  restart_at h none 0 0 [] rfl (Kd.C_nil _ _) (fun h => absurd h (by decide)) (fun h => absurd h (by decide))
theorem get_off_at (h : DW w F g s) (ho : s.off = true) (i : Int) : Calls Try.prog 28 #[.pointer (some ⟨g, 0, none⟩), .int .i64 i] w fun e w' => e = .returned (.tuple #[.slice none 0 0, .int .i64 8]) ∧ w = w' := by
  obtain ⟨gb, C, v, f, h⟩ := h; exact get_off h ho i
end
/-! ### A list of writes that was made -/
theorem kW_openM {w : World} {base : Nat} {ok : Nat → Prop} {x : Wr} {cs : List Value} (h : kW.M w base ok x cs) : ∃ v1, cs = [.int .i64 x.tgt, v1] ∧ B.R 5 w base ok v1 x.data := by
  obtain ⟨_, _, rfl, rfl, ⟨v1, rfl, g1⟩⟩ := h
  exact ⟨v1, rfl, g1⟩
theorem kW_mkM (w : World) (base : Nat) (ok : Nat → Prop) (x : Wr) {v1 : Value} (g1 : B.R 5 w base ok v1 x.data) : kW.M w base ok x [.int .i64 x.tgt, v1] := ⟨[.int .i64 x.tgt], [v1], rfl, rfl, ⟨v1, rfl, g1⟩⟩
theorem infoW : (Try.prog.info? 35).map (fun i => (i.zero, i.size, i.bytes)) = some (some (.agg #[.int .i64 0, .slice none 0 0]), 2, 32) := by kernel_rfl
theorem R_blk {w : World} {base gz n : Nat} {ok : Nat → Prop} {cs : Array Value} {l : List Int} (hb : w.heap[gz]? = some (.cells cs 5 (0, 0))) (hl : cs.toList = nums .u8 l) (hn : l.length = n) (hbase : base ≤ gz) (hok : ok gz) (hm : n ≤ maxLen) :
    B.R 5 w base ok (.slice (some ⟨gz, 0, none⟩) n n) l := by
  subst hn
  have hsz : cs.size = l.length := by rw [← Array.length_toList, hl, Go.Proofs.YtcihfmehbmficaaW.PrintWords.nums_length]
  refine Kd.R_of_own (enc := Value.int .u8) (h1 := fun _ => rfl) ⟨by rw [encs_length, Nat.mul_one], .inr ⟨gz, l.length, cs, rfl, hbase, hb, Nat.le_refl _, hm, by rw [hsz, Nat.mul_one], ?_⟩⟩ (fun k hk => by
    have : gz = k := by simpa [Value.ownBlock] using hk
    exact this ▸ hok)
  rw [Nat.mul_one, List.take_of_length_le (by rw [Array.length_toList, hsz]; exact Nat.le_refl _), hl]
  rfl
theorem RW.of_R {w : World} {F : Nat → Prop} {base n c : Nat} {ok : Nat → Prop} {A : Option Addr} {ws : List Wr} (h : kW.R 35 w base ok (.slice A n c) ws) (hF : ∀ k, base ≤ k → ok k → ¬ F k) : RW w F A ws := fun i x hi => by
  have hil : i < ws.length := (List.getElem?_eq_some_iff.1 hi).1
  have hn := (Kd.R_reads' h).1
  obtain ⟨g, cap, e, hb, hg, _⟩ := Kd.R_form h (by omega)
  injection e with e1 _ e3
  subst e1; subst e3
  obtain ⟨cs, _, hM, hc⟩ := Kd.R_get h zW (i : Int) (by omega) (by omega)
  have hx : ws.getD ((i : Int)).toNat zW = x := by rw [Int.toNat_natCast, List.getD_eq_getElem?_getD, hi]; rfl
  rw [hx] at hM
  obtain ⟨v1, rfl, hR1⟩ := kW_openM hM
  obtain ⟨A1, c1, rfl⟩ := Kd.R_slice hR1
  have hC1 := Kd.R_reads' hR1
  have hgF : ¬ F g := hF g hb (h.1 g (by simp [Value.ownBlock]))
  refine ⟨⟨g, 0, none⟩, A1, c1, rfl, hg, hgF, hc 0 _ rfl, by rw [← add_field _ _ 1 (by omega)]; exact hc 1 _ rfl, hC1.2.1, hC1.2.2, fun _ ad1 e1 => ?_⟩
  subst e1
  exact ⟨Kd.R_lt hR1 _ rfl, hF _ (Kd.R_base hR1 _ rfl) (hR1.1 _ rfl).1⟩
theorem W_nil (w : World) (base : Nat) (hb : base ≤ w.heap.size) : kW.R 35 (w.alloc (.cells #[] 35)) base (fun _ => True) (.slice (some ⟨w.heap.size, 0, none⟩) 0 0) [] :=
  ⟨fun _ _ => trivial, [], ⟨rfl, .inr ⟨w.heap.size, 0, #[], rfl, hb, blk_new w _, Nat.le_refl _, Nat.zero_le _, rfl, rfl⟩⟩, Reps.none _ _⟩
/-! ### Some writes one behind the other -/
theorem putRun_short : ∀ (ws : List Wr) (L : Nat) (bs : List Blk), L < ws.length → ∃ bs', putRun false (L : Int) bs ws = (⟨true, 0, bs'⟩, 8) ∧ bs'.length = bs.length
  | [], L, bs, h => absurd h (Nat.not_lt_zero _)
  | x :: ws, 0, bs, h => ⟨bs, rfl, rfl⟩
  | x :: ws, L + 1, bs, h => by
    obtain ⟨bs', h1, h2⟩ := putRun_short ws L (bs.modify x.tgt.toNat (push x.data)) (by rw [List.length_cons] at h; omega)
    refine ⟨bs', ?_, by rw [h2, List.length_modify]⟩
    rw [putRun, if_neg (by omega), ← h1]
    congr 1
    unfold spendS
    rw [if_neg (by omega), if_pos (by omega)]
    show ((L + 1 : Nat) : Int) - 1 = _
    omega
theorem modify_at {bs : List Blk} {t i : Nat} {x : List Int} {b' : Blk} (h : (bs.modify t (push x))[i]? = some b') : ∃ b, bs[i]? = some b ∧ b' = if t = i then push x b else b := by
  rw [List.getElem?_modify] at h
  cases hb : bs[i]? with
  | none => rw [hb] at h; cases h
  | some b =>
    rw [hb] at h
    refine ⟨b, rfl, ?_⟩
    by_cases e : t = i
    · rw [if_pos e]; simpa [e] using h.symm
    · rw [if_neg e]; simpa [e] using h.symm
theorem putRun_long : ∀ (ws : List Wr) (L : Nat) (bs : List Blk), ws.length ≤ L → ∃ bs', putRun false (L : Int) bs ws = (⟨false, ((L - ws.length : Nat) : Int), bs'⟩, 0) ∧ bs'.length = bs.length ∧ ∀ (i : Nat) (b' : Blk), bs'[i]? = some b' → ∃ b, bs[i]? = some b ∧ b'.opn.length ≤ b.opn.length + ws.length
  | [], L, bs, h => ⟨bs, rfl, rfl, fun i b h => ⟨b, h, Nat.le_refl _⟩⟩
  | x :: ws, 0, bs, h => by rw [List.length_cons] at h; omega
  | x :: ws, L + 1, bs, h => by
    rw [List.length_cons] at h
    obtain ⟨bs', h1, h2, h3⟩ := putRun_long ws L (bs.modify x.tgt.toNat (push x.data)) (by omega)
    refine ⟨bs', ?_, by rw [h2, List.length_modify], fun i b' hi => ?_⟩
    · rw [putRun, if_neg (by omega)]
      have e : (spendS false ((L + 1 : Nat) : Int)).2.1 = (L : Int) := by
        unfold spendS
        rw [if_neg (by omega), if_pos (by omega)]
        show ((L + 1 : Nat) : Int) - 1 = _
        omega
      rw [e, h1, List.length_cons, show L + 1 - (ws.length + 1) = L - ws.length by omega]
    · obtain ⟨b1, hb1, hle⟩ := h3 i b' hi
      obtain ⟨b, hb, rfl⟩ := modify_at hb1
      refine ⟨b, hb, ?_⟩
      rw [List.length_cons]
      split at hle
      · have : (push x.data b).opn.length = b.opn.length + 1 := by simp [push]
        omega
      · omega
end Go.Proofs.Ytcihfmehbmficaa.Disk
