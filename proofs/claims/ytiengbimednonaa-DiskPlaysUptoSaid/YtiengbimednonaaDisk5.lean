/- Walks of package disk: Fail, Barrier, Restart. -/
import Derived.Test.YtiengbimednonaaDisk4
import Derived.StillTailTactics
namespace Go.Proofs.Ytiengbimednonaa.Disk
open Go Go.RowKit Go.Proofs.YtiengbimednonaaW.PrintWords Go.Proofs.YtiengbimednonaaW.PrintLast Go.Proofs.YtiengbimednonaaW.PrintMore
attribute [local go_sem] max2_int min2_int max_two min_two
set_option linter.unusedVariables false
set_option linter.unusedSimpArgs false

theorem if_max (n : Int) : (if n < -1 then -1 else n) = max n (-1) := by
  by_cases h : n < -1
  · rw [if_pos h]; omega
  · rw [if_neg h]; omega
theorem Kpt.of {w w1 : World} {F : Nat → Prop} {g gb : Nat} {C : Array Value} {v : Nat → Value} {f : Nat → Nat} {s : DS} (h : DWx w1 F g gb C v f s) (hc : Ch w w1 F F) : Kpt w w1 F g gb f s := ⟨⟨C, v, h⟩, hc⟩
theorem Kpt.trans {w w1 w2 : World} {F : Nat → Prop} {g gb : Nat} {f : Nat → Nat} {s s1 : DS} (h : Kpt w w1 F g gb f s) (k : Kpt w1 w2 F g gb f s1) : Kpt w w2 F g gb f s1 := ⟨k.st, h.ch.trans k.ch⟩
theorem Ch.from {w w0 w1 : World} {F F' : Nat → Prop} (k : Ch w0 w1 F F') (h1 : w0.os = w.os) (h2 : w0.tape = w.tape) (h3 : w0.output = w.output) (h4 : w0.heap = w.heap) : Ch w w1 F F' :=
  ⟨k.os.trans h1, k.tape.trans h2, k.output.trans h3, h4 ▸ k.size, fun i hi hF => (k.far i (h4 ▸ hi) hF).trans (by rw [h4]), fun i hi => (k.new i hi).imp id (fun h => h4 ▸ h)⟩
theorem step_list {α : Type} (l : List α) (f : α → α) (k : Nat) (b : α) (h : l[k]? = some b) : ((l.take k).map f ++ l.drop k).set k (f b) = (l.take (k + 1)).map f ++ l.drop (k + 1) := by
  obtain ⟨hk, hb⟩ := List.getElem?_eq_some_iff.1 h
  have hl : ((l.take k).map f).length = k := by rw [List.length_map, List.length_take]; omega
  rw [List.set_append_right _ _ (by omega), hl, Nat.sub_self, List.drop_eq_getElem_cons hk, List.set_cons_zero, List.take_succ_eq_append_getElem hk, List.map_append, hb]
  simp
theorem C_far {k : IntKind} {w w1 : World} {A : Option Addr} {n : Nat} {xs : List Int} (h : (Kd.int k).C w A n xs) (hA : ∀ ad, A = some ad → w1.heap[ad.block]? = w.heap[ad.block]?) : (Kd.int k).C w1 A n xs := by
  refine Kd.C_of_reads (d := (0 : Int)) (h1 := fun _ => rfl) ⟨h.1, h.2.1, fun hn => ?_⟩
  obtain ⟨ad, e, hc⟩ := (Kd.reads_of_C (enc := Value.int k) (d := (0 : Int)) (h1 := fun _ => rfl) h).2.2 hn
  refine ⟨ad, e, fun j hj => ?_⟩
  rw [← hc j hj]
  exact World.cell?_of_block (by rw [add_block]; exact hA ad e)
/-- The first k blocks of a disk that is restarted. -/
structure PW (l : List Int) (k : Nat) (bs bs' : List Blk) : Prop where
  len : bs'.length = bs.length
  at_ : ∀ (i : Nat) (b : Blk), bs[i]? = some b → bs'[i]? = some (if i < k then keepB b (l.getD i 0) else b)
theorem PW.zero (l : List Int) (bs : List Blk) : PW l 0 bs bs := ⟨rfl, fun i b h => by rw [if_neg (by omega)]; exact h⟩
theorem PW.next {l : List Int} {k : Nat} {bs bs' : List Blk} {b : Blk} (h : PW l k bs bs') (hb : bs[k]? = some b) : PW l (k + 1) bs (bs'.set k (keepB b (l.getD k 0))) := by
  have hk := (List.getElem?_eq_some_iff.1 hb).1
  refine ⟨by rw [List.length_set, h.len], fun i c hc => ?_⟩
  by_cases e : i = k
  · subst e
    obtain rfl : b = c := Option.some.inj (hb.symm.trans hc)
    rw [List.getElem?_set_self (by rw [h.len]; exact hk), if_pos (by omega)]
  · rw [List.getElem?_set_ne (Ne.symm e), h.at_ i c hc]
    by_cases g : i < k
    · rw [if_pos g, if_pos (by omega)]
    · rw [if_neg g, if_neg (by omega)]
theorem PW.all {l : List Int} {bs bs' : List Blk} (h : PW l bs.length bs bs') : bs' = bs.mapIdx (fun i b => keepB b (l.getD i 0)) := by
  apply List.ext_getElem?
  intro i
  rw [List.getElem?_mapIdx]
  cases hi : bs[i]? with
  | none =>
    have := List.getElem?_eq_none_iff.1 hi
    rw [List.getElem?_eq_none (by rw [h.len]; exact this)]; rfl
  | some b =>
    rw [h.at_ i b hi, if_pos (List.getElem?_eq_some_iff.1 hi).1]; rfl
section
variable {w : World} {F : Nat → Prop} {g gb : Nat} {C : Array Value} {v : Nat → Value} {f : Nat → Nat} {s : DS}
theorem fail_calls (h : DWx w F g gb C v f s) (n : Int) :
    Calls Try.prog 19 #[.pointer (some ⟨g, 0, none⟩), .int .i64 n] w fun e w' => e = .returned (.tuple #[]) ∧ Kpt w w' F g gb f ⟨s.off, max n (-1), s.bs⟩ := by
  have c1 := h.cellg 1
  have f1 := blk_frozen h.hg 1
  have H := Aside0.mk h
  obtain ⟨q, hq⟩ : ∃ q : Int, (if n < -1 then -1 else n) = q := ⟨_, rfl⟩
  have HQ : Aside0 (max n (-1) = q) := ⟨by rw [← hq, if_max]⟩
  clear h
  go_enter Try.func19, Try.ntmps19
  go_wp2_with fail
  go_end0
  refine ⟨rfl, ?_⟩
  rw [HQ.out]
  obtain ⟨h1, h2⟩ := H.out.power (w1 := w.setCell ⟨g, 1, none⟩ (.int .i64 q)) ⟨rfl, rfl, rfl, by simp [World.setCell], fun k _ hn => heap_setCell_other _ _ _ _ (fun e => hn (by rw [e]))⟩ s.off q (blk_set H.out.hg 1 _)
  exact Kpt.of h1 h2
def kb (b : Blk) : Blk := keepB b (b.opn.length : Int)
theorem barrier_off (h : DWx w F g gb C v f s) (ho : s.off = true) : Calls Try.prog 14 #[.pointer (some ⟨g, 0, none⟩)] w fun e w' => e = .returned (.int .i64 8) ∧ w = w' := by
  have HC := Aside0.mk (ready_calls g true w (by rw [h.cellg, ho]; rfl))
  clear h ho
  go_enter Try.func14, Try.ntmps14
  go_wp2_with (go_at_call 22; (with_reducible refine HC.out.mono ?_); rintro e w' ⟨rfl, rfl⟩)
  refine wp_loop_rounds 1 ?_
  rw [rounds_succ]
  go_wp2_with fail
  go_ret
  exact ⟨rfl, rfl⟩
theorem barrier_power (h : DWx w F g gb C v f s) (ho : s.off = false) (hl : s.left = 0) : Calls Try.prog 14 #[.pointer (some ⟨g, 0, none⟩)] w fun e w' => e = .returned (.int .i64 8) ∧ Kpt w w' F g gb f ⟨true, 0, s.bs⟩ := by
  have HC := Aside0.mk (ready_calls g false w (by rw [h.cellg, ho]; rfl))
  have hg := h.hg
  rw [ho, hl] at hg
  have HS := Aside0.mk (spend_calls g false 0 _ (by omega) w hg)
  have H := Aside0.mk h
  clear h ho hl hg
  go_enter Try.func14, Try.ntmps14
  go_wp2_with (first | (go_at_call 22; (with_reducible refine HC.out.mono ?_); rintro e w' ⟨rfl, rfl⟩) | (go_at_call 23; (with_reducible refine HS.out.mono ?_); rintro e w1 ⟨rfl, hg1, hb1⟩; have HG1 := Aside0.mk hg1; have HB1 := Aside0.mk hb1; clear hg1 hb1; simp only [spendS, if_pos]))
  refine wp_loop_rounds 1 ?_
  rw [rounds_succ]
  go_wp2_with fail
  go_ret
  obtain ⟨h1, h2⟩ := H.out.power HG1.out _ _ HB1.out
  exact ⟨rfl, Kpt.of h1 h2⟩
theorem barrier_calls (h : DWx w F g gb C v f s) (ho : s.off = false) (hl : s.left ≠ 0) (hlo : s.left ≤ 9223372036854775807) : Calls Try.prog 14 #[.pointer (some ⟨g, 0, none⟩)] w fun e w' => e = .returned (.int .i64 0) ∧ Kpt w w' F g gb f ⟨false, (spendS false s.left).2.1, s.bs.map kb⟩ := by
  have HC := Aside0.mk (ready_calls g false w (by rw [h.cellg, ho]; rfl))
  have hg := h.hg
  rw [ho] at hg
  have hsp : (spendS false s.left).2.2 = 0 ∧ (spendS false s.left).1 = false := by
    unfold spendS; rw [if_neg hl]; split <;> exact ⟨rfl, rfl⟩
  have hs := spend_calls g false s.left _ hlo w hg
  rw [hsp.1, hsp.2] at hs
  have HS := Aside0.mk hs
  have H := Aside0.mk h
  have n480 := h.n480
  obtain ⟨n, hn⟩ : ∃ n, n = s.bs.length := ⟨_, rfl⟩
  have HN := Aside0.mk hn
  rw [← hn] at n480
  clear h ho hl hg hsp hs hn
  go_enter Try.func14, Try.ntmps14
  go_wp2_with (first | (go_at_call 22; (with_reducible refine HC.out.mono ?_); rintro e w' ⟨rfl, rfl⟩) | (go_at_call 23; (with_reducible refine HS.out.mono ?_); rintro e w1 ⟨rfl, hg1, hb1⟩; have HG1 := Aside0.mk hg1; have HB1 := Aside0.mk hb1; clear hg1 hb1))
  obtain ⟨h1, h2⟩ := H.out.power HG1.out _ _ HB1.out
  have HK1 := Aside0.mk (Kpt.of h1 h2)
  clear h1 h2
  obtain ⟨L, hL⟩ : ∃ L, (spendS false s.left).2.1 = L := ⟨_, rfl⟩
  rw [hL] at HK1
  have HL := Aside0.mk hL
  clear hL
  go_loopw [4] (fun i wr => ∃ k : Nat, k ≤ n ∧ i = .int .i64 k ∧ Aside0 (Kpt w wr F g gb f ⟨false, L, (s.bs.take k).map kb ++ s.bs.drop k⟩)) (fun i _ => n - (intOf i).toNat)
  case atStart => exact ⟨0, Nat.zero_le _, rfl, ⟨by simpa using HK1.out⟩⟩
  case round =>
    obtain ⟨k, hk, rfl, HR⟩ := hrel
    obtain ⟨⟨C', v', hd⟩, hch⟩ := HR.out
    have hlen : ((s.bs.take k).map kb ++ s.bs.drop k).length = n := by
      have := HN.out
      rw [List.length_append, List.length_map, List.length_take, List.length_drop]; omega
    have c2 : wr.cell? ⟨g, 2, none⟩ = some (.slice (some ⟨gb, 0, none⟩) n n) := by
      have h_ := hd.cellg 2
      rw [hlen] at h_
      exact h_
    by_cases hlt : k < n
    · obtain ⟨b, hb⟩ : ∃ b, s.bs[k]? = some b := ⟨_, List.getElem?_eq_getElem (by have := HN.out; omega)⟩
      have hbk : ((s.bs.take k).map kb ++ s.bs.drop k)[k]? = some b := by
        have := HN.out
        have hlk : ((s.bs.take k).map kb).length = k := by rw [List.length_map, List.length_take]; omega
        rw [List.getElem?_append_right (by omega), hlk, List.getElem?_drop, Nat.sub_self, Nat.add_zero, hb]
      obtain ⟨A, c, hrow⟩ := hd.row hbk
      obtain ⟨m, hm⟩ : ∃ m, b.opn.length = m := ⟨_, rfl⟩
      have cv : wr.cell? ⟨gb, k * 65 + 64, none⟩ = some (.slice A m c) := by rw [hd.cell, hd.hv k (by rw [← hlen] at hlt; exact hlt), hrow, hm]
      have HBK := Aside0.mk hbk
      have HD := Aside0.mk hd
      have HM := Aside0.mk hm
      have HB := Aside0.mk hb
      have HLEN := Aside0.mk hlen
      have b1 : decide ((k : Int) < (n : Int)) = true := decide_eq_true (by omega)
      clear hd hch hlen hrow hm hb hbk
      go_wp2_with fail
      go_still_tail 15, (by kernel_rfl)
      go_wp2_with (go_at_call 24; (with_reducible refine (keep_calls (by exact HD.out.kept (fun _ _ => rfl) (Nat.le_refl _)) HBK.out (m : Int)).mono ?_); rintro e w2 ⟨rfl, hk2⟩; have HK2 := Aside0.mk hk2; clear hk2)
      go_roundw
      case rel =>
        refine ⟨k + 1, by omega, by go_num, ⟨?_⟩⟩
        have h2 := HK2.out
        have e : keepB b (m : Int) = kb b := by unfold kb; rw [HM.out]
        rw [e, step_list _ _ _ _ HB.out] at h2
        exact ⟨h2.st, HR.out.ch.trans (h2.ch.from rfl rfl rfl rfl)⟩
      case measure => simp [intOf]; omega
    · have b1 : decide ((k : Int) < (n : Int)) = false := decide_eq_false (by omega)
      have HD := Aside0.mk hd
      have HCH := Aside0.mk hch
      clear hd hch hlen
      go_wp2_with fail
      go_ret
      refine ⟨rfl, ?_⟩
      have hkn : k = n := by omega
      have h2 := HR.out
      rw [hkn, HN.out, List.take_length, List.drop_length, List.append_nil, ← HL.out] at h2
      exact h2
theorem restart_calls (h : DWx w F g gb C v f s) (A : Option Addr) (c : Nat) (l : List Int) (hr : Kd.C (Kd.int .i64) w A l.length l) (hA : 0 < l.length → ∀ ad, A = some ad → ¬ F ad.block) (hlt : 0 < l.length → ∀ ad, A = some ad → ad.block < w.heap.size) :
    Calls Try.prog 11 #[.pointer (some ⟨g, 0, none⟩), .slice A l.length c] w fun e w' => e = .returned (.tuple #[]) ∧ Kpt w w' F g gb f ⟨false, -1, s.bs.mapIdx (fun i b => keepB b (l.getD i 0))⟩ := by
  have c2 := h.cellg 2
  have n480 := h.n480
  obtain ⟨n, hn⟩ : ∃ n, n = s.bs.length := ⟨_, rfl⟩
  have HN := Aside0.mk hn
  obtain ⟨q, hq⟩ : ∃ q, l.length = q := ⟨_, rfl⟩
  have HQ := Aside0.mk hq
  have hq63 := hr.2.1
  rw [← hn] at c2 n480
  rw [hq] at hr hq63 hA hlt
  rw [hq]
  have HR := Aside0.mk hr
  have HA := Aside0.mk hA
  have HLT := Aside0.mk hlt
  have H := Aside0.mk h
  clear h hn hq hr hA hlt
  go_enter Try.func11, Try.ntmps11
  go_wp2_with fail
  clear c2
  go_loopw [13] (fun i wr => ∃ (k : Nat) (bs' : List Blk), k ≤ n ∧ i = .int .i64 k ∧ Aside0 (PW l k s.bs bs') ∧ Aside0 (Kpt w wr F g gb f ⟨s.off, s.left, bs'⟩)) (fun i _ => n - (intOf i).toNat)
  case atStart => exact ⟨0, s.bs, Nat.zero_le _, rfl, ⟨PW.zero _ _⟩, ⟨Kpt.of H.out (Ch.refl _ _)⟩⟩
  case round =>
    obtain ⟨k, bs', hk, rfl, HP, HK⟩ := hrel
    obtain ⟨⟨C', v', hd⟩, hch⟩ := HK.out
    have hlen : bs'.length = n := by rw [HP.out.len, HN.out]
    have c2 : wr.cell? ⟨g, 2, none⟩ = some (.slice (some ⟨gb, 0, none⟩) n n) := by
      have h_ := hd.cellg 2
      rw [hlen] at h_
      exact h_
    have HD := Aside0.mk hd
    by_cases hlt : k < n
    · obtain ⟨b, hb⟩ : ∃ b, s.bs[k]? = some b := ⟨_, List.getElem?_eq_getElem (by have := HN.out; omega)⟩
      have hbk : bs'[k]? = some b := by rw [HP.out.at_ k b hb, if_neg (by omega)]
      have HB := Aside0.mk hb
      have HBK := Aside0.mk hbk
      have b1 : decide ((k : Int) < (n : Int)) = true := decide_eq_true (by omega)
      obtain ⟨x, hx⟩ : ∃ x, l.getD k 0 = x := ⟨_, rfl⟩
      have HX := Aside0.mk hx
      have HLEN := Aside0.mk hlen
      have HCH := Aside0.mk hch
      by_cases hkq : k < q
      · obtain ⟨ad, hAd, hx0⟩ := Kd.at_int (C_far HR.out (fun ad e => hch.far _ (HLT.out (by omega) ad e) (HA.out (by omega) ad e))) (k : Int) (by omega) (by omega)
        subst hAd
        rw [Int.toNat_natCast, show rd l (k : Int) = x from by rw [← hx]; show l.getD (k : Int).toNat 0 = _; rw [Int.toNat_natCast]] at hx0
        have b2 : decide ((k : Int) < (q : Int)) = true := decide_eq_true (by omega)
        clear hd hch hlen hb hbk hx
        go_wp2_with (go_at_call 24; (with_reducible refine (keep_calls (by exact HD.out) HBK.out x).mono ?_); rintro e w2 ⟨rfl, hk2⟩; have HK2 := Aside0.mk hk2; clear hk2)
        go_roundw
        case rel =>
          refine ⟨k + 1, _, by omega, by go_num, ⟨HP.out.next HB.out⟩, ⟨?_⟩⟩
          rw [HX.out]
          exact ⟨HK2.out.st, HCH.out.trans HK2.out.ch⟩
        case measure => simp [intOf]; omega
      · have b2 : decide ((k : Int) < (q : Int)) = false := decide_eq_false (by omega)
        have hx0 : x = 0 := by rw [← hx, List.getD_eq_getElem?_getD, List.getElem?_eq_none (by have := HQ.out; omega)]; rfl
        have HX0 := Aside0.mk hx0
        clear hd hch hlen hb hbk hx hx0
        go_wp2_with (go_at_call 24; (with_reducible refine (keep_calls (by exact HD.out) HBK.out 0).mono ?_); rintro e w2 ⟨rfl, hk2⟩; have HK2 := Aside0.mk hk2; clear hk2)
        go_roundw
        case rel =>
          refine ⟨k + 1, _, by omega, by go_num, ⟨HP.out.next HB.out⟩, ⟨?_⟩⟩
          rw [HX.out, HX0.out]
          exact ⟨HK2.out.st, HCH.out.trans HK2.out.ch⟩
        case measure => simp [intOf]; omega
    · have b1 : decide ((k : Int) < (n : Int)) = false := decide_eq_false (by omega)
      have c0 := hd.cellg 0
      have c1 := hd.cellg 1
      have f0 := blk_frozen hd.hg 0
      have f1 := blk_frozen hd.hg 1
      have HCH := Aside0.mk hch
      clear hd hch hlen
      go_wp2_with fail
      go_end0
      refine ⟨rfl, ?_⟩
      have hkn : k = s.bs.length := by rw [← HN.out]; omega
      have hp := HP.out
      rw [hkn] at hp
      have hpa := hp.all
      subst hpa
      obtain ⟨h1, h2⟩ := HD.out.power (w1 := (wr.setCell ⟨g, 0, none⟩ (.bool false)).setCell ⟨g, 1, none⟩ (.int .i64 (-1))) ⟨rfl, rfl, rfl, by simp [World.setCell], fun k _ hn => (heap_setCell_other _ _ _ _ (fun e => hn (by rw [e]))).trans (heap_setCell_other _ _ _ _ (fun e => hn (by rw [e])))⟩ false (-1) (blk_set (blk_set HD.out.hg 0 _) 1 _)
      exact Kpt.of h1 (HCH.out.trans h2)
end
end Go.Proofs.Ytiengbimednonaa.Disk
