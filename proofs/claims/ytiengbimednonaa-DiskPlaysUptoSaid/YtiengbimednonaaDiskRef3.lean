/- For all worlds: the reference disk's Barrier. Conditions: the blocks are as the state says. -/
import Derived.Test.YtiengbimednonaaDiskRef2
namespace Go.Proofs.Ytiengbimednonaa.Disk
open Go Go.RowKit Go.Proofs.YtiengbimednonaaW.PrintWords Go.Proofs.YtiengbimednonaaW.PrintLast Go.Proofs.YtiengbimednonaaW.PrintMore
set_option linter.unusedVariables false
set_option linter.unusedSimpArgs false
section
variable {w w1 : World} {G : Nat → Prop} {g gL gO cL cO : Nat} {CL CO : Array Value} {s : DS}
set_option maxHeartbeats 1000000 in
theorem rbarrier_keeps (h : RDx w G g gL gO cL cO CL CO s) (ho : s.off = false) (hl : s.left ≠ 0) (hcap : ∀ (i : Nat) (b : Blk), s.bs[i]? = some b → b.opn.length ≤ 2199023255551) : Calls Try.prog 18 #[.pointer (some ⟨g, 0, none⟩)] w fun e w' => e = .returned (.int .i64 0) ∧ (∃ CL' CO', RDx w' G g gL gO cL cO CL' CO' ⟨false, (spendS false s.left).2.1, s.bs.map kb⟩) ∧ Ch w w' G G := by
  have c3 := blk_cell h.hg 3
  have hgo := goes_calls h
  rw [ho] at c3 hgo
  rw [decide_eq_false hl] at hgo
  have HGO := Aside0.mk hgo
  have HL := Aside0.mk hl
  have HCAP := Aside0.mk hcap
  have HG0 := Aside0.mk h.fg
  have n480 := h.n480
  obtain ⟨N, hN⟩ : ∃ N, s.bs.length = N := ⟨_, rfl⟩
  have HN := Aside0.mk hN
  rw [hN] at n480 c3
  clear h ho hgo hl hcap hN
  go_enter Try.func18, Try.ntmps18
  go_wp2_with (go_at_call 26; (with_reducible refine HGO.out.mono ?_); rintro e w1 ⟨rfl, hr, hg⟩; have HR := Aside0.mk hr; have HG := Aside0.mk hg; clear hr hg)
  have HCH : Aside0 (Ch w w1 G G) := ⟨HG.out.os, HG.out.tape, HG.out.output, HG.out.size, fun k hk hn => HG.out.block k hk (fun e => hn (by rw [Option.some.inj e]; exact HG0.out)), fun k hk => .inl hk⟩
  have hoff : (spendS false s.left).1 = false := by unfold spendS; rw [if_neg HL.out]; split <;> rfl
  have HR1 : Aside0 (RDx w1 G g gL gO cL cO CL CO ⟨false, (spendS false s.left).2.1, s.bs⟩) := ⟨by have h := HR.out; rw [hoff] at h; exact h⟩
  clear hoff HR
  go_loopg [3] N (fun gg i wr => ∃ (k : Nat) (CL' CO' : Array Value), k ≤ N ∧ N - k ≤ gg ∧ i = .int .i64 k ∧ Aside0 (RDx wr G g gL gO cL cO CL' CO' ⟨false, (spendS false s.left).2.1, (s.bs.take k).map kb ++ s.bs.drop k⟩) ∧ Aside0 (Ch w wr G G))
  case atStart => exact ⟨0, CL, CO, Nat.zero_le _, Nat.le_refl _, rfl, HR1, HCH⟩
  case round =>
    obtain ⟨k, CL', CO', hk, hgk, rfl, HD, HC⟩ := hrel
    have hlen : ((s.bs.take k).map kb ++ s.bs.drop k).length = N := by rw [List.length_append, List.length_map, List.length_take, List.length_drop, HN.out]; omega
    have c1 := blk_cell HD.out.hg 1
    rw [show (⟨false, (spendS false s.left).2.1, (s.bs.take k).map kb ++ s.bs.drop k⟩ : DS).bs.length = N from hlen] at c1
    by_cases hlt : k < N
    · obtain ⟨b, hb⟩ : ∃ b, s.bs[k]? = some b := ⟨_, List.getElem?_eq_getElem (by have := HN.out; omega)⟩
      have hbk : ((s.bs.take k).map kb ++ s.bs.drop k)[k]? = some b := by
        rw [List.getElem?_append_right (by rw [List.length_map, List.length_take]; omega), List.length_map, List.length_take, List.getElem?_drop, show k + (k - min k s.bs.length) = k by have := HN.out; omega]; exact hb
      obtain ⟨v, hv, hr⟩ := HD.out.vO k b hbk
      obtain ⟨Av, cv, rfl⟩ := Kd.R_slice hr
      have hst := (blk_cell HD.out.hO k).trans hv
      rw [List.length_map] at hst
      have b1 : decide (k < N) = true := decide_eq_true hlt
      have hkN : (k : Int) < (N : Int) := by omega
      have HK := Aside0.mk (rkeep_calls HD.out hbk (b.opn.length : Int) (HCAP.out k b hb))
      have HB := Aside0.mk hb
      clear hb hbk hv hr hlen
      go_wp2_with (go_at_call 27; (with_reducible refine HK.out.mono ?_); rintro e w2 ⟨rfl, hr2, hc2⟩; have HR2 := Aside0.mk hr2; have HC2 := Aside0.mk hc2; clear hr2 hc2)
      go_roundg (N - (k + 1))
      case measure => omega
      case rel =>
        obtain ⟨CL2, CO2, hr2⟩ := HR2.out
        have e := step_list s.bs kb k b HB.out
        refine ⟨k + 1, CL2, CO2, by omega, Nat.le_refl _, by go_num, ⟨?_⟩, ⟨HC.out.trans HC2.out⟩⟩
        rw [← e]
        exact hr2
    · have b1 : decide (k < N) = false := decide_eq_false hlt
      have hkN : k = s.bs.length := by rw [HN.out]; omega
      clear hlen
      go_wp2_with fail
      go_ret
      have hd := HD.out
      rw [hkN, List.take_length, List.drop_length, List.append_nil] at hd
      exact ⟨rfl, ⟨_, _, hd⟩, HC.out⟩
/-- The power is on again. -/
theorem RDx.power (h : RDx w G g gL gO cL cO CL CO s) : RDx ((w.setCell ⟨g, 3, none⟩ (.bool false)).setCell ⟨g, 2, none⟩ (.int .i64 (-1))) G g gL gO cL cO CL CO ⟨false, -1, s.bs⟩ ∧ Ch w ((w.setCell ⟨g, 3, none⟩ (.bool false)).setCell ⟨g, 2, none⟩ (.int .i64 (-1))) G G := by
  have far : ∀ k, k ≠ g → ((w.setCell ⟨g, 3, none⟩ (.bool false)).setCell ⟨g, 2, none⟩ (.int .i64 (-1))).heap[k]? = w.heap[k]? := fun k hk => (heap_setCell_other _ _ k _ hk).trans (heap_setCell_other _ _ k _ hk)
  have hsz : ((w.setCell ⟨g, 3, none⟩ (.bool false)).setCell ⟨g, 2, none⟩ (.int .i64 (-1))).heap.size = w.heap.size := by rw [World.size_setCell, World.size_setCell]
  exact ⟨h.turned ⟨rfl, rfl, rfl, by rw [hsz]; exact Nat.le_refl _, fun k _ hn => far k (fun e => hn (by rw [e]))⟩ (by omega) (blk_set (blk_set h.hg 3 _) 2 _),
    ⟨rfl, rfl, rfl, by rw [hsz]; exact Nat.le_refl _, fun k _ hG => far k (fun e => hG (by rw [e]; exact h.fg)), fun k hk => .inl hk⟩⟩
set_option maxHeartbeats 1000000 in
theorem rrestart_calls (h : RDx w G g gL gO cL cO CL CO s) (A : Option Addr) (c : Nat) (l : List Int) (hr : Kd.C (Kd.int .i64) w A l.length l) (hA : 0 < l.length → ∀ ad, A = some ad → ¬ G ad.block) (hlt : 0 < l.length → ∀ ad, A = some ad → ad.block < w.heap.size) (hcap : ∀ (i : Nat) (b : Blk), s.bs[i]? = some b → b.opn.length ≤ 2199023255551) :
    Calls Try.prog 20 #[.pointer (some ⟨g, 0, none⟩), .slice A l.length c] w fun e w' => e = .returned (.tuple #[]) ∧ (∃ CL' CO', RDx w' G g gL gO cL cO CL' CO' ⟨false, -1, s.bs.mapIdx (fun i b => keepB b (l.getD i 0))⟩) ∧ Ch w w' G G := by
  obtain ⟨N, hN⟩ : ∃ N, s.bs.length = N := ⟨_, rfl⟩
  have HN := Aside0.mk hN
  obtain ⟨q, hq⟩ : ∃ q, l.length = q := ⟨_, rfl⟩
  have HQ := Aside0.mk hq
  have hq63 := hr.2.1
  have n480 := h.n480
  have c1 := blk_cell h.hg 1
  rw [hN] at n480 c1
  rw [hq] at hr hq63 hA hlt
  rw [hq]
  have HR := Aside0.mk hr
  have HA := Aside0.mk hA
  have HLT := Aside0.mk hlt
  have HCAP := Aside0.mk hcap
  have H := Aside0.mk h
  clear h hN hq hr hA hlt hcap
  go_enter Try.func20, Try.ntmps20
  go_wp2_with fail
  clear c1
  go_loopg [4] N (fun gg i wr => ∃ (k : Nat) (bs' : List Blk) (CL' CO' : Array Value), k ≤ N ∧ N - k ≤ gg ∧ i = .int .i64 k ∧ Aside0 (PW l k s.bs bs') ∧ Aside0 (RDx wr G g gL gO cL cO CL' CO' ⟨s.off, s.left, bs'⟩) ∧ Aside0 (Ch w wr G G))
  case atStart => exact ⟨0, s.bs, CL, CO, Nat.zero_le _, Nat.le_refl _, rfl, ⟨PW.zero _ _⟩, H, ⟨Ch.refl _ _⟩⟩
  case round =>
    obtain ⟨k, bs', CL', CO', hk, hgk, rfl, HP, HD, HC⟩ := hrel
    have hlen : bs'.length = N := by rw [HP.out.len, HN.out]
    have c1 := blk_cell HD.out.hg 1
    rw [show (⟨s.off, s.left, bs'⟩ : DS).bs.length = N from hlen] at c1
    by_cases hlt : k < N
    · obtain ⟨b, hb⟩ : ∃ b, s.bs[k]? = some b := ⟨_, List.getElem?_eq_getElem (by have := HN.out; omega)⟩
      have hbk : bs'[k]? = some b := by rw [HP.out.at_ k b hb, if_neg (by omega)]
      have b1 : decide (k < N) = true := decide_eq_true hlt
      have hkN : (k : Int) < (N : Int) := by omega
      obtain ⟨x, hx⟩ : ∃ x, l.getD k 0 = x := ⟨_, rfl⟩
      have HX := Aside0.mk hx
      have HB := Aside0.mk hb
      by_cases hkq : k < q
      case' pos =>
        obtain ⟨ad, hAd, hx0⟩ := Kd.at_int (C_far HR.out (fun ad e => HC.out.far _ (HLT.out (by omega) ad e) (HA.out (by omega) ad e))) (k : Int) (by omega) (by omega)
        subst hAd
        rw [Int.toNat_natCast, show rd l (k : Int) = x from by rw [← hx]; show l.getD (k : Int).toNat 0 = _; rw [Int.toNat_natCast]] at hx0
        have b2 : decide (k < q) = true := decide_eq_true hkq
        have hkq2 : (k : Int) < (q : Int) := by omega
        have HK := Aside0.mk (rkeep_calls HD.out hbk x (HCAP.out k b hb))
      case' neg =>
        have b2 : decide (k < q) = false := decide_eq_false hkq
        have hx0 : x = 0 := by rw [← hx, List.getD_eq_getElem?_getD, List.getElem?_eq_none (by have := HQ.out; omega)]; rfl
        subst hx0
        have HK := Aside0.mk (rkeep_calls HD.out hbk 0 (HCAP.out k b hb))
      all_goals
        clear hb hbk hx hlen
        go_wp2_with (go_at_call 27; (with_reducible refine HK.out.mono ?_); rintro e w2 ⟨rfl, hr2, hc2⟩; have HR2 := Aside0.mk hr2; have HC2 := Aside0.mk hc2; clear hr2 hc2)
        go_roundg (N - (k + 1))
        case measure => omega
        case rel =>
          obtain ⟨CL2, CO2, hr2⟩ := HR2.out
          have hp := HP.out.next HB.out
          rw [HX.out] at hp
          exact ⟨k + 1, _, CL2, CO2, by omega, Nat.le_refl _, by go_num, ⟨hp⟩, ⟨hr2⟩, ⟨HC.out.trans HC2.out⟩⟩
    · have b1 : decide (k < N) = false := decide_eq_false hlt
      have hkN : k = s.bs.length := by rw [HN.out]; omega
      have c3 := blk_cell HD.out.hg 3
      have c2 := blk_cell HD.out.hg 2
      have f3 := blk_frozen HD.out.hg 3
      have f2 := blk_frozen HD.out.hg 2
      clear hlen
      go_wp2_with fail
      go_end0
      have hp := HP.out
      rw [hkN] at hp
      have hpa := hp.all
      subst hpa
      obtain ⟨h1, h2⟩ := HD.out.power
      exact ⟨rfl, ⟨_, _, h1⟩, HC.out.trans h2⟩
end
end Go.Proofs.Ytiengbimednonaa.Disk
