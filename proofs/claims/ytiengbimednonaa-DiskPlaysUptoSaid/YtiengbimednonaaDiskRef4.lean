/- For all worlds: the reference disk's Put. Conditions: the blocks are as the state says, and what is to be written can be read. -/
import Derived.Test.YtiengbimednonaaDiskRef3
namespace Go.Proofs.Ytiengbimednonaa.Disk
open Go Go.RowKit Go.Proofs.YtiengbimednonaaW.PrintWords Go.Proofs.YtiengbimednonaaW.PrintLast Go.Proofs.YtiengbimednonaaW.PrintMore
set_option linter.unusedVariables false
set_option linter.unusedSimpArgs false
section
variable {w w1 : World} {G : Nat → Prop} {g gL gO cL cO : Nat} {CL CO : Array Value} {s : DS}
theorem infoS : (Try.prog.info? 9).map (fun i => (i.zero, i.size, i.bytes)) = some (some (.string ByteArray.empty), 1, 16) := by kernel_rfl
theorem grown_of_below {n : Nat} {w w' : World} (o : Option Nat) (h : Below n w w') (hn : w.heap.size ≤ n) : w.grownBy w' o := ⟨h.os, h.tape, h.output, h.size, fun k hk _ => h.block k (Nat.lt_of_lt_of_le hk hn)⟩
theorem modify_set {bs : List Blk} {i : Nat} {b : Blk} (hi : bs[i]? = some b) (x : List Int) : bs.modify i (push x) = bs.set i (push x b) := by
  have hlen : i < bs.length := (List.getElem?_eq_some_iff.1 hi).1
  apply List.ext_getElem?
  intro j
  rw [List.getElem?_modify, List.getElem?_set]
  by_cases e : i = j
  · subst e; simp [hlen, (List.getElem?_eq_some_iff.1 hi).2]
  · simp [e]
/-- An open write more. -/
theorem RDx.pushed (h : RDx w G g gL gO cL cO CL CO s) {i : Nat} {b : Blk} (hi : s.bs[i]? = some b) {v v1 : Value} (hv : CO[i]? = some v) (x : List Int)
    (hR : Kd.string.R 9 w1 0 (fun k => k < w.heap.size → G k ∧ k ≠ gL) v1 (b.opn.map str ++ [str x])) (hg : w.grownBy w1 v.ownBlock) (hn : v1.ownBlock = v.ownBlock ∨ ∃ b, v1.ownBlock = some b ∧ w.heap.size ≤ b) :
    RDx (w1.setCell ⟨gO, i, none⟩ v1) (fun k => G k ∨ (w.heap.size ≤ k ∧ k < w1.heap.size)) g gL gO cL cO CL (CO.setIfInBounds i v1) ⟨s.off, s.left, s.bs.modify i (push x)⟩ ∧ Ch w (w1.setCell ⟨gO, i, none⟩ v1) G (fun k => G k ∨ (w.heap.size ≤ k ∧ k < w1.heap.size)) := by
  have hil : i < s.bs.length := (List.getElem?_eq_some_iff.1 hi).1
  have hiC : i < CO.size := (Array.getElem?_eq_some_iff.1 hv).1
  obtain ⟨v0, hv0, hR0⟩ := h.vO i b hi
  obtain rfl : v0 = v := Option.some.inj (hv0.symm.trans hv)
  have hneO := Kd.R_ne hR0 h.hO (by decide)
  have hneg := Kd.R_ne hR0 h.hg (by decide)
  have hneL : v0.ownBlock ≠ some gL := fun e => (hR0.1 gL e).2 rfl
  have hO1 : w1.heap[gO]? = some (.cells CO 31 (0, 0)) := blk_grown h.hO hg hneO
  have s2 : (w1.setCell ⟨gO, i, none⟩ v1).heap.size = w1.heap.size := World.size_setCell ..
  have far : ∀ k, k < w.heap.size → k ≠ gO → v0.ownBlock ≠ some k → (w1.setCell ⟨gO, i, none⟩ v1).heap[k]? = w.heap[k]? := fun k hk hne hv => (heap_setCell_other _ _ _ _ hne).trans (hg.block k hk (Ne.symm hv))
  have lg := h.lt g h.fg
  have lL := h.lt gL h.fL
  rw [modify_set hi]
  have hlen2 : (s.bs.set i (push x b)).length = s.bs.length := List.length_set ..
  refine ⟨⟨?_, ?_, fun j b' hj => ?_, blk_set hO1 i v1, fun j b' hj => ?_, fun j k vj vk hjk hj hk hvj hvk m hm => ?_, .inl h.fg, .inl h.fL, .inl h.fO, fun k hk => ?_, h.lo, by show (s.bs.set i (push x b)).length ≤ 480; rw [hlen2]; exact h.n480⟩, ⟨hg.os, hg.tape, hg.output, by rw [s2]; exact hg.size, fun k hk hG => far k hk (fun e => hG (e ▸ h.fO)) (fun e => hG (hR0.1 k e).1), fun k hk => hk.imp id (fun h => h.1)⟩⟩
  · show _ = some (Obj.cells #[.slice _ (s.bs.set i (push x b)).length _, .slice _ (s.bs.set i (push x b)).length _, _, _] _ _)
    rw [hlen2, far g lg h.gO_ne (Ne.symm hneg)]
    exact h.hg
  · rw [far gL lL h.LO_ne hneL]; exact h.hL
  · have hj' : (s.bs.set i (push x b))[j]? = some b' := hj
    by_cases e : i = j
    · subst e
      rw [List.getElem?_set_self hil] at hj'
      obtain rfl := Option.some.inj hj'
      exact h.vL i b hi
    · rw [List.getElem?_set_ne e] at hj'
      exact h.vL j b' hj'
  · have hj' : (s.bs.set i (push x b))[j]? = some b' := hj
    by_cases e : i = j
    · subst e
      rw [List.getElem?_set_self hil] at hj'
      obtain rfl := Option.some.inj hj'
      refine ⟨v1, Array.getElem?_setIfInBounds_self_of_lt hiC, ?_⟩
      rw [show (push x b).opn.map str = b.opn.map str ++ [str x] by simp [push]]
      refine Kd.R_mono (Kd.R_set (Kd.R_bound hR) hO1 (by decide) i v1) (fun k hk => ?_)
      obtain ⟨hk1, _, hk2, _⟩ := hk
      by_cases hlt : k < w.heap.size
      · exact ⟨.inl (hk1 hlt).1, (hk1 hlt).2⟩
      · exact ⟨.inr ⟨by omega, hk2⟩, fun e => by omega⟩
    · rw [List.getElem?_set_ne e] at hj'
      obtain ⟨u, hu, hru⟩ := h.vO j b' hj'
      refine ⟨u, by rw [Array.getElem?_setIfInBounds_ne e]; exact hu, ?_⟩
      have hlj : j < s.bs.length := (List.getElem?_eq_some_iff.1 hj').1
      refine strR_reok (Kd.R_step (strR_reok hru (ok' := fun k => k ≠ gO ∧ v0.ownBlock ≠ some k) (fun k hk => ⟨fun e2 => Kd.R_ne hru h.hO (by decide) (by rw [hk, e2]), fun e2 => h.ne i j v0 u e hil hlj hv hu k e2 hk⟩)) (fun k ho hk => far k hk ho.1 ho.2)) (fun k hk => ⟨.inl (hru.1 k hk).1, (hru.1 k hk).2⟩)
  · have hj' : j < s.bs.length := by rw [← hlen2]; exact hj
    have hk' : k < s.bs.length := by rw [← hlen2]; exact hk
    have key : ∀ (q : Nat) (u : Value), i ≠ q → q < s.bs.length → CO[q]? = some u → ∀ m, u.ownBlock = some m → v1.ownBlock ≠ some m := by
      intro q u hq hql hu m hm hm1
      rcases hn with e | ⟨c, e, hbb⟩
      · exact h.ne q i u v0 (Ne.symm hq) hql hil hu hv m hm (e.symm.trans hm1)
      · obtain ⟨bq, hbq⟩ : ∃ bq, s.bs[q]? = some bq := ⟨_, List.getElem?_eq_getElem hql⟩
        obtain ⟨u', hu', hru⟩ := h.vO q bq hbq
        obtain rfl : u' = u := Option.some.inj (hu'.symm.trans hu)
        have h1 := Kd.R_lt hru m hm
        rw [e] at hm1
        have := Option.some.inj hm1
        omega
    by_cases e : i = j
    · subst e
      rw [Array.getElem?_setIfInBounds_self_of_lt hiC] at hvj
      obtain rfl := Option.some.inj hvj
      rw [Array.getElem?_setIfInBounds_ne hjk] at hvk
      exact fun h2 => key k vk hjk hk' hvk m h2 hm
    · rw [Array.getElem?_setIfInBounds_ne e] at hvj
      by_cases e2 : i = k
      · subst e2
        rw [Array.getElem?_setIfInBounds_self_of_lt hiC] at hvk
        obtain rfl := Option.some.inj hvk
        exact key j vj e hj' hvj m hm
      · rw [Array.getElem?_setIfInBounds_ne e2] at hvk
        exact h.ne j k vj vk hjk hj' hk' hvj hvk m hm
  · rw [s2]
    rcases hk with hk | hk
    · exact Nat.lt_of_lt_of_le (h.lt k hk) hg.size
    · exact hk.2
def RPutP (w w' : World) (G : Nat → Prop) (g : Nat) (s : DS) : Prop := ∃ G', RD w' G' g s ∧ Ch w w' G G'
/-- Behind the first k writes. -/
structure RPutSt (w wr : World) (G : Nat → Prop) (g : Nat) (s : DS) (ws : List Wr) (N k : Nat) (G1 : Nat → Prop) (left1 : Int) (bs1 : List Blk) : Prop where
  d : RD wr G1 g ⟨false, left1, bs1⟩
  ch : Ch w wr G G1
  run : putRun false s.left s.bs ws = putRun false left1 bs1 (ws.drop k)
  len : bs1.length = N
  cap : ∀ (i : Nat) (b : Blk), bs1[i]? = some b → b.opn.length + (ws.length - k) ≤ 2199023255551
theorem rput_off (h : RDx w G g gL gO cL cO CL CO s) (ho : s.off = true) (A : Option Addr) (n c : Nat) : Calls Try.prog 16 #[.pointer (some ⟨g, 0, none⟩), .slice A n c] w fun e w' => e = .returned (.int .i64 8) ∧ w = w' := by
  have c3 := blk_cell h.hg 3
  rw [ho] at c3
  clear h ho
  go_enter Try.func16, Try.ntmps16
  go_wp2_with fail
  go_ret
  exact ⟨rfl, rfl⟩
set_option maxHeartbeats 4000000 in
set_option maxRecDepth 100000 in
theorem rput_on (h : RDx w G g gL gO cL cO CL CO s) (ho : s.off = false) (A : Option Addr) (c : Nat) (ws : List Wr) (hC : RW w G A ws) (hn63 : ws.length ≤ 9223372036854775807)
    (hcap : ∀ (i : Nat) (b : Blk), s.bs[i]? = some b → b.opn.length + ws.length ≤ 2199023255551) :
    Calls Try.prog 16 #[.pointer (some ⟨g, 0, none⟩), .slice A ws.length c] w fun e w' => e = .returned (.int .i64 (putF s ws).2) ∧ RPutP w w' G g (putF s ws).1 := by
  have c3 := blk_cell h.hg 3
  rw [ho] at c3
  have HX := Aside0.mk h
  have HO := Aside0.mk ho
  have HCC := Aside0.mk hC
  have HCAP := Aside0.mk hcap
  obtain ⟨n, hn⟩ : ∃ n, ws.length = n := ⟨_, rfl⟩
  have HN := Aside0.mk hn
  rw [hn] at hn63
  rw [hn]
  have n480 := h.n480
  obtain ⟨N, hNN⟩ : ∃ N, s.bs.length = N := ⟨_, rfl⟩
  have HNN := Aside0.mk hNN
  rw [hNN] at n480 c3
  clear h ho hC hcap hn hNN
  go_enter Try.func16, Try.ntmps16
  go_wp2_with fail
  go_loopg [5] n (fun gg i wr => ∃ k : Nat, k ≤ n ∧ n - k ≤ gg ∧ i = .int .i64 k ∧ Aside0 (Below w.heap.size w wr) ∧ Aside0 (∀ (j : Nat) (x : Wr), j < k → ws[j]? = some x → x.data.length = 64))
  case atStart => exact ⟨0, Nat.zero_le _, Nat.le_refl _, rfl, ⟨Below.refl _ _⟩, ⟨fun j x h _ => absurd h (by omega)⟩⟩
  case round =>
    obtain ⟨k, hk, hgk, rfl, HB, HG⟩ := hrel
    by_cases hlt : k < n
    · have b1 : decide (k < n) = true := decide_eq_true (by omega)
      obtain ⟨x, hx⟩ : ∃ x, ws[k]? = some x := ⟨_, List.getElem?_eq_getElem (by have := HN.out; omega)⟩
      obtain ⟨ad, A1, c1, rfl, _, _, ca, cd, _, _, _⟩ := (HCC.out.ch (Ch.of_below G HB.out)) k x hx
      obtain ⟨m, hm⟩ : ∃ m, x.data.length = m := ⟨_, rfl⟩
      rw [hm] at cd
      have HXK := Aside0.mk hx
      have HM := Aside0.mk hm
      have hkz : (0 : Int) ≤ (k : Int) := by omega
      have hkn : (k : Int) < (n : Int) := by omega
      clear hx hm
      by_cases h64 : m = 64
      · subst h64
        go_wp2_with fail
        go_roundg (n - (k + 1))
        case measure => omega
        case rel =>
          refine ⟨k + 1, by omega, Nat.le_refl _, by go_num, HB, ⟨fun j y hj hy => ?_⟩⟩
          by_cases e : j = k
          · subst e
            obtain rfl := Option.some.inj (HXK.out.symm.trans hy)
            exact HM.out
          · exact HG.out j y (by omega) hy
      · have b2 : ((m : Int) == 64) = false := beq_eq_false_iff_ne.2 (by omega)
        have b3 : ((m : Int) != 64) = true := bne_iff_ne.2 (by omega)
        have H64 := Aside0.mk h64
        clear h64
        go_wp2_with fail
        go_ret
        have hf : putF s ws = (s, 1) := by
          unfold putF
          rw [HO.out, if_neg (by decide), if_pos (badLen_true HXK.out (by rw [HM.out]; exact H64.out))]
        rw [hf]
        exact ⟨rfl, G, ⟨gL, gO, cL, cO, CL, CO, HX.out.below HB.out⟩, Ch.of_below G HB.out⟩
    · have b1 : decide (k < n) = false := decide_eq_false (by omega)
      have HLEN : Aside0 (badLen ws = false) := ⟨badLen_false fun j x hj => HG.out j x (by have := (List.getElem?_eq_some_iff.1 hj).1; have := HN.out; omega) hj⟩
      have H64 : Aside0 (∀ (j : Nat) (x : Wr), ws[j]? = some x → x.data.length = 64) := ⟨fun j x hj => HG.out j x (by have := (List.getElem?_eq_some_iff.1 hj).1; have := HN.out; omega) hj⟩
      clear hlt hk hgk
      go_wp2_with fail
      clear b1 HG
      go_loopg [6] n (fun gg i wr => ∃ k : Nat, k ≤ n ∧ n - k ≤ gg ∧ i = .int .i64 k ∧ Aside0 (Below w.heap.size w wr) ∧ Aside0 (∀ (j : Nat) (x : Wr), j < k → ws[j]? = some x → 0 ≤ x.tgt ∧ x.tgt < N))
      case atStart => exact ⟨0, Nat.zero_le _, Nat.le_refl _, rfl, HB, ⟨fun j x h _ => absurd h (by omega)⟩⟩
      case round =>
        clear HB
        obtain ⟨k, hk, hgk, rfl, HB, HG⟩ := hrel
        by_cases hlt : k < n
        · have b1 : decide (k < n) = true := decide_eq_true (by omega)
          obtain ⟨x, hx⟩ : ∃ x, ws[k]? = some x := ⟨_, List.getElem?_eq_getElem (by have := HN.out; omega)⟩
          obtain ⟨ad, A1, c1, rfl, _, _, ca, cd, _, _, _⟩ := (HCC.out.ch (Ch.of_below G HB.out)) k x hx
          obtain ⟨m, hm⟩ : ∃ m, x.data.length = m := ⟨_, rfl⟩
          rw [hm] at cd
          obtain ⟨y, hy⟩ : ∃ y, x.tgt = y := ⟨_, rfl⟩
          rw [hy] at ca
          have HXK := Aside0.mk hx
          have HY := Aside0.mk hy
          have HDB := Aside0.mk (HX.out.below HB.out)
          have c0 : wr.cell? ⟨g, 0, none⟩ = some (.slice (some ⟨gL, 0, none⟩) N cL) := by
            have h_ := blk_cell HDB.out.hg 0
            rw [HNN.out] at h_
            exact h_
          have hkz : (0 : Int) ≤ (k : Int) := by omega
          have hkn : (k : Int) < (n : Int) := by omega
          clear hx hm hy
          go_wp2_with fail
          by_cases hy0 : y < 0
          · have b2 : decide (y < 0) = true := decide_eq_true hy0
            go_quiet (fail)
            go_wp2_with fail
            go_ret
            have hf : putF s ws = (s, 7) := by
              unfold putF
              rw [HO.out, if_neg (by decide), HLEN.out, if_neg (by decide), if_pos (badTo_true HXK.out (.inl (by rw [HY.out]; exact hy0)))]
            rw [hf]
            exact ⟨rfl, G, ⟨gL, gO, cL, cO, CL, CO, HX.out.below (pw_below_drewN HB.out _)⟩, Ch.of_below G (pw_below_drewN HB.out _)⟩
          · have b2 : decide (y < 0) = false := decide_eq_false hy0
            by_cases hyn : (N : Int) ≤ y
            · have b3 : decide ((N : Int) ≤ y) = true := decide_eq_true hyn
              go_quiet (fail)
              go_wp2_with fail
              go_ret
              have hf : putF s ws = (s, 7) := by
                unfold putF
                rw [HO.out, if_neg (by decide), HLEN.out, if_neg (by decide), if_pos (badTo_true HXK.out (.inr (by rw [HNN.out, HY.out]; exact hyn)))]
              rw [hf]
              exact ⟨rfl, G, ⟨gL, gO, cL, cO, CL, CO, HX.out.below (pw_below_drewN HB.out _)⟩, Ch.of_below G (pw_below_drewN HB.out _)⟩
            · have b3 : decide ((N : Int) ≤ y) = false := decide_eq_false hyn
              go_quiet (fail)
              go_wp2_with fail
              go_roundg (n - (k + 1))
              case measure => omega
              case rel =>
                refine ⟨k + 1, by omega, Nat.le_refl _, by go_num, ⟨pw_below_drewN HB.out _⟩, ⟨fun j z hj hz => ?_⟩⟩
                by_cases e : j = k
                · subst e
                  obtain rfl := Option.some.inj (HXK.out.symm.trans hz)
                  have := HY.out
                  omega
                · exact HG.out j z (by omega) hz
        · have b1 : decide (k < n) = false := decide_eq_false (by omega)
          have HTO : Aside0 (badTo N ws = false) := ⟨badTo_false fun j x hj => HG.out j x (by have := (List.getElem?_eq_some_iff.1 hj).1; have := HN.out; omega) hj⟩
          have HT : Aside0 (∀ (j : Nat) (x : Wr), ws[j]? = some x → 0 ≤ x.tgt ∧ x.tgt < N) := ⟨fun j x hj => HG.out j x (by have := (List.getElem?_eq_some_iff.1 hj).1; have := HN.out; omega) hj⟩
          clear hlt hk hgk
          go_wp2_with fail
          clear b1 HG
          go_loopg [7] n (fun gg i wr => ∃ (k : Nat) (G1 : Nat → Prop) (left1 : Int) (bs1 : List Blk), k ≤ n ∧ n - k ≤ gg ∧ i = .int .i64 k ∧ Aside0 (RPutSt w wr G g s ws N k G1 left1 bs1))
          case atStart =>
            refine ⟨0, G, s.left, s.bs, Nat.zero_le _, Nat.le_refl _, rfl, ⟨⟨?_, Ch.of_below G HB.out, by rw [List.drop_zero], HNN.out, fun i b hi => ?_⟩⟩⟩
            · have h1 := HX.out.below HB.out
              have h2 : s = ⟨false, s.left, s.bs⟩ := by rw [← HO.out]
              rw [h2] at h1
              exact ⟨gL, gO, cL, cO, CL, CO, h1⟩
            · have := HCAP.out i b hi
              omega
          case round =>
            clear HB
            obtain ⟨k, G1, L1, bs1, hk, hgk, rfl, HS⟩ := hrel
            by_cases hlt : k < n
            · have b1 : decide (k < n) = true := decide_eq_true (by omega)
              obtain ⟨gL1, gO1, cL1, cO1, CL1, CO1, hd⟩ := HS.out.d
              have hgo := goes_calls hd
              have HGO := Aside0.mk hgo
              clear hd hgo
              by_cases hl0 : L1 = 0
              · subst hl0
                have hb0 : (decide ((0 : Int) = 0)) = true := rfl
                go_wp2_with (go_at_call 26; (with_reducible refine HGO.out.mono ?_); rintro e w2 ⟨rfl, hr2, hg2⟩; have HR2 := Aside0.mk hr2; have HG2 := Aside0.mk hg2; clear hr2 hg2)
                go_ret
                have hf : putF s ws = (⟨true, 0, bs1⟩, 8) := by
                  unfold putF
                  rw [HO.out, if_neg (by decide), HLEN.out, if_neg (by decide), HNN.out, HTO.out, if_neg (by decide), HS.out.run]
                  have hkl : k < ws.length := by have := HN.out; omega
                  rw [List.drop_eq_getElem_cons hkl, putRun, if_pos rfl]
                rw [hf]
                exact ⟨rfl, G1, ⟨_, _, _, _, _, _, HR2.out⟩, HS.out.ch.trans ⟨HG2.out.os, HG2.out.tape, HG2.out.output, HG2.out.size, fun k hk hn => HG2.out.block k hk (fun e => hn (by rw [Option.some.inj e]; obtain ⟨_, _, _, _, _, _, hd⟩ := HS.out.d; exact hd.fg)), fun k hk => .inl hk⟩⟩
              · obtain ⟨x, hx⟩ : ∃ x, ws[k]? = some x := ⟨_, List.getElem?_eq_getElem (by have := HN.out; omega)⟩
                have hsp : spendS false L1 = (false, (spendS false L1).2.1, 0) := by
                  unfold spendS; rw [if_neg hl0]; split <;> rfl
                obtain ⟨L2, hL2⟩ : ∃ L2, (spendS false L1).2.1 = L2 := ⟨_, rfl⟩
                have hrun := HS.out.run
                obtain ⟨hkl, hxe⟩ := List.getElem?_eq_some_iff.1 hx
                rw [List.drop_eq_getElem_cons hkl, hxe, putRun, if_neg hl0, hL2] at hrun
                have HRUN := Aside0.mk hrun
                have HSP1 : Aside0 ((spendS false L1).1 = false) := ⟨by rw [hsp]⟩
                have HL2 := Aside0.mk hL2
                have HXK := Aside0.mk hx
                have hb0 : decide (L1 = 0) = false := decide_eq_false hl0
                clear hrun hsp hL2 hl0 hx hkl hxe
                go_wp2_with (go_at_call 26; (with_reducible refine HGO.out.mono ?_); rintro e w2 ⟨rfl, hr2, hg2⟩; have HR2 := Aside0.mk hr2; have HG2 := Aside0.mk hg2; clear hr2 hg2)
                have hd2 : RDx w2 G1 g gL1 gO1 cL1 cO1 CL1 CO1 ⟨false, L2, bs1⟩ := by have h_ := HR2.out; rw [HSP1.out, HL2.out] at h_; exact h_
                have hchw : Ch w w2 G G1 := HS.out.ch.trans ⟨HG2.out.os, HG2.out.tape, HG2.out.output, HG2.out.size, fun k hk hn => HG2.out.block k hk (fun e => hn (by rw [Option.some.inj e]; exact hd2.fg)), fun k hk => .inl hk⟩
                obtain ⟨ad, A1, c1, rfl, hadl, hadG, ca, cd, hlc, hdc, hdA⟩ := (HCC.out.ch hchw) k x HXK.out
                have hx64 := H64.out k x HXK.out
                have hdA := hdA (by omega)
                rw [hx64] at cd hdc hlc
                obtain ⟨ad1, rfl, _⟩ := hdc.2.2 (by omega)
                obtain ⟨t, ht⟩ : ∃ t : Nat, x.tgt = t := ⟨x.tgt.toNat, by have := HT.out k x HXK.out; omega⟩
                have htN : t < N := by have := HT.out k x HXK.out; omega
                rw [ht] at ca
                have hlenN := HS.out.len
                have cg2 := blk_cell hd2.hg 1
                rw [show (⟨false, L2, bs1⟩ : DS).bs.length = N from hlenN] at cg2
                obtain ⟨b, hbt⟩ : ∃ b, bs1[t]? = some b := ⟨_, List.getElem?_eq_getElem (by omega)⟩
                obtain ⟨vq, hvq, hRt⟩ := hd2.vO t b hbt
                obtain ⟨tx, htx⟩ : ∃ tx, b.opn.map str = tx := ⟨_, rfl⟩
                obtain ⟨sx, hsx⟩ : ∃ sx, str x.data = sx := ⟨_, rfl⟩
                rw [htx] at hRt
                have hnb : some ad.block ≠ vq.ownBlock := fun e => hadG (hRt.1 _ e.symm).1
                have hnd : some ad1.block ≠ vq.ownBlock := fun e => (hdA ad1 rfl).2 (hRt.1 _ e.symm).1
                have hng : some g ≠ vq.ownBlock := Kd.R_ne hRt hd2.hg (by decide)
                have hno : some gO1 ≠ vq.ownBlock := Kd.R_ne hRt hd2.hO (by decide)
                have hvc := (blk_cell hd2.hO t).trans hvq
                have lO1 := hd2.lt gO1 hd2.fO
                have lg1 := hd2.lt g hd2.fg
                have HSG : Aside0 (∀ W : World, w2.grownBy W vq.ownBlock → W.cell? ⟨g, 1, none⟩ = some (.slice (some ⟨gO1, 0, none⟩) N cO1)) := ⟨fun W hW => (World.cell?_of_block (hW.block g lg1 hng)).trans cg2⟩
                have HSA : Aside0 (∀ W : World, w2.grownBy W vq.ownBlock → W.cell? (ad.add (k * 2)) = some (.int .i64 (t : Int))) := ⟨fun W hW => (World.cell?_of_block (by rw [add_block]; exact hW.block _ hadl hnb)).trans ca⟩
                have HSD : Aside0 (∀ W : World, w2.grownBy W vq.ownBlock → W.cell? ⟨(ad.add (k * 2)).block, (ad.add (k * 2)).off + 1, none⟩ = some (.slice (some ad1) 64 c1)) := ⟨fun W hW => (World.cell?_of_block (by show W.heap[(ad.add (k * 2)).block]? = w2.heap[(ad.add (k * 2)).block]?; rw [add_block]; exact hW.block _ hadl hnb)).trans cd⟩
                have HSV : Aside0 (∀ W : World, w2.grownBy W vq.ownBlock → W.cell? ⟨gO1, t, none⟩ = some vq) := ⟨fun W hW => (World.cell?_of_block (hW.block gO1 lO1 hno)).trans hvc⟩
                have HCV : Aside0 (∀ W : World, w2.grownBy W vq.ownBlock → (convert 23 9 (.slice (some ad1) 64 c1)).run Try.prog W = .ok (.string sx) W) := ⟨fun W hW => by rw [← hsx]; exact conv_str (C_far hdc (fun ad' e1 => by obtain rfl := Option.some.inj e1; exact hW.block _ (hdA _ rfl).1 hnd))⟩
                have HGW : Aside0 (∀ W : World, Below w2.heap.size w2 W → W.heap[gO1]? = some (.cells CO1 31 (0, 0))) := ⟨fun W hW => (hW.block gO1 (hd2.lt gO1 hd2.fO)).trans hd2.hO⟩
                have HRO : Aside0 (∀ W : World, Below w2.heap.size w2 W → Kd.string.R 9 W 0 (fun k => k < w2.heap.size → G1 k ∧ k ≠ gL1) vq tx) := ⟨fun W hW => Kd.R_mono (Kd.R_below hRt hW) (fun k hk _ => hk)⟩
                have HNE : Aside0 (some gO1 ≠ vq.ownBlock) := ⟨Kd.R_ne hRt hd2.hO (by decide)⟩
                have HCB : Aside0 (tx.length + 1 ≤ 2199023255551) := ⟨by have h1 := HS.out.cap t b hbt; have h2 := HN.out; rw [← htx, List.length_map]; omega⟩
                have HVQ := Aside0.mk hvq
                have HD2 := Aside0.mk hd2
                have HBT := Aside0.mk hbt
                have HTX := Aside0.mk htx
                have HSX := Aside0.mk hsx
                have HTT := Aside0.mk ht
                have HCHW := Aside0.mk hchw
                have htz : (0 : Int) ≤ (t : Int) := by omega
                have htN2 : (t : Int) < (N : Int) := by omega
                have hkz : (0 : Int) ≤ (k : Int) := by omega
                have hkn : (k : Int) < (n : Int) := by omega
                clear hd2 hchw ca cd hlc hdc hdA hx64 ht cg2 hbt hRt hvq htx hsx hlenN hadl hadG hnb hnd hng hno hvc lO1 lg1
                refine start_ (n := 30) (S := fun w' => w'.cell? ⟨g, 1, none⟩ = some (.slice (some ⟨gO1, 0, none⟩) N cO1) ∧ w'.cell? (ad.add (k * 2)) = some (.int .i64 (t : Int)) ∧ w'.cell? ⟨gO1, t, none⟩ = some vq ∧ w'.cell? ⟨(ad.add (k * 2)).block, (ad.add (k * 2)).off + 1, none⟩ = some (.slice (some ad1) 64 c1) ∧ (convert 23 9 (.slice (some ad1) 64 c1)).run Try.prog w' = .ok (.string sx) w') (ds := [29]) #[false, false, false, false, false, false, false, false, false, false, false, false, false, false, false, false, false, false, false, false, false, false, false, false, false, false, false, false, false, false] (by kernel_rfl) rfl rfl ⟨HSG.out _ (grown_of_below _ (below_drew (Below.refl _ _)) (Nat.le_refl _)), HSA.out _ (grown_of_below _ (below_drew (Below.refl _ _)) (Nat.le_refl _)), HSV.out _ (grown_of_below _ (below_drew (Below.refl _ _)) (Nat.le_refl _)), HSD.out _ (grown_of_below _ (below_drew (Below.refl _ _)) (Nat.le_refl _)), HCV.out _ (grown_of_below _ (below_drew (Below.refl _ _)) (Nat.le_refl _))⟩ (fun hHeld => ?_)
                refine pure_ (i := 0) (N := some 58) (v := ?_) (a' := ?_) #[true, false, false, false, false, false, false, false, false, false, false, false, false, false, false, false, false, false, false, false, false, false, false, false, false, false, false, false, false, false] rfl rfl (by kernel_rfl) (fun _ _ _ h => h) (Or.inl ⟨by rfl, ?_⟩) ?_ ?_
                rotate_left
                · intro w'
                  go_simp
                  with_reducible rfl
                rotate_left
                · simp only [Act.put, List.setIfInBounds_toArray, List.set_cons_zero, List.set_cons_succ, i64_w, i32_w]
                  rfl
                refine pure_ (i := 1) (N := some 59) (v := ?_) (a' := ?_) #[true, true, false, false, false, false, false, false, false, false, false, false, false, false, false, false, false, false, false, false, false, false, false, false, false, false, false, false, false, false] rfl rfl (by kernel_rfl) (fun _ _ _ h => h) (Or.inl ⟨by rfl, ?_⟩) ?_ ?_
                rotate_left
                · intro w'
                  go_simp
                  with_reducible rfl
                rotate_left
                · simp only [Act.put, List.setIfInBounds_toArray, List.set_cons_zero, List.set_cons_succ, i64_w, i32_w]
                  rfl
                refine pure_ (i := 2) (N := some 60) (v := ?_) (a' := ?_) #[true, true, true, false, false, false, false, false, false, false, false, false, false, false, false, false, false, false, false, false, false, false, false, false, false, false, false, false, false, false] rfl rfl (by kernel_rfl) (fun _ _ _ h => h) (Or.inl ⟨by rfl, ?_⟩) ?_ ?_
                rotate_left
                · intro w'
                  go_simp
                  with_reducible rfl
                rotate_left
                · simp only [Act.put, List.setIfInBounds_toArray, List.set_cons_zero, List.set_cons_succ, i64_w, i32_w]
                  rfl
                refine pure_ (i := 4) (N := some 62) (v := ?_) (a' := ?_) #[true, true, true, false, true, false, false, false, false, false, false, false, false, false, false, false, false, false, false, false, false, false, false, false, false, false, false, false, false, false] rfl rfl (by kernel_rfl) (fun _ _ _ h => h) (Or.inl ⟨by rfl, ?_⟩) ?_ ?_
                rotate_left
                · intro w'
                  go_simp
                  with_reducible rfl
                rotate_left
                · simp only [Act.put, List.setIfInBounds_toArray, List.set_cons_zero, List.set_cons_succ, i64_w, i32_w]
                  rfl
                refine pure_ (i := 5) (N := some 63) (v := ?_) (a' := ?_) #[true, true, true, false, true, true, false, false, false, false, false, false, false, false, false, false, false, false, false, false, false, false, false, false, false, false, false, false, false, false] rfl rfl (by kernel_rfl) (fun _ _ _ h => h) (Or.inl ⟨by rfl, ?_⟩) ?_ ?_
                rotate_left
                · intro w'
                  go_simp
                  with_reducible rfl
                rotate_left
                · simp only [Act.put, List.setIfInBounds_toArray, List.set_cons_zero, List.set_cons_succ, i64_w, i32_w]
                  rfl
                refine pure_ (i := 6) (N := some 64) (v := ?_) (a' := ?_) #[true, true, true, false, true, true, true, false, false, false, false, false, false, false, false, false, false, false, false, false, false, false, false, false, false, false, false, false, false, false] rfl rfl (by kernel_rfl) (fun _ _ _ h => h) (Or.inl ⟨by rfl, ?_⟩) ?_ ?_
                rotate_left
                · intro w'
                  go_simp
                  with_reducible rfl
                rotate_left
                · simp only [Act.put, List.setIfInBounds_toArray, List.set_cons_zero, List.set_cons_succ, i64_w, i32_w]
                  rfl
                refine pure_ (i := 7) (N := some 65) (v := ?_) (a' := ?_) #[true, true, true, false, true, true, true, true, false, false, false, false, false, false, false, false, false, false, false, false, false, false, false, false, false, false, false, false, false, false] rfl rfl (by kernel_rfl) (fun _ _ _ h => h) (Or.inl ⟨by rfl, ?_⟩) ?_ ?_
                rotate_left
                · intro w'
                  go_simp
                  with_reducible rfl
                rotate_left
                · simp only [Act.put, List.setIfInBounds_toArray, List.set_cons_zero, List.set_cons_succ, i64_w, i32_w]
                  rfl
                refine pure_ (i := 9) (N := some 67) (v := ?_) (a' := ?_) #[true, true, true, false, true, true, true, true, false, true, false, false, false, false, false, false, false, false, false, false, false, false, false, false, false, false, false, false, false, false] rfl rfl (by kernel_rfl) (fun _ _ _ h => h) (Or.inl ⟨by rfl, ?_⟩) ?_ ?_
                rotate_left
                · intro w'
                  go_simp
                  with_reducible rfl
                rotate_left
                · simp only [Act.put, List.setIfInBounds_toArray, List.set_cons_zero, List.set_cons_succ, i64_w, i32_w]
                  rfl
                refine pure_ (i := 10) (N := some 68) (v := ?_) (a' := ?_) #[true, true, true, false, true, true, true, true, false, true, true, false, false, false, false, false, false, false, false, false, false, false, false, false, false, false, false, false, false, false] rfl rfl (by kernel_rfl) (fun _ _ _ h => h) (Or.inl ⟨by rfl, ?_⟩) ?_ ?_
                rotate_left
                · intro w'
                  go_simp
                  with_reducible rfl
                rotate_left
                · simp only [Act.put, List.setIfInBounds_toArray, List.set_cons_zero, List.set_cons_succ, i64_w, i32_w]
                  rfl
                refine pure_ (i := 11) (N := some 69) (v := ?_) (a' := ?_) #[true, true, true, false, true, true, true, true, false, true, true, true, false, false, false, false, false, false, false, false, false, false, false, false, false, false, false, false, false, false] rfl rfl (by kernel_rfl) (fun _ _ _ h => h) (Or.inl ⟨by rfl, ?_⟩) ?_ ?_
                rotate_left
                · intro w'
                  go_simp
                  with_reducible rfl
                rotate_left
                · simp only [Act.put, List.setIfInBounds_toArray, List.set_cons_zero, List.set_cons_succ, i64_w, i32_w]
                  rfl
                refine pure_ (i := 13) (N := some 71) (v := ?_) (a' := ?_) #[true, true, true, false, true, true, true, true, false, true, true, true, false, true, false, false, false, false, false, false, false, false, false, false, false, false, false, false, false, false] rfl rfl (by kernel_rfl) (fun _ _ _ h => h) (Or.inl ⟨by rfl, ?_⟩) ?_ ?_
                rotate_left
                · intro w'
                  go_simp
                  with_reducible rfl
                rotate_left
                · simp only [Act.put, List.setIfInBounds_toArray, List.set_cons_zero, List.set_cons_succ, i64_w, i32_w]
                  rfl
                refine pure_ (i := 14) (N := some 72) (v := ?_) (a' := ?_) #[true, true, true, false, true, true, true, true, false, true, true, true, false, true, true, false, false, false, false, false, false, false, false, false, false, false, false, false, false, false] rfl rfl (by kernel_rfl) (fun _ _ _ h => h) (Or.inl ⟨by rfl, ?_⟩) ?_ ?_
                rotate_left
                · intro w'
                  go_simp
                  with_reducible rfl
                rotate_left
                · simp only [Act.put, List.setIfInBounds_toArray, List.set_cons_zero, List.set_cons_succ, i64_w, i32_w]
                  rfl
                refine pure_ (i := 15) (N := some 73) (v := ?_) (a' := ?_) #[true, true, true, false, true, true, true, true, false, true, true, true, false, true, true, true, false, false, false, false, false, false, false, false, false, false, false, false, false, false] rfl rfl (by kernel_rfl) (fun _ _ _ h => h) (Or.inl ⟨by rfl, ?_⟩) ?_ ?_
                rotate_left
                · intro w'
                  go_simp
                  with_reducible rfl
                rotate_left
                · simp only [Act.put, List.setIfInBounds_toArray, List.set_cons_zero, List.set_cons_succ, i64_w, i32_w]
                  rfl
                refine pure_ (i := 16) (N := some 74) (v := ?_) (a' := ?_) #[true, true, true, false, true, true, true, true, false, true, true, true, false, true, true, true, true, false, false, false, false, false, false, false, false, false, false, false, false, false] rfl rfl (by kernel_rfl) (fun _ _ _ h => h) (Or.inl ⟨by rfl, ?_⟩) ?_ ?_
                rotate_left
                · intro w'
                  go_simp
                  with_reducible rfl
                rotate_left
                · simp only [Act.put, List.setIfInBounds_toArray, List.set_cons_zero, List.set_cons_succ, i64_w, i32_w]
                  rfl
                refine pure_ (i := 20) (N := some 78) (v := ?_) (a' := ?_) #[true, true, true, false, true, true, true, true, false, true, true, true, false, true, true, true, true, false, false, false, true, false, false, false, false, false, false, false, false, false] rfl rfl (by kernel_rfl) (fun _ _ _ h => h) (Or.inl ⟨by rfl, ?_⟩) ?_ ?_
                rotate_left
                · intro w'
                  go_simp
                  with_reducible rfl
                rotate_left
                · simp only [Act.put, List.setIfInBounds_toArray, List.set_cons_zero, List.set_cons_succ, i64_w, i32_w]
                  rfl
                refine pure_ (i := 21) (N := some 79) (v := ?_) (a' := ?_) #[true, true, true, false, true, true, true, true, false, true, true, true, false, true, true, true, true, false, false, false, true, true, false, false, false, false, false, false, false, false] rfl rfl (by kernel_rfl) (fun _ _ _ h => h) (Or.inl ⟨by rfl, ?_⟩) ?_ ?_
                rotate_left
                · intro w'
                  go_simp
                  with_reducible rfl
                rotate_left
                · simp only [Act.put, List.setIfInBounds_toArray, List.set_cons_zero, List.set_cons_succ, i64_w, i32_w]
                  rfl
                refine pure_ (i := 22) (N := some 80) (v := ?_) (a' := ?_) #[true, true, true, false, true, true, true, true, false, true, true, true, false, true, true, true, true, false, false, false, true, true, true, false, false, false, false, false, false, false] rfl rfl (by kernel_rfl) (fun _ _ _ h => h) (Or.inl ⟨by rfl, ?_⟩) ?_ ?_
                rotate_left
                · intro w'
                  go_simp
                  with_reducible rfl
                rotate_left
                · simp only [Act.put, List.setIfInBounds_toArray, List.set_cons_zero, List.set_cons_succ, i64_w, i32_w]
                  rfl
                refine pure_ (i := 23) (N := some 81) (v := ?_) (a' := ?_) #[true, true, true, false, true, true, true, true, false, true, true, true, false, true, true, true, true, false, false, false, true, true, true, true, false, false, false, false, false, false] rfl rfl (by kernel_rfl) (fun _ _ _ h => h) (Or.inl ⟨by rfl, ?_⟩) ?_ ?_
                rotate_left
                · intro w'
                  go_simp
                  with_reducible rfl
                rotate_left
                · simp only [Act.put, List.setIfInBounds_toArray, List.set_cons_zero, List.set_cons_succ, i64_w, i32_w]
                  rfl
                refine take_ (i := 3) (N := some 61) (v := ?_) (a' := ?_) #[true, true, true, true, true, true, true, true, false, true, true, true, false, true, true, true, true, false, false, false, true, true, true, true, false, false, false, false, false, false] rfl rfl (by kernel_rfl) (fun _ _ _ h => h) (Or.inl ⟨by rfl, ?_⟩) hHeld ?_ ?_
                rotate_left
                · rintro w' ⟨s0, s1, s2, s3, s4⟩
                  go_simp
                  with_reducible rfl
                rotate_left
                · simp only [Act.put, List.setIfInBounds_toArray, List.set_cons_zero, List.set_cons_succ, i64_w, i32_w]
                  rfl
                refine take_ (i := 8) (N := some 66) (v := ?_) (a' := ?_) #[true, true, true, true, true, true, true, true, true, true, true, true, false, true, true, true, true, false, false, false, true, true, true, true, false, false, false, false, false, false] rfl rfl (by kernel_rfl) (fun _ _ _ h => h) (Or.inl ⟨by rfl, ?_⟩) hHeld ?_ ?_
                rotate_left
                · rintro w' ⟨s0, s1, s2, s3, s4⟩
                  go_simp
                  with_reducible rfl
                rotate_left
                · simp only [Act.put, List.setIfInBounds_toArray, List.set_cons_zero, List.set_cons_succ, i64_w, i32_w]
                  rfl
                refine take_ (i := 12) (N := some 70) (v := ?_) (a' := ?_) #[true, true, true, true, true, true, true, true, true, true, true, true, true, true, true, true, true, false, false, false, true, true, true, true, false, false, false, false, false, false] rfl rfl (by kernel_rfl) (fun _ _ _ h => h) (Or.inl ⟨by rfl, ?_⟩) hHeld ?_ ?_
                rotate_left
                · rintro w' ⟨s0, s1, s2, s3, s4⟩
                  go_simp
                  with_reducible rfl
                rotate_left
                · simp only [Act.put, List.setIfInBounds_toArray, List.set_cons_zero, List.set_cons_succ, i64_w, i32_w]
                  rfl
                refine take_ (i := 17) (N := some 75) (v := ?_) (a' := ?_) #[true, true, true, true, true, true, true, true, true, true, true, true, true, true, true, true, true, true, false, false, true, true, true, true, false, false, false, false, false, false] rfl rfl (by kernel_rfl) (fun _ _ _ h => h) (Or.inl ⟨by rfl, ?_⟩) hHeld ?_ ?_
                rotate_left
                · rintro w' ⟨s0, s1, s2, s3, s4⟩
                  go_simp
                  with_reducible rfl
                rotate_left
                · simp only [Act.put, List.setIfInBounds_toArray, List.set_cons_zero, List.set_cons_succ, i64_w, i32_w]
                  rfl
                refine pure_ (i := 18) (N := some 76) (v := ?_) (a' := ?_) #[true, true, true, true, true, true, true, true, true, true, true, true, true, true, true, true, true, true, true, false, true, true, true, true, false, false, false, false, false, false] rfl rfl (by kernel_rfl) (fun _ _ _ h => h) (Or.inl ⟨by rfl, ?_⟩) ?_ ?_
                rotate_left
                · intro w'
                  go_simp
                  with_reducible rfl
                rotate_left
                · simp only [Act.put, List.setIfInBounds_toArray, List.set_cons_zero, List.set_cons_succ, i64_w, i32_w]
                  rfl
                refine take_ (i := 19) (N := some 77) (v := ?_) (a' := ?_) #[true, true, true, true, true, true, true, true, true, true, true, true, true, true, true, true, true, true, true, true, true, true, true, true, false, false, false, false, false, false] rfl rfl (by kernel_rfl) (fun _ _ _ h => h) (Or.inl ⟨by rfl, ?_⟩) hHeld ?_ ?_
                rotate_left
                · rintro w' ⟨s0, s1, s2, s3, s4⟩
                  go_simp
                  with_reducible rfl
                rotate_left
                · simp only [Act.put, List.setIfInBounds_toArray, List.set_cons_zero, List.set_cons_succ, i64_w, i32_w]
                  rfl
                refine take_ (i := 24) (N := some 82) (v := ?_) (a' := ?_) #[true, true, true, true, true, true, true, true, true, true, true, true, true, true, true, true, true, true, true, true, true, true, true, true, true, false, false, false, false, false] rfl rfl (by kernel_rfl) (fun _ _ _ h => h) (Or.inl ⟨by rfl, ?_⟩) hHeld ?_ ?_
                rotate_left
                · rintro w' ⟨s0, s1, s2, s3, s4⟩
                  go_simp
                  with_reducible rfl
                rotate_left
                · simp only [Act.put, List.setIfInBounds_toArray, List.set_cons_zero, List.set_cons_succ, i64_w, i32_w]
                  rfl
                refine take_ (i := 25) (N := some 83) (v := ?_) (a' := ?_) #[true, true, true, true, true, true, true, true, true, true, true, true, true, true, true, true, true, true, true, true, true, true, true, true, true, true, false, false, false, false] rfl rfl (by kernel_rfl) (fun _ _ _ h => h) (Or.inl ⟨by rfl, ?_⟩) hHeld ?_ ?_
                rotate_left
                · rintro w' ⟨s0, s1, s2, s3, s4⟩
                  go_simp
                  with_reducible rfl
                rotate_left
                · simp only [Act.put, List.setIfInBounds_toArray, List.set_cons_zero, List.set_cons_succ, i64_w, i32_w]
                  rfl
                refine one_ (i := 26) (N := some 84) #[true, true, true, true, true, true, true, true, true, true, true, true, true, true, true, true, true, true, true, true, true, true, true, true, true, true, true, false, false, false] rfl rfl (by kernel_rfl) (by decide) (fun K hK => ?_)
                refine value_ (w1 := ?_) (v := ?_) (by rfl) rfl ?_ ?_
                rotate_left 2
                · go_simp
                  constructor
                  · rfl
                  · rfl
                refine hK.out _ _ ⟨HSG.out _ (grown_of_below _ (below_alloc (below_drew (Below.refl _ _)) _) (Nat.le_refl _)), HSA.out _ (grown_of_below _ (below_alloc (below_drew (Below.refl _ _)) _) (Nat.le_refl _)), HSV.out _ (grown_of_below _ (below_alloc (below_drew (Below.refl _ _)) _) (Nat.le_refl _)), HSD.out _ (grown_of_below _ (below_alloc (below_drew (Below.refl _ _)) _) (Nat.le_refl _)), HCV.out _ (grown_of_below _ (below_alloc (below_drew (Below.refl _ _)) _) (Nat.le_refl _))⟩ (fun hHeld => ?_)
                clear hK K
                refine norm_ (a' := ?_) ?_ ?_
                rotate_left
                · show Act.put _ (some 84) _ = _
                  simp only [Act.put, List.setIfInBounds_toArray, List.set_cons_zero, List.set_cons_succ, i64_w, i32_w]
                  rfl
                refine one_ (i := 27) (N := some 85) #[true, true, true, true, true, true, true, true, true, true, true, true, true, true, true, true, true, true, true, true, true, true, true, true, true, true, true, true, false, false] rfl rfl (by kernel_rfl) (by decide) (fun K hK => ?_)
                refine Kd.R_append_step Kd.string (w0 := w2) (W := w2.drew) 0 (by rfl) (.tmp 77) (.tmp 84) 31 9 (.string ByteArray.empty) 16 rfl Try.underlying31 infoS (by rfl) (by decide) (by omega) vq tx sx [.string sx] (fun k => k < w2.heap.size → G1 k ∧ k ≠ gL1) (fun _ => False) (by rfl) (by rfl) ?hp ?hk ?hf ?hO ?hB ?hz ?hl ?_
                case hp => exact rfl
                case hk => exact fun _ h => h.elim
                case hf => exact (fun k hk hk2 => absurd hk2 (Nat.not_lt.2 hk))
                case hO => exact HRO.out _ (below_drew (Below.refl _ _))
                case hB => exact below_drew (Below.refl _ _)
                case hz => exact Nat.zero_le _
                case hl => have := HCB.out; omega
                intro v3 w3 ho3 hb3 hg3 hat3
                obtain ⟨A3, c3, rfl⟩ := Kd.R_slice ho3
                have HO3 := Aside0.mk ho3
                have HB3 := Aside0.mk hb3
                have HG3 := Aside0.mk hg3
                have HT3 := Aside0.mk hat3
                have hb3_ := blk_grown (HGW.out _ (below_drew (Below.refl _ _))) HG3.out HNE.out
                have cc3 := (blk_cell hb3_ t).trans HVQ.out
                have ff3 := blk_frozen hb3_ t
                have HW3 : Aside0 (w2.grownBy w3 vq.ownBlock) := ⟨⟨HG3.out.os, HG3.out.tape, HG3.out.output, HG3.out.size, HG3.out.block⟩⟩
                clear ho3 hb3 hg3 hat3 hb3_
                refine hK.out _ _ ⟨HSG.out _ (HW3.out), HSA.out _ (HW3.out), HSV.out _ (HW3.out), HSD.out _ (HW3.out), HCV.out _ (HW3.out)⟩ (fun hHeld => ?_)
                clear hK K
                refine norm_ (a' := ?_) ?_ ?_
                rotate_left
                · show Act.put _ (some 85) _ = _
                  simp only [Act.put, List.setIfInBounds_toArray, List.set_cons_zero, List.set_cons_succ, i64_w, i32_w]
                  rfl
                refine pure_ (i := 28) (N := some 86) (v := ?_) (a' := ?_) #[true, true, true, true, true, true, true, true, true, true, true, true, true, true, true, true, true, true, true, true, true, true, true, true, true, true, true, true, true, false] rfl rfl (by kernel_rfl) (fun _ _ _ h => h) (Or.inl ⟨by rfl, ?_⟩) ?_ ?_
                rotate_left
                · intro w'
                  go_simp
                  with_reducible rfl
                rotate_left
                · simp only [Act.put, List.setIfInBounds_toArray, List.set_cons_zero, List.set_cons_succ, i64_w, i32_w]
                  rfl
                refine last_ (i := 29) (N := none) #[true, true, true, true, true, true, true, true, true, true, true, true, true, true, true, true, true, true, true, true, true, true, true, true, true, true, true, true, true, true] rfl rfl (by kernel_rfl) (by decide) (fun K hK => ?_)
                refine skip_ (w1 := ?_) (by rfl) rfl ?_ ?_
                rotate_left
                · go_simp
                  rfl
                refine hK.out _ _ ?_
                clear hK K
                refine done_ (by kernel_rfl) ?_

                go_wp2_with fail
                go_roundg (n - (k + 1))
                case measure => omega
                case rel =>
                  have hdW : RDx w2.drew G1 g gL1 gO1 cL1 cO1 CL1 CO1 ⟨false, L2, bs1⟩ := HD2.out.kept (fun _ _ => rfl) (Nat.le_refl _)
                  have ho3 := HO3.out
                  have ht3 := HT3.out
                  rw [← HTX.out, ← HSX.out] at ho3 ht3
                  obtain ⟨h1, h2⟩ := hdW.pushed HBT.out HVQ.out x.data ho3 HG3.out ht3
                  rw [show (List.map str b.opn ++ [str x.data]).length = tx.length + 1 from by rw [List.length_append, HTX.out]; rfl] at h1 h2
                  have hchW : Ch w w2.drew G G1 := ⟨HCHW.out.os, HCHW.out.tape, HCHW.out.output, HCHW.out.size, HCHW.out.far, HCHW.out.new⟩
                  have hrun := HRUN.out
                  rw [HTT.out, Int.toNat_natCast] at hrun
                  have hch3 := hchW.trans h2
                  refine ⟨k + 1, (fun k => G1 k ∨ (w2.drew.heap.size ≤ k ∧ k < w3.heap.size)), L2, bs1.modify t (push x.data), by omega, Nat.le_refl _, by go_num, ⟨⟨?_, ?_, hrun, by rw [List.length_modify]; exact HS.out.len, fun i b' hi => ?_⟩⟩⟩
                  · exact ⟨gL1, gO1, cL1, _, CL1, _, h1⟩
                  · exact hch3
                  · have hkl := HN.out
                    rw [List.getElem?_modify] at hi
                    by_cases e : t = i
                    · subst e
                      rw [HBT.out] at hi
                      simp only [if_true, Option.map_eq_map, Option.map_some] at hi
                      obtain rfl := Option.some.inj hi
                      have := HS.out.cap t b HBT.out
                      show (b.opn ++ [x.data]).length + _ ≤ _
                      rw [List.length_append, List.length_singleton]
                      omega
                    · have hi' : bs1[i]? = some b' := by simpa [e] using hi
                      have := HS.out.cap i b' hi'
                      omega
            · have b1 : decide (k < n) = false := decide_eq_false (by omega)
              have hkn : k = n := by omega
              have HKN := Aside0.mk hkn
              clear hkn
              go_wp2_with fail
              go_ret
              have hf : putF s ws = (⟨false, L1, bs1⟩, 0) := by
                unfold putF
                rw [HO.out, if_neg (by decide), HLEN.out, if_neg (by decide), HNN.out, HTO.out, if_neg (by decide), HS.out.run, HKN.out, List.drop_of_length_le (by have := HN.out; omega)]
                rfl
              rw [hf]
              exact ⟨rfl, G1, HS.out.d, HS.out.ch⟩
end
end Go.Proofs.Ytiengbimednonaa.Disk
