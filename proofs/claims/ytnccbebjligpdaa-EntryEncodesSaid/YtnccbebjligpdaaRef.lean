/- Walks of the references' layers 3 and 4. -/
import Derived.Test.YtnccbebjligpdaaProg
import Derived.Test.YtnccbebjligpdaaWWords
import Derived.Test.YtnccbebjligpdaaWMore
import Derived.Test.YtnccbebjligpdaaWKept
import Derived.Test.YtnccbebjligpdaaWLast
import Derived.Test.YtnccbebjligpdaaSpin
import Derived.Test.YtnccbebjligpdaaSpinLaw
import Derived.Test.YtnccbebjligpdaaField
import Derived.WalkKit
import Derived.KernelRfl
import Derived.Laws.Cover3
import Derived.WalkSpells
import Derived.Deep.QuietTactic
import Derived.BigQuiet
import Derived.Deep.LoopGhost
import Derived.StillTailTactics
import Derived.Outline
namespace Go.Proofs.Ytnccbebjligpdaa.Ref
open Go Go.RowKit Go.Proofs.YtnccbebjligpdaaW.PrintWords Go.Proofs.YtnccbebjligpdaaW.PrintLast Go.Proofs.YtnccbebjligpdaaW.PrintMore Go.Proofs.Ytnccbebjligpdaa.Field Go.Proofs.Ytnccbebjligpdaa.Spin
set_option linter.unusedVariables false
set_option linter.unusedSimpArgs false

theorem round_a (x y c : Int) (hx0 : 0 ≤ x) (hx1 : x < 65521) (hy0 : 0 ≤ y) (hy1 : y < 65521) (hc0 : 0 ≤ c) (hc1 : c < 256) :
    ((2 * x - y + c).tmod 65521 + 65521) % 65521 = (x * 2 - y + c) % 65521 := by
  obtain ⟨h1, h2, h3, h4⟩ := tmod_facts (2 * x - y + c)
  generalize (2 * x - y + c).tmod 65521 = r at *
  by_cases h : r < 0
  · have := h1 h
    omega
  · have := h2 (by omega)
    omega

theorem more_still (s : Int) (A1 : Option Addr) (c1 : Nat) (l : List Int) (r : Int) (w : World) (hr : Kd.C (Kd.int .u8) w A1 l.length l) (hc : l.length ≤ c1) (h : moreF s l = some r) :
    Calls Try.prog 58 #[.int .u32 s, .slice A1 l.length c1] w fun e w' => e = .returned (.int .u32 r) ∧ w' = w := by
  obtain ⟨hs0, hs1, hb, hlen, hr'⟩ := moreF_some h
  subst hr'
  have HR := Aside0.mk hr
  have HC := Aside0.mk hc
  have HB := Aside0.mk hb
  clear h hr hc hb
  go_enter Try.func58, Try.ntmps58
  go_wp2
  go_loop [5, 6, 7] (fun a b i => ∃ k : Nat, k ≤ l.length ∧ i = .int .i64 k ∧ a = .int .i64 (runI (startI s) (l.take k)).1 ∧ b = .int .i64 (runI (startI s) (l.take k)).2) (fun _ _ i => l.length - (intOf i).toNat)
  case atStart => exact ⟨0, Nat.zero_le _, rfl, rfl, rfl⟩
  case round =>
    obtain ⟨k, hk, rfl, rfl, rfl⟩ := hrel
    have hok := Ok_run (Ok_start s) (l.take k)
    by_cases hlt : k < l.length
    · have hrun := run_snoc (startI s) (l.take k) (rd l k)
      rw [← take_rd l k hlt] at hrun
      have HRUN := Aside0.mk hrun
      clear hrun
      obtain ⟨ad, e, hx⟩ := Kd.at_int HR.out (k : Int) (by omega) (by omega)
      cases e
      rw [Int.toNat_natCast] at hx
      obtain ⟨hc0, hc1⟩ := HB.out _ (rd_mem hlt)
      generalize runI (startI s) (l.take k) = z at *
      obtain ⟨x, y⟩ := z
      obtain ⟨h1, h2, h3, h4⟩ := hok
      simp only at h1 h2 h3 h4 ⊢
      go_wp2
      go_round
      case rel =>
        have e1 : ((wrap64 ((2 * x - y + rd l k).tmod 65521 + 65521)).tmod 65521) = (x * 2 - y + rd l k) % 65521 := by
          rw [← round_a x y _ h1 h2 h3 h4 hc0 hc1]
          obtain ⟨_, _, g3, g4⟩ := tmod_facts (2 * x - y + rd l k)
          generalize (2 * x - y + rd l k).tmod 65521 = r at *
          have e7 : wrap64 (r + 65521) = r + 65521 := by unfold wrap64; omega
          rw [e7, Int.tmod_eq_emod_of_nonneg (by omega)]
        have e2 : (x + 2 * y) % 65521 = (x + y * 2) % 65521 := by rw [Int.mul_comm]
        exact ⟨k + 1, by omega, by go_num, by rw [HRUN.out, e1]; rfl, by rw [HRUN.out, e2]; rfl⟩
      case measure => simp [intOf]; omega
    · obtain ⟨h1, h2, h3, h4⟩ := hok
      go_wp2
      go_ret
      rw [List.take_of_length_le (by omega)] at h1 h2 h3 h4 ⊢
      exact ⟨rfl, rfl⟩

theorem more_calls (s : Int) (A1 : Option Addr) (c1 : Nat) (l : List Int) (r : Int) (w : World) (hr : Kd.C (Kd.int .u8) w A1 l.length l) (hc : l.length ≤ c1) (h : moreF s l = some r) :
    Calls Try.prog 58 #[.int .u32 s, .slice A1 l.length c1] w fun e w' => e = .returned (.int .u32 r) ∧ Drawn0 w w' :=
  (more_still s A1 c1 l r w hr hc h).mono fun _ _ ⟨he, hw⟩ => ⟨he, hw ▸ Drawn0.refl _⟩

theorem sum_still (A1 : Option Addr) (c1 : Nat) (l : List Int) (r : Int) (w : World) (hr : Kd.C (Kd.int .u8) w A1 l.length l) (hc : l.length ≤ c1) (h : sumF l = some r) :
    Calls Try.prog 50 #[.slice A1 l.length c1] w fun e w' => e = .returned (.int .u32 r) ∧ w' = w := by
  have HR := Aside0.mk hr
  have HC := Aside0.mk hc
  have H := Aside0.mk (show moreF 65536 l = some r from h)
  clear h hr hc
  go_enter Try.func50, Try.ntmps50
  go_wp2_with fail
  ((with_reducible refine (more_still _ _ _ _ r _ HR.out HC.out H.out).mono ?_); rintro e w' ⟨rfl, rfl⟩)
  go_wp2
  go_ret
  exact ⟨rfl, rfl⟩

theorem sum_of_calls (A1 : Option Addr) (c1 : Nat) (l : List Int) (r : Int) (w : World) (hr : Kd.C (Kd.int .u8) w A1 l.length l) (hc : l.length ≤ c1) (h : sumF l = some r) :
    Calls Try.prog 50 #[.slice A1 l.length c1] w fun e w' => e = .returned (.int .u32 r) ∧ Drawn0 w w' :=
  (sum_still A1 c1 l r w hr hc h).mono fun _ _ ⟨he, hw⟩ => ⟨he, hw ▸ Drawn0.refl _⟩

theorem below_alloc_of {w0 W : World} (h : Below w0.heap.size w0 W) {o : Obj} : Below w0.heap.size w0 (W.alloc o) := h.alloc h.size o

/-- A number's bytes, the least one first. -/
def leB (n : Int) : Nat → List Int
  | 0 => []
  | k + 1 => leB n k ++ [n / 2 ^ (8 * k) % 256]
theorem leB_length (n : Int) : ∀ k, (leB n k).length = k
  | 0 => rfl
  | k + 1 => by rw [leB, List.length_append, leB_length n k]; rfl

/-- What the reference's Put gives. -/
def putAF (l : List Int) (n size : Int) : Option (List Int) := if 0 ≤ n ∧ n < 9223372036854775808 ∧ size ≤ 8 ∧ l.length ≤ 140737488351232 then some (l ++ leB n size.toNat) else none

theorem put_calls (P0_ : Nat → Prop) (u9000_ : Value) (l0 : List Int) (a1 : Int) (a2 : Int) (r : List Int) (w0 w : World) (hB : Below w0.heap.size w0 w) (ho0 : Kd.R (Kd.int .u8) 5 w w0.heap.size P0_ u9000_ l0) (h : putAF l0 a1 a2 = some r) :
    Calls Try.prog 49 #[u9000_, .int .i64 a1, .int .i64 a2] w fun e w' => ∃ v0_ : Value, e = .returned (v0_) ∧ Kd.R (Kd.int .u8) 5 w' w0.heap.size (fun k_ => (P0_ k_ ∨ w.heap.size ≤ k_)) v0_ r ∧ Below w0.heap.size w0 w' ∧ Kept w w' (fun k_ => P0_ k_) := by
  unfold putAF at h
  split at h
  · rename_i g
    obtain ⟨hn0, hn1, hs8, hlen⟩ := g
    obtain rfl := Option.some.inj h
    clear h
    have HO := Aside0.mk (show Kd.R (Kd.int .u8) 5 w w0.heap.size (fun k_ => (P0_ k_ ∨ w.heap.size ≤ k_)) u9000_ l0 from Kd.R_mono ho0 (fun k_ hk => (.inl hk)))
    have HK := Aside0.mk (Kept.refl w (fun k_ => P0_ k_))
    have HB := Aside0.mk hB
    clear hB ho0
    go_enter Try.func49, Try.ntmps49
    go_wp2
    go_loopw [0, 7] (fun v i wr => ∃ k : Nat, k ≤ a2.toNat ∧ i = .int .i64 k ∧ Aside0 (Kd.R (Kd.int .u8) 5 wr w0.heap.size (fun k_ => (P0_ k_ ∨ w.heap.size ≤ k_)) v (l0 ++ leB a1 k)) ∧ Aside0 (Kept w wr (fun k_ => P0_ k_)) ∧ Aside0 (Below w0.heap.size w0 wr)) (fun _ i _ => a2.toNat - (intOf i).toNat)
    case atStart => exact ⟨0, Nat.zero_le _, rfl, ⟨by rw [leB, List.append_nil]; exact HO.out⟩, HK, HB⟩
    case round =>
      clear HO HK HB
      obtain ⟨k, hk, rfl, HO, HK, HB⟩ := hrel
      by_cases hlt : (k : Int) < a2
      · have hk8 : k ≤ 7 := by omega
        have HL := Aside0.mk (show (l0 ++ leB a1 k).length ≤ 140737488351240 by rw [List.length_append, leB_length]; omega)
        go_wp2_with (first | ((with_reducible refine gate_builtin (b := .append) (xs := #[.tmp 13, .tmp 21]) rfl ?_); at_builtin; refine Kd.R_append (Kd.int .u8) (w0 := w0) w0.heap.size rfl (.tmp 13) (.tmp 21) 23 5 (.int .u8 0) 1 rfl Try.underlying23 infob rfl (by decide) (by omega) u0 (l0 ++ leB a1 k) (a1 / 2 ^ (8 * k) % 256) [.int .u8 (a1 / 2 ^ (8 * k) % 256)] (fun k_ => (P0_ k_ ∨ w.heap.size ≤ k_)) (fun _ => False) rfl rfl ?aP (fun _ hk => hk.elim) ?aF ?aO ?aB ?aS ?aL ?_; (case aP => exact rfl); (case aB => exact HB.out); (case aF => exact (fun k_ hk => (.inr (Nat.le_trans HK.out.1 hk)))); (case aO => exact HO.out); (case aS => exact HB.out.size); (case aL => have := HL.out; omega); intro v1 w1 ho hb hg hat; have HO1 := Aside0.mk ho; have HB1 := Aside0.mk hb; have HK1 := Aside0.mk (Kept.of_grown (S := (fun k_ => P0_ k_)) hg HK.out (fun k_ e_ => (HO.out.1 k_ e_))); clear ho hb hg hat))
        go_roundw
        case rel => exact ⟨k + 1, by omega, by go_num, ⟨by rw [leB, ← List.append_assoc]; exact HO1.out⟩, HK1, HB1⟩
        case measure => simp [intOf]; omega
      · go_wp2
        go_ret
        have e : k = a2.toNat := by omega
        subst e
        exact ⟨_, rfl, HO.out, HB.out, HK.out⟩
  · cases h

/-- Up to 60 bytes. -/
def pad60 (l : List Int) : List Int := (l ++ List.replicate (60 - l.length) 0).take 60
theorem pad60_length (l : List Int) : (pad60 l).length = 60 := by
  unfold pad60
  rw [List.length_take, List.length_append, List.length_replicate]
  omega

/-- What the reference's Seal gives. -/
def sealAF (l : List Int) : Option (List Int) := if l.length ≤ 140737488351232 then (sumF (pad60 l)).bind fun s => some (pad60 l ++ leB s 4) else none

theorem seal_calls (A0 : Option Addr) (c0 : Nat) (l0 : List Int) (r : List Int) (w : World) (hr0 : Kd.C B w A0 l0.length l0) (hc0 : l0.length ≤ c0) (h : sealAF l0 = some r) :
    Calls Try.prog 32 #[.slice A0 l0.length c0] w fun e w' => ∃ v0_ : Value, e = .returned (v0_) ∧ Kd.R B 5 w' w.heap.size (fun _ => True) v0_ r ∧ Below w.heap.size w w' := by
  unfold sealAF at h
  split at h
  · rename_i hlen
    obtain ⟨s, hs, h2⟩ := Option.bind_eq_some_iff.1 h
    obtain rfl := Option.some.inj h2
    clear h h2
    obtain ⟨hs0, hs1⟩ := sum_range hs
    have HS0 := Aside0.mk hs
    have HR0 := Aside0.mk hr0
    have HC0 := Aside0.mk hc0
    have HL := Aside0.mk hlen
    clear hs hr0 hc0 hlen
    go_enter Try.func32, Try.ntmps32
    go_wp2_with (first | ((with_reducible refine gate_dst (N := 4) rfl ?_); (try (refine gate_guard (by rfl) ?_; dsimp only)); refine Kd.R_lit B _ 5 ?hg (N := 4) ?hd (xs := ([] : List Int)) (inner := []) (ok := fun _ => True) (okp := fun _ => True) ?hr ?hp (fun _ hk => hk) trivial (Below.refl _ _) (Nat.le_refl _) (by simp) ?_; (case hd => rfl); (case hg => rfl); (case hr => first | (go_simp; done) | (go_simp; rfl)); (case hp => exact (Reps.none _ _)); intro v1 w1 ho1 hb1 hg1 hn1; clear hg1 hn1; have HO := Aside0.mk ho1; have HB := Aside0.mk hb1; clear ho1 hb1) | ((with_reducible refine gate_builtin (b := .append) (xs := #[.tmp 4, .tmp 5]) rfl ?_); (try (refine gate_guard (by rfl) ?_; dsimp only)); at_builtin; refine Kd.R_append_rows B (w0 := w) w.heap.size rfl (.tmp 4) (.tmp 5) 23 5 (.int .u8 0) 1 rfl Try.underlying23 infob rfl (by decide) (by omega) v1 [] l0 _ _ _ (fun _ => True) (fun _ => False) rfl rfl HO.out (Kd.C_below HR0.out HB.out) (fun _ _ h => h) (fun _ h => h.elim) (fun _ _ => trivial) HB.out (below_size HB.out) ?aL ?_; (case aL => have := HL.out; simp only [List.length_nil]; omega); intro v2 w2 ho hb hg hat; rw [List.nil_append] at ho; have HO2 := Aside0.mk ho; have HB2 := Aside0.mk hb; clear HO HB; clear ho hb hg hat))
    go_loopg [3] (60 - l0.length) (fun kq v w' => ∃ j : Nat, Aside0 (kq + j = 60 - l0.length) ∧ Aside0 (Kd.R B 5 w' w.heap.size (fun _ => True) v (l0 ++ List.replicate j 0)) ∧ Aside0 (Below w.heap.size w w'))
    case atStart => exact ⟨0, ⟨by omega⟩, ⟨by rw [List.replicate_zero, List.append_nil]; exact HO2.out⟩, HB2⟩
    case round =>
      clear HO2 HB2
      obtain ⟨j, HJ, HO, HB⟩ := hrel
      obtain ⟨q, hq⟩ : ∃ q : List Int, q = l0 ++ List.replicate j 0 := ⟨_, rfl⟩
      rw [← hq] at HO
      have hlen : q.length = l0.length + j := by rw [hq, List.length_append, List.length_replicate]
      have HQ := Aside0.mk hq
      have HLEN := Aside0.mk hlen
      obtain ⟨A3, c3, e3⟩ := Kd.R_slice HO.out
      subst e3
      clear hq
      by_cases hlt : q.length < 60
      · have hd : decide ((q.length : Int) < 60) = true := by simp; omega
        have hd2 : decide (q.length < 60) = true := by simp; omega
        clear hlen
        go_wp2_with (first | ((with_reducible refine gate_builtin (b := .append) (xs := #[.tmp 10, .tmp 11]) rfl ?_); at_builtin; go_must (refine Kd.R_append B (w0 := w) w.heap.size rfl (.tmp 10) (.tmp 11) 23 5 (.int .u8 0) 1 rfl Try.underlying23 infob rfl (by decide) (by omega) (.slice A3 q.length c3) q 0 [.int .u8 0] (fun _ => True) (fun _ => False) rfl rfl ?aP (fun _ hk => hk.elim) (fun _ _ => trivial) HO.out HB.out (below_size HB.out) ?aL ?_); (case aP => exact rfl); (case aL => omega); intro v1 w1 ho hb hg hat; have HO1 := Aside0.mk ho; have HB1 := Aside0.mk hb; clear ho hb hg hat))
        go_roundg (gk - 1)
        case measure => have := HJ.out; have := HLEN.out; omega
        case rel => exact ⟨j + 1, ⟨by have := HJ.out; have := HLEN.out; omega⟩, ⟨by rw [List.replicate_succ', ← List.append_assoc, ← HQ.out]; exact HO1.out⟩, HB1⟩
      · have hd2 : decide (q.length < 60) = false := by simp; omega
        have hd : decide ((q.length : Int) < 60) = false := by simp; omega
        obtain ⟨g, cap, ev, gb, gl, cl, HG⟩ := Kd.R_form HO.out (by omega)
        injection ev with e1 e2 e3
        subst e1 e3
        clear e2 HG
        have hcap : q.length ≤ c3 := (Kd.R_reads' HO.out).2.1
        have k1 : ((60 : Int) ≤ (c3 : Int)) = True := eq_true (by omega)
        have HT := Kd.R_take (m := 60) HO.out (by omega)
        have e60 : q.take 60 = pad60 l0 := by
          have h1 := HJ.out
          have h2 := HQ.out
          rw [h2]
          unfold pad60
          by_cases hj : j = 60 - l0.length
          · rw [hj]
          · rw [List.take_append_of_le_length (by omega), List.take_append_of_le_length (by omega)]
        rw [e60] at HT
        have HT2 := Aside0.mk HT
        have HTC : Aside0 (Kd.C B wr (some ⟨g, 0, none⟩) 60 (pad60 l0)) := ⟨by have := (Kd.R_reads' HT).2.2; rwa [pad60_length] at this⟩
        have hsum : ∀ W : World, Kd.C B W (some ⟨g, 0, none⟩) 60 (pad60 l0) → Calls Try.prog 50 #[.slice (some ⟨g, 0, none⟩) 60 c3] W fun e w' => e = .returned (.int .u32 s) ∧ w' = W := fun W hC => by
          have h := sum_still (some ⟨g, 0, none⟩) c3 (pad60 l0) s W (by rw [pad60_length]; exact hC) (by rw [pad60_length]; omega) HS0.out
          rw [pad60_length] at h
          exact h
        have HSUM := Aside0.mk hsum
        clear HT e60 hsum HLEN HJ hlen
        go_wp2_with fail
        refine wp_region_still_tail 6 (by kernel_rfl) (by kernel_rfl) ?_
        simp only [List.take_succ_cons, List.take_zero, List.drop_succ_cons, List.drop_zero]
        still_step
        still_step
        still_step
        still_step
        still_call (HSUM.out _ (Kd.C_drew HTC.out))
        still_step
        refine wpStill_nil ?_
        change wpList _ _ _ _ _ wr.drew
        have HBd : Aside0 (Below w.heap.size w wr.drew) := ⟨below_drew HB.out⟩
        have HTd : Aside0 (Kd.R B 5 wr.drew w.heap.size (fun _ => True) (.slice (some ⟨g, 0, none⟩) 60 c3) (pad60 l0)) := ⟨Kd.R_drew HT2.out⟩
        go_wp2_with fail
        ((with_reducible refine (put_calls (fun _ => True) _ (pad60 l0) s 4 _ w _ HBd.out HTd.out (by unfold putAF; rw [if_pos ⟨hs0, by omega, by omega, by rw [pad60_length]; omega⟩])).mono ?_); rintro e w3 ⟨v3, rfl, hr3, hb3, hk3⟩)
        have HR3 := Aside0.mk hr3
        have HB3 := Aside0.mk hb3
        clear hr3 hb3 hk3
        go_wp2
        go_ret
        exact ⟨_, rfl, Kd.R_mono HR3.out (fun _ _ => trivial), HB3.out⟩
  · cases h

/-- What the reference's Sealed tells. -/
def sealedAF (l : List Int) : Option Bool := if l.length = 64 then (sealAF l).bind fun s => some ((strOfNums s).toList == (strOfNums l).toList) else some false

end Go.Proofs.Ytnccbebjligpdaa.Ref
