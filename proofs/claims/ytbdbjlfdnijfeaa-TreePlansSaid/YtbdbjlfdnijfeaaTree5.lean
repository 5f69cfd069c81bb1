/- For all worlds: tree.Need. Conditions: the list can be read; its numbers are 64 bits wide. -/
import Derived.Test.YtbdbjlfdnijfeaaTree4
namespace Go.Proofs.Ytbdbjlfdnijfeaa.Tree
open Go Go.RowKit Go.Maps Go.Proofs.YtbdbjlfdnijfeaaW.PrintWords Go.Proofs.YtbdbjlfdnijfeaaW.PrintLast Go.Proofs.YtbdbjlfdnijfeaaW.PrintMore
set_option linter.unusedVariables false
set_option linter.unusedSimpArgs false
/-- Are there pointers in the k-th block under the double one? -/
def usB (l : List Int) (k : Nat) : Bool := someB (partL l (34 + 30 * k) 30)
def un1 (l : List Int) (k : Nat) : Nat := if usB l k = true then 1 else 0
def unN (l : List Int) : Nat → Nat
  | 0 => 0
  | k + 1 => unN l k + un1 l k
def needN (l : List Int) : Nat := (if someB (partL l 4 30) = true then 1 else 0) + (if unN l 3 = 0 then 0 else unN l 3 + 1)
def needF (l : List Int) : Int × Int := if ptsB l = true then ((needN l : Int), 0) else (0, 1)
theorem someB_zero (n : Nat) : someB (List.replicate n (0 : Int)) = false := List.any_eq_false.2 fun x hx => by
  obtain ⟨_, rfl⟩ := List.mem_replicate.1 hx
  decide
theorem usB_far {l : List Int} {k : Nat} (h : l.length ≤ 34 + 30 * k) : usB l k = false := by
  unfold usB partL
  rw [List.drop_of_length_le h, List.take_nil, List.nil_append]
  exact someB_zero _
theorem un1_far {l : List Int} {k : Nat} (h : l.length ≤ 34 + 30 * k) : un1 l k = 0 := by unfold un1; rw [usB_far h]; rfl
theorem unN_far {l : List Int} {k : Nat} (h : l.length ≤ 34 + 30 * k) : ∀ d, unN l (k + d) = unN l k
  | 0 => rfl
  | d + 1 => by
    show unN l (k + d) + un1 l (k + d) = _
    rw [unN_far h d, un1_far (by omega)]; rfl
theorem unN_le (l : List Int) : ∀ k, unN l k ≤ k
  | 0 => Nat.le_refl _
  | k + 1 => by
    have h1 := unN_le l k
    have h2 : un1 l k ≤ 1 := by unfold un1; split <;> omega
    show unN l k + un1 l k ≤ k + 1
    omega
theorem needN_le (l : List Int) : needN l ≤ 5 := by
  have := unN_le l 3
  unfold needN
  split <;> split <;> omega
theorem ptsB_len {l : List Int} (h : ptsB l = true) : l.length ≤ 96 := by
  unfold ptsB at h
  rw [Bool.and_eq_true] at h
  exact of_decide_eq_true h.2
set_option maxHeartbeats 1000000 in
theorem need_calls (A0 : Option Addr) (c0 n : Nat) (l0 : List Int) (hn : l0.length = n) (w : World) (hr0 : I.C w A0 n l0) (hc0 : n ≤ c0) (hw : wide l0 = true) :
    Calls Try.prog 7 #[.slice A0 n c0] w fun e w' => e = .returned (.tuple #[.int .i64 (needF l0).1, .int .i64 (needF l0).2]) ∧ Below w.heap.size w w' := by
  subst hn
  have HP := Aside0.mk (pointers_calls A0 c0 l0 w hr0 hw)
  have HR := Aside0.mk hr0
  cases hb : ptsB l0 with
  | false =>
    rw [hb] at HP
    have HF : Aside0 (needF l0 = (0, 1)) := ⟨by unfold needF; rw [if_neg (by rw [hb]; decide)]⟩
    rw [HF.out]
    clear hr0 hw hb
    go_enter Try.func7, Try.ntmps7
    go_wp2_with (go_at_call 18; (with_reducible refine HP.out.mono ?_); rintro e w1 ⟨rfl, hb⟩; have HB := Aside0.mk hb; clear hb)
    go_ret2
    exact ⟨rfl, HB.out⟩
  | true =>
    rw [hb] at HP
    have HF : Aside0 (needF l0 = ((needN l0 : Int), 0)) := ⟨by unfold needF; rw [if_pos hb]⟩
    have hl96 := ptsB_len hb
    rw [HF.out]
    have HC0 := Aside0.mk hc0
    have HPT : Aside0 (∀ (fr cnt : Nat) (frI cntI : Int) (W : World) (s : Bool), (fr : Int) = frI → (cnt : Int) = cntI → cnt ≤ 1000 → Below w.heap.size w W → someB (partL l0 fr cnt) = s → Calls Try.prog 19 #[.slice A0 l0.length c0, .int .i64 frI, .int .i64 cntI] W fun e w' => ∃ A c, e = .returned (.tuple #[.slice A cnt c, .bool s]) ∧ Below w.heap.size w w') := ⟨fun fr cnt frI cntI W s e1 e2 h1 h2 h3 => (part_at A0 c0 l0.length l0 rfl fr cnt frI cntI e1 e2 h1 W (Kd.C_below HR.out h2) HC0.out).mono fun e w' h => by
      obtain ⟨v, he, hr, hb⟩ := h
      obtain ⟨A, c, rfl⟩ := Kd.R_slice hr
      rw [partL_length, h3] at he
      exact ⟨A, c, he, h2.trans (hb.mono h2.size)⟩⟩
    obtain ⟨n, hn⟩ : ∃ n, l0.length = n := ⟨_, rfl⟩
    have HN := Aside0.mk hn
    rw [hn] at HP HPT hl96
    rw [hn]
    obtain ⟨s4, hs4⟩ : ∃ q, someB (partL l0 4 30) = q := ⟨_, rfl⟩
    have HS4 := Aside0.mk hs4
    clear hr0 hw hb hc0 hn hs4
    have TL : ∀ (n4 : Nat), n4 = (if s4 = true then 1 else 0) → Aside0 (n4 + (if unN l0 3 = 0 then 0 else unN l0 3 + 1) = needN l0) := fun n4 h => ⟨by unfold needN; rw [HS4.out, h]⟩
    have HTL := Aside0.mk TL
    clear TL
    go_enter Try.func7, Try.ntmps7
    cases s4
    case' false => have HT := HTL.out 0 rfl
    case' true => have HT := HTL.out 1 rfl
    all_goals
      go_wp2_with (first | (go_at_call 18; (with_reducible refine HP.out.mono ?_); rintro e w1 ⟨rfl, hb⟩; have HB := Aside0.mk hb; clear hb) | (go_at_call 19; (with_reducible refine (HPT.out 4 30 4 30 w1 _ rfl rfl (by omega) HB.out HS4.out).mono ?_); rintro e w2 ⟨A2, c2, rfl, hb⟩; have HB2 := Aside0.mk hb; clear hb))
      go_loopg [7, 8] 4 (fun gg u i wr => ∃ k : Nat, k ≤ 3 ∧ 4 - k ≤ gg ∧ u = .int .i64 (unN l0 k : Nat) ∧ i = .int .i64 ((34 + 30 * k : Nat) : Int) ∧ Aside0 (Below w.heap.size w wr))
      case atStart => exact ⟨0, by omega, Nat.le_refl _, rfl, rfl, HB2⟩
      case round =>
        clear HB2
        obtain ⟨k, hk, hgk, rfl, rfl, HBW⟩ := hrel
        obtain ⟨fr, hfr⟩ : ∃ q, 34 + 30 * k = q := ⟨_, rfl⟩
        rw [hfr]
        have HFR := Aside0.mk hfr
        have hul := unN_le l0 k
        obtain ⟨u, hu⟩ : ∃ q, unN l0 k = q := ⟨_, rfl⟩
        have HU := Aside0.mk hu
        rw [hu] at hul
        rw [hu]
        by_cases hlt : fr < n
        · have b2 : decide (fr < n) = true := decide_eq_true hlt
          obtain ⟨us, hus⟩ : ∃ q, someB (partL l0 fr 30) = q := ⟨_, rfl⟩
          have HUS := Aside0.mk hus
          have HUN : Aside0 (unN l0 (k + 1) = u + if us = true then 1 else 0) := ⟨by show unN l0 k + un1 l0 k = _; unfold un1 usB; rw [hu, hfr, hus]⟩
          have hk2 : k ≤ 2 := by omega
          clear hu hus hfr
          cases us with
          | false =>
            go_wp2_with (go_at_call 19; (with_reducible refine (HPT.out fr 30 (fr : Int) 30 wr _ rfl rfl (by omega) HBW.out HUS.out).mono ?_); rintro e w2 ⟨A2, c2, rfl, hb⟩; have HB2 := Aside0.mk hb; clear hb)
            go_roundg (4 - (k + 1))
            case measure => omega
            case rel => exact ⟨k + 1, by omega, Nat.le_refl _, by rw [HUN.out]; go_num, by have := HFR.out; go_num, HB2⟩
          | true =>
            go_wp2_with (go_at_call 19; (with_reducible refine (HPT.out fr 30 (fr : Int) 30 wr _ rfl rfl (by omega) HBW.out HUS.out).mono ?_); rintro e w2 ⟨A2, c2, rfl, hb⟩; have HB2 := Aside0.mk hb; clear hb)
            go_roundg (4 - (k + 1))
            case measure => omega
            case rel => exact ⟨k + 1, by omega, Nat.le_refl _, by rw [HUN.out]; go_num, by have := HFR.out; go_num, HB2⟩
        · have b2 : decide (fr < n) = false := decide_eq_false hlt
          have HU3 : Aside0 (unN l0 3 = u) := ⟨by
            have h1 := unN_far (l := l0) (k := k) (by have := HN.out; omega) (3 - k)
            rw [show k + (3 - k) = 3 by omega, hu] at h1
            exact h1⟩
          clear hu hfr hlt
          have hT := HT.out
          rw [HU3.out] at hT
          by_cases hu0 : u = 0
          · subst hu0
            go_wp2_with fail
            go_ret2
            refine ⟨?_, HBW.out⟩
            rw [← hT]
            first | done | rfl | (refine congrArg (fun z => Ending.returned (.tuple #[.int .i64 z, .int .i64 0])) ?_; omega)
          · have b3 : decide (0 < u) = true := decide_eq_true (by omega)
            have b4 : decide (0 < (u : Int)) = true := decide_eq_true (by omega)
            rw [if_neg hu0] at hT
            have HT2 := Aside0.mk hT
            clear hT hu0
            go_wp2_with fail
            go_ret2
            refine ⟨?_, HBW.out⟩
            rw [← HT2.out]
            first | done | rfl | (refine congrArg (fun z => Ending.returned (.tuple #[.int .i64 z, .int .i64 0])) ?_; omega)
end Go.Proofs.Ytbdbjlfdnijfeaa.Tree
