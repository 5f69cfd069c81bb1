/- For all worlds: slices.Index and Contains over numbers; tree.Fresh at the closure that tree.Plan hands it. Conditions: the lists can be read. -/
import Derived.Test.YtbdbjlfdnijfeaaTree3
namespace Go.Proofs.Ytbdbjlfdnijfeaa.Tree
open Go Go.RowKit Go.Maps Go.Proofs.YtbdbjlfdnijfeaaW.PrintWords Go.Proofs.YtbdbjlfdnijfeaaW.PrintLast Go.Proofs.YtbdbjlfdnijfeaaW.PrintMore
set_option linter.unusedVariables false
set_option linter.unusedSimpArgs false
def idxV (l : List Int) (v : Int) : Int := match l.findIdx? (fun p => v == p) with
  | some k => (k : Int)
  | none => -1
theorem idxV_some (l : List Int) (v : Int) : decide (0 ≤ idxV l v) = l.contains v := by
  unfold idxV
  rw [List.contains_eq_any_beq]
  cases h : l.findIdx? (fun p => v == p) with
  | none =>
    have h1 := List.findIdx?_eq_none_iff.1 h
    rw [show l.any (fun p => v == p) = false from List.any_eq_false.2 (fun x hx => by have := h1 x hx; simpa using this)]
    rfl
  | some k =>
    obtain ⟨hk, h2, _⟩ := List.findIdx?_eq_some_iff_getElem.1 h
    rw [show l.any (fun p => v == p) = true from List.any_eq_true.2 ⟨_, List.getElem_mem hk, h2⟩]
    exact decide_eq_true (by show (0 : Int) ≤ (k : Int); omega)
theorem idxV_at {l : List Int} {v : Int} {k : Nat} (hk : l[k]? = some v) (hb : ∀ (j : Nat) (p : Int), j < k → l[j]? = some p → (v == p) = false) : idxV l v = (k : Int) := by
  obtain ⟨hl, e⟩ := List.getElem?_eq_some_iff.1 hk
  have h : l.findIdx? (fun p => v == p) = some k := List.findIdx?_eq_some_iff_getElem.2 ⟨hl, by rw [e]; exact beq_self_eq_true v, fun j hj => by
    rw [hb j l[j] hj (List.getElem?_eq_getElem (by omega))]; decide⟩
  unfold idxV
  rw [h]
theorem idxV_none {l : List Int} {v : Int} (hb : ∀ (j : Nat) (p : Int), l[j]? = some p → (v == p) = false) : idxV l v = -1 := by
  have h : l.findIdx? (fun p => v == p) = none := List.findIdx?_eq_none_iff.2 (fun x hx => by
    obtain ⟨j, hj⟩ := List.mem_iff_getElem?.1 hx
    exact hb j x hj)
  unfold idxV
  rw [h]
theorem index_calls (A0 : Option Addr) (c0 n : Nat) (l0 : List Int) (hn : l0.length = n) (v : Int) (w : World) (hr0 : I.C w A0 n l0) :
    Calls Try.prog 39 #[.slice A0 n c0, .int .i64 v] w fun e w' => e = .returned (.int .i64 (idxV l0 v)) ∧ w = w' := by
  have HN := Aside0.mk hn
  have hn63 := hr0.2.1
  have HR := Aside0.mk hr0
  clear hr0 hn
  go_enter Try.func39, Try.ntmps39
  go_wp2_with fail
  go_loopg [8] n (fun gg i wr => ∃ k : Nat, k ≤ n ∧ n - k ≤ gg ∧ i = .int .i64 k ∧ wr = w ∧ Aside0 (∀ j p, j < k → l0[j]? = some p → (v == p) = false))
  case atStart => exact ⟨0, Nat.zero_le _, Nat.le_refl _, rfl, rfl, ⟨fun j p hj => absurd hj (Nat.not_lt_zero _)⟩⟩
  case round =>
    obtain ⟨k, hk, hgk, rfl, rfl, HA⟩ := hrel
    by_cases hlt : k < n
    · have b1 : decide (k < n) = true := decide_eq_true hlt
      obtain ⟨p, hp⟩ : ∃ p, l0[k]? = some p := ⟨_, List.getElem?_eq_getElem (by have := HN.out; omega)⟩
      obtain ⟨ad, e, hc⟩ := at_i HR.out hp
      subst e
      have HP := Aside0.mk hp
      have hkz : (0 : Int) ≤ (k : Int) := by omega
      have hkn : (k : Int) < (n : Int) := by omega
      clear hp
      by_cases hp0 : v = p
      · subst hp0
        go_wp2_with fail
        go_ret
        exact ⟨by rw [idxV_at HP.out HA.out]; rfl, rfl⟩
      · have bp : (v == p) = false := beq_eq_false_iff_ne.2 hp0
        have HBP := Aside0.mk bp
        clear hp0
        go_wp2_with fail
        go_roundg (n - (k + 1))
        case measure => omega
        case rel => exact ⟨k + 1, by omega, Nat.le_refl _, by go_num, rfl, ⟨fun j p' hj hjp => by
          by_cases e : j = k
          · subst e
            obtain rfl := Option.some.inj (HP.out.symm.trans hjp)
            exact HBP.out
          · exact HA.out j p' (by omega) hjp⟩⟩
    · have b1 : decide (k < n) = false := decide_eq_false hlt
      have HKN : Aside0 (k = n) := ⟨by omega⟩
      clear hlt
      go_wp2_with fail
      go_ret
      exact ⟨by rw [idxV_none (fun j p hj => HA.out j p (by have := (List.getElem?_eq_some_iff.1 hj).1; have := HN.out; have := HKN.out; omega) hj)]; rfl, rfl⟩
theorem contains_calls (A0 : Option Addr) (c0 n : Nat) (l0 : List Int) (hn : l0.length = n) (v : Int) (w : World) (hr0 : I.C w A0 n l0) :
    Calls Try.prog 24 #[.slice A0 n c0, .int .i64 v] w fun e w' => e = .returned (.bool (l0.contains v)) ∧ w = w' := by
  have HC := Aside0.mk (index_calls A0 c0 n l0 hn v w hr0)
  have hs := idxV_some l0 v
  obtain ⟨q, hq⟩ : ∃ q, l0.contains v = q := ⟨_, rfl⟩
  obtain ⟨z, hz⟩ : ∃ z, idxV l0 v = z := ⟨_, rfl⟩
  rw [hq, hz] at hs
  rw [hz] at HC
  rw [hq]
  clear hq hz hr0 hn
  go_enter Try.func24, Try.ntmps24
  go_wp2_with (go_at_call 39; (with_reducible refine HC.out.mono ?_); rintro e w2 ⟨rfl, rfl⟩)
  go_ret
  exact ⟨rfl, rfl⟩
/-- The closure that tree.Plan hands to tree.Fresh: is it one of the pointers? -/
theorem clo_calls (gb : Nat) (A1 : Option Addr) (c1 n : Nat) (l1 : List Int) (hn : l1.length = n) (v : Int) (w : World) (hb : w.heap[gb]? = some (.cells #[.slice A1 n c1] 22 (0, 0))) (hr : I.C w A1 n l1) :
    Calls Try.prog 23 #[.int .i64 v, .pointer (some ⟨gb, 0, none⟩)] w fun e w' => e = .returned (.bool (l1.contains v)) ∧ w = w' := by
  have HC := Aside0.mk (contains_calls A1 c1 n l1 hn v w hr)
  have c0 := blk_cell hb 0
  obtain ⟨q, hq⟩ : ∃ q, l1.contains v = q := ⟨_, rfl⟩
  rw [hq] at HC
  rw [hq]
  clear hb hr hn hq
  go_enter Try.func23, Try.ntmps23
  go_wp2_with (go_at_call 24; (with_reducible refine HC.out.mono ?_); rintro e w2 ⟨rfl, rfl⟩)
  go_ret
  exact ⟨rfl, rfl⟩
/-- May p be taken, behind those that were? -/
def takeB (pts seen : List Int) (p : Int) : Bool := dataB p && !seen.contains p && !pts.contains p
def freshB (pts : List Int) : List Int → List Int → Bool
  | _, [] => true
  | seen, p :: r => takeB pts seen p && freshB pts (seen ++ [p]) r
def freshF (fresh : List Int) (need : Nat) (pts : List Int) : Int := if fresh.length < need then 6 else if freshB pts [] (fresh.take need) = true then 0 else 1
theorem freshB_append (pts : List Int) : ∀ (l seen : List Int) (p : Int), freshB pts seen (l ++ [p]) = (freshB pts seen l && takeB pts (seen ++ l) p)
  | [], seen, p => by simp [freshB]
  | x :: l, seen, p => by
    rw [List.cons_append, freshB, freshB_append pts l, freshB, Bool.and_assoc, List.append_assoc]
    rfl
theorem freshB_false (pts : List Int) : ∀ (l seen : List Int) (k : Nat) (p : Int), l[k]? = some p → takeB pts (seen ++ l.take k) p = false → freshB pts seen l = false
  | [], seen, k, p, h, _ => by simp at h
  | x :: l, seen, 0, p, h, hp => by
    obtain rfl := Option.some.inj h
    rw [List.take_zero, List.append_nil] at hp
    rw [freshB, hp, Bool.false_and]
  | x :: l, seen, k + 1, p, h, hp => by
    rw [freshB, freshB_false pts l (seen ++ [x]) k p h (by rw [List.append_assoc]; exact hp), Bool.and_false]
theorem C_take {w : World} {A : Option Addr} {n : Nat} {l : List Int} (h : I.C w A n l) (k : Nat) (hk : k ≤ n) : I.C w A k (l.take k) := by
  refine Kd.C_of_reads (d := (0 : Int)) (h1 := fun _ => rfl) ⟨by rw [List.length_take, h.1]; omega, by have := h.2.1; omega, fun h0 => ?_⟩
  obtain ⟨ad, e, _⟩ := at_i h (k := 0) (p := l.getD 0 0) (by rw [List.getD_eq_getElem?_getD, List.getElem?_eq_getElem (by have := h.1; omega)]; rfl)
  refine ⟨ad, e, fun j hj => ?_⟩
  obtain ⟨ad2, e2, hc⟩ := at_i h (k := j) (p := (l.take k).getD j 0) (by rw [List.getD_eq_getElem?_getD, List.getElem?_take, if_pos hj, List.getElem?_eq_getElem (by have := h.1; omega)]; rfl)
  obtain rfl := Option.some.inj (e.symm.trans e2)
  exact hc
set_option maxHeartbeats 1000000 in
theorem fresh_calls (A0 : Option Addr) (c0 n : Nat) (l0 : List Int) (hn : l0.length = n) (need : Nat) (gb : Nat) (A1 : Option Addr) (c1 n1 : Nat) (l1 : List Int) (hn1 : l1.length = n1) (hd : need ≤ 1000) (w : World) (hr0 : I.C w A0 n l0) (hc0 : n ≤ c0) (hb : w.heap[gb]? = some (.cells #[.slice A1 n1 c1] 22 (0, 0))) (hr1 : I.C w A1 n1 l1) :
    Calls Try.prog 22 #[.slice A0 n c0, .int .i64 (need : Int), .func (.func 23) #[] #[.pointer (some ⟨gb, 0, none⟩)]] w fun e w' => e = .returned (.int .i64 (freshF l0 need l1)) ∧ w = w' := by
  have HN := Aside0.mk hn
  have HN1 := Aside0.mk hn1
  have hn63 := hr0.2.1
  have HR := Aside0.mk hr0
  have HB := Aside0.mk hb
  have HR1 := Aside0.mk hr1
  clear hr0 hb hr1 hn hn1
  by_cases hsp : n < need
  · have b1 : decide (n < need) = true := decide_eq_true hsp
    have HF : Aside0 (freshF l0 need l1 = 6) := ⟨by unfold freshF; rw [if_pos (by have := HN.out; omega)]⟩
    rw [HF.out]
    clear hsp
    go_enter Try.func22, Try.ntmps22
    go_wp2_with fail
    go_ret
    exact ⟨rfl, rfl⟩
  · have b1 : decide (n < need) = false := decide_eq_false hsp
    have hle : need ≤ n := by omega
    have hlei : (need : Int) ≤ (n : Int) := by omega
    have hlec : (need : Int) ≤ (c0 : Int) := by omega
    have hlec2 : need ≤ c0 := by omega
    have hdz : (0 : Int) ≤ (need : Int) := by omega
    clear hsp
    go_enter Try.func22, Try.ntmps22
    go_wp2_with fail
    go_loopg [17] need (fun gg i wr => ∃ k : Nat, k ≤ need ∧ need - k ≤ gg ∧ i = .int .i64 k ∧ wr = w ∧ Aside0 (freshB l1 [] (l0.take k) = true))
    case atStart => exact ⟨0, Nat.zero_le _, Nat.le_refl _, rfl, rfl, ⟨rfl⟩⟩
    case round =>
      obtain ⟨k, hk, hgk, rfl, rfl, HA⟩ := hrel
      by_cases hlt : k < need
      · have b2 : decide (k < need) = true := decide_eq_true hlt
        obtain ⟨p, hp⟩ : ∃ p, l0[k]? = some p := ⟨_, List.getElem?_eq_getElem (by have := HN.out; omega)⟩
        obtain ⟨ad, e, hc⟩ := at_i HR.out hp
        subst e
        have HP := Aside0.mk hp
        have HPT : Aside0 ((l0.take need)[k]? = some p) := ⟨by rw [List.getElem?_take, if_pos hlt]; exact hp⟩
        have HTT : Aside0 ((l0.take need).take k = l0.take k) := ⟨by rw [List.take_take, Nat.min_eq_left (by omega)]⟩
        have hkz : (0 : Int) ≤ (k : Int) := by omega
        have hkn : (k : Int) < (need : Int) := by omega
        have hkc : (k : Int) ≤ (c0 : Int) := by omega
        have hkc2 : k ≤ c0 := by omega
        have HTK : Aside0 ((l0.take k).length = k) := ⟨by rw [List.length_take]; have := HN.out; omega⟩
        have HCT : Aside0 (I.C wr (some ad) k (l0.take k)) := ⟨C_take HR.out k (by omega)⟩
        have hcall := Aside0.mk (clo_calls gb A1 c1 n1 l1 HN1.out p wr HB.out HR1.out)
        obtain ⟨dp, hdp⟩ : ∃ q, dataB p = q := ⟨_, rfl⟩
        obtain ⟨sn, hsn⟩ : ∃ q, (l0.take k).contains p = q := ⟨_, rfl⟩
        obtain ⟨pn, hpn⟩ : ∃ q, l1.contains p = q := ⟨_, rfl⟩
        have hok : takeB l1 (l0.take k) p = (dp && !sn && !pn) := by unfold takeB; rw [hdp, hsn, hpn]
        have HOK := Aside0.mk hok
        rw [hpn] at hcall
        clear hp hok hlt hpn
        cases dp with
        | false =>
          go_wp2_with (first | (go_at_call 35; (with_reducible refine (data_calls p _).mono ?_); rintro e w2 ⟨rfl, rfl⟩; rw [hdp]) | (go_at_call 24; (with_reducible refine (contains_calls (some ad) c0 k (l0.take k) HTK.out p _ HCT.out).mono ?_); rintro e w2 ⟨rfl, rfl⟩; rw [hsn]))
          go_ret
          refine ⟨?_, rfl⟩
          unfold freshF
          rw [if_neg (by have := HN.out; omega), freshB_false l1 (l0.take need) [] k p HPT.out (by rw [List.nil_append, HTT.out, HOK.out]; rfl), if_neg (by decide)]
          rfl
        | true =>
          cases sn with
          | true =>
            go_wp2_with (first | (go_at_call 35; (with_reducible refine (data_calls p _).mono ?_); rintro e w2 ⟨rfl, rfl⟩; rw [hdp]) | (go_at_call 24; (with_reducible refine (contains_calls (some ad) c0 k (l0.take k) HTK.out p _ HCT.out).mono ?_); rintro e w2 ⟨rfl, rfl⟩; rw [hsn]))
            go_ret
            refine ⟨?_, rfl⟩
            unfold freshF
            rw [if_neg (by have := HN.out; omega), freshB_false l1 (l0.take need) [] k p HPT.out (by rw [List.nil_append, HTT.out, HOK.out]; rfl), if_neg (by decide)]
            rfl
          | false =>
            cases pn with
            | true =>
              go_wp2_with (first | (go_at_call 35; (with_reducible refine (data_calls p _).mono ?_); rintro e w2 ⟨rfl, rfl⟩; rw [hdp]) | (go_at_call 24; (with_reducible refine (contains_calls (some ad) c0 k (l0.take k) HTK.out p _ HCT.out).mono ?_); rintro e w2 ⟨rfl, rfl⟩; rw [hsn]))
              (with_reducible refine hcall.out.mono ?_)
              rintro e w3 ⟨rfl, rfl⟩
              go_wp2_with fail
              go_ret
              refine ⟨?_, rfl⟩
              unfold freshF
              rw [if_neg (by have := HN.out; omega), freshB_false l1 (l0.take need) [] k p HPT.out (by rw [List.nil_append, HTT.out, HOK.out]; rfl), if_neg (by decide)]
              rfl
            | false =>
              go_wp2_with (first | (go_at_call 35; (with_reducible refine (data_calls p _).mono ?_); rintro e w2 ⟨rfl, rfl⟩; rw [hdp]) | (go_at_call 24; (with_reducible refine (contains_calls (some ad) c0 k (l0.take k) HTK.out p _ HCT.out).mono ?_); rintro e w2 ⟨rfl, rfl⟩; rw [hsn]))
              (with_reducible refine hcall.out.mono ?_)
              rintro e w3 ⟨rfl, rfl⟩
              go_wp2_with fail
              go_roundg (need - (k + 1))
              case measure => omega
              case rel => exact ⟨k + 1, by omega, Nat.le_refl _, by go_num, rfl, ⟨by rw [take_snoc HP.out, freshB_append, HA.out, List.nil_append, HOK.out]; rfl⟩⟩
      · have b2 : decide (k < need) = false := decide_eq_false hlt
        have HKN : Aside0 (k = need) := ⟨by omega⟩
        clear hlt
        go_wp2_with fail
        go_ret
        refine ⟨?_, rfl⟩
        have h := HA.out
        rw [HKN.out] at h
        unfold freshF
        rw [if_neg (by have := HN.out; omega), h, if_pos rfl]
        rfl
end Go.Proofs.Ytbdbjlfdnijfeaa.Tree
