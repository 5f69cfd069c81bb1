/- For every place, number, sizes and cut: of transactions written one behind the other those are found that are whole. Conditions: the numbers are of their kinds. -/
import Derived.Test.YtefhjfaojbjjaaaPAllx8
import Derived.Test.YtefhjfaojbjjaaaLogRing
namespace Go.Proofs.Ytefhjfaojbjjaaa.Pure
open Go Go.RowKit Go.Proofs.Ytefhjfaojbjjaaa.PAll Go.Proofs.YtefhjfaojbjjaaaW.PrintWords Go.Proofs.Ytefhjfaojbjjaaa.Spin Go.Proofs.Ytefhjfaojbjjaaa.Field Go.Proofs.Ytefhjfaojbjjaaa.Ref Go.Proofs.Ytefhjfaojbjjaaa.Log
set_option linter.unusedVariables false
set_option linter.unusedSimpArgs false

theorem w1 (x : Nat) (h : x < 1000000) : wrap64 ((x : Int) + 1) = ((x + 1 : Nat) : Int) := by unfold wrap64; omega
theorem wat (A x : Nat) (h : A < 1000) (h' : x < 1000) : Int.tmod (wrap64 ((A : Int) + (x : Int))) 40 = (((A + x) % 40 : Nat) : Int) := by
  have e : wrap64 ((A : Int) + (x : Int)) = ((A + x : Nat) : Int) := by unfold wrap64; omega
  rw [e, Int.tmod_eq_emod_of_nonneg (Int.natCast_nonneg _)]
  clear e
  omega
theorem wQ (Q : Int) (w : Nat) (h : 1 ≤ Q ∧ Q ≤ 65536) (h' : w < 1000) : wrap64 (Q + (w : Int) + 1) = Q + ((w + 1 : Nat) : Int) := by unfold wrap64; omega
theorem wQi (Q : Int) (w : Nat) (h : 1 ≤ Q ∧ Q ≤ 65536) (h' : w < 1000) : wrap64 (Q + (w : Int)) = Q + (w : Int) := by unfold wrap64; omega
theorem wto (i x : Nat) (h : i < 1000) (h' : x < 1000) : wrap64 ((wrap64 (60 + (wrap64 (7 * (i : Int))))) + (x : Int)) = 60 + 7 * (i : Int) + (x : Int) := by unfold wrap64; omega
theorem w60 (j : Nat) (h : j < 1000) : 60 + 7 * (j : Int) + ((0 : Nat) : Int) = wrap64 (60 + wrap64 (7 * (j : Int))) := by unfold wrap64; omega
theorem wp2 (p n : Nat) (h : p < 1000) (h' : n < 1000) : wrap64 (wrap64 ((p : Int) + (n : Int)) + 2) = ((p + n + 2 : Nat) : Int) := by unfold wrap64; omega
theorem zr_length : zr.length = 64 := by simp [zr]
theorem fst64 (Q : Int) (i n : Nat) (hn : n ≤ 5) : (fstW Q i n).length = 64 ∧ Bytes (fstW Q i n) :=
  ⟨sealI_length _ (beginP_length _ _), sealI_bytes (beginP_bytes _ _ (by rw [tosW_length]; omega))⟩
theorem lst64 (Q : Int) (i n : Nat) : (lstW Q i n).length = 64 ∧ Bytes (lstW Q i n) :=
  ⟨sealI_length _ (endP_length _ _), sealI_bytes (endP_bytes _ _)⟩
theorem outW_length (l2 : List Int) (F : Int) (w : Nat) : (outW l2 F w).length = w := by simp [outW]
theorem outW_get (l2 : List Int) (F : Int) (w j : Nat) (h : j < w) : rd_L4 (outW l2 F w) (j : Int) = tlW l2 F j := by
  show (outW l2 F w).getD (j : Int).toNat _ = _
  rw [Int.toNat_natCast, List.getD_eq_getElem?_getD, outW, List.getElem?_map, List.getElem?_range h]; rfl
theorem tlW_length (l2 : List Int) (F : Int) (j : Nat) : (tlW l2 F j).length = nOf l2 j := by simp [tlW]
theorem tlW_zero (l2 : List Int) (F : Int) (j : Nat) : rd_T50 (tlW l2 F j) 0 = ⟨60 + 7 * (j : Int) + ((0 : Nat) : Int), midW F j⟩ := by
  have h := (nOf_le l2 j).1
  show (tlW l2 F j).getD (0 : Int).toNat _ = _
  rw [show (0 : Int).toNat = 0 from rfl, List.getD_eq_getElem?_getD, tlW, List.getElem?_map, List.getElem?_range h]; rfl
theorem midW_length (F : Int) (j : Nat) : (midW F j).length = 64 := by rw [midW, List.length_set, List.length_set, zr_length]
theorem midW_0 (F : Int) (j : Nat) : rd (midW F j) 0 = F := by
  show (midW F j).getD (0 : Int).toNat 0 = F
  rw [show (0 : Int).toNat = 0 from rfl, List.getD_eq_getElem?_getD, midW, List.getElem?_set_ne (by decide), List.getElem?_set_self (by rw [zr_length]; decide)]; rfl
theorem midW_1 (F : Int) (j : Nat) : rd (midW F j) 1 = (j : Int) % 256 := by
  show (midW F j).getD (1 : Int).toNat 0 = _
  rw [show (1 : Int).toNat = 1 from rfl, List.getD_eq_getElem?_getD, midW, List.getElem?_set_self (by rw [List.length_set, zr_length]; decide)]; rfl
theorem nOf_eq (l2 : List Int) (hb : ∀ j : Nat, 0 ≤ rd l2 (j : Int) ∧ rd l2 (j : Int) < 256) (i : Nat) : wrap64 ((wrap64 (Int.tmod (rd l2 (i : Int)) 5)) + 1) = (nOf l2 i : Int) := by
  have h := hb i
  rw [Int.tmod_eq_emod_of_nonneg h.1]
  unfold nOf wrap64
  omega
/-- The transactions that were found, one by one. -/
theorem whole_l5 (l2 : List Int) (F : Int) (hb : ∀ j : Nat, 0 ≤ rd l2 (j : Int) ∧ rd l2 (j : Int) < 256) (w : Nat) (hw : w ≤ l2.length) (h13 : w ≤ 13) : ∀ d j k : Nat, d + j = w → 2 * d < k → drydocklaw15_LogWhole.l5 k l2 F (outW l2 F w) (j : Int) = some true
  | _, _, 0, _, hk => absurd hk (by omega)
  | 0, j, k + 1, hj, _ => by
    have hl := outW_length l2 F w
    rw [drydocklaw15_LogWhole.l5, if_neg (by omega)]
  | d + 1, j, 1, hj, hk => absurd hk (by omega)
  | d + 1, j, k + 2, hj, hk => by
    have hl := outW_length l2 F w
    have hn := nOf_le l2 j
    have ht := tlW_length l2 F j
    rw [drydocklaw15_LogWhole.l5, if_pos (by omega), if_pos (by omega), if_pos (by omega), outW_get l2 F w j (by omega), nOf_eq l2 hb, if_pos (by omega), if_pos (by omega), tlW_zero]
    dsimp only
    rw [if_pos (w60 j (by omega)), midW_length, if_pos (by omega), midW_0, if_pos rfl, if_pos (by omega), midW_1, show ((j : Int) % 256 != (j : Int) % 256) = false from by simp, drydocklaw15_LogWhole.j9, if_neg (by decide), w1 j (by omega)]
    exact whole_l5 l2 F hb w hw h13 d (j + 1) k (by omega) (by omega)
theorem ring_bytes {A C : Nat} {W bl : List (List Int)} (h : ring A C W bl) : ∀ b ∈ bl, Bytes b := fun b hb => (h.2.1 b hb).2
/-- What is found in the end. -/
theorem whole_j6 (l2 : List Int) (F Q : Int) (A C t w : Nat) (bl : List (List Int)) (hb : ∀ j : Nat, 0 ≤ rd l2 (j : Int) ∧ rd l2 (j : Int) < 256) (hA : A < 40) (hQ : 1 ≤ Q ∧ Q ≤ 65536) (h : ring A C (WW l2 Q F t) bl) (h40 : PP l2 t ≤ 40) (hC40 : C ≤ 40)
    (ht : t ≤ l2.length) (hw : w ≤ t) (hwC : PP l2 w ≤ C) (hn : w < t → C < PP l2 (w + 1)) (k : Nat) (hk : 1073742040 < k) :
    drydocklaw15_LogWhole.j6 k l2 F bl (w : Int) (A : Int) Q (((A + PP l2 w) % 40 : Nat) : Int) (Q + (w : Int)) = some true := by
  obtain ⟨k, rfl⟩ : ∃ m, k = m + 1 := ⟨k - 1, by omega⟩
  have hp := PP_ge l2 w
  rw [drydocklaw15_LogWhole.j6, find_eq (ring_bytes h) _ _ k (by omega), find_whole hA hQ h h40 hC40 w hw hwC hn, Option.bind_some, awake15_true k (by omega), Option.bind_some, if_pos rfl]
  dsimp only
  rw [if_pos rfl, outW_length, if_pos rfl]
  have e : (!((((A + PP l2 w) % 40 : Nat) : Int) == (((A + PP l2 w) % 40 : Nat) : Int)) || (!(Q + (w : Int) == Q + (w : Int)))) = false := by simp
  rw [e]
  obtain ⟨k, rfl⟩ : ∃ m, k = m + 1 := ⟨k - 1, by omega⟩
  rw [drydocklaw15_LogWhole.j7, if_neg (by decide)]
  exact whole_l5 l2 F hb w (by omega) (by omega) w 0 k (by omega) (by omega)
section
variable (l2 : List Int) (a3 F Q : Int) (A C : Nat)
/-- The state between two transactions goes on to the end. -/
def Goes (i : Nat) (K : Nat) : Prop := ∀ (w : Nat) (bl : List (List Int)) (k : Nat), i ≤ l2.length → ring A C (WW l2 Q F i) bl → PP l2 i ≤ 40 → w ≤ i → PP l2 w ≤ C → (w < i → C < PP l2 (w + 1)) → K < k →
  drydocklaw15_LogWhole.l1 k l2 a3 F bl (PP l2 i : Int) (w : Int) (i : Int) (A : Int) Q (((A + PP l2 w) % 40 : Nat) : Int) (Q + (w : Int)) = some true
variable {l2 a3 F Q A C}
theorem TW_get (i n x : Nat) (h : x < n + 2) : rd_L2 (TW Q F i n) (x : Int) = (TW Q F i n).getD x zr := by
  show (TW Q F i n).getD (x : Int).toNat _ = _
  rw [Int.toNat_natCast, List.getD_eq_getElem?_getD, List.getD_eq_getElem?_getD, List.getElem?_eq_getElem (by rw [TW_length]; exact h)]; rfl
theorem take_snocD (l : List (List Int)) (x : Nat) (h : x < l.length) : l.take (x + 1) = l.take x ++ [l.getD x zr] := by
  rw [List.take_succ_eq_append_getElem h, List.getD_eq_getElem?_getD, List.getElem?_eq_getElem h]; rfl
theorem midW_bytes (hF : 0 ≤ F ∧ F < 256) (i : Nat) : (midW F i).length = 64 ∧ Bytes (midW F i) := by
  refine ⟨midW_length F i, fun x hx => ?_⟩
  rw [midW] at hx
  rcases List.mem_or_eq_of_mem_set hx with hx | rfl
  · rcases List.mem_or_eq_of_mem_set hx with hx | rfl
    · obtain rfl := List.eq_of_mem_replicate hx; decide
    · omega
  · omega
theorem TW_bytes (hF : 0 ≤ F ∧ F < 256) (hQ : 1 ≤ Q ∧ Q ≤ 65536) (i n : Nat) (hi : i ≤ 13) (hn : 1 ≤ n ∧ n ≤ 5) (x : Nat) (h : x < n + 2) : ((TW Q F i n).getD x zr).length = 64 ∧ Bytes ((TW Q F i n).getD x zr) := by
  rcases Nat.eq_zero_or_pos x with rfl | hx
  · rw [TW_zero]; exact fst64 Q i n hn.2
  · by_cases hl : x = n + 1
    · subst hl; rw [TW_last]; exact lst64 Q i n
    · obtain ⟨y, rfl⟩ : ∃ y, x = y + 1 := ⟨x - 1, by omega⟩
      rw [TW_mid _ _ _ _ _ (by omega)]; exact midW_bytes hF i
/-- A transaction's blocks into the ring. -/
theorem whole_l4 (hC : Aside0 (wrap64 (Int.tmod a3 41) = (C : Int))) (hC40 : C ≤ 40) (hA : A < 40) (hQ : 1 ≤ Q ∧ Q ≤ 65536) (hF : 0 ≤ F ∧ F < 256) (i w : Nat) (K : Nat) (hG : Goes l2 a3 F Q A C (i + 1) K) (hi : i < l2.length) (h40 : PP l2 (i + 1) ≤ 40)
    (hw : w ≤ i) (hwC : PP l2 w ≤ C) (hn : w < i → C < PP l2 (w + 1)) (tos : List Int) :
    ∀ (d x k : Nat) (bl : List (List Int)), d + x = nOf l2 i + 2 → ring A C (WW l2 Q F i ++ (TW Q F i (nOf l2 i)).take x) bl → K + d + 1 < k →
      drydocklaw15_LogWhole.l4 k l2 a3 F bl ((PP l2 i + x : Nat) : Int) (w : Int) (i : Int) (TW Q F i (nOf l2 i)) (x : Int) (A : Int) Q (((A + PP l2 w) % 40 : Nat) : Int) (Q + (w : Int)) (Q + (i : Int)) tos = some true
  | _, _, 0, _, _, _, hk => absurd hk (by omega)
  | 0, x, k + 1, bl, hx, hr, hk => by
    have hl := TW_length Q F i (nOf l2 i)
    have hp := PP_ge l2 (i + 1)
    have e1 : PP l2 i + x = PP l2 (i + 1) := by rw [PP]; omega
    rw [List.take_of_length_le (by omega)] at hr
    rw [drydocklaw15_LogWhole.l4, if_neg (by omega), hC.out, e1, w1 i (by omega)]
    by_cases hc : PP l2 (i + 1) ≤ C
    · rw [if_pos (by omega)]
      have hwi : w = i := by
        rcases Nat.lt_or_ge w i with h | h
        · have h1 := hn h
          have h2 := PP_mono l2 (w + 1) (i - w)
          rw [show w + 1 + (i - w) = i + 1 by omega] at h2
          omega
        · omega
      subst hwi
      rw [wat A _ (by omega) (by omega), wQ Q w hQ (by omega), w1 w (by omega)]
      exact hG (w + 1) bl k (by omega) hr h40 (Nat.le_refl _) hc (fun h => absurd h (by omega)) (by omega)
    · rw [if_neg (by omega)]
      refine hG w bl k (by omega) hr h40 (by omega) hwC (fun h => ?_) (by omega)
      rcases Nat.lt_or_ge w i with g | g
      · exact hn g
      · obtain rfl : w = i := by omega
        omega
  | d + 1, x, k + 1, bl, hx, hr, hk => by
    have hl := TW_length Q F i (nOf l2 i)
    have hp := PP_ge l2 (i + 1)
    have hpe : PP l2 (i + 1) = PP l2 i + nOf l2 i + 2 := rfl
    have hW : (WW l2 Q F i ++ (TW Q F i (nOf l2 i)).take x).length = PP l2 i + x := by rw [List.length_append, WW_length, List.length_take]; omega
    have hb := TW_bytes (F := F) hF hQ i (nOf l2 i) (by omega) (nOf_le l2 i) x (by omega)
    have e4 := take_snocD (TW Q F i (nOf l2 i)) x (by omega)
    have hbl := hr.1
    rw [drydocklaw15_LogWhole.l4, if_pos (by omega), hC.out, w1 (PP l2 i + x) (by omega), w1 x (by omega), wat A (PP l2 i + x) (by omega) (by omega)]
    by_cases hc : PP l2 i + x < C
    · rw [if_pos (by omega), if_pos (by omega), if_pos (by omega), if_pos (by omega), TW_get _ _ _ (by omega), Int.toNat_natCast]
      have hr2 := ring_set hr _ hb (by omega) (by omega)
      rw [hW, List.append_assoc, ← e4] at hr2
      exact whole_l4 hC hC40 hA hQ hF i w K hG hi h40 hw hwC hn tos d (x + 1) k _ (by omega) hr2 (by omega)
    · rw [if_neg (by omega)]
      have hr2 := ring_past hr ((TW Q F i (nOf l2 i)).getD x zr) (by omega)
      rw [List.append_assoc, ← e4] at hr2
      exact whole_l4 hC hC40 hA hQ hF i w K hG hi h40 hw hwC hn tos d (x + 1) k _ (by omega) hr2 (by omega)
theorem rep_snoc {α : Type} (a : α) (x : Nat) : List.replicate x a ++ [a] = List.replicate (x + 1) a := by rw [List.replicate_succ']
/-- The blocks between the first and the last. -/
theorem whole_l3 (K i w : Nat) (bl : List (List Int)) (E0 E1 : Int) (tos : List Int) (hi : i ≤ 13)
    (hgo : ∀ k, K < k → drydocklaw15_LogWhole.l4 k l2 a3 F bl (PP l2 i : Int) (w : Int) (i : Int) (TW Q F i (nOf l2 i)) 0 (A : Int) Q E0 E1 (Q + (i : Int)) tos = some true) :
    ∀ d x k : Nat, d + x = nOf l2 i → K + d + 1 < k →
      drydocklaw15_LogWhole.l3 k l2 a3 F bl (PP l2 i : Int) (w : Int) (i : Int) (nOf l2 i : Int) (lstW Q i (nOf l2 i)) (fstW Q i (nOf l2 i) :: List.replicate x (midW F i)) (x : Int) (A : Int) Q E0 E1 (Q + (i : Int)) tos = some true
  | _, _, 0, _, hk => absurd hk (by omega)
  | 0, x, k + 1, hx, hk => by
    have hn := nOf_le l2 i
    obtain rfl : x = nOf l2 i := by omega
    rw [drydocklaw15_LogWhole.l3, if_neg (by omega), if_pos (by rw [List.length_cons, List.length_replicate]; omega)]
    exact hgo k (by omega)
  | d + 1, x, k + 1, hx, hk => by
    have hn := nOf_le l2 i
    have hz : (List.replicate 64 (0 : Int)).length = 64 := List.length_replicate
    rw [drydocklaw15_LogWhole.l3, if_pos (by omega), if_pos (by decide), Option.bind_some, hz, if_pos (by decide), if_pos (by decide), if_pos (by rw [List.length_cons, List.length_replicate]; omega), w1 x (by omega), List.cons_append]
    have e3 : List.replicate x (midW F i) ++ [((List.replicate 64 (0 : Int)).set (0 : Int).toNat F).set (1 : Int).toNat ((i : Int) % 256)] = List.replicate (x + 1) (midW F i) := rep_snoc (midW F i) x
    rw [e3]
    exact whole_l3 K i w bl E0 E1 tos hi hgo d (x + 1) k (by omega) (by omega)
/-- Where a transaction's blocks belong. -/
theorem whole_l2 (K i w : Nat) (bl : List (List Int)) (E0 E1 : Int) (hi : i ≤ 13) (hQ : 1 ≤ Q ∧ Q ≤ 65536)
    (hgo : ∀ k tos, K < k → drydocklaw15_LogWhole.l4 k l2 a3 F bl (PP l2 i : Int) (w : Int) (i : Int) (TW Q F i (nOf l2 i)) 0 (A : Int) Q E0 E1 (Q + (i : Int)) tos = some true) :
    ∀ d x k : Nat, d + x = nOf l2 i → K + 70 + d < k →
      drydocklaw15_LogWhole.l2 k l2 a3 F bl (PP l2 i : Int) (w : Int) (i : Int) (nOf l2 i : Int) (x : Int) (A : Int) Q E0 E1 (Q + (i : Int)) (tosW i x) = some true
  | _, _, 0, _, hk => absurd hk (by omega)
  | 0, x, k + 1, hx, hk => by
    have hn := nOf_le l2 i
    obtain rfl : x = nOf l2 i := by omega
    have hs := tosW_snd Q i (nOf l2 i) hQ hi hn
    have he := lstW_end Q i (nOf l2 i) hQ hi hn
    rw [drydocklaw15_LogWhole.l2, if_neg (by omega), begin_eq _ _ k (by omega), Option.bind_some, end_eq, Option.bind_some]
    unfold beginI endI
    rw [if_pos hs, if_pos he]
    dsimp only
    rw [if_pos rfl, show ((0 : Int) != 0) = false from rfl]
    obtain ⟨k, rfl⟩ : ∃ m, k = m + 1 := ⟨k - 1, by omega⟩
    rw [drydocklaw15_LogWhole.j3, if_neg (by decide)]
    exact whole_l3 K i w bl E0 E1 _ hi (fun k hk => hgo k _ hk) (nOf l2 i) 0 k (by omega) (by omega)
  | d + 1, x, k + 1, hx, hk => by
    have hn := nOf_le l2 i
    rw [drydocklaw15_LogWhole.l2, if_pos (by omega), if_pos (by rw [tosW_length]; omega), w1 x (by omega), wto i x (by omega) (by omega), ← tosW_succ]
    exact whole_l2 K i w bl E0 E1 hi hQ hgo d (x + 1) k (by omega) (by omega)
theorem goes (hb : ∀ j : Nat, 0 ≤ rd l2 (j : Int) ∧ rd l2 (j : Int) < 256) (hC : Aside0 (wrap64 (Int.tmod a3 41) = (C : Int))) (hC40 : C ≤ 40) (hA : A < 40) (hQ : 1 ≤ Q ∧ Q ≤ 65536) (hF : 0 ≤ F ∧ F < 256) : ∀ d i : Nat, d + i = 14 → Goes l2 a3 F Q A C i (1073742050 + 90 * d)
  | 0, i, hi => fun w bl k hil hr h40 _ _ _ hk => by
    have hp := PP_ge l2 i
    omega
  | d + 1, i, hi => fun w bl k hil hr h40 hw hwC hn hk => by
    have hp := PP_ge l2 i
    have hN := nOf_le l2 i
    obtain ⟨k, rfl⟩ : ∃ m, k = m + 1 := ⟨k - 1, by omega⟩
    rw [drydocklaw15_LogWhole.l1]
    by_cases hlt : i < l2.length
    · rw [if_pos (by omega), if_pos (by omega), nOf_eq l2 hb, wp2 _ _ (by omega) (by omega)]
      by_cases hg : PP l2 i + nOf l2 i + 2 > 40
      · rw [if_pos (by omega)]
        exact whole_j6 l2 F Q A C i w bl hb hA hQ hr h40 hC40 hil hw hwC hn k (by omega)
      · rw [if_neg (by omega), wQi Q i hQ (by omega)]
        have ih := goes hb hC hC40 hA hQ hF d (i + 1) (by omega)
        refine whole_l2 (1073742050 + 90 * d + 10) i w bl _ _ (by omega) hQ (fun k' tos hk' => ?_) (nOf l2 i) 0 k (by omega) (by omega)
        have hpe : PP l2 (i + 1) = PP l2 i + nOf l2 i + 2 := rfl
        exact whole_l4 hC hC40 hA hQ hF i w _ ih hlt (by omega) hw hwC hn tos (nOf l2 i + 2) 0 k' bl (by omega) (by rw [List.take_zero, List.append_nil]; exact hr) (by omega)
    · rw [if_neg (by omega)]
      exact whole_j6 l2 F Q A C i w bl hb hA hQ hr h40 hC40 hil hw hwC hn k (by omega)
end
theorem whole_l0 (l2 : List Int) (a3 F Q A' : Int) (K : Nat) (hgo : ∀ k, K < k → drydocklaw15_LogWhole.l1 k l2 a3 F (List.replicate 40 zr) 0 0 0 A' Q A' Q = some true) :
    ∀ d x k : Nat, d + x = 40 → K + d + 1 < k → drydocklaw15_LogWhole.l0 k l2 a3 F (List.replicate x zr) (x : Int) A' Q = some true
  | _, _, 0, _, hk => absurd hk (by omega)
  | 0, x, k + 1, hx, hk => by
    obtain rfl : x = 40 := by omega
    rw [drydocklaw15_LogWhole.l0, if_neg (by omega)]
    exact hgo k (by omega)
  | d + 1, x, k + 1, hx, hk => by
    have e3 : List.replicate x zr ++ [List.replicate 64 (0 : Int)] = List.replicate (x + 1) zr := rep_snoc zr x
    rw [drydocklaw15_LogWhole.l0, if_pos (by omega), if_pos (by decide), if_pos (by rw [List.length_replicate]; omega), w1 x (by omega), e3]
    exact whole_l0 l2 a3 F Q A' K hgo d (x + 1) k (by omega) (by omega)
theorem wf_u8 {x : Int} (h : (Lit.int .u8 x).wf = true) : 0 ≤ x ∧ x < 256 := by
  simp [Lit.wf, IntKind.min, IntKind.max, IntKind.signed, IntKind.bits] at h; omega
theorem wf_u16 {x : Int} (h : (Lit.int .u16 x).wf = true) : 0 ≤ x ∧ x < 65536 := by
  simp [Lit.wf, IntKind.min, IntKind.max, IntKind.signed, IntKind.bits] at h; omega
theorem LogWhole : drydocklaw15_LogWhole.Pure := by
  intro a0 a1 l2 a3 a4 h0 h1 _ _ h2 h3 h4
  have g0 := wf_u8 h0
  have g1 := wf_u16 h1
  have g3 := wf_u8 h3
  have g4 := wf_u8 h4
  have hb : ∀ j : Nat, 0 ≤ rd l2 (j : Int) ∧ rd l2 (j : Int) < 256 := fun j => by
    show 0 ≤ l2.getD (j : Int).toNat 0 ∧ l2.getD (j : Int).toNat 0 < 256
    rw [Int.toNat_natCast, List.getD_eq_getElem?_getD]
    cases h : l2[j]? with
    | none => decide
    | some x => exact wf_u8 (h2 x (List.mem_of_getElem? h))
  obtain ⟨A, hA⟩ : ∃ A : Nat, A = a0.toNat % 40 := ⟨_, rfl⟩
  obtain ⟨C, hC⟩ : ∃ C : Nat, C = a3.toNat % 41 := ⟨_, rfl⟩
  have e0 : Aside0 (wrap64 (Int.tmod a0 40) = (A : Int)) := ⟨by rw [Int.tmod_eq_emod_of_nonneg g0.1]; unfold wrap64; omega⟩
  have e1 : Aside0 (wrap64 (wrap64 a1 + 1) = a1 + 1) := ⟨by unfold wrap64; omega⟩
  have e3 : Aside0 (wrap64 (Int.tmod a3 41) = (C : Int)) := ⟨by rw [Int.tmod_eq_emod_of_nonneg g3.1]; unfold wrap64; omega⟩
  refine ⟨1073750000, ?_⟩
  unfold drydocklaw15_LogWhole.f
  rw [e0.out, e1.out]
  refine whole_l0 l2 a3 a4 (a1 + 1) (A : Int) 1073745000 (fun k hk => ?_) 40 0 1073750000 (by omega) (by omega)
  have h := goes (l2 := l2) (a3 := a3) (F := a4) (Q := a1 + 1) (A := A) (C := C) hb e3 (by omega) (by omega) (by omega) (by omega) 14 0 (by omega) 0 (List.replicate 40 zr) k (Nat.zero_le _) (ring_zero A C) (Nat.zero_le _) (Nat.le_refl _) (Nat.zero_le _) (fun h => absurd h (by omega)) (by omega)
  have e5 : (((A + PP l2 0) % 40 : Nat) : Int) = (A : Int) := by show (((A + 0) % 40 : Nat) : Int) = (A : Int); omega
  have e6 : a1 + 1 + ((0 : Nat) : Int) = a1 + 1 := by omega
  rw [e5, e6] at h
  exact h
end Go.Proofs.Ytefhjfaojbjjaaa.Pure
