/- What the document's Find comes to: what log.Find comes to. -/
import Derived.Test.YtefhjfaojbjjaaaPAllx14
import Derived.Test.YtefhjfaojbjjaaaLogFindPure
import Derived.Test.YtefhjfaojbjjaaaLogPureRef
import Derived.Test.YtefhjfaojbjjaaaLogEndRef
namespace Go.Proofs.Ytefhjfaojbjjaaa.Pure
open Go Go.RowKit Go.Proofs.Ytefhjfaojbjjaaa.PAll Go.Proofs.YtefhjfaojbjjaaaW.PrintWords Go.Proofs.Ytefhjfaojbjjaaa.Spin Go.Proofs.Ytefhjfaojbjjaaa.Field Go.Proofs.Ytefhjfaojbjjaaa.Ref Go.Proofs.Ytefhjfaojbjjaaa.Log
set_option linter.unusedVariables false
set_option linter.unusedSimpArgs false

theorem rd_bk {bl : List (List Int)} (a : Nat) (h : a < 40) : rd_L2 bl (a : Int) = log_Find.bk bl a := by
  show bl.getD (a : Int).toNat [] = bl.getD (a % 40) []
  rw [Int.toNat_natCast, Nat.mod_eq_of_lt h]
theorem bk_mod (bl : List (List Int)) (a : Nat) : log_Find.bk bl (a % 40) = log_Find.bk bl a := by
  show bl.getD (a % 40 % 40) [] = bl.getD (a % 40) []
  rw [Nat.mod_mod]
theorem bk_len {bl : List (List Int)} (hl : bl.length = 40) (hB : log_Find.badB bl = false) (a : Nat) : (log_Find.bk bl a).length = 64 := by
  have ha : a % 40 < bl.length := by omega
  have h := List.any_eq_false.1 (show bl.any (fun b => decide (b.length ≠ 64)) = false from hB) bl[a % 40] (List.getElem_mem ha)
  show (bl.getD (a % 40) []).length = 64
  rw [List.getD_eq_getElem?_getD, List.getElem?_eq_getElem ha]
  show bl[a % 40].length = 64
  simpa using h
theorem tmod40 (n : Nat) : Int.tmod (n : Int) 40 = ((n % 40 : Nat) : Int) := by
  rw [Int.tmod_eq_emod_of_nonneg (Int.natCast_nonneg _)]; omega
theorem rfind_l2 {bl : List (List Int)} (hl : bl.length = 40) (hB : log_Find.badB bl = false) {out : List (List S50)} (ho : out.length < 5864062014805) {a : Nat} (ha : a < 40) {q q' : Int} (hq : 0 ≤ q ∧ q < 1073741824) {ds : List Int} (h20 : ds.length ≤ 20) (K : Nat) {R : List (List S50) × Int × Int × Int}
    (next : ∀ k, K ≤ k → drydockref15_Find.l1 k bl (out ++ [log_Find.list bl a ds ds.length]) (((a + ds.length + 2) % 40 : Nat) : Int) (q + 1) = some R) : ∀ d i k : Nat, d + i = ds.length → K + d < k →
    drydockref15_Find.l2 k bl out ((ds.length : Int) + 2) (log_Find.list bl a ds i) (i : Int) (a : Int) q q' ds = some R
  | 0, i, k + 1, hi, hk => by
    obtain rfl : i = ds.length := by omega
    rw [drydockref15_Find.l2, if_neg (by rw [show wrap64 ((ds.length : Int) + 2 - 2) = (ds.length : Int) from by unfold wrap64; omega]; omega), if_pos ho,
      show wrap64 ((a : Int) + ((ds.length : Int) + 2)) = ((a + ds.length + 2 : Nat) : Int) from by unfold wrap64; omega, tmod40, show wrap64 (q + 1) = q + 1 from by unfold wrap64; omega]
    exact next k (by omega)
  | d + 1, i, k + 1, hi, hk => by
    have hil : i < ds.length := by omega
    have e : Int.tmod (wrap64 (wrap64 ((a : Int) + 1) + (i : Int))) 40 = (((a + (i + 1)) % 40 : Nat) : Int) := by
      rw [show wrap64 (wrap64 ((a : Int) + 1) + (i : Int)) = ((a + (i + 1) : Nat) : Int) from by
        rw [show wrap64 ((a : Int) + 1) = (a : Int) + 1 from by unfold wrap64; omega]
        unfold wrap64; omega, tmod40]
    have hb : rd_L2 bl (((a + (i + 1)) % 40 : Nat) : Int) = log_Find.bk bl (a + (i + 1)) := by rw [rd_bk _ (by omega), bk_mod]
    have hs : log_Find.list bl a ds i ++ [(⟨rd ds (i : Int), log_Find.bk bl (a + (i + 1))⟩ : S50)] = log_Find.list bl a ds (i + 1) := by
      unfold log_Find.list
      rw [List.range_succ, List.map_append]
      rfl
    have hL : (log_Find.list bl a ds i).length = i := by simp [log_Find.list]
    rw [drydockref15_Find.l2, if_pos (by rw [show wrap64 ((ds.length : Int) + 2 - 2) = (ds.length : Int) from by unfold wrap64; omega]; omega), if_pos (by omega), if_pos (by omega), Option.bind_some, e, if_pos (by omega), if_pos (by omega), hb,
      if_pos (by rw [bk_len hl hB]; simp), if_pos (by rw [hL]; omega), List.nil_append, hs, show wrap64 ((i : Int) + 1) = ((i + 1 : Nat) : Int) from by unfold wrap64; omega]
    exact rfind_l2 hl hB ho ha hq h20 K next d (i + 1) k (by omega) (by omega)
theorem wj1 (n : Nat) (h : n ≤ 20) : wrap64 ((n : Int) + 2) = (n : Int) + 2 := by unfold wrap64; omega
theorem wj2 (n : Nat) (h : n ≤ 20) : wrap64 ((n : Int) + 2 - 2) = (n : Int) := by unfold wrap64; omega
theorem wj3 (a n : Nat) (ha : a < 40) (h : n ≤ 20) : Int.tmod (wrap64 (wrap64 ((a : Int) + ((n : Int) + 2)) - 1)) 40 = (((a + (n + 1)) % 40 : Nat) : Int) := by
  rw [show wrap64 (wrap64 ((a : Int) + ((n : Int) + 2)) - 1) = ((a + (n + 1) : Nat) : Int) from by
    rw [show wrap64 ((a : Int) + ((n : Int) + 2)) = (a : Int) + ((n : Int) + 2) from by unfold wrap64; omega]
    unfold wrap64; omega, tmod40]
open Classical in
theorem rfind_round {bl : List (List Int)} (hb : ∀ b ∈ bl, Bytes b) (hl : bl.length = 40) (hB : log_Find.badB bl = false) (out : List (List S50)) (a : Nat) (q : Int) (ha : a < 40) (h0 : 0 ≤ q ∧ q < 1073741824) (ho : out.length < 5864062014805) (K : Nat) (hK : 1100 ≤ K)
    {R : List (List S50) × Int × Int × Int} (next : ∀ j, K ≤ j → drydockref15_Find.l1 j bl (out ++ [trL bl a]) (((a + trN bl a + 2) % 40 : Nat) : Int) (q + 1) = some R) (k : Nat) (hk : K + 28 ≤ k) :
    drydockref15_Find.l1 (k + 3) bl out (a : Int) q = some (if trB bl a q then R else (out, (a : Int), q, 0)) := by
  have jt : ∀ k x u v, drydockref15_Find.j3 (k + 1) bl out x true (a : Int) q u v = some (out, (a : Int), q, 0) := fun k x u v => by rw [drydockref15_Find.j3, if_pos rfl]
  have jt4 : ∀ k x u v, drydockref15_Find.j4 (k + 1) bl out x true (a : Int) q u v = some (out, (a : Int), q, 0) := fun k x u v => by rw [drydockref15_Find.j4, if_pos rfl]
  rw [drydockref15_Find.l1, if_pos h0.2, if_pos (Int.natCast_nonneg a), if_pos (by omega), rd_bk a ha, rbegins_eq (bk_bytes hb a) (k + 2) (by omega), Option.bind_some]
  by_cases h1 : okB (log_Find.bk bl a)
  · have hBe : begI (log_Find.bk bl a) = (numI (log_Find.bk bl a) 4 4, numsI (log_Find.bk bl a) (trN bl a), 0) := by unfold begI; rw [if_pos h1]; rfl
    have h20 : trN bl a ≤ 20 := h1.2.1
    have hn : (numsI (log_Find.bk bl a) (trN bl a)).length = trN bl a := numsI_length _ _
    rw [hBe]
    dsimp only
    rw [if_pos (show (0 : Int) = 0 from rfl), hn, wj1 _ h20]
    by_cases h2 : numI (log_Find.bk bl a) 4 4 = q
    · rw [show (numI (log_Find.bk bl a) 4 4 != q) = false from bne_eq_false_iff_eq.2 h2]
      rw [drydockref15_Find.j3, if_neg (show ¬ (false = true) from Bool.false_ne_true), wj3 a (trN bl a) ha h20, if_pos (Int.natCast_nonneg _), if_pos (by omega), rd_bk _ (Nat.mod_lt _ (by omega)), bk_mod, rends_eq (bk_bytes hb _) (k + 1) (by omega), Option.bind_some]
      by_cases h3 : okE (log_Find.bk bl (a + (trN bl a + 1)))
      · have hE : lastI (log_Find.bk bl (a + (trN bl a + 1))) = (numI (log_Find.bk bl (a + (trN bl a + 1))) 4 4, (cntI (log_Find.bk bl (a + (trN bl a + 1))) : Int), 0) := by unfold lastI; rw [if_pos h3]
        rw [hE]
        dsimp only
        rw [if_pos (show (0 : Int) = 0 from rfl)]
        by_cases h4 : numI (log_Find.bk bl (a + (trN bl a + 1))) 4 4 = q
        · rw [if_pos h4, wj2 _ h20]
          by_cases h5 : (cntI (log_Find.bk bl (a + (trN bl a + 1))) : Int) = (trN bl a : Int)
          · rw [show ((cntI (log_Find.bk bl (a + (trN bl a + 1))) : Int) != (trN bl a : Int)) = false from bne_eq_false_iff_eq.2 h5, if_pos (show trB bl a q from ⟨h1, h2, h3, h4, h5⟩)]
            rw [drydockref15_Find.j4, if_neg (show ¬ (false = true) from Bool.false_ne_true)]
            have hnx : ∀ j, K ≤ j → drydockref15_Find.l1 j bl (out ++ [log_Find.list bl a (numsI (log_Find.bk bl a) (trN bl a)) (numsI (log_Find.bk bl a) (trN bl a)).length]) (((a + (numsI (log_Find.bk bl a) (trN bl a)).length + 2) % 40 : Nat) : Int) (q + 1) = some R := fun j hj => by
              rw [hn]
              exact next j hj
            have H := rfind_l2 hl hB ho ha h0 (show (numsI (log_Find.bk bl a) (trN bl a)).length ≤ 20 by omega) K (q' := numI (log_Find.bk bl a) 4 4) hnx (trN bl a) 0 k (by omega) (by omega)
            rw [hn] at H
            exact H
          · rw [show ((cntI (log_Find.bk bl (a + (trN bl a + 1))) : Int) != (trN bl a : Int)) = true from bne_iff_ne.2 h5, if_neg (fun g : trB bl a q => h5 g.2.2.2.2)]
            exact jt4 _ _ _ _
        · rw [if_neg h4, if_neg (fun g : trB bl a q => h4 g.2.2.2.1)]
          exact jt4 _ _ _ _
      · rw [lastI_no h3]
        dsimp only
        rw [if_neg (show ¬ (2 : Int) = 0 by decide), if_neg (fun g : trB bl a q => h3 g.2.2.1)]
        exact jt4 _ _ _ _
    · rw [show (numI (log_Find.bk bl a) 4 4 != q) = true from bne_iff_ne.2 h2, if_neg (fun g : trB bl a q => h2 g.2.1)]
      exact jt _ _ _ _
  · rw [begI_no h1]
    dsimp only
    rw [if_neg (show ¬ (2 : Int) = 0 by decide), if_neg (fun g : trB bl a q => h1 g.1)]
    exact jt _ _ _ _
theorem rfind_l1 {bl : List (List Int)} (hb : ∀ b ∈ bl, Bytes b) (hl : bl.length = 40) (hB : log_Find.badB bl = false) : ∀ (d : Nat) (k : Nat) (out : List (List S50)) (a : Nat) (q : Int), a < 40 → (d : Int) + q = 1073741824 → 0 ≤ q → out.length ≤ q.toNat → 40 * d + 1200 ≤ k →
    drydockref15_Find.l1 (k + 3) bl out (a : Int) q = some (fnd bl d out a q)
  | 0, k, out, a, q, ha, hq, h0, ho, hk => by
    rw [drydockref15_Find.l1, if_neg (by omega), fnd]
  | d + 1, k, out, a, q, ha, hq, h0, ho, hk => by
    rw [rfind_round hb hl hB out a q ha ⟨h0, by omega⟩ (by omega) (40 * d + 1203) (by omega) (R := fnd bl d (out ++ [trL bl a]) ((a + trN bl a + 2) % 40) (q + 1)) (fun j hj => by
      obtain ⟨i, rfl⟩ : ∃ i, j = i + 3 := ⟨j - 3, by omega⟩
      exact rfind_l1 hb hl hB d i _ _ _ (by omega) (by omega) (by omega) (by rw [List.length_append, List.length_singleton]; omega) (by omega)) k (by omega), fnd]
theorem rfind_l0 {bl : List (List Int)} (hl : bl.length = 40) (K : Nat) (a q : Int) {R : List (List S50) × Int × Int × Int} (next : log_Find.badB bl = false → ∀ k, K ≤ k → drydockref15_Find.l1 k bl [] a q = some R) :
    ∀ d i k : Nat, d + i = 40 → K + d < k → drydockref15_Find.l0 k bl (i : Int) a q = some (if (bl.drop i).any (fun b => decide (b.length ≠ 64)) = false then (if log_Find.badB bl = false then R else ([], 0, 0, 2)) else ([], 0, 0, 2)) ∨ log_Find.badB bl = true ∧ (bl.drop i).any (fun b => decide (b.length ≠ 64)) = false
  | 0, i, k + 1, hi, hk => by
    cases hB : log_Find.badB bl with
    | true => right; rw [List.drop_of_length_le (by omega)]; exact ⟨rfl, rfl⟩
    | false =>
      left
      rw [drydockref15_Find.l0, if_neg (by omega), next hB k (by omega), List.drop_of_length_le (by omega)]
      rfl
  | d + 1, i, k + 1, hi, hk => by
    have hil : i < bl.length := by omega
    have hr : rd_L2 bl (i : Int) = bl[i] := by
      show bl.getD (i : Int).toNat [] = _
      rw [Int.toNat_natCast, List.getD_eq_getElem?_getD, List.getElem?_eq_getElem hil]; rfl
    rw [drydockref15_Find.l0, if_pos (by omega), if_pos (by omega), if_pos (by omega), hr, List.drop_eq_getElem_cons hil, List.any_cons]
    by_cases h : bl[i].length = 64
    · rw [if_pos (by omega), show wrap64 ((i : Int) + 1) = ((i + 1 : Nat) : Int) from by unfold wrap64; omega, show decide (bl[i].length ≠ 64) = false from decide_eq_false (fun g => g h), Bool.false_or]
      exact rfind_l0 hl K a q next d (i + 1) k (by omega) (by omega)
    · left
      rw [if_neg (by omega), show decide (bl[i].length ≠ 64) = true from decide_eq_true h, Bool.true_or]
      rfl
theorem rfind_eq {bl : List (List Int)} (hb : ∀ b ∈ bl, Bytes b) (a q : Int) (k : Nat) (hk : 42949676000 < k) : drydockref15_Find.f k bl a q = some (findI bl a q) := by
  obtain ⟨k, rfl⟩ : ∃ j, k = j + 1 := ⟨k - 1, by omega⟩
  have jt : drydockref15_Find.j0 (k + 1) bl true a q = some ([], 0, 0, 2) := by rw [drydockref15_Find.j0, if_pos rfl]
  unfold drydockref15_Find.f findI
  by_cases hl : bl.length = 40
  · rw [if_pos (by omega)]
    by_cases h1 : a < 0
    · rw [if_pos h1, jt, if_neg (fun g : okF bl a q => by have := g.1; omega)]
    · rw [if_neg h1]
      by_cases h2 : a > 39
      · rw [if_pos h2, jt, if_neg (fun g : okF bl a q => by have := g.1; omega)]
      · rw [if_neg h2]
        by_cases h3 : q < 1
        · rw [if_pos h3, jt, if_neg (fun g : okF bl a q => by have := g.2.1; omega)]
        · rw [if_neg h3]
          by_cases h4 : q > 1073741824
          · rw [decide_eq_true h4, jt, if_neg (fun g : okF bl a q => by have := g.2.1; omega)]
          · rw [decide_eq_false h4, drydockref15_Find.j0, if_neg (by decide)]
            have hnx : log_Find.badB bl = false → ∀ j, 42949675000 ≤ j → drydockref15_Find.l1 j bl [] a q = some (fnd bl (1073741824 - q.toNat) [] a.toNat q) := fun hB j hj => by
              obtain ⟨i, rfl⟩ : ∃ i, j = i + 3 := ⟨j - 3, by omega⟩
              have H := rfind_l1 hb hl hB (1073741824 - q.toNat) i [] a.toNat q (by omega) (by omega) (by omega) (by simp) (by omega)
              rwa [show ((a.toNat : Nat) : Int) = a from by omega] at H
            have H := rfind_l0 hl 42949675000 a q hnx 40 0 k (by omega) (by omega)
            rw [List.drop_zero] at H
            rcases H with H | ⟨h5, h6⟩
            · refine H.trans ?_
              cases hB : log_Find.badB bl with
              | true =>
                rw [show (bl.any fun b => decide (b.length ≠ 64)) = true from hB, if_neg (by decide), if_neg (fun g : okF bl a q => by have := g.2.2.2; rw [hB] at this; exact absurd this (by decide))]
              | false =>
                rw [show (bl.any fun b => decide (b.length ≠ 64)) = false from hB, if_pos rfl, if_pos rfl, if_pos (show okF bl a q from ⟨by omega, by omega, hl, hB⟩)]
            · exact absurd (h5.symm.trans h6) (by decide)
  · rw [if_neg (by omega), jt, if_neg (fun g : okF bl a q => hl g.2.2.1)]
end Go.Proofs.Ytefhjfaojbjjaaa.Pure
