/- What layer 15's printed functions of the program come to. -/
import Derived.Test.YtcihfmehbmficaaPAllx2
import Derived.Test.YtcihfmehbmficaaPAllx3
import Derived.Test.YtcihfmehbmficaaPAllx4
import Derived.Test.YtcihfmehbmficaaPAllx2
import Derived.Test.YtcihfmehbmficaaBlockPure
import Derived.Test.YtcihfmehbmficaaLogLaw
namespace Go.Proofs.Ytcihfmehbmficaa.Pure
open Go Go.RowKit Go.Proofs.Ytcihfmehbmficaa.PAll Go.Proofs.YtcihfmehbmficaaW.PrintWords Go.Proofs.Ytcihfmehbmficaa.Spin Go.Proofs.Ytcihfmehbmficaa.Field Go.Proofs.Ytcihfmehbmficaa.Ref Go.Proofs.Ytcihfmehbmficaa.Log
set_option linter.unusedVariables false
set_option linter.unusedSimpArgs false

theorem rdn (l : List Int) (i : Nat) (h : i < l.length) : rd l (i : Int) = l[i] := by
  show l.getD (i : Int).toNat 0 = _
  rw [Int.toNat_natCast, List.getD_eq_getElem?_getD, List.getElem?_eq_getElem h]; rfl
/-! ### Sound -/
theorem home_eq (n : Int) : log_Home.f n = some (homeB n) := by
  unfold log_Home.f homeB
  by_cases h1 : n ≥ 0
  · rw [if_pos h1, decide_eq_true (show 0 ≤ n from h1)]
    by_cases h2 : n < 480
    · rw [if_pos h2, decide_eq_true h2]
      by_cases h3 : n = 1
      · rw [if_pos h3, decide_eq_true h3]; rfl
      · rw [if_neg h3, decide_eq_false h3]
        by_cases h4 : n < 19
        · rw [if_pos h4, decide_eq_true h4]; rfl
        · rw [if_neg h4, decide_eq_false h4]
          simp
    · rw [if_neg h2, decide_eq_false h2]; rfl
  · rw [if_neg h1, decide_eq_false (show ¬ 0 ≤ n from h1)]; rfl
theorem index_loop (l : List Int) (x : Int) (hl : l.length < 9223372036854775807) : ∀ d i k : Nat, d + i = l.length → d < k → ∃ r, slices_Index_int_int.l0 k l x (l.length : Int) (i : Int) = some r ∧ (r ≥ 0 ↔ x ∈ l.drop i)
  | 0, i, k + 1, hi, _ => by
    refine ⟨-1, by rw [slices_Index_int_int.l0, if_neg (by omega)], ?_⟩
    rw [List.drop_of_length_le (by omega)]
    simp
  | d + 1, i, k + 1, hi, hk => by
    have hil : i < l.length := by omega
    rw [slices_Index_int_int.l0, if_pos (by omega), if_pos (by omega), if_pos (by omega), rdn l i hil, List.drop_eq_getElem_cons hil]
    by_cases h : x = l[i]
    · rw [if_pos h]
      exact ⟨_, rfl, ⟨fun _ => by rw [h]; exact List.mem_cons_self, fun _ => Int.natCast_nonneg i⟩⟩
    · rw [if_neg h, show wrap64 ((i : Int) + 1) = ((i + 1 : Nat) : Int) from by unfold wrap64; omega]
      obtain ⟨r, hr, hm⟩ := index_loop l x hl d (i + 1) k (by omega) (by omega)
      exact ⟨r, hr, hm.trans ⟨fun h2 => List.mem_cons_of_mem _ h2, fun h2 => (List.mem_cons.1 h2).resolve_left h⟩⟩
theorem contains_eq (l : List Int) (x : Int) (hl : l.length < 9223372036854775807) (k : Nat) (hk : l.length < k) : slices_Contains_int_int.f k l x = some (l.contains x) := by
  obtain ⟨r, hr, hm⟩ := index_loop l x hl l.length 0 k (by omega) hk
  have hr' : slices_Index_int_int.l0 k l x (l.length : Int) 0 = some r := hr
  unfold slices_Contains_int_int.f slices_Index_int_int.f
  rw [hr', Option.bind_some, List.contains_eq_mem]
  congr 1
  exact decide_eq_decide.2 hm
theorem sound_loop (a0 : Int) (l : List Int) (hl : l.length ≤ 20) : ∀ d i k : Nat, d + i = l.length → d + 25 < k → log_Sound.l0 k l (l.length : Int) (i : Int) a0 l = some (sndFrom (l.take i) (l.drop i) && (decide (1 ≤ a0) && decide (a0 ≤ 1073741824) && decide (1 ≤ l.length) && decide (l.length ≤ 20)))
  | 0, i, k + 1, hi, _ => by
    rw [log_Sound.l0, if_neg (by omega), List.drop_of_length_le (by omega)]
    show _ = some (true && _)
    by_cases h1 : a0 ≥ 1
    · rw [if_pos h1, decide_eq_true (show 1 ≤ a0 from h1)]
      by_cases h2 : a0 ≤ 1073741824
      · rw [if_pos h2, decide_eq_true h2]
        by_cases h3 : (l.length : Int) ≥ 1
        · rw [if_pos h3, decide_eq_true (show 1 ≤ l.length by omega), decide_eq_true (show l.length ≤ 20 by omega), decide_eq_true (show (l.length : Int) ≤ 20 by omega)]
          rfl
        · rw [if_neg h3, decide_eq_false (show ¬ 1 ≤ l.length by omega)]
          rfl
      · rw [if_neg h2, decide_eq_false h2]; rfl
    · rw [if_neg h1, decide_eq_false (show ¬ 1 ≤ a0 from h1)]; rfl
  | d + 1, i, k + 1, hi, hk => by
    have hil : i < l.length := by omega
    rw [log_Sound.l0, if_pos (by omega), if_pos (by omega), if_pos (by omega), rdn l i hil, home_eq, Option.bind_some, List.drop_eq_getElem_cons hil, sndFrom]
    cases hb : homeB l[i] with
    | false => rw [if_neg (by decide)]; rfl
    | true =>
      rw [if_pos rfl, if_pos (by omega), Int.toNat_natCast, contains_eq _ _ (by rw [List.length_take]; omega) k (by rw [List.length_take]; omega), Option.bind_some]
      cases hc : (l.take i).contains l[i] with
      | true => rw [if_pos rfl]; rfl
      | false =>
        rw [if_neg (by decide), show wrap64 ((i : Int) + 1) = ((i + 1 : Nat) : Int) from by unfold wrap64; omega, sound_loop a0 l hl d (i + 1) k (by omega) (by omega), List.take_succ_eq_append_getElem hil]
        rfl
theorem sound_eq (a0 : Int) (l : List Int) (hl : l.length ≤ 20) (k : Nat) (hk : 50 < k) : log_Sound.f k a0 l = some (sndB a0 l) := by
  unfold log_Sound.f
  have h := sound_loop a0 l hl l.length 0 k (by omega) (by omega)
  have h' : log_Sound.l0 k l (l.length : Int) 0 a0 l = _ := h
  rw [h']
  unfold sndB
  simp only [List.take_zero, List.drop_zero, Bool.and_assoc]
theorem begin_eq (a0 : Int) (l : List Int) (k : Nat) (hk : 50 < k) : log_Begin.f k a0 l = some (beginI a0 l) := by
  unfold log_Begin.f beginI
  by_cases h : 20 < l.length
  · have hn : sndB a0 l = false := by
      cases hb : sndB a0 l with
      | false => rfl
      | true => have := (sndB_facts hb).2.2.2.2; omega
    rw [if_pos h, hn]; rfl
  · rw [if_neg h, sound_eq a0 l (by omega) k hk, Option.bind_some]
    cases hb : sndB a0 l with
    | false => rw [if_neg (by decide), if_neg (by decide)]
    | true =>
      obtain ⟨h1, h2, h3, h4, h5⟩ := sndB_facts hb
      rw [if_pos rfl, if_pos rfl, if_pos ⟨by omega, fun x hx => by have := sndFrom_home h1 x hx; omega⟩, seal_eq (beginP_bytes _ _ h5) (beginP_length _ _)]
theorem end_eq (a0 a1 : Int) : log_End.f a0 a1 = some (endI a0 a1) := endF_eq a0 a1
/-! ### what a block is -/
def numsI (l : List Int) (n : Nat) : List Int := (List.range n).map (fun i => numI l (10 + 2 * i) 2)
theorem numsI_length (l : List Int) (n : Nat) : (numsI l n).length = n := by simp [numsI]
theorem numsI_succ (l : List Int) (n : Nat) : numsI l (n + 1) = numsI l n ++ [numI l (10 + 2 * n) 2] := by simp [numsI, List.range_succ]
theorem nums_loop {l : List Int} (hl : Bytes l) (h64 : l.length = 64) (n : Nat) (hn : n ≤ 20) : ∀ d i k : Nat, d + i = n → d < k → field_Nums.l0 k l 10 2 (numsI l i) (n : Int) (i : Int) = some (numsI l n)
  | 0, i, k + 1, hi, _ => by
    obtain rfl : i = n := by omega
    rw [field_Nums.l0, if_neg (by omega)]
  | d + 1, i, k + 1, hi, hk => by
    have e : wrap64 (10 + wrap64 ((i : Int) * 2)) = ((10 + 2 * i : Nat) : Int) := by
      rw [show wrap64 ((i : Int) * 2) = (i : Int) * 2 from by unfold wrap64; omega]
      unfold wrap64; omega
    have hN : field_Num.f l ((10 + 2 * i : Nat) : Int) 2 = some (numI l (10 + 2 * i) 2) := Num_eq hl (10 + 2 * i) 2 (by omega) (by omega) (by omega)
    rw [field_Nums.l0, if_pos (by omega), e, hN, Option.bind_some, if_pos (by rw [numsI_length]; omega), ← numsI_succ, show wrap64 ((i : Int) + 1) = ((i + 1 : Nat) : Int) from by unfold wrap64; omega]
    exact nums_loop hl h64 n hn d (i + 1) k (by omega) (by omega)
theorem nums_eq {l : List Int} (hl : Bytes l) (h64 : l.length = 64) (n : Nat) (hn : n ≤ 20) (k : Nat) (hk : 20 < k) : field_Nums.f k l 10 2 (n : Int) = some (numsI l n) := by
  unfold field_Nums.f
  exact nums_loop hl h64 n hn n 0 k (by omega) (by omega)
/-- How many numbers a block tells of. -/
def cntI (l : List Int) : Nat := (rd l 8).toNat
theorem cnt_eq {l : List Int} (hl : Bytes l) (h64 : l.length = 64) : rd l 8 = (cntI l : Int) ∧ wrap64 (rd l 8) = (cntI l : Int) := by
  have := rd_byte hl 8 (by omega)
  have h8 : 0 ≤ rd l 8 ∧ rd l 8 < 256 := this
  unfold cntI
  generalize rd l 8 = x at h8 ⊢
  refine ⟨by omega, ?_⟩
  unfold wrap64; omega
def okB (l : List Int) : Prop := l.length = 64 ∧ cntI l ≤ 20 ∧ sndB (numI l 4 4) (numsI l (cntI l)) = true ∧ sealI (beginP (numI l 4 4) (numsI l (cntI l))) = l
theorem okB_sealed {l : List Int} (h : okB l) : l = sealI l := by
  have h2 := sealI_sealed (beginP_length (numI l 4 4) (numsI l (cntI l)))
  rw [h.2.2.2] at h2
  exact h2
open Classical in
noncomputable def begI (l : List Int) : Int × List Int × Int := if okB l then (numI l 4 4, numsI l (cntI l), 0) else (0, [], 2)
def okE (l : List Int) : Prop := l.length = 64 ∧ endB (numI l 4 4) (cntI l : Int) = true ∧ sealI (endP (numI l 4 4) (cntI l : Int)) = l
theorem okE_sealed {l : List Int} (h : okE l) : l = sealI l := by
  have h2 := sealI_sealed (endP_length (numI l 4 4) (cntI l : Int))
  rw [h.2.2] at h2
  exact h2
open Classical in
noncomputable def lastI (l : List Int) : Int × Int × Int := if okE l then (numI l 4 4, (cntI l : Int), 0) else (0, 0, 2)
theorem begins_eq {l : List Int} (hl : Bytes l) (k : Nat) (hk : 60 < k) : log_Begins.f k l = some (begI l) := by
  obtain ⟨k, rfl⟩ : ∃ j, k = j + 1 := ⟨k - 1, by omega⟩
  have jt : log_Begins.j0 (k + 1) l true = some (0, [], 2) := by rw [log_Begins.j0, if_pos rfl]
  unfold log_Begins.f begI
  by_cases h64 : l.length = 64
  · have hs : field_Sealed.f l = some (decide (l = sealI l)) := sealed_eq hl h64
    obtain ⟨c1, c2⟩ := cnt_eq hl h64
    rw [hs, Option.bind_some]
    by_cases hq : l = sealI l
    · rw [if_pos (decide_eq_true hq), if_pos (by omega), c1]
      by_cases h20 : cntI l ≤ 20
      · have hN : field_Num.f l 4 4 = some (numI l 4 4) := Num_eq hl 4 4 (by omega) (by omega) (by omega)
        rw [decide_eq_false (by omega), log_Begins.j0, if_neg (by decide), hN, Option.bind_some, if_pos (by omega), c2, nums_eq hl h64 _ h20 k (by omega), Option.bind_some, begin_eq _ _ k (by omega), Option.bind_some]
        unfold beginI
        by_cases hB : sndB (numI l 4 4) (numsI l (cntI l)) = true
        · have hb := beginP_bytes (numI l 4 4) (numsI l (cntI l)) (by rw [numsI_length]; exact h20)
          rw [if_pos hB, if_pos rfl, Equal_eq (sealI_bytes hb) hl, Option.bind_some]
          by_cases e : sealI (beginP (numI l 4 4) (numsI l (cntI l))) = l
          · rw [if_pos (decide_eq_true e), if_pos (show okB l from ⟨h64, h20, hB, e⟩)]
          · rw [if_neg (by rw [decide_eq_false e]; decide), if_neg (fun g : okB l => e g.2.2.2)]
        · rw [if_neg hB, if_neg (by decide), if_neg (fun g : okB l => hB g.2.2.1)]
      · rw [decide_eq_true (by omega), jt, if_neg (fun g : okB l => h20 g.2.1)]
    · rw [if_neg (by rw [decide_eq_false hq]; decide), jt, if_neg (fun g : okB l => hq (okB_sealed g))]
  · have hs : field_Sealed.f l = some false := sealed_short h64
    rw [hs, Option.bind_some, if_neg (by decide), jt, if_neg (fun g : okB l => h64 g.1)]
theorem ends_eq {l : List Int} (hl : Bytes l) : log_Ends.f l = some (lastI l) := by
  unfold log_Ends.f lastI
  by_cases h64 : l.length = 64
  · have hs : field_Sealed.f l = some (decide (l = sealI l)) := sealed_eq hl h64
    obtain ⟨c1, c2⟩ := cnt_eq hl h64
    rw [hs, Option.bind_some]
    by_cases hq : l = sealI l
    · have hN : field_Num.f l 4 4 = some (numI l 4 4) := Num_eq hl 4 4 (by omega) (by omega) (by omega)
      rw [if_pos (decide_eq_true hq), hN, Option.bind_some, if_pos (by omega), c2, end_eq, Option.bind_some]
      unfold endI
      by_cases hB : endB (numI l 4 4) (cntI l : Int) = true
      · rw [if_pos hB, if_pos rfl, Equal_eq (sealI_bytes (endP_bytes _ _)) hl, Option.bind_some]
        by_cases e : sealI (endP (numI l 4 4) (cntI l : Int)) = l
        · rw [if_pos (decide_eq_true e), if_pos (show okE l from ⟨h64, hB, e⟩)]
        · rw [if_neg (by rw [decide_eq_false e]; decide), if_neg (fun g : okE l => e g.2.2)]
      · rw [if_neg hB, if_neg (by decide), if_neg (fun g : okE l => hB g.2.1)]
    · rw [if_neg (by rw [decide_eq_false hq]; decide), if_neg (fun g : okE l => hq (okE_sealed g))]
  · have hs : field_Sealed.f l = some false := sealed_short h64
    rw [hs, Option.bind_some, if_neg (by decide), if_neg (fun g : okE l => h64 g.1)]
/-! ### what was written -/
theorem end_fields (a0 a1 : Int) (h : endB a0 a1 = true) : numI (sealI (endP a0 a1)) 4 4 = a0 ∧ (cntI (sealI (endP a0 a1)) : Int) = a1 := by
  simp only [endB, Bool.and_eq_true, decide_eq_true_eq] at h
  have hL := endP_length a0 a1
  have h64 := sealI_length _ hL
  have hb := sealI_bytes (endP_bytes a0 a1)
  refine ⟨?_, ?_⟩
  · rw [numI_seal _ hL _ _ (by omega), endP_eq]
    show getI (leB a0 4) = a0
    exact le_back (by omega) (by omega) (by rw [show (256 : Int) ^ 4 = 4294967296 from by decide]; omega)
  · rw [← (cnt_eq hb h64).1, show rd (sealI (endP a0 a1)) 8 = numI (sealI (endP a0 a1)) 8 1 from (num1 _ 8 (by omega)).symm, numI_seal _ hL _ _ (by omega), endP_eq]
    show getI (leB a1 1) = a1
    exact le_back (by omega) (by omega) (by rw [show (256 : Int) ^ 1 = 256 from by decide]; omega)
theorem end_lastI (a0 a1 : Int) (h : endB a0 a1 = true) : lastI (sealI (endP a0 a1)) = (a0, a1, 0) := by
  obtain ⟨f0, f1⟩ := end_fields a0 a1 h
  unfold lastI
  rw [if_pos ⟨sealI_length _ (endP_length _ _), by rw [f0, f1]; exact h, by rw [f0, f1]⟩, f0, f1]
theorem mid_take (A X C : List Int) (n m : Nat) (hA : A.length = n) (hX : X.length = m) : ((A ++ (X ++ C)).take (n + m)).drop n = X := by
  subst hA hX
  rw [← List.append_assoc, List.take_left' (by rw [List.length_append]), List.drop_left]
theorem flat_take (xs : List Int) (i : Nat) (h : i < xs.length) (pre post : List Int) (o : Nat) (ho : pre.length = o) : ((pre ++ flat xs ++ post).take (o + 2 * i + 2)).drop (o + 2 * i) = leB xs[i] 2 := by
  have e : flat xs = flat (xs.take i) ++ (leB xs[i] 2 ++ flat (xs.drop (i + 1))) := by
    have := List.take_append_drop i xs
    rw [List.drop_eq_getElem_cons h] at this
    conv => lhs; rw [← this]
    rw [flat_append]
    rfl
  have e2 : pre ++ flat xs ++ post = (pre ++ flat (xs.take i)) ++ (leB xs[i] 2 ++ (flat (xs.drop (i + 1)) ++ post)) := by
    rw [e]; simp only [List.append_assoc]
  rw [e2]
  exact mid_take _ _ _ _ _ (by rw [List.length_append, flat_length, List.length_take, ho]; omega) (leB_length _ _)
theorem numsI_get (l : List Int) (n i : Nat) (h : i < (numsI l n).length) : (numsI l n)[i] = numI l (10 + 2 * i) 2 := by simp [numsI]
theorem begin_fields (a0 : Int) (l : List Int) (h : sndB a0 l = true) : numI (sealI (beginP a0 l)) 4 4 = a0 ∧ cntI (sealI (beginP a0 l)) = l.length ∧ numsI (sealI (beginP a0 l)) l.length = l := by
  obtain ⟨h1, h2, h3, h4, h5⟩ := sndB_facts h
  have hL := beginP_length a0 l
  have h64 := sealI_length _ hL
  have hb := sealI_bytes (beginP_bytes a0 l h5)
  have hP := beginP_eq a0 l h5
  refine ⟨?_, ?_, ?_⟩
  · rw [numI_seal _ hL _ _ (by omega), hP]
    show getI (leB a0 4) = a0
    exact le_back (by omega) (by omega) (by rw [show (256 : Int) ^ 4 = 4294967296 from by decide]; omega)
  · have : rd (sealI (beginP a0 l)) 8 = (l.length : Int) := by
      rw [show rd (sealI (beginP a0 l)) 8 = numI (sealI (beginP a0 l)) 8 1 from (num1 _ 8 (by omega)).symm, numI_seal _ hL _ _ (by omega), hP]
      show getI (leB (l.length : Int) 1) = _
      exact le_back (by omega) (by omega) (by rw [show (256 : Int) ^ 1 = 256 from by decide]; omega)
    unfold cntI
    rw [this, Int.toNat_natCast]
  · apply List.ext_getElem (numsI_length _ _)
    intro i hi1 hi2
    rw [numsI_get, numI_seal _ hL _ _ (by omega), hP]
    unfold numI
    have hpre : ([66, 69, 71, 78] ++ leB a0 4 ++ leB (l.length : Int) 1 ++ [0]).length = 10 := by simp [leB_length]
    rw [flat_take l i hi2 _ _ 10 hpre]
    have hx := sndFrom_home h1 l[i] (List.getElem_mem hi2)
    exact le_back (by omega) (by omega) (by rw [show (256 : Int) ^ 2 = 65536 from by decide]; omega)
theorem begin_begI (a0 : Int) (l : List Int) (h : sndB a0 l = true) : begI (sealI (beginP a0 l)) = (a0, l, 0) := by
  obtain ⟨f0, f1, f2⟩ := begin_fields a0 l h
  have h5 := (sndB_facts h).2.2.2.2
  unfold begI
  rw [if_pos ⟨sealI_length _ (beginP_length _ _), by rw [f1]; exact h5, by rw [f0, f1, f2]; exact h, by rw [f0, f1, f2]⟩, f0, f1, f2]
theorem begI_no {l : List Int} (h : ¬ okB l) : begI l = (0, [], 2) := by unfold begI; rw [if_neg h]
theorem lastI_no {l : List Int} (h : ¬ okE l) : lastI l = (0, 0, 2) := by unfold lastI; rw [if_neg h]
end Go.Proofs.Ytcihfmehbmficaa.Pure
