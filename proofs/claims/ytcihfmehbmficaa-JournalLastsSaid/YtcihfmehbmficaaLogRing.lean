/- A log's blocks, written one transaction behind the other, and what log.Find finds in them. -/
import Derived.Test.YtcihfmehbmficaaLogFindPure
namespace Go.Proofs.Ytcihfmehbmficaa.Pure
open Go Go.RowKit Go.Proofs.Ytcihfmehbmficaa.PAll Go.Proofs.YtcihfmehbmficaaW.PrintWords Go.Proofs.Ytcihfmehbmficaa.Spin Go.Proofs.Ytcihfmehbmficaa.Field Go.Proofs.Ytcihfmehbmficaa.Ref Go.Proofs.Ytcihfmehbmficaa.Log
set_option linter.unusedVariables false
set_option linter.unusedSimpArgs false

def zr : List Int := List.replicate 64 0
def nOf (l2 : List Int) (i : Nat) : Nat := (rd l2 (i : Int) % 5).toNat + 1
/-- Where transaction i begins. -/
def PP (l2 : List Int) : Nat → Nat
  | 0 => 0
  | i + 1 => PP l2 i + nOf l2 i + 2
def tosW (i n : Nat) : List Int := (List.range n).map fun k : Nat => 60 + 7 * (i : Int) + (k : Int)
def midW (F : Int) (i : Nat) : List Int := (zr.set 0 F).set 1 ((i : Int) % 256)
def fstW (Q : Int) (i n : Nat) : List Int := sealI (beginP (Q + (i : Int)) (tosW i n))
def lstW (Q : Int) (i n : Nat) : List Int := sealI (endP (Q + (i : Int)) (n : Int))
def TW (Q F : Int) (i n : Nat) : List (List Int) := (fstW Q i n :: List.replicate n (midW F i)) ++ [lstW Q i n]
def WW (l2 : List Int) (Q F : Int) : Nat → List (List Int)
  | 0 => []
  | i + 1 => WW l2 Q F i ++ TW Q F i (nOf l2 i)
theorem nOf_le (l2 : List Int) (i : Nat) : 1 ≤ nOf l2 i ∧ nOf l2 i ≤ 5 := by
  unfold nOf
  have := Int.emod_nonneg (rd l2 (i : Int)) (show (5 : Int) ≠ 0 by decide)
  have := Int.emod_lt_of_pos (rd l2 (i : Int)) (show (0 : Int) < 5 by decide)
  omega
theorem TW_length (Q F : Int) (i n : Nat) : (TW Q F i n).length = n + 2 := by simp [TW]
theorem WW_length (l2 : List Int) (Q F : Int) : ∀ i, (WW l2 Q F i).length = PP l2 i
  | 0 => rfl
  | i + 1 => by rw [WW, PP, List.length_append, WW_length l2 Q F i, TW_length]; omega
theorem PP_ge (l2 : List Int) : ∀ i, 3 * i ≤ PP l2 i
  | 0 => Nat.le_refl _
  | i + 1 => by have := PP_ge l2 i; have := nOf_le l2 i; rw [PP]; omega
theorem PP_mono (l2 : List Int) (i : Nat) : ∀ d, PP l2 i ≤ PP l2 (i + d)
  | 0 => Nat.le_refl _
  | d + 1 => by have := PP_mono l2 i d; rw [← Nat.add_assoc, PP]; omega
theorem tosW_length (i n : Nat) : (tosW i n).length = n := by simp [tosW]
theorem tosW_succ (i n : Nat) : tosW i (n + 1) = tosW i n ++ [60 + 7 * (i : Int) + (n : Int)] := by simp [tosW, List.range_succ]
theorem tosW_get (i n k : Nat) (h : k < n) : (tosW i n).getD k 0 = 60 + 7 * (i : Int) + (k : Int) := by
  rw [List.getD_eq_getElem?_getD, tosW, List.getElem?_map, List.getElem?_range h]; rfl
theorem snd_range (i n : Nat) (hi : i ≤ 13) (hn : n ≤ 5) : ∀ d j, j + d = n → sndFrom (tosW i j) ((List.range' j d).map fun k : Nat => 60 + 7 * (i : Int) + (k : Int)) = true
  | 0, j, _ => rfl
  | d + 1, j, hj => by
    rw [List.range'_succ, List.map_cons, sndFrom, ← tosW_succ, snd_range i n hi hn d (j + 1) (by omega), Bool.and_true, Bool.and_eq_true]
    constructor
    · unfold homeB
      simp only [Bool.and_eq_true, Bool.or_eq_true, decide_eq_true_eq, Bool.not_eq_true', decide_eq_false_iff_not]
      omega
    · rw [Bool.not_eq_true']
      refine Bool.eq_false_iff.2 (fun g => ?_)
      have g' := List.contains_iff_mem.1 g
      simp only [tosW, List.mem_map, List.mem_range] at g'
      obtain ⟨k, hk, e⟩ := g'
      omega
theorem tosW_snd (Q : Int) (i n : Nat) (hQ : 1 ≤ Q ∧ Q ≤ 65536) (hi : i ≤ 13) (hn : 1 ≤ n ∧ n ≤ 5) : sndB (Q + (i : Int)) (tosW i n) = true := by
  have h := snd_range i n hi hn.2 n 0 (by omega)
  rw [← List.range_eq_range'] at h
  have h' : sndFrom [] (tosW i n) = true := h
  unfold sndB
  rw [h', tosW_length]
  simp only [Bool.and_eq_true, decide_eq_true_eq]
  exact ⟨⟨⟨⟨trivial, by omega⟩, by omega⟩, by omega⟩, by omega⟩
theorem lstW_end (Q : Int) (i n : Nat) (hQ : 1 ≤ Q ∧ Q ≤ 65536) (hi : i ≤ 13) (hn : 1 ≤ n ∧ n ≤ 5) : endB (Q + (i : Int)) (n : Int) = true := by
  unfold endB
  simp only [Bool.and_eq_true, decide_eq_true_eq]
  omega
theorem fst_ok (Q : Int) (i n : Nat) (hQ : 1 ≤ Q ∧ Q ≤ 65536) (hi : i ≤ 13) (hn : 1 ≤ n ∧ n ≤ 5) :
    okB (fstW Q i n) ∧ numI (fstW Q i n) 4 4 = Q + (i : Int) ∧ cntI (fstW Q i n) = n ∧ numsI (fstW Q i n) n = tosW i n := by
  have h := begin_begI _ _ (tosW_snd Q i n hQ hi hn)
  have h' : begI (fstW Q i n) = (Q + (i : Int), tosW i n, 0) := h
  unfold begI at h'
  by_cases g : okB (fstW Q i n)
  · rw [if_pos g] at h'
    have e1 := congrArg Prod.fst h'
    have e2 := congrArg (fun x => x.2.1) h'
    have e3 : cntI (fstW Q i n) = n := by
      have e4 := congrArg List.length e2
      rw [numsI_length, tosW_length] at e4
      exact e4
    refine ⟨g, e1, e3, ?_⟩
    have e5 : numsI (fstW Q i n) (cntI (fstW Q i n)) = tosW i n := e2
    rwa [e3] at e5
  · rw [if_neg g] at h'
    have e : (2 : Int) = 0 := congrArg (fun x => x.2.2) h'
    exact absurd e (by decide)
theorem lst_ok (Q : Int) (i n : Nat) (hQ : 1 ≤ Q ∧ Q ≤ 65536) (hi : i ≤ 13) (hn : 1 ≤ n ∧ n ≤ 5) :
    okE (lstW Q i n) ∧ numI (lstW Q i n) 4 4 = Q + (i : Int) ∧ (cntI (lstW Q i n) : Int) = (n : Int) := by
  have h := end_lastI _ _ (lstW_end Q i n hQ hi hn)
  have h' : lastI (lstW Q i n) = (Q + (i : Int), (n : Int), 0) := h
  unfold lastI at h'
  by_cases g : okE (lstW Q i n)
  · rw [if_pos g] at h'
    exact ⟨g, congrArg Prod.fst h', congrArg (fun x => x.2.1) h'⟩
  · rw [if_neg g] at h'
    have e : (2 : Int) = 0 := congrArg (fun x => x.2.2) h'
    exact absurd e (by decide)
theorem zr_num : numI zr 4 4 = 0 := by
  rw [num4 zr 4 (by simp [zr])]
  have h : ∀ j : Nat, j < 64 → rd zr (j : Int) = 0 := fun j hj => by
    show zr.getD (j : Int).toNat 0 = 0
    rw [Int.toNat_natCast, List.getD_eq_getElem?_getD, zr, List.getElem?_replicate, if_pos hj]; rfl
  rw [h 4 (by omega), h (4 + 1) (by omega), h (4 + 2) (by omega), h (4 + 3) (by omega)]
  rfl
theorem zr_noB : ¬ okB zr := fun g => by
  have h := (sndB_facts g.2.2.1).2.1
  rw [zr_num] at h
  omega
theorem zr_noE : ¬ okE zr := fun g => by
  have h := g.2.1
  unfold endB at h
  rw [zr_num] at h
  simp only [Bool.and_eq_true, decide_eq_true_eq] at h
  omega
/-- What the log's blocks are when the first C of W's are written. -/
def ring (A C : Nat) (W bl : List (List Int)) : Prop := bl.length = 40 ∧ (∀ b ∈ bl, b.length = 64 ∧ Bytes b) ∧ ∀ p, p < 40 → log_Find.bk bl (A + p) = if p < C then W.getD p zr else zr
theorem bk_add (bl : List (List Int)) (a x : Nat) : log_Find.bk bl (a % 40 + x) = log_Find.bk bl (a + x) := by
  show bl.getD ((a % 40 + x) % 40) [] = bl.getD ((a + x) % 40) []
  rw [show (a % 40 + x) % 40 = (a + x) % 40 by omega]
theorem getD_snoc (W : List (List Int)) (b : List Int) (p : Nat) : (W ++ [b]).getD p zr = if p = W.length then b else W.getD p zr := by
  rw [List.getD_eq_getElem?_getD, List.getD_eq_getElem?_getD]
  by_cases h : p < W.length
  · rw [List.getElem?_append_left h, if_neg (by omega)]
  · rw [List.getElem?_append_right (by omega)]
    by_cases h1 : p = W.length
    · subst h1; simp
    · rw [if_neg h1, List.getElem?_eq_none (by simp; omega), List.getElem?_eq_none (by omega)]
theorem ring_zero (A C : Nat) : ring A C [] (List.replicate 40 zr) := by
  refine ⟨by simp, fun b hb => ?_, fun p hp => ?_⟩
  · obtain rfl := List.eq_of_mem_replicate hb
    exact ⟨by simp [zr], bytes_replicate 64⟩
  · have e : log_Find.bk (List.replicate 40 zr) (A + p) = zr := by
      show (List.replicate 40 zr).getD ((A + p) % 40) [] = zr
      rw [List.getD_eq_getElem?_getD, List.getElem?_replicate, if_pos (Nat.mod_lt _ (by omega))]; rfl
    rw [e]
    split <;> rfl
theorem ring_set {A C : Nat} {W bl : List (List Int)} (h : ring A C W bl) (b : List Int) (hb : b.length = 64 ∧ Bytes b) (h40 : W.length < 40) (hC : W.length < C) : ring A C (W ++ [b]) (bl.set ((A + W.length) % 40) b) := by
  obtain ⟨h1, h2, h3⟩ := h
  refine ⟨by rw [List.length_set]; exact h1, fun x hx => ?_, fun p hp => ?_⟩
  · rcases List.mem_or_eq_of_mem_set hx with hx | rfl
    · exact h2 x hx
    · exact hb
  · rw [getD_snoc]
    by_cases e : p = W.length
    · subst e
      rw [if_pos hC, if_pos rfl]
      show (bl.set ((A + W.length) % 40) b).getD ((A + W.length) % 40) [] = b
      rw [List.getD_eq_getElem?_getD, List.getElem?_set_self (by omega)]; rfl
    · rw [if_neg e, ← h3 p hp]
      show (bl.set ((A + W.length) % 40) b).getD ((A + p) % 40) [] = bl.getD ((A + p) % 40) []
      rw [List.getD_eq_getElem?_getD, List.getD_eq_getElem?_getD, List.getElem?_set_ne (by omega)]
theorem ring_past {A C : Nat} {W bl : List (List Int)} (h : ring A C W bl) (b : List Int) (hC : C ≤ W.length) : ring A C (W ++ [b]) bl := by
  obtain ⟨h1, h2, h3⟩ := h
  refine ⟨h1, h2, fun p hp => ?_⟩
  rw [h3 p hp]
  by_cases g : p < C
  · rw [if_pos g, if_pos g, getD_snoc, if_neg (by omega)]
  · rw [if_neg g, if_neg g]
/-! ### what is where -/
theorem WW_first (l2 : List Int) (Q F : Int) (i : Nat) : ∀ t, i < t → ∀ x, x < nOf l2 i + 2 → (WW l2 Q F t).getD (PP l2 i + x) zr = (TW Q F i (nOf l2 i)).getD x zr
  | 0, h, _, _ => absurd h (by omega)
  | t + 1, h, x, hx => by
    rw [WW]
    by_cases g : i < t
    · have hm : PP l2 i + nOf l2 i + 2 ≤ PP l2 t := by
        have := PP_mono l2 (i + 1) (t - (i + 1))
        rw [show i + 1 + (t - (i + 1)) = t by omega, PP] at this
        exact this
      have hl := WW_length l2 Q F t
      rw [List.getD_eq_getElem?_getD, List.getElem?_append_left (by omega), ← List.getD_eq_getElem?_getD]
      exact WW_first l2 Q F i t g x hx
    · obtain rfl : i = t := by omega
      have hl := WW_length l2 Q F i
      rw [List.getD_eq_getElem?_getD, List.getElem?_append_right (by omega), hl, show PP l2 i + x - PP l2 i = x by omega, ← List.getD_eq_getElem?_getD]
theorem TW_zero (Q F : Int) (i n : Nat) : (TW Q F i n).getD 0 zr = fstW Q i n := rfl
theorem TW_mid (Q F : Int) (i n k : Nat) (h : k < n) : (TW Q F i n).getD (k + 1) zr = midW F i := by
  rw [TW, List.cons_append, List.getD_cons_succ, List.getD_eq_getElem?_getD, List.getElem?_append_left (by simp; exact h), List.getElem?_replicate, if_pos h]; rfl
theorem TW_last (Q F : Int) (i n : Nat) : (TW Q F i n).getD (n + 1) zr = lstW Q i n := by
  rw [TW, List.cons_append, List.getD_cons_succ, List.getD_eq_getElem?_getD, List.getElem?_append_right (by simp), List.length_replicate, Nat.sub_self]; rfl
/-- What is found of transaction i. -/
def tlW (l2 : List Int) (F : Int) (i : Nat) : List S35 := (List.range (nOf l2 i)).map fun k : Nat => ⟨60 + 7 * (i : Int) + (k : Int), midW F i⟩
theorem whole_at {l2 : List Int} {Q F : Int} {A C t : Nat} {bl : List (List Int)} (hQ : 1 ≤ Q ∧ Q ≤ 65536) (h : ring A C (WW l2 Q F t) bl) (h40 : PP l2 t ≤ 40) (i : Nat) (hi : i < t) (hC : PP l2 (i + 1) ≤ C) :
    trB bl ((A + PP l2 i) % 40) (Q + (i : Int)) ∧ trN bl ((A + PP l2 i) % 40) = nOf l2 i ∧ trL bl ((A + PP l2 i) % 40) = tlW l2 F i := by
  have hm := PP_mono l2 (i + 1) (t - (i + 1))
  rw [show i + 1 + (t - (i + 1)) = t by omega] at hm
  have hp := PP_ge l2 (i + 1)
  rw [PP] at hm hp hC
  have hn := nOf_le l2 i
  have at_ : ∀ x, x < nOf l2 i + 2 → log_Find.bk bl ((A + PP l2 i) % 40 + x) = (TW Q F i (nOf l2 i)).getD x zr := fun x hx => by
    rw [bk_add, Nat.add_assoc, h.2.2 (PP l2 i + x) (by omega), if_pos (by omega), WW_first l2 Q F i t hi x hx]
  have h0 : log_Find.bk bl ((A + PP l2 i) % 40) = fstW Q i (nOf l2 i) := at_ 0 (by omega)
  obtain ⟨b1, b2, b3, b4⟩ := fst_ok Q i (nOf l2 i) hQ (by omega) hn
  obtain ⟨e1, e2, e3⟩ := lst_ok Q i (nOf l2 i) hQ (by omega) hn
  have hN : trN bl ((A + PP l2 i) % 40) = nOf l2 i := by unfold trN; rw [h0, b3]
  have hE : log_Find.bk bl ((A + PP l2 i) % 40 + (nOf l2 i + 1)) = lstW Q i (nOf l2 i) := by rw [at_ _ (by omega), TW_last]
  refine ⟨?_, hN, ?_⟩
  · unfold trB
    rw [hN, hE, h0]
    exact ⟨b1, b2, e1, e2, e3⟩
  · unfold trL log_Find.list tlW
    rw [hN, h0, b4]
    refine List.map_congr_left (fun k hk => ?_)
    have hk' := List.mem_range.1 hk
    rw [tosW_get _ _ _ hk', at_ _ (by omega), TW_mid _ _ _ _ _ hk']
theorem none_at {l2 : List Int} {Q F : Int} {A C t : Nat} {bl : List (List Int)} (hQ : 1 ≤ Q ∧ Q ≤ 65536) (h : ring A C (WW l2 Q F t) bl) (h40 : PP l2 t ≤ 40) (hC40 : C ≤ 40) (w : Nat) (hw : w ≤ t) (hwC : PP l2 w ≤ C) (hn : w < t → C < PP l2 (w + 1)) :
    ¬ trB bl ((A + PP l2 w) % 40) (Q + (w : Int)) := fun g => by
  have hl := WW_length l2 Q F t
  by_cases h4 : PP l2 w = 40
  · -- round the ring: the first transaction's first block
    have hw0 : 1 ≤ w := by
      cases w with
      | zero => exact absurd (show (0 : Nat) = 40 from h4) (by decide)
      | succ w => omega
    have hb : log_Find.bk bl ((A + PP l2 w) % 40) = fstW Q 0 (nOf l2 0) := by
      have e1 := bk_add bl (A + PP l2 w) 0
      have e2 : log_Find.bk bl (A + PP l2 w + 0) = log_Find.bk bl (A + 0) := by
        show bl.getD ((A + PP l2 w + 0) % 40) [] = bl.getD ((A + 0) % 40) []
        rw [show (A + PP l2 w + 0) % 40 = (A + 0) % 40 by omega]
      have e3 := WW_first l2 Q F 0 t (by omega) 0 (by omega)
      exact e1.trans (e2.trans ((h.2.2 0 (by omega)).trans ((if_pos (by omega)).trans e3)))
    have h2 := g.2.1
    rw [hb, (fst_ok Q 0 (nOf l2 0) hQ (by omega) (nOf_le l2 0)).2.1] at h2
    omega
  · have hlt : PP l2 w < 40 := by omega
    have hb : log_Find.bk bl ((A + PP l2 w) % 40) = if PP l2 w < C then (WW l2 Q F t).getD (PP l2 w) zr else zr := (bk_add bl (A + PP l2 w) 0).trans (h.2.2 _ hlt)
    by_cases hlc : PP l2 w < C
    · rw [if_pos hlc] at hb
      by_cases hwt : w < t
      · have h1 := hn hwt
        have hm := PP_mono l2 (w + 1) (t - (w + 1))
        rw [show w + 1 + (t - (w + 1)) = t by omega] at hm
        have hp := PP_ge l2 (w + 1)
        rw [PP] at h1 hm hp
        have hF := WW_first l2 Q F w t hwt 0 (by omega)
        rw [Nat.add_zero] at hF
        rw [hF, TW_zero] at hb
        have hN : trN bl ((A + PP l2 w) % 40) = nOf l2 w := by unfold trN; rw [hb, (fst_ok Q w (nOf l2 w) hQ (by omega) (nOf_le l2 w)).2.2.1]
        have h3 := g.2.2.1
        rw [hN, bk_add, Nat.add_assoc, h.2.2 _ (by omega), if_neg (by omega)] at h3
        exact zr_noE h3
      · obtain rfl : w = t := by omega
        rw [List.getD_eq_getElem?_getD, List.getElem?_eq_none (by omega)] at hb
        have h1 := g.1
        rw [hb] at h1
        exact zr_noB h1
    · rw [if_neg hlc] at hb
      have h1 := g.1
      rw [hb] at h1
      exact zr_noB h1
def outW (l2 : List Int) (F : Int) (i : Nat) : List (List S35) := (List.range i).map (tlW l2 F)
theorem fnd_whole {l2 : List Int} {Q F : Int} {A C t : Nat} {bl : List (List Int)} (hQ : 1 ≤ Q ∧ Q ≤ 65536) (h : ring A C (WW l2 Q F t) bl) (h40 : PP l2 t ≤ 40) (hC40 : C ≤ 40) (w : Nat) (hw : w ≤ t) (hwC : PP l2 w ≤ C) (hn : w < t → C < PP l2 (w + 1)) :
    ∀ m i d, i + m = w → m < d → fnd bl d (outW l2 F i) ((A + PP l2 i) % 40) (Q + (i : Int)) = (outW l2 F w, (((A + PP l2 w) % 40 : Nat) : Int), Q + (w : Int), 0)
  | 0, i, d + 1, hi, _ => by
    obtain rfl : i = w := by omega
    rw [fnd, if_neg (none_at hQ h h40 hC40 i hw hwC hn)]
  | m + 1, i, d + 1, hi, hd => by
    have hm := PP_mono l2 (i + 1) m
    rw [show i + 1 + m = w by omega] at hm
    obtain ⟨t1, t2, t3⟩ := whole_at hQ h h40 i (by omega) (by omega)
    rw [fnd, if_pos t1, t2, t3]
    have ho : outW l2 F i ++ [tlW l2 F i] = outW l2 F (i + 1) := by simp [outW, List.range_succ]
    have ha : ((A + PP l2 i) % 40 + nOf l2 i + 2) % 40 = (A + PP l2 (i + 1)) % 40 := by rw [PP]; omega
    have hq : Q + (i : Int) + 1 = Q + ((i + 1 : Nat) : Int) := by omega
    rw [ho, ha, hq]
    exact fnd_whole hQ h h40 hC40 w hw hwC hn m (i + 1) d (by omega) (by omega)
theorem find_whole {l2 : List Int} {Q F : Int} {A C t : Nat} {bl : List (List Int)} (hA : A < 40) (hQ : 1 ≤ Q ∧ Q ≤ 65536) (h : ring A C (WW l2 Q F t) bl) (h40 : PP l2 t ≤ 40) (hC40 : C ≤ 40) (w : Nat) (hw : w ≤ t) (hwC : PP l2 w ≤ C) (hn : w < t → C < PP l2 (w + 1)) :
    findI bl (A : Int) Q = (outW l2 F w, (((A + PP l2 w) % 40 : Nat) : Int), Q + (w : Int), 0) := by
  have hB : log_Find.badB bl = false := List.any_eq_false.2 (fun b hb => by
    have := (h.2.1 b hb).1
    simp [this])
  unfold findI
  rw [if_pos (show okF bl (A : Int) Q from ⟨by omega, by omega, h.1, hB⟩)]
  have hp := PP_ge l2 w
  have H := fnd_whole hQ h h40 hC40 w hw hwC hn w 0 (1073741824 - Q.toNat) (by omega) (by omega)
  have e1 : (A + PP l2 0) % 40 = (A : Int).toNat := by show (A + 0) % 40 = _; omega
  have e2 : Q + ((0 : Nat) : Int) = Q := by omega
  rw [e1, e2] at H
  exact H
end Go.Proofs.Ytcihfmehbmficaa.Pure
