/- Plain: zeros behind pointers change nothing of a plan; a page of pointers as it lies. -/
import Derived.Test.YtbdbjlfdnijfeaaTree20
namespace Go.Proofs.Ytbdbjlfdnijfeaa.Tree
open Go Go.RowKit Go.Maps Go.Proofs.YtbdbjlfdnijfeaaW.PrintWords Go.Proofs.YtbdbjlfdnijfeaaW.PrintLast Go.Proofs.YtbdbjlfdnijfeaaW.PrintMore
set_option linter.unusedVariables false
set_option linter.unusedSimpArgs false
/-- Numbers, each of two bytes. -/
def flat2 (xs : List Int) : List Int := xs.flatMap (fun x => Ref.leB x 2)
theorem flat2_length (xs : List Int) : (flat2 xs).length = 2 * xs.length := by
  induction xs with
  | nil => rfl
  | cons x xs ih =>
    show (Ref.leB x 2 ++ flat2 xs).length = _
    rw [List.length_append, Ref.leB_length, ih, List.length_cons]; omega
theorem flat2_append (a b : List Int) : flat2 (a ++ b) = flat2 a ++ flat2 b := List.flatMap_append
theorem sets_two (l : List Int) (xs : List Int) : ∀ k, k ≤ xs.length → 2 * k ≤ l.length → Page.setsK l 0 2 xs k = flat2 (xs.take k) ++ l.drop (2 * k)
  | 0, _, _ => rfl
  | k + 1, hk, ho => by
    have hlen : (flat2 (xs.take k)).length = 2 * k := by
      rw [flat2_length, List.length_take]; omega
    rw [Page.setsK, sets_two l xs k (by omega) (by omega), show 0 + k * 2 = 2 * k by omega, Field.putL_eq _ _ _ _ (by rw [List.length_append, hlen, List.length_drop]; omega)]
    rw [List.take_left' hlen]
    have hd : (flat2 (xs.take k) ++ l.drop (2 * k)).drop (2 * k + 2) = l.drop (2 * (k + 1)) := by
      rw [← hlen, List.drop_append, List.drop_of_length_le (by omega), List.nil_append, List.drop_drop, hlen]
      congr 1
      omega
    rw [hd, List.take_succ_eq_append_getElem (show k < xs.length by omega), flat2_append]
    have : xs.getD k 0 = xs[k] := by rw [List.getD_eq_getElem?_getD, List.getElem?_eq_getElem (show k < xs.length by omega)]; rfl
    rw [this]
    show flat2 (xs.take k) ++ Ref.leB xs[k] 2 ++ _ = (flat2 (xs.take k) ++ (Ref.leB xs[k] 2 ++ [])) ++ _
    rw [List.append_nil]
/-- A block of pointers ahead of its seal. -/
def rawL (xs : List Int) : List Int := flat2 xs ++ List.replicate (64 - 2 * xs.length) 0
theorem pageL_raw (xs : List Int) (h : xs.length ≤ 32) : pageL xs = Field.sealI (rawL xs) := by
  unfold pageL rawL Page.setsL
  rw [sets_two _ xs xs.length (Nat.le_refl _) (by rw [List.length_replicate]; omega), List.take_of_length_le (Nat.le_refl _), List.drop_replicate]
theorem rawL_zero (xs : List Int) (h : xs.length < 32) : rawL (xs ++ [0]) = rawL xs := by
  unfold rawL
  rw [flat2_append, List.length_append, List.append_assoc]
  congr 1
  have e : 64 - 2 * xs.length = 2 + (64 - 2 * (xs.length + [(0 : Int)].length)) := by
    simp only [List.length_cons, List.length_nil]; omega
  rw [e, ← List.replicate_append_replicate]
  rfl
theorem pageL_zero (xs : List Int) (h : xs.length < 32) : pageL (xs ++ [0]) = pageL xs := by
  rw [pageL_raw _ (by rw [List.length_append]; exact h), pageL_raw _ (by omega), rawL_zero _ h]
/-- Two lists that are the same but for zeros behind them. -/
def Like (a b : List Int) : Prop := ∀ i, a.getD i 0 = b.getD i 0
theorem Like.part {a b : List Int} (h : Like a b) (fr cnt : Nat) : partL a fr cnt = partL b fr cnt := by
  apply List.ext_getElem
  · rw [partL_length, partL_length]
  · intro i h1 h2
    rw [partL_length] at h1
    have e1 := partL_getD a fr cnt i h1
    have e2 := partL_getD b fr cnt i h1
    rw [List.getD_eq_getElem?_getD, List.getElem?_eq_getElem (by rw [partL_length]; exact h1)] at e1 e2
    have e3 : (partL a fr cnt)[i] = a.getD (fr + i) 0 := e1
    have e4 : (partL b fr cnt)[i] = b.getD (fr + i) 0 := e2
    rw [e3, e4, h]
theorem Like.us {a b : List Int} (h : Like a b) (k : Nat) : usB a k = usB b k := by unfold usB; rw [h.part]
theorem Like.un {a b : List Int} (h : Like a b) : ∀ k, unN a k = unN b k
  | 0 => rfl
  | k + 1 => by
    show unN a k + un1 a k = unN b k + un1 b k
    rw [h.un k]
    unfold un1
    rw [h.us]
theorem Like.need {a b : List Int} (h : Like a b) : needN a = needN b := by
  unfold needN
  rw [h.part, h.un]
theorem Like.ws1 {a b : List Int} (h : Like a b) (fr : List Int) : ws1 a fr = ws1 b fr := by unfold Tree.ws1; rw [h.part]
theorem Like.ws2 {a b : List Int} (h : Like a b) (fr : List Int) : ws2 a fr = ws2 b fr := by unfold Tree.ws2; rw [h.part, h.ws1]
theorem Like.dbl {a b : List Int} (h : Like a b) (fr : List Int) : dbl a fr = dbl b fr := by unfold Tree.dbl; rw [h.part, h.ws1]
theorem Like.und {a b : List Int} (h : Like a b) (fr : List Int) : ∀ k, undS a fr k = undS b fr k
  | 0 => by
    show (Tree.ws2 a fr, ([] : List Int)) = (Tree.ws2 b fr, [])
    rw [h.ws2]
  | k + 1 => by
    show (fillW _ _ _, _) = (fillW _ _ _, _)
    rw [h.us, h.und fr k, h.part]
theorem fillW_zero (pl : List Int) (ws : List Wr) : fillW 0 pl ws = ws := by
  unfold fillW
  have : ∀ x ∈ ws, fillX 0 pl x = x := fun x _ => by unfold fillX; rw [if_neg (fun h => h.2 rfl)]
  rw [List.map_congr_left this, List.map_id']
theorem us_end {l : List Int} {k : Nat} (h : l.length ≤ 34 + 30 * k) : usB l k = false := by
  unfold usB
  cases hb : someB (partL l (34 + 30 * k) 30) with
  | false => rfl
  | true =>
    obtain ⟨i, _, h0⟩ := someB_part.1 hb
    rw [List.getD_eq_getElem?_getD, List.getElem?_eq_none (by omega)] at h0
    exact absurd rfl h0
theorem und_end (l fr : List Int) {k : Nat} (h : l.length ≤ 34 + 30 * k) : undS l fr (k + 1) = ((undS l fr k).1, (undS l fr k).2 ++ [0]) := by
  show (fillW (resP fr (usB l k) _) _ (resW fr (usB l k) _), _ ++ [resP fr (usB l k) _]) = _
  rw [us_end h]
  show (fillW 0 _ (undS l fr k).1, _ ++ [0]) = _
  rw [fillW_zero]
/-- A plan's writes, as if the loop had three rounds. -/
theorem wsOf_three (l fr : List Int) (h : l.length ≤ 96) : wsOf l fr = fillW (dbl l fr) (pageL (undS l fr 3).2) (undS l fr 3).1 := by
  have step : ∀ k, k < 3 → l.length ≤ 34 + 30 * k → fillW (dbl l fr) (pageL (undS l fr k).2) (undS l fr k).1 = fillW (dbl l fr) (pageL (undS l fr (k + 1)).2) (undS l fr (k + 1)).1 := fun k hk hl => by
    rw [und_end l fr hl]
    show _ = fillW _ (pageL ((undS l fr k).2 ++ [0])) _
    rw [pageL_zero _ (by rw [(undS_length l fr k).2]; omega)]
  unfold wsOf
  have hr : rnd l = 0 ∨ rnd l = 1 ∨ rnd l = 2 ∨ rnd l = 3 := by unfold rnd; omega
  rcases hr with e | e | e | e <;> rw [e]
  · unfold rnd at e
    rw [step 0 (by omega) (by omega), step 1 (by omega) (by omega), step 2 (by omega) (by omega)]
  · unfold rnd at e
    rw [step 1 (by omega) (by omega), step 2 (by omega) (by omega)]
  · unfold rnd at e
    rw [step 2 (by omega) (by omega)]
theorem Like.ws {a b : List Int} (h : Like a b) (fr : List Int) (ha : a.length ≤ 96) (hb : b.length ≤ 96) : wsOf a fr = wsOf b fr := by
  rw [wsOf_three a fr ha, wsOf_three b fr hb, h.dbl, h.und]
theorem Like.nd {a b : List Int} (h : Like a b) (fr : List Int) : ndOf a fr = ndOf b fr := by
  unfold ndOf
  rw [h.part, h.dbl, h.part]
theorem zeros_like (l : List Int) (j : Nat) : Like (l ++ List.replicate j 0) l := fun i => by
  rw [List.getD_eq_getElem?_getD, List.getD_eq_getElem?_getD]
  by_cases hi : i < l.length
  · rw [List.getElem?_append_left hi]
  · rw [List.getElem?_append_right (by omega), List.getElem?_replicate, List.getElem?_eq_none (show l.length ≤ i by omega)]
    split <;> rfl
theorem apart_zeros (l : List Int) : ∀ j, apartB [] (l ++ List.replicate j 0) = apartB [] l
  | 0 => by rw [List.replicate_zero, List.append_nil]
  | j + 1 => by
    rw [List.replicate_succ', ← List.append_assoc, apartB_append, apart_zeros l j]
    rw [show okP ([] ++ (l ++ List.replicate j 0)) 0 = true from rfl, Bool.and_true]
theorem pts_zeros (l : List Int) (j : Nat) (h : l.length + j ≤ 96) : ptsB (l ++ List.replicate j 0) = ptsB l := by
  unfold ptsB
  rw [apart_zeros, List.length_append, List.length_replicate, decide_eq_true h, decide_eq_true (show l.length ≤ 96 by omega)]
theorem take_zeros (l s : List Int) (j : Nat) (p : Int) : takeB (l ++ List.replicate j 0) s p = takeB l s p := by
  unfold takeB
  cases hd : dataB p with
  | false => rw [Bool.false_and, Bool.false_and, Bool.false_and]
  | true =>
    congr 2
    rw [List.contains_eq_any_beq, List.contains_eq_any_beq, List.any_append]
    have hp : 59 ≤ p := by
      unfold dataB at hd
      rw [Bool.and_eq_true] at hd
      exact of_decide_eq_true hd.1
    have : (List.replicate j (0 : Int)).any (fun x => p == x) = false := List.any_eq_false.2 fun x hx => by
      obtain ⟨_, rfl⟩ := List.mem_replicate.1 hx
      have : p ≠ 0 := by omega
      simpa using this
    rw [this, Bool.or_false]
theorem fresh_zeros (l : List Int) (j : Nat) : ∀ (f s : List Int), freshB (l ++ List.replicate j 0) s f = freshB l s f
  | [], _ => rfl
  | p :: f, s => by rw [freshB, freshB, take_zeros, fresh_zeros l j f]
theorem plan_zeros (l fr : List Int) (j : Nat) (h : l.length + j ≤ 96) : planF (l ++ List.replicate j 0) fr = planF l fr := by
  have hk := zeros_like l j
  have e1 : errOf (l ++ List.replicate j 0) fr = errOf l fr := by
    unfold errOf needF freshF
    rw [pts_zeros l j h, hk.need, fresh_zeros]
  unfold planF
  rw [e1, hk.nd, hk.ws fr (by rw [List.length_append, List.length_replicate]; omega) (by omega)]
/-- A pointer at the end alone. -/
def oneL (n : Nat) : List Int := List.replicate n 0 ++ [100]
def wantN (n : Nat) : Int := if n + 1 > 34 then 2 else if n + 1 > 4 then 1 else 0
theorem one_need : ∀ n, n < 96 → needF (oneL n) = (wantN n, 0) := by decide +kernel
end Go.Proofs.Ytbdbjlfdnijfeaa.Tree
