/- Plain: what the printed functions of the reference come to: Apart, Pointers, part, Need. -/
import Derived.Test.YtbdbjlfdnijfeaaTree20
import Derived.Test.YtbdbjlfdnijfeaaPAllx3
namespace Go.Proofs.Ytbdbjlfdnijfeaa.Tree
open Go Go.RowKit Go.Maps Go.Proofs.YtbdbjlfdnijfeaaW.PrintWords Go.Proofs.YtbdbjlfdnijfeaaW.PrintLast Go.Proofs.YtbdbjlfdnijfeaaW.PrintMore
open Go.Proofs.Ytbdbjlfdnijfeaa.PAll
set_option linter.unusedVariables false
set_option linter.unusedSimpArgs false
theorem refData_eq (p : Int) : drydockref09_Data.f p = some (dataB p) := by
  unfold drydockref09_Data.f dataB
  by_cases h : 59 ≤ p
  · rw [if_pos h, decide_eq_true h, Bool.true_and]
  · rw [if_neg h, decide_eq_false h]; rfl
theorem rd_nat (l : List Int) (i : Nat) (p : Int) (h : l[i]? = some p) : rd l (i : Int) = p := by
  show l.getD (i : Int).toNat 0 = p
  rw [Int.toNat_natCast, List.getD_eq_getElem?_getD, h]; rfl
theorem drop_at {l : List Int} {i : Nat} {p : Int} (h : l[i]? = some p) : l.drop i = p :: l.drop (i + 1) := by
  obtain ⟨hi, e⟩ := List.getElem?_eq_some_iff.1 h
  rw [List.drop_eq_getElem_cons hi, e]
theorem apart_loop (l : List Int) (hl : l.length ≤ 1000) : ∀ d i k (x3 : List Bool), d + i = l.length → d < k → x3.length = 480 → (∀ q, dataB q = true → rdOf false x3 q = (l.take i).contains q) →
    drydockref11_Apart.l0 k l x3 (i : Int) = some (apartB (l.take i) (l.drop i))
  | 0, i, k + 1, x3, hd, hk, h3, hx => by
    rw [drydockref11_Apart.l0, if_neg (by omega), List.drop_of_length_le (by omega)]
    rfl
  | d + 1, i, k + 1, x3, hd, hk, h3, hx => by
    obtain ⟨p, hp⟩ : ∃ p, l[i]? = some p := ⟨_, List.getElem?_eq_getElem (by omega)⟩
    have hw : wrap64 ((i : Int) + 1) = ((i + 1 : Nat) : Int) := by unfold wrap64; omega
    rw [drydockref11_Apart.l0, if_pos (by omega), if_pos (by omega), rd_nat l i p hp, hw, drop_at hp, apartB, ← take_snoc hp]
    have hcon : ∀ q, (l.take (i + 1)).contains q = ((l.take i).contains q || q == p) := fun q => by
      rw [take_snoc hp, List.contains_eq_any_beq, List.any_append, List.contains_eq_any_beq]
      simp
    by_cases h0 : p = 0
    · rw [if_pos h0]
      have hok : okP (l.take i) p = true := by unfold okP; rw [beq_iff_eq.2 h0]; rfl
      rw [hok, Bool.true_and]
      refine apart_loop l hl d (i + 1) k x3 (by omega) (by omega) h3 (fun q hq => ?_)
      rw [hx q hq, hcon]
      have : q ≠ p := by
        intro e
        rw [e, h0] at hq
        exact absurd hq (by decide)
      rw [beq_eq_false_iff_ne.2 this, Bool.or_false]
    · rw [if_neg h0, refData_eq, Option.bind_some]
      have hok : okP (l.take i) p = (!(l.take i).contains p && dataB p) := by unfold okP; rw [beq_eq_false_iff_ne.2 h0]; rfl
      rw [hok]
      cases hdp : dataB p with
      | false => rw [if_neg (by decide), Bool.and_false, Bool.false_and]
      | true =>
        have hr : 59 ≤ p ∧ p < 480 := by
          unfold dataB at hdp
          simpa using hdp
        rw [if_pos rfl, if_pos (by omega), if_pos (by rw [h3]; omega), hx p hdp, Bool.and_true]
        cases hc : (l.take i).contains p with
        | true => rfl
        | false =>
          rw [if_neg (by decide)]
          refine (apart_loop l hl d (i + 1) k _ (by omega) (by omega) (by rw [List.length_set, h3]) (fun q hq => ?_)).trans ?_
          · have hq2 : 59 ≤ q ∧ q < 480 := by
              unfold dataB at hq
              simpa using hq
            rw [hcon, ← hx q hq]
            show (x3.set p.toNat true).getD q.toNat false = (x3.getD q.toNat false || q == p)
            rw [List.getD_eq_getElem?_getD, List.getD_eq_getElem?_getD, List.getElem?_set]
            by_cases e : q = p
            · subst e
              rw [if_pos rfl, if_pos (by rw [h3]; omega), beq_self_eq_true, Bool.or_true]; rfl
            · rw [if_neg (by omega), beq_eq_false_iff_ne.2 e, Bool.or_false]
          · simp
theorem refApart_eq (l : List Int) (hl : l.length ≤ 1000) (k : Nat) (hk : l.length < k) : drydockref11_Apart.f k l = some (apartB [] l) := by
  unfold drydockref11_Apart.f
  rw [if_pos (by decide)]
  refine apart_loop l hl l.length 0 k _ (by omega) hk List.length_replicate (fun q hq => ?_)
  have hq2 : 59 ≤ q ∧ q < 480 := by
    unfold dataB at hq
    simpa using hq
  show (List.replicate 480 false).getD q.toNat false = _
  rw [List.getD_eq_getElem?_getD, List.getElem?_replicate]
  split <;> rfl
theorem refPointers_eq (l : List Int) (k : Nat) (hk : 96 < k) : drydockref11_Pointers.f k l = some (ptsB l) := by
  unfold drydockref11_Pointers.f ptsB
  by_cases h : l.length ≤ 96
  · rw [if_pos (by omega), refApart_eq l (by omega) k (by omega), Option.bind_some, decide_eq_true h, Bool.and_true]
  · rw [if_neg (by omega), decide_eq_false h, Bool.and_false]
theorem at_eq (l : List Int) (i : Nat) : drydockref11_at.f l (i : Int) = some (l.getD i 0) := by
  unfold drydockref11_at.f
  by_cases h : i < l.length
  · rw [if_pos (by omega), if_pos (by omega)]
    show some (l.getD (i : Int).toNat 0) = _
    rw [Int.toNat_natCast]
  · rw [if_neg (by omega), List.getD_eq_getElem?_getD, List.getElem?_eq_none (by omega)]; rfl
theorem partL_map (l : List Int) (fr cnt : Nat) : partL l fr cnt = (List.range cnt).map (fun i => l.getD (fr + i) 0) := by
  apply List.ext_getElem
  · rw [partL_length]; simp
  · intro i h1 h2
    rw [partL_length] at h1
    have h := partL_getD l fr cnt i h1
    rw [List.getD_eq_getElem?_getD, List.getElem?_eq_getElem (by rw [partL_length]; exact h1)] at h
    rw [List.getElem_map, List.getElem_range]
    exact h
theorem partL_succ (l : List Int) (fr cnt : Nat) : partL l fr (cnt + 1) = partL l fr cnt ++ [l.getD (fr + cnt) 0] := by
  rw [partL_map, partL_map, List.range_succ, List.map_append]; rfl
theorem someB_snoc (l : List Int) (p : Int) : someB (l ++ [p]) = (someB l || p != 0) := by
  unfold someB
  rw [List.any_append]; simp
theorem part_loop (l : List Int) (fr cnt : Nat) (hs : fr + cnt ≤ 1000) : ∀ d i k : Nat, d + i = cnt → d < k → drydockref11_part.l0 k l (fr : Int) (cnt : Int) (partL l fr i) (someB (partL l fr i)) ((fr + i : Nat) : Int) = some (partL l fr cnt, someB (partL l fr cnt))
  | 0, i, k + 1, hd, hk => by
    obtain rfl : i = cnt := by omega
    rw [drydockref11_part.l0, if_neg (by unfold wrap64; omega)]
  | d + 1, i, k + 1, hd, hk => by
    have hw : wrap64 (((fr + i : Nat) : Int) + 1) = ((fr + (i + 1) : Nat) : Int) := by unfold wrap64; omega
    rw [drydockref11_part.l0, if_pos (by unfold wrap64; omega), at_eq, Option.bind_some, if_pos (by rw [partL_length]; omega), Option.bind_some, ← partL_succ, hw]
    have h := part_loop l fr cnt hs d (i + 1) k (by omega) (by omega)
    cases hb : someB (partL l fr i) with
    | true =>
      rw [if_pos rfl]
      rw [show someB (partL l fr (i + 1)) = true from by rw [partL_succ, someB_snoc, hb]; rfl] at h
      exact h
    | false =>
      rw [if_neg (by decide), Option.bind_some]
      rw [show someB (partL l fr (i + 1)) = (l.getD (fr + i) 0 != 0) from by rw [partL_succ, someB_snoc, hb]; rfl] at h
      exact h
theorem refPart_eq (l : List Int) (fr cnt : Nat) (frI cntI : Int) (hf : (fr : Int) = frI) (hc : (cnt : Int) = cntI) (hs : fr + cnt ≤ 1000) (k : Nat) (hk : cnt < k) : drydockref11_part.f k l frI cntI = some (partL l fr cnt, someB (partL l fr cnt)) := by
  subst hf hc
  unfold drydockref11_part.f
  have h := part_loop l fr cnt hs cnt 0 k (by omega) hk
  rw [show partL l fr 0 = [] from by simp [partL]] at h
  exact h
theorem need_loop (l : List Int) (x3 : Int) (h3 : 0 ≤ x3 ∧ x3 ≤ 1) : ∀ d i k : Nat, d + i = 3 → d + 31 < k → drydockref11_Need.l0 k l x3 (unN l i : Int) ((34 + 30 * i : Nat) : Int) = some (x3 + if unN l 3 = 0 then 0 else (unN l 3 : Int) + 1)
  | 0, i, k + 1, hd, hk => by
    obtain rfl : i = 3 := by omega
    have hu := unN_mono l (Nat.zero_le 3)
    have hu2 : unN l 3 ≤ 3 := unN_le l 3
    rw [drydockref11_Need.l0, if_neg (by omega)]
    by_cases h : unN l 3 = 0
    · rw [if_neg (by omega), if_pos h, h]; unfold wrap64; congr 1; omega
    · rw [if_pos (by omega), if_neg h]; unfold wrap64; congr 1; omega
  | d + 1, i, k + 1, hd, hk => by
    have hu2 : unN l i ≤ i := unN_le l i
    have hw : wrap64 (((34 + 30 * i : Nat) : Int) + 30) = ((34 + 30 * (i + 1) : Nat) : Int) := by unfold wrap64; omega
    have h := need_loop l x3 h3 d (i + 1) k (by omega) (by omega)
    rw [drydockref11_Need.l0, if_pos (by omega), refPart_eq l (34 + 30 * i) 30 ((34 + 30 * i : Nat) : Int) 30 rfl rfl (by omega) k (by omega), Option.bind_some, hw]
    have e : unN l (i + 1) = unN l i + un1 l i := rfl
    show (if someB (partL l (34 + 30 * i) 30) = true then _ else _) = _
    have e2 : someB (partL l (34 + 30 * i) 30) = usB l i := rfl
    rw [e2]
    by_cases hb : usB l i = true
    · have e3 : un1 l i = 1 := if_pos hb
      rw [if_pos hb, show wrap64 ((unN l i : Int) + 1) = ((unN l (i + 1) : Nat) : Int) from by rw [e, e3]; unfold wrap64; omega]
      exact h
    · have e3 : un1 l i = 0 := if_neg hb
      rw [if_neg hb, show (unN l i : Int) = ((unN l (i + 1) : Nat) : Int) from by rw [e, e3, Nat.add_zero]]
      exact h
theorem refNeed_eq (l : List Int) (k : Nat) (hk : 40 < k) : drydockref11_Need.f k l = some (needN l : Int) := by
  obtain ⟨k, rfl⟩ : ∃ q, k = q + 1 := ⟨k - 1, by omega⟩
  unfold drydockref11_Need.f
  rw [refPart_eq l 4 30 4 30 rfl rfl (by omega) (k + 1) (by omega), Option.bind_some]
  show (if someB (partL l 4 30) = true then _ else _) = _
  by_cases hb : someB (partL l 4 30) = true
  · rw [if_pos hb, drydockref11_Need.j0]
    refine (need_loop l (0 + 1) (by decide) 3 0 k (by omega) (by omega)).trans ?_
    unfold needN
    rw [if_pos hb]
    congr 1
    split <;> omega
  · rw [if_neg hb, drydockref11_Need.j0]
    refine (need_loop l 0 (by decide) 3 0 k (by omega) (by omega)).trans ?_
    unfold needN
    rw [if_neg hb]
    congr 1
    split <;> omega
end Go.Proofs.Ytbdbjlfdnijfeaa.Tree
