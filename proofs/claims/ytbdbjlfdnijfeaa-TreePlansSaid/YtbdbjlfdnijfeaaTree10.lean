/- Plain: how many blocks a plan gives out, and what it knows of the fresh ones. -/
import Derived.Test.YtbdbjlfdnijfeaaTree9
namespace Go.Proofs.Ytbdbjlfdnijfeaa.Tree
open Go Go.RowKit Go.Maps Go.Proofs.YtbdbjlfdnijfeaaW.PrintWords Go.Proofs.YtbdbjlfdnijfeaaW.PrintLast Go.Proofs.YtbdbjlfdnijfeaaW.PrintMore
set_option linter.unusedVariables false
set_option linter.unusedSimpArgs false
theorem someB_part {l : List Int} {fr cnt : Nat} : someB (partL l fr cnt) = true ↔ ∃ i, i < cnt ∧ l.getD (fr + i) 0 ≠ 0 := by
  unfold someB
  rw [List.any_eq_true]
  constructor
  · rintro ⟨x, hx, h0⟩
    obtain ⟨i, hi, rfl⟩ := List.getElem_of_mem hx
    rw [partL_length] at hi
    refine ⟨i, hi, ?_⟩
    rw [← partL_getD l fr cnt i hi, List.getD_eq_getElem?_getD, List.getElem?_eq_getElem (by rw [partL_length]; exact hi)]
    simpa using h0
  · rintro ⟨i, hi, h0⟩
    refine ⟨(partL l fr cnt)[i]'(by rw [partL_length]; exact hi), List.getElem_mem _, ?_⟩
    have h := partL_getD l fr cnt i hi
    rw [List.getD_eq_getElem?_getD, List.getElem?_eq_getElem (by rw [partL_length]; exact hi)] at h
    rw [← h] at h0
    simpa using h0
theorem unN_pos {l : List Int} : ∀ {m : Nat}, unN l m ≠ 0 ↔ ∃ k, k < m ∧ usB l k = true
  | 0 => ⟨fun h => absurd rfl h, fun ⟨k, hk, _⟩ => absurd hk (Nat.not_lt_zero _)⟩
  | m + 1 => by
    constructor
    · intro h
      by_cases h1 : unN l m = 0
      · refine ⟨m, Nat.lt_succ_self _, ?_⟩
        have h2 : unN l m + un1 l m ≠ 0 := h
        unfold un1 at h2
        by_cases h3 : usB l m = true
        · exact h3
        · rw [if_neg h3] at h2; omega
      · obtain ⟨k, hk, h2⟩ := unN_pos.1 h1
        exact ⟨k, by omega, h2⟩
    · rintro ⟨k, hk, h2⟩
      show unN l m + un1 l m ≠ 0
      by_cases e : k = m
      · subst e
        unfold un1
        rw [if_pos h2]; omega
      · have := (unN_pos (l := l) (m := m)).2 ⟨k, by omega, h2⟩
        omega
theorem s34_iff {l : List Int} (hl : l.length ≤ 96) : someB (partL l 34 96) = true ↔ unN l 3 ≠ 0 := by
  rw [someB_part, unN_pos]
  constructor
  · rintro ⟨i, hi, h0⟩
    have hil : 34 + i < l.length := by
      rcases Nat.lt_or_ge (34 + i) l.length with h | h
      · exact h
      · rw [List.getD_eq_getElem?_getD, List.getElem?_eq_none h] at h0
        exact absurd rfl h0
    refine ⟨i / 30, by omega, someB_part.2 ⟨i % 30, by omega, ?_⟩⟩
    rw [show 34 + 30 * (i / 30) + i % 30 = 34 + i by omega]
    exact h0
  · rintro ⟨k, hk, h0⟩
    obtain ⟨i, hi, h1⟩ := someB_part.1 h0
    exact ⟨30 * k + i, by omega, by rw [← Nat.add_assoc]; exact h1⟩
theorem resW_length (fr : List Int) (b : Bool) (ws : List Wr) : (resW fr b ws).length = ws.length + if b = true then 1 else 0 := by
  unfold resW
  split
  · simp
  · rfl
theorem fillW_length (a : Int) (pl : List Int) (ws : List Wr) : (fillW a pl ws).length = ws.length := List.length_map ..
theorem ws1_length (l fr : List Int) : (ws1 l fr).length = if someB (partL l 4 30) = true then 1 else 0 := by
  unfold ws1
  rw [fillW_length, resW_length]; simp
theorem ws2_length (l fr : List Int) : (ws2 l fr).length = (if someB (partL l 4 30) = true then 1 else 0) + if someB (partL l 34 96) = true then 1 else 0 := by
  unfold ws2
  rw [resW_length, ws1_length]
theorem undS_length (l fr : List Int) : ∀ k, (undS l fr k).1.length = (ws2 l fr).length + unN l k ∧ (undS l fr k).2.length = k
  | 0 => ⟨rfl, rfl⟩
  | k + 1 => by
    obtain ⟨h1, h2⟩ := undS_length l fr k
    refine ⟨?_, ?_⟩
    · show (fillW _ _ (resW fr (usB l k) (undS l fr k).1)).length = _ + (unN l k + un1 l k)
      rw [fillW_length, resW_length, h1]
      unfold un1
      omega
    · show ((undS l fr k).2 ++ [_]).length = _
      rw [List.length_append, h2]; rfl
theorem need_eq {l : List Int} (hl : l.length ≤ 96) : needN l = (if someB (partL l 4 30) = true then 1 else 0) + (if someB (partL l 34 96) = true then 1 else 0) + unN l 3 := by
  unfold needN
  by_cases h : unN l 3 = 0
  · rw [if_pos h, if_neg (fun h2 => (s34_iff hl).1 h2 h), h]
  · rw [if_neg h, if_pos ((s34_iff hl).2 h)]; omega
theorem unN_mono (l : List Int) {k m : Nat} (h : k ≤ m) : unN l k ≤ unN l m := by
  induction h with
  | refl => exact Nat.le_refl _
  | step _ ih => exact Nat.le_trans ih (Nat.le_add_right _ _)
/-- What is known where a plan is made. -/
structure Ok (l fr : List Int) : Prop where
  pts : ptsB l = true
  len : needN l ≤ fr.length
  fresh : freshB l [] (fr.take (needN l)) = true
theorem ok_of {l fr : List Int} (h : errOf l fr = 0) : Ok l fr := by
  unfold errOf at h
  by_cases hp : ptsB l = true
  · have hF : needF l = ((needN l : Int), 0) := by unfold needF; rw [if_pos hp]
    rw [hF, if_pos rfl] at h
    unfold freshF at h
    by_cases h1 : fr.length < needN l
    · rw [if_pos h1] at h; exact absurd h (by decide)
    · rw [if_neg h1] at h
      by_cases h2 : freshB l [] (fr.take (needN l)) = true
      · exact ⟨hp, by omega, h2⟩
      · rw [if_neg h2] at h; exact absurd h (by decide)
  · have hF : needF l = (0, 1) := by unfold needF; rw [if_neg hp]
    rw [hF, if_neg (by decide)] at h
    exact absurd h (by decide)
theorem freshB_at (pts : List Int) : ∀ (l seen : List Int) (k : Nat) (p : Int), freshB pts seen l = true → l[k]? = some p → takeB pts (seen ++ l.take k) p = true
  | [], seen, k, p, _, h => by simp at h
  | x :: l, seen, 0, p, hB, h => by
    obtain rfl := Option.some.inj h
    rw [freshB, Bool.and_eq_true] at hB
    rw [List.take_zero, List.append_nil]
    exact hB.1
  | x :: l, seen, k + 1, p, hB, h => by
    rw [freshB, Bool.and_eq_true] at hB
    have h1 := freshB_at pts l (seen ++ [x]) k p hB.2 h
    rw [List.append_assoc] at h1
    exact h1
theorem Ok.at_ {l fr : List Int} (h : Ok l fr) {k : Nat} (hk : k < needN l) : ∃ p, fr[k]? = some p ∧ fr.getD k 0 = p ∧ takeB l (fr.take k) p = true := by
  obtain ⟨p, hp⟩ : ∃ p, fr[k]? = some p := ⟨_, List.getElem?_eq_getElem (Nat.lt_of_lt_of_le hk h.len)⟩
  have h1 := freshB_at l (fr.take (needN l)) [] k p h.fresh (by rw [List.getElem?_take, if_pos hk]; exact hp)
  rw [List.nil_append, List.take_take, Nat.min_eq_left (Nat.le_of_lt hk)] at h1
  exact ⟨p, hp, by rw [List.getD_eq_getElem?_getD, hp]; rfl, h1⟩
theorem takeB_data {l s : List Int} {p : Int} (h : takeB l s p = true) : 59 ≤ p ∧ p < 480 := by
  unfold takeB dataB at h
  simp only [Bool.and_eq_true, decide_eq_true_eq] at h
  exact h.1.1
theorem okP_small {seen : List Int} {p : Int} (h : okP seen p = true) : 0 ≤ p ∧ p < 480 := by
  unfold okP dataB at h
  by_cases e : p = 0
  · omega
  · rw [show (p == 0) = false from beq_eq_false_iff_ne.2 e, Bool.false_or] at h
    simp only [Bool.and_eq_true, decide_eq_true_eq] at h
    omega
theorem apartB_small : ∀ (l seen : List Int), apartB seen l = true → ∀ x ∈ l, 0 ≤ x ∧ x < 480
  | [], _, _, x, h => absurd h List.not_mem_nil
  | y :: l, seen, hB, x, h => by
    rw [apartB, Bool.and_eq_true] at hB
    rcases List.mem_cons.1 h with rfl | h
    · exact okP_small hB.1
    · exact apartB_small l _ hB.2 x h
theorem pts_small {l : List Int} (h : ptsB l = true) : ∀ x ∈ l, 0 ≤ x ∧ x < 480 := by
  unfold ptsB at h
  rw [Bool.and_eq_true] at h
  exact apartB_small l [] h.1
theorem part_small {l : List Int} (h : ptsB l = true) (fr cnt : Nat) : ∀ x ∈ partL l fr cnt, 0 ≤ x ∧ x < 4294967296 := fun x hx => by
  unfold partL at hx
  rcases List.mem_append.1 hx with hx | hx
  · have := pts_small h x (List.mem_of_mem_drop (List.mem_of_mem_take hx))
    omega
  · obtain ⟨_, rfl⟩ := List.mem_replicate.1 hx
    omega
theorem Ok.resP {l fr : List Int} (h : Ok l fr) {b : Bool} {ws : List Wr} (hb : b = true → ws.length < needN l) : 0 ≤ resP fr b ws ∧ resP fr b ws < 480 := by
  unfold Tree.resP
  by_cases e : b = true
  · rw [if_pos e]
    obtain ⟨p, _, h2, h3⟩ := h.at_ (hb e)
    rw [h2]
    have := takeB_data h3
    omega
  · rw [if_neg e]; omega
/-- In each round that gives a block out there is one left. -/
theorem Ok.room {l fr : List Int} (h : Ok l fr) {k : Nat} (hk : k < 3) (hu : usB l k = true) : (undS l fr k).1.length < needN l := by
  have h1 := ptsB_len h.pts
  rw [(undS_length l fr k).1, ws2_length, need_eq h1]
  have h2 : unN l k + 1 ≤ unN l 3 := by
    have h3 : unN l (k + 1) = unN l k + 1 := by
      show unN l k + un1 l k = _
      unfold un1
      rw [if_pos hu]
    have := unN_mono l (show k + 1 ≤ 3 by omega)
    omega
  omega
theorem Ok.room1 {l fr : List Int} (h : Ok l fr) (hu : someB (partL l 4 30) = true) : ([] : List Wr).length < needN l := by
  rw [need_eq (ptsB_len h.pts), if_pos hu]; simp; omega
theorem Ok.room2 {l fr : List Int} (h : Ok l fr) (hu : someB (partL l 34 96) = true) : (ws1 l fr).length < needN l := by
  rw [need_eq (ptsB_len h.pts), ws1_length, if_pos hu]; omega
theorem Ok.und {l fr : List Int} (h : Ok l fr) : ∀ k, k ≤ 3 → ∀ x ∈ (undS l fr k).2, 0 ≤ x ∧ x < 4294967296
  | 0, _, x, hx => absurd hx List.not_mem_nil
  | k + 1, hk, x, hx => by
    rcases List.mem_append.1 hx with hx | hx
    · exact h.und k (by omega) x hx
    · obtain rfl := List.mem_singleton.1 hx
      have := h.resP (b := usB l k) (ws := (undS l fr k).1) (fun hu => h.room (by omega) hu)
      omega
end Go.Proofs.Ytbdbjlfdnijfeaa.Tree
