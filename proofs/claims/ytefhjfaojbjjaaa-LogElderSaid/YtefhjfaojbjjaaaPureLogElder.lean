/- For every log and head: a head of the next number finds nothing where one finds something, and what is found tells its head. Conditions: the rows' bytes are bytes. -/
import Derived.Test.YtefhjfaojbjjaaaPAllx8
import Derived.Test.YtefhjfaojbjjaaaLogFindPure
namespace Go.Proofs.Ytefhjfaojbjjaaa.Pure
open Go Go.RowKit Go.Proofs.Ytefhjfaojbjjaaa.PAll Go.Proofs.YtefhjfaojbjjaaaW.PrintWords Go.Proofs.Ytefhjfaojbjjaaa.Spin Go.Proofs.Ytefhjfaojbjjaaa.Field Go.Proofs.Ytefhjfaojbjjaaa.Log
set_option linter.unusedVariables false

theorem tot_take (l : List (List S50)) (i : Nat) (h : i < l.length) : tot (l.take (i + 1)) = tot (l.take i) + (l[i].length + 2) := by
  rw [List.take_succ_eq_append_getElem h, tot_append]
  rfl
theorem tot_le : ∀ (l : List (List S50)), (∀ x ∈ l, x.length ≤ 20) → tot l ≤ 22 * l.length
  | [], _ => Nat.le_refl _
  | x :: l, h => by
    have h1 := h x List.mem_cons_self
    have h2 := tot_le l (fun y hy => h y (List.mem_cons_of_mem _ hy))
    rw [tot, List.length_cons]
    omega
theorem elder_loop {l m : List (List S50)} {e a q p s q' x y : Int} (h20 : ∀ x ∈ l, x.length ≤ 20) (hl : l.length ≤ 1073741824) (ha : 0 ≤ a ∧ a < 40) (he : e = 0 → m = [] ∧ x = a ∧ y = q') (hs : s = wrap64 (q + (l.length : Int)))
    (hp : p = (((a.toNat + tot l) % 40 : Nat) : Int)) : ∀ d i k : Nat, d + i = l.length → d < k → drydocklaw15_LogElder.l0 k l m e (tot (l.take i) : Int) (i : Int) a q p s a q' x y = some true
  | 0, i, k + 1, hi, _ => by
    have ht := tot_le l h20
    rw [drydocklaw15_LogElder.l0, if_neg (by omega), List.take_of_length_le (by omega)]
    have hw : wrap64 (a + (tot l : Int)) = ((a.toNat + tot l : Nat) : Int) := by unfold wrap64; omega
    have hf : (p == Int.tmod (wrap64 (a + (tot l : Int))) 40) = true := by
      rw [hw, hp, Int.tmod_eq_emod_of_nonneg (Int.natCast_nonneg _)]
      exact beq_iff_eq.2 (by omega)
    by_cases h0 : e = 0
    · obtain ⟨rfl, rfl, rfl⟩ := he h0
      rw [if_pos h0, if_pos (show (([] : List (List S50)).length : Int) = 0 from rfl), if_pos (by simp), if_pos hs, hf]
    · rw [if_neg h0, if_pos hs, hf]
  | d + 1, i, k + 1, hi, hk => by
    have ht := tot_le l h20
    have hil : i < l.length := by omega
    have hr : rd_L4 l (i : Int) = l[i] := by
      show l.getD (i : Int).toNat _ = _
      rw [Int.toNat_natCast, List.getD_eq_getElem?_getD, List.getElem?_eq_getElem hil]; rfl
    have h1 := h20 l[i] (List.getElem_mem hil)
    have h2 := tot_take l i hil
    have h3 : tot (l.take i) ≤ tot l := by
      have := tot_append (l.take i) (l.drop i)
      rw [List.take_append_drop] at this
      omega
    rw [drydocklaw15_LogElder.l0, if_pos (by omega), if_pos (by omega), hr,
      show wrap64 ((tot (l.take i) : Int) + wrap64 ((l[i].length : Int) + 2)) = (tot (l.take (i + 1)) : Int) from by
        rw [h2, show wrap64 ((l[i].length : Int) + 2) = (l[i].length : Int) + 2 from by unfold wrap64; omega]
        unfold wrap64; omega,
      show wrap64 ((i : Int) + 1) = ((i + 1 : Nat) : Int) from by unfold wrap64; omega]
    exact elder_loop h20 hl ha he hs hp d (i + 1) k (by omega) (by omega)
theorem awake_any (k : Nat) (hk : 60 < k) (b : Bool) : (if b = true then drydocklaw15_awake.f k else drydocklaw15_awake.f k) = some true := by
  rw [awake15_true k hk]; cases b <;> rfl
theorem elder_j (bl : List (List Int)) (hb : ∀ b ∈ bl, Bytes b) (a q : Int) (k : Nat) (hk : 2147484000 < k) (h : okF bl a q) (hne : (findI bl a q).1 ≠ []) :
    drydocklaw15_LogElder.j0 (k + 1) bl (findI bl a q).1 false a q (findI bl a q).2.1 (findI bl a q).2.2.1 = some true := by
  obtain ⟨ha, hq, hl, hB⟩ := h
  have hF : findI bl a q = fnd bl (1073741824 - q.toNat) [] a.toNat q := by unfold findI; rw [if_pos ⟨ha, hq, hl, hB⟩]
  obtain ⟨more, h1, h2, h3, h4, h5, h6, h7⟩ := fnd_facts bl (1073741824 - q.toNat) [] a.toNat q (by omega)
  rw [← hF] at h1 h2 h3 h4
  rw [List.nil_append] at h1
  rw [h1] at hne
  have ht := h7 hne
  have hw : wrap64 (q + 1) = q + 1 := by unfold wrap64; omega
  rw [drydocklaw15_LogElder.j0, if_neg (by decide), hw, find_eq hb a (q + 1) k (by omega), Option.bind_some, h1]
  have hE : (findI bl a (q + 1)).2.2.2 = 0 → (findI bl a (q + 1)).1 = [] ∧ (findI bl a (q + 1)).2.1 = a ∧ (findI bl a (q + 1)).2.2.1 = q + 1 := by
    by_cases hF2 : okF bl a (q + 1)
    · intro _
      have e : findI bl a (q + 1) = ([], (a.toNat : Int), q + 1, 0) := by
        unfold findI
        rw [if_pos hF2]
        cases hd : 1073741824 - (q + 1).toNat with
        | zero => rfl
        | succ d =>
          rw [fnd, if_neg]
          intro g
          have e1 := ht.2.1
          have e2 := g.2.1
          omega
      rw [e]
      exact ⟨rfl, by show (a.toNat : Int) = a; omega, rfl⟩
    · intro h
      have e : findI bl a (q + 1) = ([], 0, 0, 2) := by unfold findI; rw [if_neg hF2]
      rw [e] at h
      exact absurd h (by decide)
  have hlen : more.length ≤ 1073741824 := by omega
  have H := elder_loop (l := more) (m := (findI bl a (q + 1)).1) (e := (findI bl a (q + 1)).2.2.2) (a := a) (q := q) (p := (findI bl a q).2.1) (s := (findI bl a q).2.2.1) (q' := q + 1) (x := (findI bl a (q + 1)).2.1) (y := (findI bl a (q + 1)).2.2.1)
    h5 hlen ha hE (by rw [h3]; unfold wrap64; omega) h2 more.length 0 k (by omega) (by omega)
  exact H
theorem LogElder (bl : List (List Int)) (a q : Int) (hb : ∀ b ∈ bl, ∀ x ∈ b, (Lit.int .u8 x).wf = true) : ∃ k, drydocklaw15_LogElder.f k bl a q = some true := by
  have hb' : ∀ b ∈ bl, Bytes b := fun b h => bytes_wf (hb b h)
  refine ⟨2147484002, ?_⟩
  unfold drydocklaw15_LogElder.f
  rw [find_eq hb' a q _ (by omega), Option.bind_some, awake15_true _ (by omega), Option.bind_some, if_pos rfl]
  have jt : ∀ x5 x y z u v, drydocklaw15_LogElder.j0 2147484002 x5 x true y z u v = some true := fun x5 x y z u v => by
    rw [show (2147484002 : Nat) = 2147484001 + 1 from rfl, drydocklaw15_LogElder.j0, if_pos rfl, awake15_true _ (by omega)]; rfl
  by_cases h0 : (findI bl a q).2.2.2 = 0
  · rw [if_pos h0]
    by_cases hne : (findI bl a q).1 = []
    · rw [show (((findI bl a q).1.length : Int) == 0) = true from by rw [hne]; rfl]
      exact jt _ _ _ _ _ _
    · rw [show (((findI bl a q).1.length : Int) == 0) = false from by
        refine beq_eq_false_iff_ne.2 (fun g => hne (List.length_eq_zero_iff.1 (by omega)))]
      have hF : okF bl a q := by
        refine Classical.byContradiction fun g => ?_
        have e : findI bl a q = ([], 0, 0, 2) := by unfold findI; rw [if_neg g]
        rw [e] at h0
        exact absurd h0 (by decide)
      exact elder_j bl hb' a q 2147484001 (by omega) hF hne
  · rw [if_neg h0]
    exact jt _ _ _ _ _ _
end Go.Proofs.Ytefhjfaojbjjaaa.Pure
