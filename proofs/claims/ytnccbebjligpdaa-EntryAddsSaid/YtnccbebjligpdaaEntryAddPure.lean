/- What layer 10's Add comes to, the program's and the reference's. -/
import Derived.Test.YtnccbebjligpdaaPAllx9
import Derived.Test.YtnccbebjligpdaaPAllx14
import Derived.Test.YtnccbebjligpdaaEntrySame
namespace Go.Proofs.Ytnccbebjligpdaa.Pure
open Go Go.RowKit Go.Proofs.Ytnccbebjligpdaa.PAll Go.Proofs.YtnccbebjligpdaaW.PrintWords Go.Proofs.Ytnccbebjligpdaa.PathLaw Go.Proofs.Ytnccbebjligpdaa.Spin Go.Proofs.Ytnccbebjligpdaa.Field Go.Proofs.Ytnccbebjligpdaa.Text Go.Proofs.Ytnccbebjligpdaa.Ref
set_option linter.unusedVariables false
set_option linter.unusedSimpArgs false

theorem clone_loop (l : List (List S41)) (hn : l.length ≤ 1000) (h3 : ∀ b ∈ l, b.length ≤ 5) : ∀ d i k : Nat, d + i = l.length → d < k → entry_clone.l0 k (l.take i) l (l.length : Int) (i : Int) = some l
  | 0, i, k + 1, hi, _ => by
    rw [entry_clone.l0, if_neg (by omega), List.take_of_length_le (by omega)]
  | d + 1, i, k + 1, hi, hk => by
    have hlt : i < l.length := by omega
    have hm : l[i].length ≤ 5 := h3 _ (List.getElem_mem hlt)
    have hc : api_Entry_56.f l[i] = some l[i] := by unfold api_Entry_56.f; rw [if_pos (by omega)]
    rw [entry_clone.l0, if_pos (by omega), if_pos (by omega), if_pos (by omega), getL_nat l i hlt, hc, Option.bind_some, if_pos (by rw [List.length_take]; omega), show wrap64 ((i : Int) + 1) = ((i + 1 : Nat) : Int) from by unfold wrap64; omega, ← List.take_succ_eq_append_getElem hlt]
    exact clone_loop l hn h3 d (i + 1) k (by omega) (by omega)
theorem clone_eq (l : List (List S41)) (hn : l.length ≤ 1000) (h3 : ∀ b ∈ l, b.length ≤ 5) (k : Nat) (hk : l.length < k) : entry_clone.f k l = some l := clone_loop l hn h3 l.length 0 k (by omega) (by omega)
theorem copy_loop (l : List (List S41)) (hn : l.length ≤ 1000) (h3 : ∀ b ∈ l, b.length ≤ 5) : ∀ d i k : Nat, d + i = l.length → d < k → drydockref10_Copy.l0 k l (l.take i) (i : Int) = some l
  | 0, i, k + 1, hi, _ => by
    rw [drydockref10_Copy.l0, if_neg (by omega), List.take_of_length_le (by omega)]
  | d + 1, i, k + 1, hi, hk => by
    have hlt : i < l.length := by omega
    have hm : l[i].length ≤ 5 := h3 _ (List.getElem_mem hlt)
    rw [drydockref10_Copy.l0, if_pos (by omega), Option.bind_some, if_pos (by omega), getL_nat l i hlt, if_pos (by rw [List.length_nil]; omega), if_pos (by rw [List.length_take]; omega), show wrap64 ((i : Int) + 1) = ((i + 1 : Nat) : Int) from by unfold wrap64; omega, List.nil_append, ← List.take_succ_eq_append_getElem hlt]
    exact copy_loop l hn h3 d (i + 1) k (by omega) (by omega)
theorem copy_eq (l : List (List S41)) (hn : l.length ≤ 1000) (h3 : ∀ b ∈ l, b.length ≤ 5) (k : Nat) (hk : l.length < k) : drydockref10_Copy.f k l = some l := copy_loop l hn h3 l.length 0 k (by omega) (by omega)
/-- The place of the first block that has room. -/
def roomI (l : List (List S41)) : Option Nat := l.findIdx? (fun b => decide (b.length < 3))
theorem room_hit {l : List (List S41)} {i : Nat} (h : i < l.length) (h2 : l[i].length < 3) (hm : ∀ j, (hj : j < l.length) → j < i → ¬ l[j].length < 3) : roomI l = some i := by
  unfold roomI
  rw [List.findIdx?_eq_some_iff_getElem]
  exact ⟨h, decide_eq_true h2, fun j hj => by rw [decide_eq_false (hm j (by omega) hj)]; decide⟩
theorem room_miss {l : List (List S41)} (hm : ∀ j, (hj : j < l.length) → ¬ l[j].length < 3) : roomI l = none := by
  unfold roomI
  rw [List.findIdx?_eq_none_iff]
  intro x hx
  obtain ⟨j, hj, rfl⟩ := List.mem_iff_getElem.1 hx
  exact decide_eq_false (hm j hj)
theorem room_some {l : List (List S41)} {i : Nat} (h : roomI l = some i) : ∃ hi : i < l.length, l[i].length < 3 := by
  unfold roomI at h
  rw [List.findIdx?_eq_some_iff_getElem] at h
  exact ⟨h.1, of_decide_eq_true h.2.1⟩
/-- Where an entry goes, and what is there then. -/
def addR (l : List (List S41)) (x : S41) : List (List S41) × Int × Int := match roomI l with
  | some k => (l.set k (l.getD k [] ++ [x]), (k : Int), 0)
  | none => if l.length = 96 then ([], 0, 11) else (l ++ [[x]], (l.length : Int), 0)
def addI (l : List (List S41)) (x : S41) : List (List S41) × Int × Int := if chk l x = 0 then (if (entry_find.go x.f1 l 0).2.2 = true then ([], 0, 5) else addR l x) else ([], 0, chk l x)
theorem getL_new (l : List (List S41)) (b : List S41) : rd_L4 (l ++ [b]) (l.length : Int) = b := by
  show (l ++ [b]).getD (l.length : Int).toNat _ = _
  rw [Int.toNat_natCast, List.getD_eq_getElem?_getD, List.getElem?_append_right (Nat.le_refl _), Nat.sub_self]; rfl
theorem set_new (l : List (List S41)) (b c : List S41) : (l ++ [b]).set l.length c = l ++ [c] := by
  rw [List.set_append_right _ _ (Nat.le_refl _), Nat.sub_self]; rfl
theorem getD_at (l : List (List S41)) (i : Nat) (h : i < l.length) : l.getD i [] = l[i] := by
  rw [List.getD_eq_getElem?_getD, List.getElem?_eq_getElem h]; rfl
theorem add_eq (l : List (List S41)) (x : S41) (hs : ∀ b ∈ l, ∀ x ∈ b, x.f1.size ≤ maxLen) (k : Nat) (hk : 100 < k) : entry_Add.f k l x.f0 x.f1 = some (addI l x) := by
  unfold entry_Add.f addI
  rw [check_eq l x hs, Option.bind_some]
  by_cases hc : chk l x = 0
  · obtain ⟨h96, h3, hsnd, hr⟩ := chk_len hc
    have h5 : ∀ b ∈ l, b.length ≤ 5 := fun b hb => by have := h3 b hb; omega
    obtain ⟨k, rfl⟩ : ∃ q, k = q + 1 := ⟨k - 1, by omega⟩
    rw [if_pos hc, if_pos hc]
    unfold entry_find.f
    rw [Option.bind_some]
    by_cases hf : (entry_find.go x.f1 l 0).2.2 = true
    · rw [if_pos hf, if_pos hf]
    · rw [if_neg hf, if_neg hf, clone_eq l (by omega) h5 (k + 1) (by omega), Option.bind_some]
      unfold api_Entry_40.f
      rw [Option.bind_some]
      unfold addR
      have hi : api_Entry_40.idx l = match roomI l with | some k => (k : Int) | none => -1 := rfl
      rw [hi]
      cases hq : roomI l with
      | some i =>
        obtain ⟨hil, hi3⟩ := room_some hq
        dsimp only
        rw [if_neg (by omega), entry_Add.j0, if_neg (by decide), if_neg (by omega), if_pos (by omega), if_pos (by omega), getL_nat l i hil, if_pos (by omega), Int.toNat_natCast, getD_at l i hil]
      | none =>
        dsimp only
        rw [if_pos (by omega), entry_Add.j0]
        by_cases h : l.length = 96
        · rw [if_pos (by rw [h]; rfl), if_pos h]
        · rw [if_neg (by rw [beq_eq_false_iff_ne.2 (show (l.length : Int) ≠ 96 by omega)]; decide), if_pos (by omega), if_pos (by omega), Option.bind_some, if_pos (by omega), if_pos (by rw [List.length_append, List.length_singleton]; omega), getL_new, if_pos (by rw [List.length_nil]; omega), Int.toNat_natCast, set_new, if_neg h, List.nil_append]
  · rw [if_neg hc, if_neg hc]
theorem radd_loop (l : List (List S41)) (x : S41) (hn : l.length ≤ 1000) (h3 : ∀ b ∈ l, b.length ≤ 5) : ∀ d i k : Nat, d + i = l.length → d < k → (∀ j, (hj : j < l.length) → j < i → ¬ l[j].length < 3) → drydockref10_Add.l0 k l (i : Int) x.f0 x.f1 = some (addR l x)
  | 0, i, k + 1, hi, _, hm => by
    have hq : roomI l = none := room_miss (fun j hj => hm j hj (by omega))
    unfold addR
    rw [hq, drydockref10_Add.l0, if_neg (by omega)]
    dsimp only
    by_cases h : l.length = 96
    · rw [if_pos (by omega), if_pos h]
    · rw [if_neg (by omega), if_neg h, if_pos (by omega)]
  | d + 1, i, k + 1, hi, hk, hm => by
    have hlt : i < l.length := by omega
    have hm5 : l[i].length ≤ 5 := h3 _ (List.getElem_mem hlt)
    rw [drydockref10_Add.l0, if_pos (by omega), if_pos (by omega), getL_nat l i hlt]
    by_cases h : l[i].length < 3
    · have hq : roomI l = some i := room_hit hlt h hm
      unfold addR
      rw [hq, if_pos (by omega), if_pos (by omega), Int.toNat_natCast]
      dsimp only
      rw [getD_at l i hlt]
    · rw [if_neg (by omega), show wrap64 ((i : Int) + 1) = ((i + 1 : Nat) : Int) from by unfold wrap64; omega]
      refine radd_loop l x hn h3 d (i + 1) k (by omega) (by omega) (fun j hj hji => ?_)
      by_cases e : j = i
      · subst e; exact h
      · exact hm j hj (by omega)
theorem rgt_name {x : S41} (h : rgt x = true) : rgt ⟨0, x.f1⟩ = true := by
  unfold rgt at h ⊢
  simp only [Bool.and_eq_true, decide_eq_true_eq] at h ⊢
  exact ⟨⟨by omega, by omega⟩, h.2⟩
theorem chk_name {l : List (List S41)} {x : S41} (h : chk l x = 0) : chk l ⟨0, x.f1⟩ = 0 := by
  obtain ⟨h96, h3, hsnd, hr⟩ := chk_len h
  unfold chk
  rw [if_pos (rgt_name hr), if_neg (by omega), if_pos hsnd]
theorem radd_eq (l : List (List S41)) (x : S41) (C : Nat) (hC : 300 < C) (hx : x.f1.size < C ∧ x.f1.size ≤ 9223372036854775807) (hs : ∀ b ∈ l, ∀ x ∈ b, x.f1.size < C ∧ x.f1.size ≤ 9223372036854775807) (k : Nat) (hk : 600 + C ≤ k) : drydockref10_Add.f k l x.f0 x.f1 = some (addI l x) := by
  unfold drydockref10_Add.f addI
  rw [rcheck_eq l x C hC hx hs k (by omega), Option.bind_some]
  by_cases hc : chk l x = 0
  · obtain ⟨h96, h3, hsnd, hr⟩ := chk_len hc
    have h5 : ∀ b ∈ l, b.length ≤ 5 := fun b hb => by have := h3 b hb; omega
    rw [if_pos hc, if_pos hc, rfind_eq l x.f1 C hC hx hs k hk, Option.bind_some]
    have hfi : findI l x.f1 = findM x.f1 l 0 := by
      unfold findI
      rw [if_pos (chk_name hc)]
    rw [hfi]
    unfold findM
    dsimp only
    by_cases hf : (entry_find.go x.f1 l 0).2.2 = true
    · rw [if_pos hf, if_pos hf]
      rfl
    · rw [if_neg hf, if_neg hf]
      dsimp only
      rw [if_neg (by decide), copy_eq l (by omega) h5 k (by omega), Option.bind_some]
      exact radd_loop l x (by omega) h5 l.length 0 k (by omega) (by omega) (fun j _ hj => absurd hj (Nat.not_lt_zero _))
  · rw [if_neg hc, if_neg hc]
theorem addI_len (l : List (List S41)) (x : S41) : (addI l x).1.length ≤ 97 ∧ ∀ b ∈ (addI l x).1, b.length ≤ 5 := by
  unfold addI
  split
  · rename_i hc
    obtain ⟨h96, h3, hsnd, hr⟩ := chk_len hc
    split
    · exact ⟨Nat.zero_le _, fun b hb => nomatch hb⟩
    · unfold addR
      cases hq : roomI l with
      | some i =>
        obtain ⟨hil, hi3⟩ := room_some hq
        refine ⟨by show (l.set _ _).length ≤ 97; rw [List.length_set]; omega, fun b hb => ?_⟩
        rcases List.mem_or_eq_of_mem_set hb with hb | rfl
        · have := h3 b hb; omega
        · rw [List.length_append, List.length_singleton, getD_at l i hil]; omega
      | none =>
        dsimp only
        split
        · exact ⟨Nat.zero_le _, fun b hb => nomatch hb⟩
        · refine ⟨by show (l ++ [[x]]).length ≤ 97; rw [List.length_append, List.length_singleton]; omega, fun b hb => ?_⟩
          rcases List.mem_append.1 hb with hb | hb
          · have := h3 b hb; omega
          · rw [List.mem_singleton.1 hb]; show 1 ≤ 5; decide
  · exact ⟨Nat.zero_le _, fun b hb => nomatch hb⟩
end Go.Proofs.Ytnccbebjligpdaa.Pure
