/- What layer 10's Remove comes to, the program's and the reference's. -/
import Derived.Test.YtnccbebjligpdaaPAllx9
import Derived.Test.YtnccbebjligpdaaPAllx13
import Derived.Test.YtnccbebjligpdaaEntrySame
namespace Go.Proofs.Ytnccbebjligpdaa.Pure
open Go Go.RowKit Go.Proofs.Ytnccbebjligpdaa.PAll Go.Proofs.YtnccbebjligpdaaW.PrintWords Go.Proofs.Ytnccbebjligpdaa.PathLaw Go.Proofs.Ytnccbebjligpdaa.Spin Go.Proofs.Ytnccbebjligpdaa.Field Go.Proofs.Ytnccbebjligpdaa.Text Go.Proofs.Ytnccbebjligpdaa.Ref
set_option linter.unusedVariables false
set_option linter.unusedSimpArgs false

theorem clone_loop (l : List (List S41)) (hn : l.length ≤ 1000) (h3 : ∀ b ∈ l, b.length ≤ 5) : ∀ d i k : Nat, d + i = l.length → d < k → entry_clone.l0 k (l.take i) l (l.length : Int) (i : Int) = some l
  | 0, i, k + 1, hi, _ => by
    rw [entry_clone.l0, if_neg (by omega), List.take_of_length_le (by omega)]
  | d + 1, i, k + 1, hi, hk => by
    have hlt : i < l.length := by omega
    have hm : l[i].length ≤ 5 := h3 _ (List.getElem_mem hlt)
    have hc : api_Entry_56.f l[i] = some l[i] := by unfold api_Entry_56.f; rw [if_pos (by omega)]
    rw [entry_clone.l0, if_pos (by omega), if_pos (by omega), if_pos (by omega), getL_nat l i hlt, hc, Option.bind_some, if_pos (by rw [List.length_take]; omega), show wrap64 ((i : Int) + 1) = ((i + 1 : Nat) : Int) from by unfold wrap64; omega, ← List.take_succ_eq_append_getElem hlt]
    exact clone_loop l hn h3 d (i + 1) k (by omega) (by omega)
theorem clone_eq (l : List (List S41)) (hn : l.length ≤ 1000) (h3 : ∀ b ∈ l, b.length ≤ 5) (k : Nat) (hk : l.length < k) : entry_clone.f k l = some l := clone_loop l hn h3 l.length 0 k (by omega) (by omega)
theorem copy_loop (l : List (List S41)) (hn : l.length ≤ 1000) (h3 : ∀ b ∈ l, b.length ≤ 5) : ∀ d i k : Nat, d + i = l.length → d < k → drydockref10_Copy.l0 k l (l.take i) (i : Int) = some l
  | 0, i, k + 1, hi, _ => by
    rw [drydockref10_Copy.l0, if_neg (by omega), List.take_of_length_le (by omega)]
  | d + 1, i, k + 1, hi, hk => by
    have hlt : i < l.length := by omega
    have hm : l[i].length ≤ 5 := h3 _ (List.getElem_mem hlt)
    rw [drydockref10_Copy.l0, if_pos (by omega), Option.bind_some, if_pos (by omega), getL_nat l i hlt, if_pos (by rw [List.length_nil]; omega), if_pos (by rw [List.length_take]; omega), show wrap64 ((i : Int) + 1) = ((i + 1 : Nat) : Int) from by unfold wrap64; omega, List.nil_append, ← List.take_succ_eq_append_getElem hlt]
    exact copy_loop l hn h3 d (i + 1) k (by omega) (by omega)
theorem copy_eq (l : List (List S41)) (hn : l.length ≤ 1000) (h3 : ∀ b ∈ l, b.length ≤ 5) (k : Nat) (hk : l.length < k) : drydockref10_Copy.f k l = some l := copy_loop l hn h3 l.length 0 k (by omega) (by omega)
theorem idx_some {n : ByteArray} {b : List S41} {j : Nat} (h : entry_find.idx n b = some j) : ∃ hj : j < b.length, b[j].f1.toList = n.toList := by
  unfold entry_find.idx at h
  rw [List.findIdx?_eq_some_iff_getElem] at h
  exact ⟨h.1, beq_iff_eq.1 h.2.1⟩
theorem go_spec (n : ByteArray) : ∀ (l : List (List S41)) (s : Nat) (a b : Int), entry_find.go n l s = (a, b, true) → ∃ i j : Nat, a = ((s + i : Nat) : Int) ∧ b = (j : Int) ∧ ∃ hi : i < l.length, j < l[i].length
  | [], s, a, b, h => by
    unfold entry_find.go at h
    have : false = true := congrArg (fun z => z.2.2) h
    exact absurd this (by decide)
  | r :: l, s, a, b, h => by
    unfold entry_find.go at h
    cases hq : entry_find.idx n r with
    | some j =>
      rw [hq] at h
      have h1 : ((s : Int), (j : Int), true) = (a, b, true) := h
      simp only [Prod.mk.injEq, and_true] at h1
      obtain ⟨hj, _⟩ := idx_some hq
      exact ⟨0, j, by omega, h1.2.symm, Nat.succ_pos _, hj⟩
    | none =>
      rw [hq] at h
      obtain ⟨i, j, e1, e2, hi, hj⟩ := go_spec n l (s + 1) a b h
      exact ⟨i + 1, j, by omega, e2, Nat.succ_lt_succ hi, hj⟩
/-- What is there without a name. -/
def remR (l : List (List S41)) (i j : Nat) : List (List S41) := l.set i ((l.getD i []).eraseIdx j)
def remI (l : List (List S41)) (n : ByteArray) : List (List S41) × Int × Int := if chk l ⟨0, n⟩ = 0 then (if (entry_find.go n l 0).2.2 = true then (remR l (entry_find.go n l 0).1.toNat (entry_find.go n l 0).2.1.toNat, (entry_find.go n l 0).1, 0) else ([], 0, 4)) else ([], 0, chk l ⟨0, n⟩)
theorem getD_at (l : List (List S41)) (i : Nat) (h : i < l.length) : l.getD i [] = l[i] := by
  rw [List.getD_eq_getElem?_getD, List.getElem?_eq_getElem h]; rfl
theorem rem_eq (l : List (List S41)) (n : ByteArray) (hs : ∀ b ∈ l, ∀ x ∈ b, x.f1.size ≤ maxLen) (k : Nat) (hk : 100 < k) : entry_Remove.f k l n = some (remI l n) := by
  unfold entry_Remove.f remI
  rw [check_eq l ⟨0, n⟩ hs, Option.bind_some]
  by_cases hc : chk l ⟨0, n⟩ = 0
  · obtain ⟨h96, h3, hsnd, hr⟩ := chk_len hc
    have h5 : ∀ b ∈ l, b.length ≤ 5 := fun b hb => by have := h3 b hb; omega
    rw [if_pos hc, if_pos hc]
    unfold entry_find.f
    rw [Option.bind_some]
    obtain ⟨⟨a, b, f⟩, hg⟩ : ∃ r, entry_find.go n l 0 = r := ⟨_, rfl⟩
    rw [hg]
    cases f with
    | false =>
      dsimp only
      rw [if_neg (by decide), if_neg (by decide)]
    | true =>
      obtain ⟨i, j, e1, e2, hi, hj⟩ := go_spec n l 0 a b hg
      rw [Nat.zero_add] at e1
      subst e1 e2
      have hrd : entry_sound.rdL l (i : Int) = l[i] := entry_sound.getD_nat l i hi
      dsimp only
      rw [if_pos rfl, if_pos rfl, clone_eq l (by omega) h5 k (by omega), Option.bind_some, hrd, if_pos ⟨⟨by omega, by omega⟩, by omega, by omega⟩, Int.toNat_natCast, Int.toNat_natCast]
      unfold remR
      rw [getD_at l i hi]
  · rw [if_neg hc, if_neg hc]
theorem rrem_eq (l : List (List S41)) (n : ByteArray) (C : Nat) (hC : 300 < C) (hx : n.size < C ∧ n.size ≤ 9223372036854775807) (hs : ∀ b ∈ l, ∀ x ∈ b, x.f1.size < C ∧ x.f1.size ≤ 9223372036854775807) (k : Nat) (hk : 600 + C ≤ k) : drydockref10_Remove.f k l n = some (remI l n) := by
  unfold drydockref10_Remove.f remI
  rw [rfind_eq l n C hC hx hs k hk, Option.bind_some]
  unfold findI
  by_cases hc : chk l ⟨0, n⟩ = 0
  · obtain ⟨h96, h3, hsnd, hr⟩ := chk_len hc
    have h5 : ∀ b ∈ l, b.length ≤ 5 := fun b hb => by have := h3 b hb; omega
    rw [if_pos hc, if_pos hc]
    unfold findM
    obtain ⟨⟨a, b, f⟩, hg⟩ : ∃ r, entry_find.go n l 0 = r := ⟨_, rfl⟩
    rw [hg]
    cases f with
    | false => rfl
    | true =>
      obtain ⟨i, j, e1, e2, hi, hj⟩ := go_spec n l 0 a b hg
      rw [Nat.zero_add] at e1
      subst e1 e2
      have hm : l[i].length ≤ 5 := h5 _ (List.getElem_mem hi)
      have ew : wrap64 ((j : Int) + 1) = ((j + 1 : Nat) : Int) := by unfold wrap64; omega
      dsimp only
      rw [if_pos rfl, if_pos rfl]
      dsimp only
      rw [if_pos rfl, copy_eq l (by omega) h5 k (by omega), Option.bind_some, Option.bind_some, if_pos (by omega), if_pos (by omega), if_pos (by omega), getL_nat l i hi, if_pos (by omega), Option.bind_some, if_pos (by rw [List.length_nil, List.length_take]; omega), Option.bind_some, ew, if_pos (by omega), if_pos (by omega), Option.bind_some, if_pos (by rw [List.nil_append, List.length_take, List.length_drop]; omega), List.nil_append, Int.toNat_natCast, Int.toNat_natCast, Int.toNat_natCast]
      unfold remR
      rw [getD_at l i hi, List.eraseIdx_eq_take_drop_succ]
  · rw [if_neg hc, if_neg hc]
    dsimp only
    rw [if_neg hc]
theorem remI_len (l : List (List S41)) (n : ByteArray) : (remI l n).1.length ≤ 97 ∧ ∀ b ∈ (remI l n).1, b.length ≤ 5 := by
  unfold remI
  split
  · rename_i hc
    obtain ⟨h96, h3, hsnd, hr⟩ := chk_len hc
    split
    · unfold remR
      refine ⟨by show (l.set _ _).length ≤ 97; rw [List.length_set]; omega, fun b hb => ?_⟩
      rcases List.mem_or_eq_of_mem_set hb with hb | rfl
      · have := h3 b hb; omega
      · have h1 := List.length_eraseIdx_le (l.getD (entry_find.go n l 0).1.toNat []) (entry_find.go n l 0).2.1.toNat
        have h2 : (l.getD (entry_find.go n l 0).1.toNat []).length ≤ 3 := by
          rw [List.getD_eq_getElem?_getD]
          cases h : l[(entry_find.go n l 0).1.toNat]? with
          | none => exact Nat.zero_le _
          | some b => exact h3 b (List.mem_of_getElem? h)
        omega
    · exact ⟨Nat.zero_le _, fun b hb => nomatch hb⟩
  · exact ⟨Nat.zero_le _, fun b hb => nomatch hb⟩
end Go.Proofs.Ytnccbebjligpdaa.Pure
