/- For every blocks and every name: the program and the reference remove it alike. Conditions: none beyond the form's own. -/
import Derived.Test.YtnccbebjligpdaaPAllx14
import Derived.Test.YtnccbebjligpdaaEntryRemPure
namespace Go.Proofs.Ytnccbebjligpdaa.Pure
open Go Go.RowKit Go.Proofs.Ytnccbebjligpdaa.PAll Go.Proofs.YtnccbebjligpdaaW.PrintWords Go.Proofs.Ytnccbebjligpdaa.PathLaw
set_option linter.unusedVariables false

/-- A bound of the names' sizes. -/
def big (l : List (List S41)) : Nat := (l.flatten.map (·.f1.size)).sum
theorem le_sum : ∀ (l : List Nat) (x : Nat), x ∈ l → x ≤ l.sum
  | a :: r, x, h => by
    rw [List.sum_cons]
    rcases List.mem_cons.1 h with rfl | h
    · omega
    · have := le_sum r x h; omega
theorem big_of {l : List (List S41)} {b : List S41} {x : S41} (hb : b ∈ l) (hx : x ∈ b) : x.f1.size ≤ big l := le_sum _ _ (List.mem_map.2 ⟨x, List.mem_flatten.2 ⟨b, hb, hx⟩, rfl⟩)
theorem rems_same (l : List (List S41)) (n : ByteArray) (hs : ∀ b ∈ l, ∀ x ∈ b, x.f1.size ≤ maxLen) (hn : n.size ≤ maxLen) (C : Nat) (hC : 300 < C) (hb : big l < C) (hnC : n.size < C) (k : Nat) (hk : 1000 + C ≤ k) :
    entry_Remove.f k l n = some (remI l n) ∧ drydockref10_Remove.f k l n = some (remI l n) ∧ drydockref10_Same.f k (remI l n).1 (remI l n).1 = some true :=
  have hm : maxLen = 9223372036854775807 := rfl
  have hl := remI_len l n
  ⟨rem_eq l n hs k (by omega), rrem_eq l n C hC ⟨hnC, by omega⟩ (fun b hb2 x hx => ⟨by have := big_of hb2 hx; omega, by have := hs b hb2 x hx; omega⟩) k (by omega), same_refl _ (by omega) hl.2 k (by omega)⟩
theorem EntryRemoves (l : List (List S41)) (n : ByteArray) (hs : ∀ b ∈ l, ∀ x ∈ b, x.f1.size ≤ maxLen) (hn : n.size ≤ maxLen) : ∃ k, drydocklaw10_EntryRemoves.f k l n = some true := by
  refine ⟨3000 + n.size + big l + big (l.take 120), ?_⟩
  unfold drydocklaw10_EntryRemoves.f
  by_cases h : (l.length : Int) > 120
  · obtain ⟨e1, e2, e3⟩ := rems_same (l.take 120) n (fun b hb => hs b (List.mem_of_mem_take hb)) hn (400 + n.size + big (l.take 120)) (by omega) (by omega) (by omega) (3000 + n.size + big l + big (l.take 120)) (by omega)
    rw [if_pos h, if_pos (by omega), Option.bind_some, e1, Option.bind_some, e2, Option.bind_some, awake10_true _ (by omega), Option.bind_some, if_pos rfl, if_pos rfl, if_pos rfl, e3, Option.bind_some]
  · obtain ⟨e1, e2, e3⟩ := rems_same l n hs hn (400 + n.size + big l) (by omega) (by omega) (by omega) (3000 + n.size + big l + big (l.take 120)) (by omega)
    rw [if_neg h, e1, Option.bind_some, e2, Option.bind_some, awake10_true _ (by omega), Option.bind_some, if_pos rfl, if_pos rfl, if_pos rfl, e3, Option.bind_some]
end Go.Proofs.Ytnccbebjligpdaa.Pure
