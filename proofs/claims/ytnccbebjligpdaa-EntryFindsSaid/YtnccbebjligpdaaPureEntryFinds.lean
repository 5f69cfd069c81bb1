/- For every blocks and every text: the program and the reference say alike where the name is. Conditions: none beyond the form's own. -/
import Derived.Test.YtnccbebjligpdaaPAllx13
import Derived.Test.YtnccbebjligpdaaEntryBytes
namespace Go.Proofs.Ytnccbebjligpdaa.Pure
open Go Go.RowKit Go.Proofs.Ytnccbebjligpdaa.PAll Go.Proofs.YtnccbebjligpdaaW.PrintWords Go.Proofs.Ytnccbebjligpdaa.PathLaw
set_option linter.unusedVariables false

/-- A bound of the names' sizes. -/
def big (l : List (List S41)) : Nat := (l.flatten.map (·.f1.size)).sum
theorem le_sum : ∀ (l : List Nat) (x : Nat), x ∈ l → x ≤ l.sum
  | a :: r, x, h => by
    rw [List.sum_cons]
    rcases List.mem_cons.1 h with rfl | h
    · omega
    · have := le_sum r x h; omega
theorem big_of {l : List (List S41)} {b : List S41} {x : S41} (hb : b ∈ l) (hx : x ∈ b) : x.f1.size ≤ big l := le_sum _ _ (List.mem_map.2 ⟨x, List.mem_flatten.2 ⟨b, hb, hx⟩, rfl⟩)
theorem finds_same (l : List (List S41)) (n : ByteArray) (hs : ∀ b ∈ l, ∀ x ∈ b, x.f1.size ≤ maxLen) (hn : n.size ≤ maxLen) (C : Nat) (hC : 300 < C) (hb : big l < C) (hnC : n.size < C) (k : Nat) (hk : 600 + C ≤ k) :
    entry_Find.f l n = some (findI l n) ∧ drydockref10_Find.f k l n = some (findI l n) :=
  have hm : maxLen = 9223372036854775807 := rfl
  ⟨find_eq l n hs, rfind_eq l n C hC ⟨hnC, by omega⟩ (fun b hb2 x hx => ⟨by have := big_of hb2 hx; omega, by have := hs b hb2 x hx; omega⟩) k hk⟩
theorem EntryFinds (l : List (List S41)) (n : ByteArray) (hs : ∀ b ∈ l, ∀ x ∈ b, x.f1.size ≤ maxLen) (hn : n.size ≤ maxLen) : ∃ k, drydocklaw10_EntryFinds.f k l n = some true := by
  refine ⟨2000 + n.size + big l + big (l.take 120), ?_⟩
  unfold drydocklaw10_EntryFinds.f
  by_cases h : (l.length : Int) > 120
  · obtain ⟨e1, e2⟩ := finds_same (l.take 120) n (fun b hb => hs b (List.mem_of_mem_take hb)) hn (400 + n.size + big (l.take 120)) (by omega) (by omega) (by omega) (2000 + n.size + big l + big (l.take 120)) (by omega)
    rw [if_pos h, if_pos (by omega), Option.bind_some, e1, Option.bind_some, e2, Option.bind_some, awake10_true _ (by omega), Option.bind_some, if_pos rfl, if_pos rfl, if_pos rfl, beq_self_eq_true]
  · obtain ⟨e1, e2⟩ := finds_same l n hs hn (400 + n.size + big l) (by omega) (by omega) (by omega) (2000 + n.size + big l + big (l.take 120)) (by omega)
    rw [if_neg h, e1, Option.bind_some, e2, Option.bind_some, awake10_true _ (by omega), Option.bind_some, if_pos rfl, if_pos rfl, if_pos rfl, beq_self_eq_true]
end Go.Proofs.Ytnccbebjligpdaa.Pure
