/- What layer 10's reference says of the same entries. -/
import Derived.Test.YtnccbebjligpdaaPAllx7
import Derived.Test.YtnccbebjligpdaaEntryBytes
namespace Go.Proofs.Ytnccbebjligpdaa.Pure
open Go Go.RowKit Go.Proofs.Ytnccbebjligpdaa.PAll Go.Proofs.YtnccbebjligpdaaW.PrintWords Go.Proofs.Ytnccbebjligpdaa.PathLaw Go.Proofs.Ytnccbebjligpdaa.Spin Go.Proofs.Ytnccbebjligpdaa.Field Go.Proofs.Ytnccbebjligpdaa.Text Go.Proofs.Ytnccbebjligpdaa.Ref
set_option linter.unusedVariables false
set_option linter.unusedSimpArgs false

/-! ### Same -/
theorem same_row (l : List (List S41)) (hn : l.length ≤ 1000) (i : Nat) (hi : i < l.length) (b : List S41) (hb : l[i] = b) (h3 : b.length ≤ 5)
    (F : Nat) (next : ∀ k, F ≤ k → drydockref10_Same.l0 k l l ((i + 1 : Nat) : Int) = some true) :
    ∀ (d j : Nat), d + j = b.length → ∀ (k : Nat), F + d + 1 ≤ k → drydockref10_Same.l1 k l l (i : Int) (j : Int) = some true
  | 0, j, hj => by
    intro k hk
    obtain ⟨k, rfl⟩ : ∃ q, k = q + 1 := ⟨k - 1, by omega⟩
    rw [drydockref10_Same.l1, if_pos (by omega), if_pos (by omega), getL_nat l i hi, hb, if_neg (by omega), show wrap64 ((i : Int) + 1) = ((i + 1 : Nat) : Int) from by unfold wrap64; omega, next k (by omega)]
  | d + 1, j, hj => by
    intro k hk
    obtain ⟨k, rfl⟩ : ∃ q, k = q + 1 := ⟨k - 1, by omega⟩
    have hlt : j < b.length := by omega
    rw [drydockref10_Same.l1, if_pos (by omega), if_pos (by omega), getL_nat l i hi, hb, if_pos (by omega), if_pos (by omega), if_pos (by omega), if_pos (by omega), beq_self_eq_true, beq_self_eq_true]
    rw [if_neg (by decide), show wrap64 ((j : Int) + 1) = ((j + 1 : Nat) : Int) from by unfold wrap64; omega]
    exact same_row l hn i hi b hb h3 F next d (j + 1) (by omega) k (by omega)
theorem same_loop (l : List (List S41)) (hn : l.length ≤ 1000) (h3 : ∀ b ∈ l, b.length ≤ 5) : ∀ (d i : Nat), d + i = l.length → ∀ (k : Nat), 7 * d + 1 ≤ k → drydockref10_Same.l0 k l l (i : Int) = some true
  | 0, i, hi => by
    intro k hk
    obtain ⟨k, rfl⟩ : ∃ q, k = q + 1 := ⟨k - 1, by omega⟩
    rw [drydockref10_Same.l0, if_neg (by omega)]
  | d + 1, i, hi => by
    intro k hk
    obtain ⟨k, rfl⟩ : ∃ q, k = q + 1 := ⟨k - 1, by omega⟩
    have hlt : i < l.length := by omega
    obtain ⟨b, hb⟩ : ∃ b, l[i] = b := ⟨_, rfl⟩
    have hm : b.length ≤ 5 := h3 b (hb ▸ List.getElem_mem hlt)
    rw [drydockref10_Same.l0, if_pos (by omega), if_pos (by omega), if_pos (by omega), if_pos rfl, show ((0 : Int)) = ((0 : Nat) : Int) from rfl]
    exact same_row l hn i hlt b hb hm (7 * d + 1) (fun k h => same_loop l hn h3 d (i + 1) (by omega) k h) b.length 0 (by omega) k (by omega)
theorem same_refl (l : List (List S41)) (hn : l.length ≤ 1000) (h3 : ∀ b ∈ l, b.length ≤ 5) (k : Nat) (hk : 7 * l.length + 1 ≤ k) : drydockref10_Same.f k l l = some true := by
  unfold drydockref10_Same.f
  rw [if_pos rfl]
  exact same_loop l hn h3 l.length 0 (by omega) k (by omega)
end Go.Proofs.Ytnccbebjligpdaa.Pure
