/- Two lists of numbers compared. -/
import Derived.Test.YtefhjfaojbjjaaaPAllx6
import Derived.Test.YtefhjfaojbjjaaaLogPure
namespace Go.Proofs.Ytefhjfaojbjjaaa.Pure
open Go Go.RowKit Go.Proofs.Ytefhjfaojbjjaaa.PAll Go.Proofs.YtefhjfaojbjjaaaW.PrintWords Go.Proofs.Ytefhjfaojbjjaaa.Spin Go.Proofs.Ytefhjfaojbjjaaa.Field Go.Proofs.Ytefhjfaojbjjaaa.Ref Go.Proofs.Ytefhjfaojbjjaaa.Log
set_option linter.unusedVariables false
set_option linter.unusedSimpArgs false

theorem ints_loop (a b : List Int) (hab : a.length = b.length) (hs : a.length < 9223372036854775807) : ∀ d i k : Nat, d + i = a.length → d < k → drydocklaw15_ints.l0 k a b (i : Int) = some (decide (a.drop i = b.drop i))
  | 0, i, k + 1, hi, _ => by
    rw [drydocklaw15_ints.l0, if_neg (by omega), List.drop_of_length_le (by omega), List.drop_of_length_le (by omega)]
    rfl
  | d + 1, i, k + 1, hi, hk => by
    have ha : i < a.length := by omega
    have hb : i < b.length := by omega
    rw [drydocklaw15_ints.l0, if_pos (by omega), if_pos (by omega), if_pos (by omega), rdn a i ha, rdn b i hb, List.drop_eq_getElem_cons ha, List.drop_eq_getElem_cons hb]
    by_cases h : a[i] = b[i]
    · rw [if_pos (by rw [h]), show wrap64 ((i : Int) + 1) = ((i + 1 : Nat) : Int) from by unfold wrap64; omega, ints_loop a b hab hs d (i + 1) k (by omega) (by omega)]
      rw [h]
      exact congrArg some (decide_eq_decide.2 ⟨fun e => by rw [e], fun e => (List.cons.inj e).2⟩)
    · rw [if_neg h]
      exact congrArg some (decide_eq_false (fun e => h (List.cons.inj e).1)).symm
theorem ints_same (a : List Int) (hs : a.length < 9223372036854775807) (k : Nat) (hk : a.length < k) : drydocklaw15_ints.f k a a = some true := by
  unfold drydocklaw15_ints.f
  rw [if_pos rfl]
  have h := ints_loop a a rfl hs a.length 0 k (by omega) hk
  have h' : drydocklaw15_ints.l0 k a a 0 = _ := h
  rw [h', decide_eq_true rfl]
end Go.Proofs.Ytefhjfaojbjjaaa.Pure
