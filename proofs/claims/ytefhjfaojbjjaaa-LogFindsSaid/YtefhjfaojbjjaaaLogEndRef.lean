/- What the reference's last blocks come to. -/
import Derived.Test.YtefhjfaojbjjaaaPAllx12
import Derived.Test.YtefhjfaojbjjaaaPAllx13
import Derived.Test.YtefhjfaojbjjaaaLogPure
import Derived.Test.YtefhjfaojbjjaaaBlockRef
namespace Go.Proofs.Ytefhjfaojbjjaaa.Pure
open Go Go.RowKit Go.Proofs.Ytefhjfaojbjjaaa.PAll Go.Proofs.YtefhjfaojbjjaaaW.PrintWords Go.Proofs.Ytefhjfaojbjjaaa.Spin Go.Proofs.Ytefhjfaojbjjaaa.Field Go.Proofs.Ytefhjfaojbjjaaa.Ref Go.Proofs.Ytefhjfaojbjjaaa.Log
set_option linter.unusedVariables false
set_option linter.unusedSimpArgs false

theorem rend_eq (a0 a1 : Int) (k : Nat) (hk : 20 < k) : drydockref15_End.f k a0 a1 = some (endI a0 a1) := by
  obtain ⟨k, rfl⟩ : ∃ j, k = j + 1 := ⟨k - 1, by omega⟩
  have jt : drydockref15_End.j0 (k + 1) a0 a1 true = some ([], 2) := by rw [drydockref15_End.j0, if_pos rfl]
  unfold drydockref15_End.f endI endB
  by_cases h1 : a0 < 1
  · rw [if_pos h1, jt, decide_eq_false (show ¬ 1 ≤ a0 by omega)]; rfl
  rw [if_neg h1, decide_eq_true (show 1 ≤ a0 by omega)]
  by_cases h2 : a0 > 1073741824
  · rw [if_pos h2, jt, decide_eq_false (show ¬ a0 ≤ 1073741824 by omega)]; rfl
  rw [if_neg h2, decide_eq_true (show a0 ≤ 1073741824 by omega)]
  by_cases h3 : a1 < 1
  · rw [if_pos h3, jt, decide_eq_false (show ¬ 1 ≤ a1 by omega)]; rfl
  rw [if_neg h3, decide_eq_true (show 1 ≤ a1 by omega)]
  by_cases h4 : a1 > 20
  · rw [decide_eq_true h4, jt, decide_eq_false (show ¬ a1 ≤ 20 by omega)]; rfl
  rw [decide_eq_false h4, decide_eq_true (show a1 ≤ 20 by omega), drydockref15_End.j0, if_neg (by decide)]
  have hbo : bytesOf (⟨#[68, 79, 78, 69]⟩ : ByteArray) = [68, 79, 78, 69] := rfl
  have p0 : drydockref04_Put.f k [68, 79, 78, 69] a0 4 = some ([68, 79, 78, 69] ++ leB a0 4) := put_eq k _ a0 4 (by omega) (by omega) (by omega) (by omega) (by simp)
  have p1 : drydockref04_Put.f k ([68, 79, 78, 69] ++ leB a0 4) a1 1 = some ([68, 79, 78, 69] ++ leB a0 4 ++ leB a1 1) := put_eq k _ a1 1 (by omega) (by omega) (by omega) (by omega) (by simp [leB_length])
  rw [Option.bind_some, if_pos (by decide), hbo, List.nil_append, p0, Option.bind_some, p1, Option.bind_some]
  have hsl : drydockref04_Seal.f ([68, 79, 78, 69] ++ leB a0 4 ++ leB a1 1) = some (sealI (endP a0 a1)) := by
    show sealAF _ = _
    rw [sealA_any ?_ (by simp [leB_length])]
    · rw [endP_eq]; rfl
    · refine bytes_append (bytes_append ?_ (leB_bytes _ _)) (leB_bytes _ _)
      intro x hx; simp only [List.mem_cons, List.not_mem_nil, or_false] at hx; omega
  rw [hsl]
  rfl
theorem rends_eq {l : List Int} (hl : Bytes l) (k : Nat) (hk : 50 ≤ k) : drydockref15_Ends.f k l = some (lastI l) := by
  obtain ⟨k, rfl⟩ : ∃ j, k = j + 5 := ⟨k - 5, by omega⟩
  unfold drydockref15_Ends.f lastI
  by_cases h64 : l.length = 64
  · obtain ⟨c1, c2⟩ := cnt_eq hl h64
    have hN : drydockref04_Num.f (k + 5) l 4 4 = some (numI l 4 4) := refNum4 hl k 4 (by omega) (by omega)
    rw [if_pos (by omega), hN, Option.bind_some, if_pos (by omega), c2, rend_eq _ _ _ (by omega), Option.bind_some]
    unfold endI
    by_cases hB : endB (numI l 4 4) (cntI l : Int) = true
    · rw [if_pos hB, if_pos rfl]
      by_cases e : sealI (endP (numI l 4 4) (cntI l : Int)) = l
      · rw [if_pos ((strOf_inj (sealI_bytes (endP_bytes _ _)) hl).2 e), if_pos (show okE l from ⟨h64, hB, e⟩)]
        rfl
      · rw [if_neg (fun g => e ((strOf_inj (sealI_bytes (endP_bytes _ _)) hl).1 g)), if_neg (fun g : okE l => e g.2.2)]
    · rw [if_neg hB, if_neg (by decide), if_neg (fun g : okE l => hB g.2.1)]
  · rw [if_neg (by omega), if_neg (fun g : okE l => h64 g.1)]
end Go.Proofs.Ytefhjfaojbjjaaa.Pure
