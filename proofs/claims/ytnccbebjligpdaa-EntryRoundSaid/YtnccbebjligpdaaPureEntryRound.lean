/- For every entries and every bytes: what was written is read as it was, and the other way round. Conditions: none beyond the form's own. -/
import Derived.Test.YtnccbebjligpdaaPAllx8
import Derived.Test.YtnccbebjligpdaaEntrySame
namespace Go.Proofs.Ytnccbebjligpdaa.Pure
open Go Go.RowKit Go.Proofs.Ytnccbebjligpdaa.PAll Go.Proofs.YtnccbebjligpdaaW.PrintWords Go.Proofs.Ytnccbebjligpdaa.PathLaw Go.Proofs.Ytnccbebjligpdaa.Spin Go.Proofs.Ytnccbebjligpdaa.Field
set_option linter.unusedVariables false

theorem dec_good (b : List Int) (hb : Bytes b) (h : (decI b).2 = 0) : (∀ x ∈ (decI b).1, x.f1.size ≤ maxLen) ∧ encI (decI b).1 = (b, 0) := by
  unfold decI at h ⊢
  split
  · rename_i hc
    refine ⟨fun x hx => ?_, hc.2.2.2⟩
    unfold outsL at hx
    obtain ⟨i, hi, rfl⟩ := List.mem_map.1 hx
    have := List.mem_range.1 hi
    have h3 := hc.2.2.1
    have := ent_size b hb i (by have := hc.1; omega)
    have : maxLen = 9223372036854775807 := rfl
    omega
  · rename_i hc
    rw [if_neg hc] at h
    exact absurd h (by decide)
theorem round_tail (b : List Int) (hb : Bytes b) (k : Nat) (hk : 30 < k) : drydocklaw10_EntryRound.j0 k b = some true := by
  obtain ⟨k, rfl⟩ : ∃ q, k = q + 1 := ⟨k - 1, by omega⟩
  rw [drydocklaw10_EntryRound.j0, dec_eq b hb k (by omega), Option.bind_some]
  by_cases h : (decI b).2 = 0
  · obtain ⟨h1, h2⟩ := dec_good b hb h
    rw [if_pos h, enc_eq _ h1, Option.bind_some, h2, awake10_true _ (by omega), Option.bind_some, if_pos rfl, if_pos rfl, beq_self_eq_true]
  · rw [if_neg h, awake10_true _ (by omega), Option.bind_some]
theorem EntryRound (l : List S41) (b : List Int) (hs : ∀ x ∈ l, x.f1.size ≤ maxLen) (hw : ∀ x ∈ b, (Lit.int .u8 x).wf = true) : ∃ k, drydocklaw10_EntryRound.f k l b = some true := by
  have hb : Bytes b := bytes_wf hw
  refine ⟨100, ?_⟩
  unfold drydocklaw10_EntryRound.f
  rw [enc_eq l hs, Option.bind_some, round_tail b hb 100 (by omega)]
  unfold encI
  by_cases h : sndB [l] = true
  · obtain ⟨h3, hr⟩ := snd_facts h
    have hbt : Bytes (sealI (encL l)) := sealI_bytes (encL_bytes l h3 (fun x hx => by have := rgt_facts (hr x hx); omega))
    rw [if_pos h, if_pos rfl, dec_eq _ hbt 100 (by omega), Option.bind_some, dec_enc l h, if_pos rfl, same_refl [l] (by simp) (fun c hc => by rw [List.mem_singleton.1 hc]; omega) 100 (by simp), Option.bind_some, if_pos rfl]
  · rw [if_neg h, if_neg (by decide)]
end Go.Proofs.Ytnccbebjligpdaa.Pure
