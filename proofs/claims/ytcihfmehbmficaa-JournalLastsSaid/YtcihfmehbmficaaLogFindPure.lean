/- What log.Find comes to. -/
import Derived.Test.YtcihfmehbmficaaPAllx5
import Derived.Test.YtcihfmehbmficaaLogPure
import Derived.Test.YtcihfmehbmficaaSuperLaw
namespace Go.Proofs.Ytcihfmehbmficaa.Pure
open Go Go.RowKit Go.Proofs.Ytcihfmehbmficaa.PAll Go.Proofs.YtcihfmehbmficaaW.PrintWords Go.Proofs.Ytcihfmehbmficaa.Spin Go.Proofs.Ytcihfmehbmficaa.Field Go.Proofs.Ytcihfmehbmficaa.Ref Go.Proofs.Ytcihfmehbmficaa.Log
set_option linter.unusedVariables false
set_option linter.unusedSimpArgs false

/-- How many writes the first block at a tells of. -/
def trN (bl : List (List Int)) (a : Nat) : Nat := cntI (log_Find.bk bl a)
/-- There is a whole transaction of number q at a. -/
def trB (bl : List (List Int)) (a : Nat) (q : Int) : Prop :=
  okB (log_Find.bk bl a) ∧ numI (log_Find.bk bl a) 4 4 = q ∧ okE (log_Find.bk bl (a + (trN bl a + 1))) ∧ numI (log_Find.bk bl (a + (trN bl a + 1))) 4 4 = q ∧ (cntI (log_Find.bk bl (a + (trN bl a + 1))) : Int) = (trN bl a : Int)
def trL (bl : List (List Int)) (a : Nat) : List S35 := log_Find.list bl a (numsI (log_Find.bk bl a) (trN bl a)) (trN bl a)
open Classical in
noncomputable def fnd (bl : List (List Int)) : Nat → List (List S35) → Nat → Int → List (List S35) × Int × Int × Int
  | 0, out, a, q => (out, (a : Int), q, 0)
  | d + 1, out, a, q => if trB bl a q then fnd bl d (out ++ [trL bl a]) ((a + trN bl a + 2) % 40) (q + 1) else (out, (a : Int), q, 0)
theorem bk_bytes {bl : List (List Int)} (hb : ∀ b ∈ bl, Bytes b) (a : Nat) : Bytes (log_Find.bk bl a) := by
  unfold log_Find.bk
  rw [List.getD_eq_getElem?_getD]
  cases h : bl[a % 40]? with
  | none => intro x hx; nomatch hx
  | some b => exact hb b (List.mem_of_getElem? h)
theorem fnd_l0 {bl : List (List Int)} (hb : ∀ b ∈ bl, Bytes b) : ∀ (d k : Nat) (out : List (List S35)) (a : Nat) (q : Int), (d : Int) + q = 1073741824 → 0 ≤ q → out.length ≤ q.toNat → d + 70 < k → log_Find.l0 k bl out a q = some (fnd bl d out a q)
  | d, 0, _, _, _, _, _, _, hk => by omega
  | 0, k + 1, out, a, q, hq, h0, ho, hk => by
    rw [log_Find.l0, if_pos (by omega), fnd]
  | d + 1, k + 1, out, a, q, hq, h0, ho, hk => by
    rw [log_Find.l0, if_neg (by omega), begins_eq (bk_bytes hb a) k (by omega), Option.bind_some, fnd]
    by_cases h1 : okB (log_Find.bk bl a)
    · have hB : begI (log_Find.bk bl a) = (numI (log_Find.bk bl a) 4 4, numsI (log_Find.bk bl a) (trN bl a), 0) := by unfold begI; rw [if_pos h1]; rfl
      rw [hB]
      dsimp only
      by_cases h2 : numI (log_Find.bk bl a) 4 4 = q
      · have hn : (numsI (log_Find.bk bl a) (trN bl a)).length = trN bl a := numsI_length _ _
        have h20 : trN bl a ≤ 20 := h1.2.1
        rw [if_pos ⟨rfl, h2⟩, hn, if_pos h20, ends_eq (bk_bytes hb _), Option.bind_some]
        by_cases h3 : okE (log_Find.bk bl (a + (trN bl a + 1)))
        · have hE : lastI (log_Find.bk bl (a + (trN bl a + 1))) = (numI (log_Find.bk bl (a + (trN bl a + 1))) 4 4, (cntI (log_Find.bk bl (a + (trN bl a + 1))) : Int), 0) := by unfold lastI; rw [if_pos h3]
          rw [hE]
          dsimp only
          by_cases h4 : numI (log_Find.bk bl (a + (trN bl a + 1))) 4 4 = q ∧ (cntI (log_Find.bk bl (a + (trN bl a + 1))) : Int) = (trN bl a : Int)
          · rw [if_pos ⟨rfl, h4⟩, if_pos (by omega), if_pos (show trB bl a q from ⟨h1, h2, h3, h4⟩)]
            exact fnd_l0 hb d k _ _ _ (by omega) (by omega) (by rw [List.length_append, List.length_singleton]; omega) (by omega)
          · rw [if_neg (fun g => h4 g.2), if_neg (fun g : trB bl a q => h4 g.2.2.2)]
        · rw [lastI_no h3]
          dsimp only
          rw [if_neg (fun g => absurd g.1 (by decide)), if_neg (fun g : trB bl a q => h3 g.2.2.1)]
      · rw [if_neg (fun g => h2 g.2), if_neg (fun g : trB bl a q => h2 g.2.1)]
    · rw [begI_no h1]
      dsimp only
      rw [if_neg (fun g => absurd g.1 (by decide)), if_neg (fun g : trB bl a q => h1 g.1)]
/-- How many blocks transactions take. -/
def tot : List (List S35) → Nat
  | [] => 0
  | x :: l => x.length + 2 + tot l
theorem tot_append (a b : List (List S35)) : tot (a ++ b) = tot a + tot b := by
  induction a with
  | nil => simp [tot]
  | cons x l ih => simp only [List.cons_append, tot, ih]; omega
theorem trL_length (bl : List (List Int)) (a : Nat) : (trL bl a).length = trN bl a := by simp [trL, log_Find.list]
theorem fnd_facts (bl : List (List Int)) : ∀ (d : Nat) (out : List (List S35)) (a : Nat) (q : Int), a < 40 → ∃ more, (fnd bl d out a q).1 = out ++ more ∧ (fnd bl d out a q).2.1 = (((a + tot more) % 40 : Nat) : Int) ∧ (fnd bl d out a q).2.2.1 = q + (more.length : Int) ∧ (fnd bl d out a q).2.2.2 = 0 ∧ (∀ x ∈ more, x.length ≤ 20) ∧ more.length ≤ d ∧ (more ≠ [] → trB bl a q)
  | 0, out, a, q, ha => ⟨[], by simp [fnd], by simp only [fnd, tot]; omega, by simp [fnd], rfl, (fun x h => nomatch h), Nat.le_refl _, fun h => absurd rfl h⟩
  | d + 1, out, a, q, ha => by
    rw [fnd]
    by_cases h : trB bl a q
    · rw [if_pos h]
      obtain ⟨more, h1, h2, h3, h4, h5, h6, _⟩ := fnd_facts bl d (out ++ [trL bl a]) ((a + trN bl a + 2) % 40) (q + 1) (by omega)
      refine ⟨trL bl a :: more, by rw [h1]; simp, ?_, ?_, h4, ?_, by rw [List.length_cons]; omega, fun _ => h⟩
      · rw [h2, tot, trL_length]
        omega
      · rw [h3, List.length_cons]; omega
      · intro x hx
        rcases List.mem_cons.1 hx with rfl | hx
        · rw [trL_length]; exact h.1.2.1
        · exact h5 x hx
    · rw [if_neg h]
      exact ⟨[], by simp, by simp only [tot]; omega, by simp, rfl, (fun x h => nomatch h), Nat.zero_le _, fun h => absurd rfl h⟩
/-- What log.Find answers. -/
def okF (bl : List (List Int)) (a q : Int) : Prop := (0 ≤ a ∧ a < 40) ∧ (1 ≤ q ∧ q ≤ 1073741824) ∧ bl.length = 40 ∧ log_Find.badB bl = false
open Classical in
noncomputable def findI (bl : List (List Int)) (a q : Int) : List (List S35) × Int × Int × Int := if okF bl a q then fnd bl (1073741824 - q.toNat) [] a.toNat q else ([], 0, 0, 2)
theorem find_eq {bl : List (List Int)} (hb : ∀ b ∈ bl, Bytes b) (a q : Int) (k : Nat) (hk : 1073742000 < k) : log_Find.f k bl a q = some (findI bl a q) := by
  unfold log_Find.f findI
  rw [Super.headF_eq, Option.bind_some]
  by_cases hh : Super.headB a q = true
  · have hr := hh
    simp only [Super.headB, Super.inB, Bool.and_eq_true, decide_eq_true_eq] at hr
    rw [if_pos hh]
    dsimp only
    rw [if_pos ⟨rfl, by omega, by omega⟩]
    by_cases hl : bl.length = 40 ∧ log_Find.badB bl = false
    · rw [if_pos hl, if_pos (show okF bl a q from ⟨by omega, by omega, hl⟩)]
      exact fnd_l0 hb _ k [] _ _ (by omega) (by omega) (by simp) (by omega)
    · rw [if_neg hl, if_neg (fun g : okF bl a q => hl g.2.2)]
  · rw [if_neg hh]
    dsimp only
    rw [if_neg (fun g => absurd g.1 (by decide)), if_neg (by decide), if_neg (fun g : okF bl a q => hh (by
      obtain ⟨⟨g1, g2⟩, ⟨g3, g4⟩, _⟩ := g
      simp only [Super.headB, Super.inB, Bool.and_eq_true, decide_eq_true_eq]
      omega))]
end Go.Proofs.Ytcihfmehbmficaa.Pure
