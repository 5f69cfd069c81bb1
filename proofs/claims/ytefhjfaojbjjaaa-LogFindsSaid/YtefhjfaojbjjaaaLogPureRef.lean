/- What layer 15's printed functions of the reference come to. -/
import Derived.Test.YtefhjfaojbjjaaaPAllx10
import Derived.Test.YtefhjfaojbjjaaaPAllx11
import Derived.Test.YtefhjfaojbjjaaaLogPure
import Derived.Test.YtefhjfaojbjjaaaBlockRef
namespace Go.Proofs.Ytefhjfaojbjjaaa.Pure
open Go Go.RowKit Go.Proofs.Ytefhjfaojbjjaaa.PAll Go.Proofs.YtefhjfaojbjjaaaW.PrintWords Go.Proofs.Ytefhjfaojbjjaaa.Spin Go.Proofs.Ytefhjfaojbjjaaa.Field Go.Proofs.Ytefhjfaojbjjaaa.Ref Go.Proofs.Ytefhjfaojbjjaaa.Log
set_option linter.unusedVariables false
set_option linter.unusedSimpArgs false

theorem rhome_eq (n : Int) : drydockref15_Home.f n = some (homeB n) := home_eq n
/-- Is a number among the first i? As the inner loop asks it, from place j on. -/
theorem rsound_l1 (a0 : Int) (l : List Int) (hl : l.length ≤ 20) (i : Nat) (hi : i < l.length) (R : Bool) (K : Nat) (next : ∀ k, K ≤ k → drydockref15_Sound.l0 k ((i + 1 : Nat) : Int) a0 l = some R) :
    ∀ d j k : Nat, d + j = i → K + d < k → drydockref15_Sound.l1 k (i : Int) (j : Int) a0 l = some (!((l.take i).drop j).contains l[i] && R)
  | 0, j, k + 1, hj, hk => by
    have hdr : (l.take i).drop j = [] := List.drop_of_length_le (by rw [List.length_take]; omega)
    rw [drydockref15_Sound.l1, if_neg (by omega), show wrap64 ((i : Int) + 1) = ((i + 1 : Nat) : Int) from by unfold wrap64; omega, next k (by omega), hdr]
    rfl
  | d + 1, j, k + 1, hj, hk => by
    have hjl : j < (l.take i).length := by rw [List.length_take]; omega
    rw [drydockref15_Sound.l1, if_pos (by omega), if_pos (by omega), if_pos (by omega), if_pos (by omega), if_pos (by omega), rdn l j (by omega), rdn l i hi, List.drop_eq_getElem_cons hjl, List.getElem_take]
    by_cases h : l[j] = l[i]
    · rw [if_pos h, List.contains_cons, h, beq_self_eq_true]
      rfl
    · rw [if_neg h, show wrap64 ((j : Int) + 1) = ((j + 1 : Nat) : Int) from by unfold wrap64; omega, rsound_l1 a0 l hl i hi R K next d (j + 1) k (by omega) (by omega), List.contains_cons, beq_eq_false_iff_ne.2 (fun e => h e.symm), Bool.false_or]
theorem rsound_loop (a0 : Int) (l : List Int) (hl : l.length ≤ 20) : ∀ d i : Nat, d + i = l.length → ∀ k, 40 * (d + 1) ≤ k → drydockref15_Sound.l0 k (i : Int) a0 l = some (sndFrom (l.take i) (l.drop i))
  | 0, i, hi => by
    intro k hk
    obtain ⟨k, rfl⟩ : ∃ j, k = j + 1 := ⟨k - 1, by omega⟩
    rw [drydockref15_Sound.l0, if_neg (by omega), List.drop_of_length_le (by omega)]
    rfl
  | d + 1, i, hi => by
    intro k hk
    obtain ⟨k, rfl⟩ : ∃ j, k = j + 1 := ⟨k - 1, by omega⟩
    have hil : i < l.length := by omega
    rw [drydockref15_Sound.l0, if_pos (by omega), if_pos (by omega), rdn l i hil, rhome_eq, Option.bind_some, List.drop_eq_getElem_cons hil, sndFrom]
    cases hb : homeB l[i] with
    | false => rw [if_neg (by decide)]; rfl
    | true =>
      have h := rsound_l1 a0 l hl i hil (sndFrom (l.take (i + 1)) (l.drop (i + 1))) (40 * (d + 1)) (fun k' hk' => rsound_loop a0 l hl d (i + 1) (by omega) k' hk') i 0 k (by omega) (by omega)
      rw [if_pos rfl, show (0 : Int) = ((0 : Nat) : Int) from rfl, h, List.drop_zero, List.take_succ_eq_append_getElem hil]
      rfl
theorem rsound_eq (a0 : Int) (l : List Int) (k : Nat) (hk : 900 ≤ k) : drydockref15_Sound.f k a0 l = some (sndB a0 l) := by
  obtain ⟨k, rfl⟩ : ∃ j, k = j + 1 := ⟨k - 1, by omega⟩
  have jt : drydockref15_Sound.j0 (k + 1) true a0 l = some false := by rw [drydockref15_Sound.j0, if_pos rfl]
  unfold drydockref15_Sound.f sndB
  by_cases h1 : (l.length : Int) < 1
  · rw [if_pos h1, jt, decide_eq_false (show ¬ 1 ≤ l.length by omega)]; simp
  rw [if_neg h1, decide_eq_true (show 1 ≤ l.length by omega)]
  by_cases h2 : (l.length : Int) > 20
  · rw [if_pos h2, jt, decide_eq_false (show ¬ l.length ≤ 20 by omega)]; simp
  rw [if_neg h2, decide_eq_true (show l.length ≤ 20 by omega)]
  by_cases h3 : a0 < 1
  · rw [if_pos h3, jt, decide_eq_false (show ¬ 1 ≤ a0 by omega)]; simp
  rw [if_neg h3, decide_eq_true (show 1 ≤ a0 by omega)]
  by_cases h4 : a0 > 1073741824
  · rw [decide_eq_true h4, jt, decide_eq_false (show ¬ a0 ≤ 1073741824 by omega)]; simp
  rw [decide_eq_false h4, decide_eq_true (show a0 ≤ 1073741824 by omega), drydockref15_Sound.j0, if_neg (by decide), show (0 : Int) = ((0 : Nat) : Int) from rfl, rsound_loop a0 l (by omega) l.length 0 (by omega) k (by omega)]
  simp
/-! ### Begin -/
theorem rbegin_loop (a0 : Int) (l : List Int) (hl : l.length ≤ 20) (hx : ∀ x ∈ l, 0 ≤ x ∧ x < 480) (pre : List Int) (hp : pre.length = 10) : ∀ d i k : Nat, d + i = l.length → d + 10 < k → drydockref15_Begin.l0 k (pre ++ flat (l.take i)) (i : Int) a0 l = (drydockref04_Seal.f (pre ++ flat l)).bind fun t => some (t, 0)
  | 0, i, k + 1, hi, _ => by
    rw [drydockref15_Begin.l0, if_neg (by omega), List.take_of_length_le (by omega)]
  | d + 1, i, k + 1, hi, hk => by
    have hil : i < l.length := by omega
    have hxi := hx _ (List.getElem_mem hil)
    have hpt : drydockref04_Put.f k (pre ++ flat (l.take i)) l[i] 2 = some (pre ++ flat (l.take i) ++ leB l[i] 2) := put_eq k _ _ 2 (by omega) (by omega) (by omega) (by omega) (by rw [List.length_append, flat_length, List.length_take, hp]; omega)
    rw [drydockref15_Begin.l0, if_pos (by omega), if_pos (by omega), rdn l i hil, hpt, Option.bind_some, show wrap64 ((i : Int) + 1) = ((i + 1 : Nat) : Int) from by unfold wrap64; omega]
    have e : pre ++ flat (l.take i) ++ leB l[i] 2 = pre ++ flat (l.take (i + 1)) := by
      rw [List.take_succ_eq_append_getElem hil, flat_append, List.append_assoc]
      show _ = pre ++ (flat (l.take i) ++ (leB l[i] 2 ++ []))
      rw [List.append_nil]
    rw [e, rbegin_loop a0 l hl hx pre hp d (i + 1) k (by omega) (by omega)]
theorem rbegin_pad (a0 : Int) (l : List Int) (hl : l.length ≤ 20) : pad60 ([66, 69, 71, 78] ++ leB a0 4 ++ leB (l.length : Int) 2 ++ flat l) = (beginP a0 l).take 60 := by
  have hlen : ([66, 69, 71, 78] ++ leB a0 4 ++ leB (l.length : Int) 2 ++ flat l).length = 10 + 2 * l.length := by
    simp [leB_length, flat_length]; omega
  unfold pad60
  rw [hlen, beginP_eq a0 l hl, le_two (by omega) (by omega)]
  have e1 : [66, 69, 71, 78] ++ leB a0 4 ++ leB (l.length : Int) 1 ++ [0] ++ flat l ++ List.replicate (54 - 2 * l.length) 0 = ([66, 69, 71, 78] ++ leB a0 4 ++ (leB (l.length : Int) 1 ++ [0]) ++ flat l ++ List.replicate (60 - (10 + 2 * l.length)) 0) ++ List.replicate 4 0 := by
    rw [List.append_assoc _ (List.replicate (60 - (10 + 2 * l.length)) (0 : Int)) (List.replicate 4 0), List.replicate_append_replicate, show 60 - (10 + 2 * l.length) + 4 = 54 - 2 * l.length by omega]
    simp only [List.append_assoc]
  have e3 : ([66, 69, 71, 78] ++ leB a0 4 ++ (leB (l.length : Int) 1 ++ [0]) ++ flat l).length = 10 + 2 * l.length := by simp [leB_length, flat_length]; omega
  rw [e1]
  exact (List.take_append_of_le_length (by rw [List.length_append, List.length_replicate, e3]; omega)).symm
theorem rbegin_eq (a0 : Int) (l : List Int) (k : Nat) (hk : 900 ≤ k) : drydockref15_Begin.f k a0 l = some (beginI a0 l) := by
  unfold drydockref15_Begin.f beginI
  rw [rsound_eq a0 l k hk, Option.bind_some]
  cases hb : sndB a0 l with
  | false => rw [if_neg (by decide), if_neg (by decide)]
  | true =>
    obtain ⟨h1, h2, h3, h4, h5⟩ := sndB_facts hb
    have hbo : bytesOf (⟨#[66, 69, 71, 78]⟩ : ByteArray) = [66, 69, 71, 78] := rfl
    have p0 : drydockref04_Put.f k [66, 69, 71, 78] a0 4 = some ([66, 69, 71, 78] ++ leB a0 4) := put_eq k _ a0 4 (by omega) (by omega) (by omega) (by omega) (by simp)
    have p1 : drydockref04_Put.f k ([66, 69, 71, 78] ++ leB a0 4) (l.length : Int) 2 = some ([66, 69, 71, 78] ++ leB a0 4 ++ leB (l.length : Int) 2) := put_eq k _ (l.length : Int) 2 (by omega) (by omega) (by omega) (by omega) (by simp [leB_length])
    rw [if_pos rfl, if_pos rfl, Option.bind_some, if_pos (by decide), hbo, List.nil_append, p0, Option.bind_some, p1, Option.bind_some]
    have hpl : ([66, 69, 71, 78] ++ leB a0 4 ++ leB (l.length : Int) 2).length = 10 := by simp [leB_length]
    have h := rbegin_loop a0 l h5 (sndFrom_home h1) _ hpl l.length 0 k (by omega) (by omega)
    rw [List.take_zero, show flat [] = [] from rfl, List.append_nil] at h
    rw [show (0 : Int) = ((0 : Nat) : Int) from rfl, h]
    have hsl : drydockref04_Seal.f ([66, 69, 71, 78] ++ leB a0 4 ++ leB (l.length : Int) 2 ++ flat l) = some (sealI (beginP a0 l)) := by
      show sealAF _ = _
      rw [sealA_any ?_ (by rw [List.length_append, hpl, flat_length]; omega), rbegin_pad a0 l h5]
      · rfl
      · refine bytes_append (bytes_append (bytes_append ?_ (leB_bytes _ _)) (leB_bytes _ _)) (flat_bytes _)
        intro x hx; simp only [List.mem_cons, List.not_mem_nil, or_false] at hx; omega
    rw [hsl]
    rfl
/-! ### what a block is -/
theorem rbegins_loop {l : List Int} (hl : Bytes l) (h64 : l.length = 64) (h20 : cntI l ≤ 20) (s : Int) : ∀ d i k : Nat, d + i = cntI l → d + 950 < k → drydockref15_Begins.l0 k l (i : Int) s (numsI l i) = (some (beginI s (numsI l (cntI l)))).bind fun b => (if b.2 = 0 then (if (strOfNums b.1).toList = (strOfNums l).toList then (some (s, numsI l (cntI l), 0)) else (some (0, ([] : List Int), 2))) else (some (0, ([] : List Int), 2)))
  | 0, i, k + 1, hi, hk => by
    obtain ⟨c1, c2⟩ := cnt_eq hl h64
    obtain rfl : i = cntI l := by omega
    rw [drydockref15_Begins.l0, if_pos (by omega), c2, if_neg (by omega), rbegin_eq _ _ k (by omega)]
  | d + 1, i, k + 1, hi, hk => by
    obtain ⟨c1, c2⟩ := cnt_eq hl h64
    have e : wrap64 (10 + wrap64 (2 * (i : Int))) = ((10 + 2 * i : Nat) : Int) := by
      rw [show wrap64 (2 * (i : Int)) = 2 * (i : Int) from by unfold wrap64; omega]
      unfold wrap64; omega
    obtain ⟨k, rfl⟩ : ∃ j, k = j + 3 := ⟨k - 3, by omega⟩
    have hN : drydockref04_Num.f (k + 3) l ((10 + 2 * i : Nat) : Int) 2 = some (numI l (10 + 2 * i) 2) := refNum2 hl k (10 + 2 * i) (by omega) (by omega)
    rw [drydockref15_Begins.l0, if_pos (by omega), c2, if_pos (by omega), e, hN, Option.bind_some, if_pos (by rw [numsI_length]; omega), ← numsI_succ, show wrap64 ((i : Int) + 1) = ((i + 1 : Nat) : Int) from by unfold wrap64; omega]
    exact rbegins_loop hl h64 h20 s d (i + 1) (k + 3) (by omega) (by omega)
theorem rbegins_eq {l : List Int} (hl : Bytes l) (k : Nat) (hk : 1000 ≤ k) : drydockref15_Begins.f k l = some (begI l) := by
  obtain ⟨k, rfl⟩ : ∃ j, k = j + 1 + 5 := ⟨k - 6, by omega⟩
  have jt : drydockref15_Begins.j0 (k + 1 + 5) l true = some (0, [], 2) := by rw [show k + 1 + 5 = (k + 5) + 1 from by omega, drydockref15_Begins.j0, if_pos rfl]
  unfold drydockref15_Begins.f begI
  by_cases h64 : l.length = 64
  · obtain ⟨c1, c2⟩ := cnt_eq hl h64
    rw [if_pos (by omega), if_pos (by omega), c1]
    by_cases h20 : cntI l ≤ 20
    · have hN : drydockref04_Num.f (k + 5) l 4 4 = some (numI l 4 4) := refNum4 hl k 4 (by omega) (by omega)
      rw [decide_eq_false (by omega), show k + 1 + 5 = (k + 5) + 1 from by omega, drydockref15_Begins.j0, if_neg (by decide), hN, Option.bind_some]
      have h := rbegins_loop hl h64 h20 (numI l 4 4) (cntI l) 0 (k + 5) (by omega) (by omega)
      have h' : drydockref15_Begins.l0 (k + 5) l 0 (numI l 4 4) [] = _ := h
      rw [h', Option.bind_some]
      unfold beginI
      by_cases hB : sndB (numI l 4 4) (numsI l (cntI l)) = true
      · have hb := beginP_bytes (numI l 4 4) (numsI l (cntI l)) (by rw [numsI_length]; exact h20)
        rw [if_pos hB, if_pos rfl]
        by_cases e : sealI (beginP (numI l 4 4) (numsI l (cntI l))) = l
        · rw [if_pos ((strOf_inj (sealI_bytes hb) hl).2 e), if_pos (show okB l from ⟨h64, h20, hB, e⟩)]
        · rw [if_neg (fun g => e ((strOf_inj (sealI_bytes hb) hl).1 g)), if_neg (fun g : okB l => e g.2.2.2)]
      · rw [if_neg hB, if_neg (by decide), if_neg (fun g : okB l => hB g.2.2.1)]
    · rw [decide_eq_true (by omega), jt, if_neg (fun g : okB l => h20 g.2.1)]
  · rw [if_neg (by omega), jt, if_neg (fun g : okB l => h64 g.1)]
end Go.Proofs.Ytefhjfaojbjjaaa.Pure
