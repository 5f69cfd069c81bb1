/- What layer 10's reference comes to: Encode, Decode, Same. -/
import Derived.Test.YtnccbebjligpdaaPAllx10
import Derived.Test.YtnccbebjligpdaaPAllx11
import Derived.Test.YtnccbebjligpdaaPAllx6
import Derived.Test.YtnccbebjligpdaaEntryBytes
namespace Go.Proofs.Ytnccbebjligpdaa.Pure
open Go Go.RowKit Go.Proofs.Ytnccbebjligpdaa.PAll Go.Proofs.YtnccbebjligpdaaW.PrintWords Go.Proofs.Ytnccbebjligpdaa.PathLaw Go.Proofs.Ytnccbebjligpdaa.Spin Go.Proofs.Ytnccbebjligpdaa.Field Go.Proofs.Ytnccbebjligpdaa.Text Go.Proofs.Ytnccbebjligpdaa.Ref
set_option linter.unusedVariables false
set_option linter.unusedSimpArgs false

theorem pad60_bytes {l : List Int} (h : Bytes l) : Bytes (pad60 l) := bytes_take (bytes_append h (bytes_replicate _)) _
theorem sealA_any {l : List Int} (hb : Bytes l) (hl : l.length ≤ 60) : sealAF l = some (pad60 l ++ leB (sumI (pad60 l)) 4) := by
  unfold sealAF
  rw [if_pos (by omega), sum_I (pad60_bytes hb) (by rw [pad60_length]; omega)]
  rfl
theorem rbody_eq (l : List S41) : ref_Encode.body l l.length = [(l.length : Int), 0] ++ rowsL l := by
  unfold ref_Encode.body
  rw [List.take_length]
  rfl
theorem rbody_pad (l : List S41) (h3 : l.length ≤ 3) (h17 : ∀ x ∈ l, x.f1.size ≤ 17) : pad60 ([(l.length : Int), 0] ++ rowsL l) = (encL l).take 60 := by
  have hl : ([(l.length : Int), 0] ++ rowsL l).length = 2 + 19 * l.length := by
    rw [List.length_append, rowsL_length l h17]; simp
  unfold encL
  obtain ⟨A, hA⟩ : ∃ A, [(l.length : Int), 0] ++ rowsL l = A := ⟨_, rfl⟩
  rw [hA] at hl ⊢
  unfold pad60
  rw [List.take_append, List.take_append, hl, List.take_replicate, List.take_replicate, Nat.min_eq_left (by omega), Nat.min_eq_left (by omega)]
theorem rsealA (l : List S41) (h3 : l.length ≤ 3) (hb : ∀ x ∈ l, 0 ≤ x.f0 ∧ x.f0 < 256 ∧ x.f1.size ≤ 17) : drydockref04_Seal.f (ref_Encode.body l l.length) = some (sealI (encL l)) := by
  have h17 : ∀ x ∈ l, x.f1.size ≤ 17 := fun x hx => (hb x hx).2.2
  have hl : ([(l.length : Int), 0] ++ rowsL l).length = 2 + 19 * l.length := by
    rw [List.length_append, rowsL_length l h17]; simp
  have hbt : Bytes ([(l.length : Int), 0] ++ rowsL l) := by
    have h := encL_bytes l h3 hb
    unfold encL at h
    exact fun x hx => h x (List.mem_append_left _ hx)
  show sealAF (ref_Encode.body l l.length) = _
  rw [rbody_eq, sealA_any hbt (by omega), rbody_pad l h3 h17]
  rfl
theorem renc_eq (l : List S41) (C : Nat) (hC : 3 < C) (hs : ∀ x ∈ l, x.f1.size < C ∧ x.f1.size ≤ 9223372036854775807) (k : Nat) (hk : 10 + C ≤ k) : drydockref10_Encode.f k l = some (encI l) := by
  unfold drydockref10_Encode.f encI
  rw [rsound_eq [l] C (by simp) (by simpa using hC) (by simpa using hs) k (by simp; omega), Option.bind_some]
  by_cases h : sndB [l] = true
  · obtain ⟨h3, hr⟩ := snd_facts h
    have hb : ∀ x ∈ l, 0 ≤ x.f0 ∧ x.f0 < 256 ∧ x.f1.size ≤ 17 := fun x hx => by have := rgt_facts (hr x hx); omega
    rw [if_pos h, if_pos h, if_pos ⟨h3, fun x hx => by have := rgt_facts (hr x hx); omega⟩, rsealA l h3 hb, Option.bind_some]
  · rw [if_neg h, if_neg h]
/-! ### Decode -/
theorem size_back (l : List S41) (h3 : l.length ≤ 3) (h17 : ∀ x ∈ l, x.f1.size ≤ 17) (i : Nat) (hi : i < l.length) : rd (sealI (encL l)) ((3 + 19 * i : Nat) : Int) = (l[i].f1.size : Int) := by
  have h64 := encL_length l h3 h17
  have ht := sealI_take (encL l) h64
  have hA : ([(l.length : Int), 0] ++ rowsL (l.take i)).length = 2 + 19 * i := by
    rw [List.length_append, rowsL_length _ (fun y hy => h17 y (List.mem_of_mem_take hy)), List.length_take, Nat.min_eq_left (by omega)]
    simp
  have hsp := encL_split l i hi
  obtain ⟨A, hAe⟩ : ∃ A, [(l.length : Int), 0] ++ rowsL (l.take i) = A := ⟨_, rfl⟩
  rw [hAe] at hA hsp
  rw [← rd_take 60 _ (by omega), ht, rd_take 60 _ (by omega), hsp, ← List.singleton_append, ← List.append_assoc, rd_at _ _ _ _ (by rw [List.length_append, hA, List.length_singleton]; omega)]
theorem outs_length (b : List Int) (n : Nat) : (outsL b n).length = n := by unfold outsL; rw [List.length_map, List.length_range]
theorem enc_sizes (b : List Int) (n : Nat) (h : encI (outsL b n) = (b, 0)) : b = sealI b ∧ ∀ i, i < n → rd b ((3 + 19 * i : Nat) : Int) ≤ 17 := by
  unfold encI at h
  split at h
  · rename_i hs
    obtain ⟨h3, hr⟩ := snd_facts hs
    have h17 : ∀ x ∈ outsL b n, x.f1.size ≤ 17 := fun x hx => by have := rgt_facts (hr x hx); omega
    have hb : sealI (encL (outsL b n)) = b := congrArg Prod.fst h
    refine ⟨?_, fun i hi => ?_⟩
    · conv => lhs; rw [← hb]
      rw [sealI_sealed (encL_length _ h3 h17), hb]
    · have hl : i < (outsL b n).length := by rw [outs_length]; exact hi
      have e := size_back (outsL b n) h3 h17 i hl
      rw [hb] at e
      rw [e]
      have := h17 _ (List.getElem_mem hl)
      omega
  · have : (2 : Int) = 0 := congrArg Prod.snd h
    exact absurd this (by decide)
/-- The reference's end of Decode. -/
def rdecT (b : List Int) (n : Nat) : List S41 × Int := if encI (outsL b n) = (b, 0) then (outsL b n, 0) else ([], 2)
theorem rdec_tail (b : List Int) (hb : Bytes b) (n : Nat) (hn : n ≤ 3) (h64 : b.length = 64) (k : Nat) (hk : 30 ≤ k) :
    ((drydockref10_Encode.f k (outsL b n)).bind fun bt => (if bt.2 = 0 then (if (strOfNums bt.1).toList = (strOfNums b).toList then (some (outsL b n, (0 : Int))) else (some (([] : List S41), 2))) else (some (([] : List S41), 2)))) = some (rdecT b n) := by
  rw [renc_eq (outsL b n) 20 (by omega) (fun x hx => by
    unfold outsL at hx
    obtain ⟨i, hi, rfl⟩ := List.mem_map.1 hx
    have := List.mem_range.1 hi
    have := ent_size b hb i (by omega)
    omega) k (by omega), Option.bind_some]
  unfold rdecT
  by_cases he : (encI (outsL b n)).2 = 0
  · rw [if_pos he]
    by_cases hq : (encI (outsL b n)).1 = b
    · rw [if_pos ((strOf_inj (encI_bytes _) hb).2 hq), if_pos (Prod.ext hq he)]
    · rw [if_neg (fun g => hq ((strOf_inj (encI_bytes _) hb).1 g)), if_neg (fun g => hq (by rw [g]))]
  · rw [if_neg he, if_neg (fun g => he (by rw [g]))]
theorem wsm {n : Int} (h0 : 0 ≤ n) (h1 : n < 9223372036854775808) : wrap64 n = n := by unfold wrap64; omega
open Classical in
theorem rdec_loop (b : List Int) (hb : Bytes b) (h64 : b.length = 64) (n : Nat) (hn : n ≤ 3) (hn0 : rd b 0 = (n : Int)) : ∀ d i k : Nat, d + i = n → d + 40 ≤ k →
    drydockref10_Decode.l0 k b (outsL b i) (i : Int) = some (if ∀ j, i ≤ j → j < n → rd b ((3 + 19 * j : Nat) : Int) ≤ 17 then rdecT b n else ([], 2))
  | 0, i, k, hi, hk => by
    obtain ⟨k, rfl⟩ : ∃ q, k = q + 1 := ⟨k - 1, by omega⟩
    obtain rfl : i = n := by omega
    rw [drydockref10_Decode.l0, if_pos (by omega), hn0, if_neg (by unfold wrap64; omega), if_pos (fun j h1 h2 => absurd h2 (by omega))]
    exact rdec_tail b hb i hn h64 k (by omega)
  | d + 1, i, k, hi, hk => by
    obtain ⟨k, rfl⟩ : ∃ q, k = q + 1 := ⟨k - 1, by omega⟩
    have hq := rd_byte hb (3 + 19 * i) (by omega)
    have hq2 := rd_byte hb (2 + 19 * i) (by omega)
    have ih := rdec_loop b hb h64 n hn hn0 d (i + 1) k (by omega) (by omega)
    have e8 : outsL b (i + 1) = outsL b i ++ [entL b i] := by
      unfold outsL; rw [List.range_succ, List.map_append]; rfl
    rw [e8] at ih
    have hol := outs_length b i
    have hl0 : 0 < (b.length : Int) := by omega
    have hin : (i : Int) < (n : Int) := by omega
    have g1 : (0 : Int) ≤ ((3 + 19 * i : Nat) : Int) := by omega
    have g2 : ((3 + 19 * i : Nat) : Int) < (b.length : Int) := by omega
    have g3 : (0 : Int) ≤ ((2 + 19 * i : Nat) : Int) := by omega
    have g4 : ((2 + 19 * i : Nat) : Int) < (b.length : Int) := by omega
    have g5 : (0 : Int) ≤ ((4 + 19 * i : Nat) : Int) := by omega
    have g9 : (outsL b i).length < 5864062014805 := by omega
    rw [drydockref10_Decode.l0, if_pos hl0, hn0, wsm (n := (n : Int)) (by omega) (by omega), if_pos hin, wsm (n := 19 * (i : Int)) (by omega) (by omega), wsm (n := 2 + 19 * (i : Int)) (by omega) (by omega),
      wsm (n := 2 + 19 * (i : Int) + 1) (by omega) (by omega), wsm (n := 2 + 19 * (i : Int) + 2) (by omega) (by omega),
      show 2 + 19 * (i : Int) + 1 = ((3 + 19 * i : Nat) : Int) from by omega, show 2 + 19 * (i : Int) + 2 = ((4 + 19 * i : Nat) : Int) from by omega, show 2 + 19 * (i : Int) = ((2 + 19 * i : Nat) : Int) from by omega,
      wsm (n := rd b ((3 + 19 * i : Nat) : Int)) hq.1 (by omega), wsm (n := rd b ((2 + 19 * i : Nat) : Int)) hq2.1 (by omega), wsm (n := (i : Int) + 1) (by omega) (by omega), if_pos g1, if_pos g2]
    by_cases h17 : rd b ((3 + 19 * i : Nat) : Int) > 17
    · rw [if_pos h17, if_neg (fun g => by have := g i (Nat.le_refl _) (by omega); omega)]
    · have hm : mn (rd b ((3 + 19 * i : Nat) : Int)) 17 = rd b ((3 + 19 * i : Nat) : Int) := by unfold mn; split <;> omega
      have e6 : ((4 + 19 * i : Nat) : Int) + rd b ((3 + 19 * i : Nat) : Int) = ((4 + 19 * i + (mn (rd b ((3 + 19 * i : Nat) : Int)) 17).toNat : Nat) : Int) := by
        rw [hm]; omega
      have g6 : ((4 + 19 * i : Nat) : Int) ≤ ((4 + 19 * i + (mn (rd b ((3 + 19 * i : Nat) : Int)) 17).toNat : Nat) : Int) := by omega
      have g7 : ((4 + 19 * i + (mn (rd b ((3 + 19 * i : Nat) : Int)) 17).toNat : Nat) : Int) ≤ (b.length : Int) := by omega
      rw [if_neg h17, wsm (n := ((4 + 19 * i : Nat) : Int) + rd b ((3 + 19 * i : Nat) : Int)) (by omega) (by omega), e6, if_pos g3, if_pos g4, if_pos g5, if_pos g6, if_pos g7, if_pos g9, Int.toNat_natCast, Int.toNat_natCast]
      refine Eq.trans ih ?_
      congr 1
      by_cases g : ∀ j, i + 1 ≤ j → j < n → rd b ((3 + 19 * j : Nat) : Int) ≤ 17
      · rw [if_pos g, if_pos (fun j h1 h2 => by
          rcases Nat.eq_or_lt_of_le h1 with rfl | h1
          · omega
          · exact g j h1 h2)]
      · rw [if_neg g, if_neg (fun h => g (fun j h1 h2 => h j (by omega) h2))]
theorem rdec_eq (b : List Int) (hb : Bytes b) (k : Nat) (hk : 60 ≤ k) : drydockref10_Decode.f k b = some (decI b) := by
  unfold drydockref10_Decode.f decI
  obtain ⟨k, rfl⟩ : ∃ q, k = q + 1 := ⟨k - 1, by omega⟩
  by_cases h64 : b.length = 64
  · have h0 := rd_byte hb 0 (by omega)
    rw [show ((0 : Nat) : Int) = 0 from rfl] at h0
    rw [if_pos (by omega), if_pos (by omega), drydockref10_Decode.j0]
    by_cases h3 : rd b 0 ≤ 3
    · rw [decide_eq_false (by omega), if_neg (by decide)]
      have hl := rdec_loop b hb h64 (rd b 0).toNat (by omega) (by omega) (rd b 0).toNat 0 k (by omega) (by omega)
      have hl2 : drydockref10_Decode.l0 k b [] 0 = _ := hl
      rw [hl2]
      congr 1
      unfold rdecT
      by_cases he : encI (outsL b (rd b 0).toNat) = (b, 0)
      · obtain ⟨g1, g2⟩ := enc_sizes b _ he
        rw [if_pos (fun j _ h => g2 j h), if_pos he, if_pos ⟨h64, g1, h3, he⟩]
      · rw [if_neg he, ite_self, if_neg (fun g => he g.2.2.2)]
    · rw [decide_eq_true (by omega), if_pos rfl, if_neg (fun g => h3 g.2.2.1)]
  · rw [if_neg (by omega), drydockref10_Decode.j0, if_pos rfl, if_neg (fun g => h64 g.1)]
/-! ### Same -/
theorem same_row (l : List (List S41)) (hn : l.length ≤ 1000) (i : Nat) (hi : i < l.length) (b : List S41) (hb : l[i] = b) (h3 : b.length ≤ 5)
    (F : Nat) (next : ∀ k, F ≤ k → drydockref10_Same.l0 k l l ((i + 1 : Nat) : Int) = some true) :
    ∀ (d j : Nat), d + j = b.length → ∀ (k : Nat), F + d + 1 ≤ k → drydockref10_Same.l1 k l l (i : Int) (j : Int) = some true
  | 0, j, hj => by
    intro k hk
    obtain ⟨k, rfl⟩ : ∃ q, k = q + 1 := ⟨k - 1, by omega⟩
    rw [drydockref10_Same.l1, if_pos (by omega), if_pos (by omega), getL_nat l i hi, hb, if_neg (by omega), show wrap64 ((i : Int) + 1) = ((i + 1 : Nat) : Int) from by unfold wrap64; omega, next k (by omega)]
  | d + 1, j, hj => by
    intro k hk
    obtain ⟨k, rfl⟩ : ∃ q, k = q + 1 := ⟨k - 1, by omega⟩
    have hlt : j < b.length := by omega
    rw [drydockref10_Same.l1, if_pos (by omega), if_pos (by omega), getL_nat l i hi, hb, if_pos (by omega), if_pos (by omega), if_pos (by omega), if_pos (by omega), beq_self_eq_true, beq_self_eq_true]
    rw [if_neg (by decide), show wrap64 ((j : Int) + 1) = ((j + 1 : Nat) : Int) from by unfold wrap64; omega]
    exact same_row l hn i hi b hb h3 F next d (j + 1) (by omega) k (by omega)
theorem same_loop (l : List (List S41)) (hn : l.length ≤ 1000) (h3 : ∀ b ∈ l, b.length ≤ 5) : ∀ (d i : Nat), d + i = l.length → ∀ (k : Nat), 7 * d + 1 ≤ k → drydockref10_Same.l0 k l l (i : Int) = some true
  | 0, i, hi => by
    intro k hk
    obtain ⟨k, rfl⟩ : ∃ q, k = q + 1 := ⟨k - 1, by omega⟩
    rw [drydockref10_Same.l0, if_neg (by omega)]
  | d + 1, i, hi => by
    intro k hk
    obtain ⟨k, rfl⟩ : ∃ q, k = q + 1 := ⟨k - 1, by omega⟩
    have hlt : i < l.length := by omega
    obtain ⟨b, hb⟩ : ∃ b, l[i] = b := ⟨_, rfl⟩
    have hm : b.length ≤ 5 := h3 b (hb ▸ List.getElem_mem hlt)
    rw [drydockref10_Same.l0, if_pos (by omega), if_pos (by omega), if_pos (by omega), if_pos rfl, show ((0 : Int)) = ((0 : Nat) : Int) from rfl]
    exact same_row l hn i hlt b hb hm (7 * d + 1) (fun k h => same_loop l hn h3 d (i + 1) (by omega) k h) b.length 0 (by omega) k (by omega)
theorem same_refl (l : List (List S41)) (hn : l.length ≤ 1000) (h3 : ∀ b ∈ l, b.length ≤ 5) (k : Nat) (hk : 7 * l.length + 1 ≤ k) : drydockref10_Same.f k l l = some true := by
  unfold drydockref10_Same.f
  rw [if_pos rfl]
  exact same_loop l hn h3 l.length 0 (by omega) k (by omega)
theorem dec_len (b : List Int) : (decI b).1.length ≤ 3 := by
  unfold decI
  split
  · rename_i h
    show (outsL b _).length ≤ 3
    rw [outs_length]
    have := h.2.2.1
    omega
  · exact Nat.zero_le _
end Go.Proofs.Ytnccbebjligpdaa.Pure
