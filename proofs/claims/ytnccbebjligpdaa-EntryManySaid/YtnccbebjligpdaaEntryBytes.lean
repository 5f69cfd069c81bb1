/- What layer 10's Encode and Decode come to: the bytes of entries. -/
import Derived.Test.YtnccbebjligpdaaPAllx5
import Derived.Test.YtnccbebjligpdaaEntryPure
import Derived.Test.YtnccbebjligpdaaBase
namespace Go.Proofs.Ytnccbebjligpdaa.Pure
open Go Go.RowKit Go.Proofs.Ytnccbebjligpdaa.PAll Go.Proofs.YtnccbebjligpdaaW.PrintWords Go.Proofs.Ytnccbebjligpdaa.PathLaw Go.Proofs.Ytnccbebjligpdaa.Spin Go.Proofs.Ytnccbebjligpdaa.Field Go.Proofs.Ytnccbebjligpdaa.Text Go.Proofs.Ytnccbebjligpdaa.Ref
set_option linter.unusedVariables false
set_option linter.unusedSimpArgs false

/-! ### the bytes of an entry -/
def rowL (x : S41) : List Int := [x.f0, (x.f1.size : Int)] ++ bytesOf x.f1 ++ List.replicate (17 - x.f1.size) 0
def rowsL (l : List S41) : List Int := l.flatMap rowL
def encL (l : List S41) : List Int := [(l.length : Int), 0] ++ rowsL l ++ List.replicate (62 - 19 * l.length) 0
theorem rowL_length (x : S41) (h : x.f1.size ≤ 17) : (rowL x).length = 19 := by
  unfold rowL
  rw [List.length_append, List.length_append, bytesOf_length, List.length_replicate]
  simp; omega
theorem rowsL_length : ∀ (l : List S41), (∀ x ∈ l, x.f1.size ≤ 17) → (rowsL l).length = 19 * l.length
  | [], _ => rfl
  | x :: r, h => by
    unfold rowsL
    rw [List.flatMap_cons, List.length_append, rowL_length x (h x (List.mem_cons_self ..))]
    have := rowsL_length r (fun y hy => h y (List.mem_cons_of_mem _ hy))
    unfold rowsL at this
    rw [this, List.length_cons]; omega
theorem encL_length (l : List S41) (h3 : l.length ≤ 3) (h : ∀ x ∈ l, x.f1.size ≤ 17) : (encL l).length = 64 := by
  unfold encL
  rw [List.length_append, List.length_append, rowsL_length l h, List.length_replicate]
  simp; omega
theorem put_at (A : List Int) (z : Nat) (n : Int) (h0 : 0 ≤ n) (h1 : n < 256) (hz : 1 ≤ z) : putL (A ++ List.replicate z 0) A.length n 1 = (A ++ [n]) ++ List.replicate (z - 1) 0 := by
  rw [putL_eq _ _ _ 1 (by rw [List.length_append, List.length_replicate]; omega), List.take_append_of_le_length (Nat.le_refl _), List.take_length]
  have e1 : leB n 1 = [n] := by
    show [] ++ [n / 2 ^ (8 * 0) % 256] = [n]
    rw [List.nil_append]
    congr 1
    simp
    omega
  rw [e1, List.drop_append, List.drop_of_length_le (by omega), List.nil_append, show A.length + 1 - A.length = 1 from by omega, List.drop_replicate]
theorem text_at (A : List Int) (z : Nat) (s : ByteArray) (h : s.size ≤ z) : textL (A ++ List.replicate z 0) A.length s = (A ++ bytesOf s) ++ List.replicate (z - s.size) 0 := by
  unfold textL
  rw [List.take_append_of_le_length (Nat.le_refl _), List.take_length, List.drop_append, List.drop_of_length_le (by omega), List.nil_append, show A.length + s.size - A.length = s.size from by omega, List.drop_replicate]
theorem sets1 (P : List Int) (o : Nat) (a : Int) : Go.Proofs.Ytnccbebjligpdaa.Page.setsL P o 1 [a] = putL P o a 1 := rfl
theorem sets2 (P : List Int) (o : Nat) (a b : Int) : Go.Proofs.Ytnccbebjligpdaa.Page.setsL P o 1 [a, b] = putL (putL P o a 1) (o + 1) b 1 := rfl
theorem K_zero (l : List S41) (h : l.length ≤ 3) : entry_Encode.K l 0 = [(l.length : Int), 0] ++ List.replicate 62 0 := by
  rw [entry_Encode.K, sets1]
  have e : textL (List.replicate 64 0) 0 (⟨#[]⟩ : ByteArray) = [] ++ List.replicate 64 0 := text_at [] 64 (⟨#[]⟩ : ByteArray) (by decide)
  rw [e]
  have e2 := put_at [] 64 (l.length : Int) (by omega) (by omega) (by decide)
  rw [List.length_nil] at e2
  rw [e2]
  rfl
theorem K_eq (l : List S41) (h3 : l.length ≤ 3) (hb : ∀ x ∈ l, 0 ≤ x.f0 ∧ x.f0 < 256 ∧ x.f1.size ≤ 17) : ∀ k, k ≤ l.length → entry_Encode.K l k = [(l.length : Int), 0] ++ rowsL (l.take k) ++ List.replicate (62 - 19 * k) 0
  | 0, _ => by
    rw [K_zero l h3, List.take_zero]; rfl
  | k + 1, hk => by
    have hlt : k < l.length := hk
    obtain ⟨x, hx⟩ : ∃ x, l[k] = x := ⟨_, rfl⟩
    have hm : x ∈ l := hx ▸ List.getElem_mem hlt
    obtain ⟨h0, h1, h2⟩ := hb x hm
    have hg : l.getD k z41 = x := by rw [List.getD_eq_getElem?_getD, List.getElem?_eq_getElem hlt]; exact hx
    rw [entry_Encode.K, hg, K_eq l h3 hb k (by omega), sets2]
    have hA : ([(l.length : Int), 0] ++ rowsL (l.take k)).length = 2 + 19 * k := by
      rw [List.length_append, rowsL_length _ (fun y hy => (hb y (List.mem_of_mem_take hy)).2.2), List.length_take, Nat.min_eq_left (by omega)]
      simp
    obtain ⟨A, hAe⟩ : ∃ A, [(l.length : Int), 0] ++ rowsL (l.take k) = A := ⟨_, rfl⟩
    rw [hAe] at hA ⊢
    have e1 := put_at A (62 - 19 * k) x.f0 h0 h1 (by omega)
    rw [hA] at e1
    rw [e1]
    have e2 := put_at (A ++ [x.f0]) (62 - 19 * k - 1) (x.f1.size : Int) (by omega) (by omega) (by omega)
    rw [List.length_append, List.length_singleton, hA] at e2
    rw [e2]
    have e3 := text_at (A ++ [x.f0] ++ [(x.f1.size : Int)]) (62 - 19 * k - 1 - 1) x.f1 (by omega)
    rw [List.length_append, List.length_append, List.length_singleton, List.length_singleton, hA, show 2 + 19 * k + 1 + 1 = 4 + 19 * k from by omega] at e3
    rw [e3, List.take_succ_eq_append_getElem hlt, hx]
    unfold rowsL
    rw [List.flatMap_append, List.flatMap_singleton, ← List.append_assoc]
    have hAe2 : [(l.length : Int), 0] ++ (l.take k).flatMap rowL = A := hAe
    rw [hAe2]
    unfold rowL
    rw [show 62 - 19 * k - 1 - 1 - x.f1.size = (17 - x.f1.size) + (62 - 19 * (k + 1)) from by omega, ← List.replicate_append_replicate]
    simp only [List.append_assoc, List.cons_append, List.nil_append]
theorem bytesOf_bytes (s : ByteArray) : Bytes (bytesOf s) := by
  intro x hx
  unfold bytesOf at hx
  obtain ⟨c, _, rfl⟩ := List.mem_map.1 hx
  have := c.toNat_lt
  omega
theorem encL_bytes (l : List S41) (h3 : l.length ≤ 3) (hb : ∀ x ∈ l, 0 ≤ x.f0 ∧ x.f0 < 256 ∧ x.f1.size ≤ 17) : Bytes (encL l) := by
  unfold encL
  refine bytes_append (bytes_append ?_ ?_) (bytes_replicate _)
  · intro x hx
    simp only [List.mem_cons, List.not_mem_nil, or_false] at hx
    omega
  · intro y hy
    unfold rowsL at hy
    obtain ⟨x, hx, hy⟩ := List.mem_flatMap.1 hy
    have h := hb x hx
    unfold rowL at hy
    rcases List.mem_append.1 hy with hy | hy
    · rcases List.mem_append.1 hy with hy | hy
      · simp only [List.mem_cons, List.not_mem_nil, or_false] at hy
        omega
      · exact bytesOf_bytes _ y hy
    · have := List.eq_of_mem_replicate hy
      omega
theorem rgt_facts {x : S41} (h : rgt x = true) : 0 ≤ x.f0 ∧ x.f0 < 32 ∧ 1 ≤ x.f1.size ∧ x.f1.size ≤ 17 := by
  unfold rgt nm at h
  simp only [Bool.and_eq_true, decide_eq_true_eq] at h
  have := size_toList x.f1
  omega
theorem snd_facts {l : List S41} (h : sndB [l] = true) : l.length ≤ 3 ∧ ∀ x ∈ l, rgt x = true := by
  unfold sndB okE at h
  simp only [List.all_cons, List.all_nil, Bool.and_eq_true, decide_eq_true_eq, Bool.and_true] at h
  exact ⟨h.1.1, List.all_eq_true.1 h.1.2⟩
/-- What Encode gives. -/
def encI (l : List S41) : List Int × Int := if sndB [l] = true then (sealI (encL l), 0) else ([], 2)
theorem enc_eq (l : List S41) (hs : ∀ x ∈ l, x.f1.size ≤ maxLen) : entry_Encode.f l = some (encI l) := by
  unfold entry_Encode.f encI
  rw [sound_eq [l] (by simp) (by simpa using hs), Option.bind_some]
  by_cases h : sndB [l] = true
  · obtain ⟨h3, hr⟩ := snd_facts h
    have hb : ∀ x ∈ l, 0 ≤ x.f0 ∧ x.f0 < 256 ∧ x.f1.size ≤ 17 := fun x hx => by have := rgt_facts (hr x hx); omega
    rw [if_pos h, if_pos h, if_pos ⟨h3, fun x hx => by have := rgt_facts (hr x hx); omega⟩, K_eq l h3 hb l.length (Nat.le_refl _), List.take_length]
    exact seal_eq (encL_bytes l h3 hb) (encL_length l h3 (fun x hx => (hb x hx).2.2))
  · rw [if_neg h, if_neg h]
/-! ### Decode -/
def entL (b : List Int) (i : Nat) : S41 := ⟨rd b ((2 + 19 * i : Nat) : Int), strOfNums ((b.take (4 + 19 * i + (mn (rd b ((3 + 19 * i : Nat) : Int)) 17).toNat)).drop (4 + 19 * i))⟩
def outsL (b : List Int) (n : Nat) : List S41 := (List.range n).map (entL b)
theorem rd_byte {l : List Int} (hl : Bytes l) (i : Nat) (h : i < l.length) : 0 ≤ rd l (i : Int) ∧ rd l (i : Int) < 256 := by
  have e : rd l (i : Int) = l[i] := by
    show l.getD (i : Int).toNat 0 = _
    rw [Int.toNat_natCast, List.getD_eq_getElem?_getD, List.getElem?_eq_getElem h]
    rfl
  rw [e]
  exact hl _ (List.getElem_mem h)
/-- What Decode gives. -/
def decI (b : List Int) : List S41 × Int :=
  if b.length = 64 ∧ b = sealI b ∧ rd b 0 ≤ 3 ∧ encI (outsL b (rd b 0).toNat) = (b, 0) then (outsL b (rd b 0).toNat, 0) else ([], 2)
theorem ent_size (b : List Int) (hb : Bytes b) (i : Nat) (h : 3 + 19 * i < b.length) : (entL b i).f1.size ≤ 17 := by
  unfold entL
  have h1 := rd_byte hb (3 + 19 * i) h
  have h2 : (mn (rd b ((3 + 19 * i : Nat) : Int)) 17).toNat ≤ 17 := by unfold mn; split <;> omega
  show (strOfNums _).size ≤ 17
  rw [strOfNums_size, List.length_drop, List.length_take]
  omega
theorem dec_loop (b : List Int) (hb : Bytes b) (h64 : b.length = 64) (n : Nat) (hn : n ≤ 3) : ∀ d i k : Nat, d + i = n → d < k → entry_Decode.l0 k b (outsL b i) (n : Int) (i : Int) =
    ((entry_Encode.f (outsL b n)).bind fun bt160 => (if bt160.2 = 0 then ((bytes_Equal.f bt160.1 b).bind fun t164 => (if t164 = true then (some (outsL b n, 0)) else (some (([] : List S41), 2)))) else (some (([] : List S41), 2))))
  | 0, i, k + 1, hi, _ => by
    obtain rfl : i = n := by omega
    rw [entry_Decode.l0, if_neg (by omega)]
  | d + 1, i, k + 1, hi, hk => by
    have hq := rd_byte hb (3 + 19 * i) (by omega)
    have hq2 := rd_byte hb (2 + 19 * i) (by omega)
    have e1 : wrap64 (2 + wrap64 (19 * (i : Int))) = ((2 + 19 * i : Nat) : Int) := by
      rw [show wrap64 (19 * (i : Int)) = 19 * (i : Int) from by unfold wrap64; omega]; unfold wrap64; omega
    have e2 : wrap64 (((2 + 19 * i : Nat) : Int) + 1) = ((3 + 19 * i : Nat) : Int) := by unfold wrap64; omega
    have e3 : wrap64 (((2 + 19 * i : Nat) : Int) + 2) = ((4 + 19 * i : Nat) : Int) := by unfold wrap64; omega
    have e4 : wrap64 (rd b ((3 + 19 * i : Nat) : Int)) = rd b ((3 + 19 * i : Nat) : Int) := by unfold wrap64; omega
    have e5 : wrap64 (rd b ((2 + 19 * i : Nat) : Int)) = rd b ((2 + 19 * i : Nat) : Int) := by unfold wrap64; omega
    have hm : 0 ≤ mn (rd b ((3 + 19 * i : Nat) : Int)) 17 ∧ mn (rd b ((3 + 19 * i : Nat) : Int)) 17 ≤ 17 := by unfold mn; split <;> omega
    have e6 : wrap64 (((4 + 19 * i : Nat) : Int) + mn (rd b ((3 + 19 * i : Nat) : Int)) 17) = ((4 + 19 * i + (mn (rd b ((3 + 19 * i : Nat) : Int)) 17).toNat : Nat) : Int) := by
      unfold wrap64; omega
    have e7 : wrap64 ((i : Int) + 1) = ((i + 1 : Nat) : Int) := by unfold wrap64; omega
    have e8 : outsL b (i + 1) = outsL b i ++ [entL b i] := by
      unfold outsL; rw [List.range_succ, List.map_append]; rfl
    have hol : (outsL b i).length = i := by unfold outsL; rw [List.length_map, List.length_range]
    rw [entry_Decode.l0, if_pos (by omega)]
    simp only [e1, e2, e3, e4, e5, e6, e7]
    clear e1 e2 e3 e4 e5 e6 e7
    rw [if_pos (by omega), if_pos (by omega), if_pos (by omega), if_pos (by omega), if_pos (by omega), if_pos (by omega), if_pos (by omega), if_pos (by omega), Int.toNat_natCast, Int.toNat_natCast]
    have := dec_loop b hb h64 n hn d (i + 1) k (by omega) (by omega)
    rw [e8] at this
    exact this
theorem Equal_eq {l m : List Int} (hl : Bytes l) (hm : Bytes m) : bytes_Equal.f l m = some (decide (l = m)) := by
  unfold bytes_Equal.f
  congr 1
  by_cases h : l = m
  · rw [decide_eq_true h, h]
    exact beq_self_eq_true _
  · rw [decide_eq_false h]
    exact beq_eq_false_iff_ne.2 (fun e => h ((strOf_inj hl hm).1 e))
theorem encI_bytes (l : List S41) : Bytes (encI l).1 := by
  unfold encI
  by_cases h : sndB [l] = true
  · rw [if_pos h]
    obtain ⟨h3, hr⟩ := snd_facts h
    exact sealI_bytes (encL_bytes l h3 (fun x hx => by have := rgt_facts (hr x hx); omega))
  · rw [if_neg h]
    intro x hx
    cases hx
theorem dec_eq (b : List Int) (hb : Bytes b) (k : Nat) (hk : 8 < k) : entry_Decode.f k b = some (decI b) := by
  unfold entry_Decode.f decI field_Sealed.f
  by_cases h64 : b.length = 64
  · rw [sealed_eq hb h64, Option.bind_some]
    by_cases hs : b = sealI b
    · have h0 := rd_byte hb 0 (by omega)
      rw [show ((0 : Nat) : Int) = 0 from rfl] at h0
      obtain ⟨k, rfl⟩ : ∃ q, k = q + 1 := ⟨k - 1, by omega⟩
      rw [if_pos (decide_eq_true hs), if_pos (by omega), entry_Decode.j0]
      by_cases h3 : rd b 0 ≤ 3
      · rw [decide_eq_false (by omega), if_neg (by decide), if_pos (by omega)]
        have ew : wrap64 (rd b 0) = (((rd b 0).toNat : Nat) : Int) := by unfold wrap64; omega
        have hl := dec_loop b hb h64 (rd b 0).toNat (by omega) (rd b 0).toNat 0 k (by omega) (by omega)
        have hl2 : entry_Decode.l0 k b [] ((rd b 0).toNat : Int) 0 = _ := hl
        rw [ew, hl2, enc_eq _ (fun x hx => by
          unfold outsL at hx
          obtain ⟨i, hi, rfl⟩ := List.mem_map.1 hx
          have := List.mem_range.1 hi
          have h := ent_size b hb i (by omega)
          have : maxLen = 9223372036854775807 := rfl
          omega), Option.bind_some]
        by_cases he : (encI (outsL b (rd b 0).toNat)).2 = 0
        · rw [if_pos he, Equal_eq (encI_bytes _) hb, Option.bind_some]
          by_cases hq : (encI (outsL b (rd b 0).toNat)).1 = b
          · rw [if_pos (decide_eq_true hq), if_pos ⟨h64, hs, h3, Prod.ext hq he⟩]
          · rw [if_neg (by rw [decide_eq_false hq]; decide), if_neg (fun g => hq (by rw [g.2.2.2]))]
        · rw [if_neg he, if_neg (fun g => he (by rw [g.2.2.2]))]
      · rw [decide_eq_true (by omega), if_pos rfl, if_neg (fun g => h3 g.2.2.1)]
    · obtain ⟨k, rfl⟩ : ∃ q, k = q + 1 := ⟨k - 1, by omega⟩
      rw [if_neg (by rw [decide_eq_false hs]; decide), entry_Decode.j0, if_pos rfl, if_neg (fun g => hs g.2.1)]
  · obtain ⟨k, rfl⟩ : ∃ q, k = q + 1 := ⟨k - 1, by omega⟩
    rw [sealed_short h64, Option.bind_some, if_neg (by decide), entry_Decode.j0, if_pos rfl, if_neg (fun g => h64 g.1)]
/-! ### what was written is read -/
theorem rd_take {l : List Int} (n i : Nat) (h : i < n) : rd (l.take n) (i : Int) = rd l (i : Int) := by
  show (l.take n).getD (i : Int).toNat 0 = l.getD (i : Int).toNat 0
  rw [Int.toNat_natCast, List.getD_eq_getElem?_getD, List.getD_eq_getElem?_getD, List.getElem?_take, if_pos h]
theorem cut_take {l : List Int} (n a b : Nat) (h : b ≤ n) : ((l.take n).take b).drop a = (l.take b).drop a := by
  rw [List.take_take, Nat.min_eq_left h]
theorem strOf_bytesOf (s : ByteArray) : strOfNums (bytesOf s) = s := by
  rw [← toList_inj, Lib.toList_data, strOfNums_data, Lib.toList_data]
  unfold bytesOf
  rw [List.map_map]
  have : ∀ l : List UInt8, l.map ((fun n : Int => UInt8.ofNat n.toNat) ∘ fun b : UInt8 => (b.toNat : Int)) = l := by
    intro l
    induction l with
    | nil => rfl
    | cons a r ih =>
      rw [List.map_cons, ih]
      congr 1
      show UInt8.ofNat ((a.toNat : Int)).toNat = a
      rw [Int.toNat_natCast]
      exact UInt8.ofNat_toNat
  exact this _
theorem rd_at (A : List Int) (x : Int) (B : List Int) (i : Nat) (h : A.length = i) : rd (A ++ x :: B) (i : Int) = x := by
  show (A ++ x :: B).getD (i : Int).toNat 0 = x
  rw [Int.toNat_natCast, List.getD_eq_getElem?_getD, List.getElem?_append_right (by omega), h, Nat.sub_self]
  rfl
theorem encL_split (l : List S41) (i : Nat) (hi : i < l.length) : encL l = ([(l.length : Int), 0] ++ rowsL (l.take i)) ++ (l[i].f0 :: (l[i].f1.size : Int) :: (bytesOf l[i].f1 ++ (List.replicate (17 - l[i].f1.size) 0 ++ (rowsL (l.drop (i + 1)) ++ List.replicate (62 - 19 * l.length) 0)))) := by
  have e : rowsL l = rowsL (l.take i) ++ rowL l[i] ++ rowsL (l.drop (i + 1)) := by
    conv => lhs; rw [← List.take_append_drop i l, List.drop_eq_getElem_cons hi]
    unfold rowsL
    rw [List.flatMap_append, List.flatMap_cons, List.append_assoc]
  unfold encL
  rw [e]
  unfold rowL
  simp only [List.append_assoc, List.cons_append, List.nil_append]
theorem ent_back (l : List S41) (h3 : l.length ≤ 3) (hb : ∀ x ∈ l, 0 ≤ x.f0 ∧ x.f0 < 256 ∧ x.f1.size ≤ 17) (i : Nat) (hi : i < l.length) : entL (sealI (encL l)) i = l[i] := by
  have h17 : ∀ x ∈ l, x.f1.size ≤ 17 := fun x hx => (hb x hx).2.2
  have h64 := encL_length l h3 h17
  have ht := sealI_take (encL l) h64
  have hs : l[i].f1.size ≤ 17 := h17 _ (List.getElem_mem hi)
  have hA : ([(l.length : Int), 0] ++ rowsL (l.take i)).length = 2 + 19 * i := by
    rw [List.length_append, rowsL_length _ (fun y hy => h17 y (List.mem_of_mem_take hy)), List.length_take, Nat.min_eq_left (by omega)]
    simp
  have hsp := encL_split l i hi
  obtain ⟨A, hAe⟩ : ∃ A, [(l.length : Int), 0] ++ rowsL (l.take i) = A := ⟨_, rfl⟩
  rw [hAe] at hA hsp
  have r0 : rd (sealI (encL l)) ((2 + 19 * i : Nat) : Int) = l[i].f0 := by
    rw [← rd_take 60 _ (by omega), ht, rd_take 60 _ (by omega), hsp, rd_at _ _ _ _ hA]
  have r1 : rd (sealI (encL l)) ((3 + 19 * i : Nat) : Int) = (l[i].f1.size : Int) := by
    rw [← rd_take 60 _ (by omega), ht, rd_take 60 _ (by omega), hsp, ← List.singleton_append, ← List.append_assoc, rd_at _ _ _ _ (by rw [List.length_append, hA, List.length_singleton]; omega)]
  unfold entL
  rw [r0, r1]
  have em : (mn (l[i].f1.size : Int) 17).toNat = l[i].f1.size := by unfold mn; split <;> omega
  rw [em, ← cut_take 60 _ _ (by omega), ht, cut_take 60 _ _ (by omega), hsp]
  have e : ((A ++ (l[i].f0 :: (l[i].f1.size : Int) :: (bytesOf l[i].f1 ++ (List.replicate (17 - l[i].f1.size) 0 ++ (rowsL (l.drop (i + 1)) ++ List.replicate (62 - 19 * l.length) 0))))).take (4 + 19 * i + l[i].f1.size)).drop (4 + 19 * i) = bytesOf l[i].f1 := by
    rw [← List.singleton_append, ← List.singleton_append (x := (l[i].f1.size : Int)), ← List.append_assoc, ← List.append_assoc, ← List.append_assoc]
    have hl : (A ++ [l[i].f0] ++ [(l[i].f1.size : Int)]).length = 4 + 19 * i := by
      rw [List.length_append, List.length_append, hA]
      simp; omega
    have hl2 : (A ++ [l[i].f0] ++ [(l[i].f1.size : Int)] ++ bytesOf l[i].f1).length = 4 + 19 * i + l[i].f1.size := by
      rw [List.length_append, hl, bytesOf_length]
    rw [← hl2, List.take_left, ← hl, List.drop_left]
  rw [e, strOf_bytesOf]
theorem outs_back (l : List S41) (h3 : l.length ≤ 3) (hb : ∀ x ∈ l, 0 ≤ x.f0 ∧ x.f0 < 256 ∧ x.f1.size ≤ 17) : outsL (sealI (encL l)) l.length = l := by
  apply List.ext_getElem
  · unfold outsL; rw [List.length_map, List.length_range]
  · intro i h1 h2
    have e : (outsL (sealI (encL l)) l.length)[i] = entL (sealI (encL l)) i := by
      apply Option.some.inj
      rw [← List.getElem?_eq_getElem]
      unfold outsL
      rw [List.getElem?_map, List.getElem?_range h2]
      rfl
    rw [e, ent_back l h3 hb i h2]
theorem rd_zero (l : List S41) (h3 : l.length ≤ 3) (h17 : ∀ x ∈ l, x.f1.size ≤ 17) : rd (sealI (encL l)) 0 = (l.length : Int) := by
  have ht := sealI_take (encL l) (encL_length l h3 h17)
  rw [show (0 : Int) = ((0 : Nat) : Int) from rfl, ← rd_take 60 _ (by omega), ht, rd_take 60 _ (by omega)]
  rfl
theorem dec_enc (l : List S41) (h : sndB [l] = true) : decI (sealI (encL l)) = (l, 0) := by
  obtain ⟨h3, hr⟩ := snd_facts h
  have hb : ∀ x ∈ l, 0 ≤ x.f0 ∧ x.f0 < 256 ∧ x.f1.size ≤ 17 := fun x hx => by have := rgt_facts (hr x hx); omega
  have h17 : ∀ x ∈ l, x.f1.size ≤ 17 := fun x hx => (hb x hx).2.2
  have h64 := encL_length l h3 h17
  unfold decI
  rw [rd_zero l h3 h17, Int.toNat_natCast, outs_back l h3 hb]
  rw [if_pos ⟨sealI_length _ h64, sealI_sealed h64, by omega, by unfold encI; rw [if_pos h]⟩]
theorem nmA : (⟨#[97]⟩ : ByteArray).toList = [97] := B_toList [97]
theorem nmB : (⟨#[98]⟩ : ByteArray).toList = [98] := B_toList [98]
theorem awake10_true (k : Nat) (hk : 8 < k) : drydocklaw10_awake.f k = some true := by
  have hs : sndB [[(⟨3, (⟨#[97]⟩ : ByteArray)⟩ : S41)]] = true := by
    unfold sndB okE rgt nmsOf
    simp only [List.all_cons, List.all_nil, List.flatten_cons, List.flatten_nil, List.append_nil, List.map_cons, List.map_nil, nmA]
    decide
  have hm : maxLen = 9223372036854775807 := rfl
  unfold drydocklaw10_awake.f
  rw [enc_eq _ (by intro x hx; rw [List.mem_singleton.1 hx]; show 1 ≤ maxLen; omega), Option.bind_some]
  unfold encI
  rw [if_pos hs]
  have hbt : Bytes (sealI (encL [(⟨3, (⟨#[97]⟩ : ByteArray)⟩ : S41)])) := by
    obtain ⟨h3, hr⟩ := snd_facts hs
    exact sealI_bytes (encL_bytes _ h3 (fun x hx => by have := rgt_facts (hr x hx); omega))
  rw [dec_eq _ hbt k hk, Option.bind_some, dec_enc _ hs, find_eq _ _ (by
    intro b hb x hx
    rw [List.mem_singleton.1 hb] at hx
    rw [List.mem_singleton.1 hx]
    show 1 ≤ maxLen; omega), Option.bind_some, named_eq, nmA]
  have hf : findI [[(⟨3, (⟨#[97]⟩ : ByteArray)⟩ : S41)]] (⟨#[98]⟩ : ByteArray) = (0, 0, 4) := by
    have hr : rgt (⟨0, (⟨#[98]⟩ : ByteArray)⟩ : S41) = true := by
      unfold rgt
      rw [nmB]
      decide
    have hc : chk [[(⟨3, (⟨#[97]⟩ : ByteArray)⟩ : S41)]] ⟨0, (⟨#[98]⟩ : ByteArray)⟩ = 0 := by
      unfold chk
      rw [if_pos hr, if_neg (by decide), if_pos hs]
    unfold findI
    rw [if_pos hc, findM_miss _ _ _ _ (entry_find.idx_miss _ _ (by
      intro x hx
      rw [List.mem_singleton.1 hx]
      show ((⟨#[97]⟩ : ByteArray).toList == (⟨#[98]⟩ : ByteArray).toList) = false
      rw [nmA, nmB]
      decide))]
    rfl
  rw [hf]
  show (if ((rd_T41 [(⟨3, (⟨#[97]⟩ : ByteArray)⟩ : S41)] 0).f1).toList = ([97] : List UInt8) then some (nm [97]) else some false) = some true
  rw [if_pos (show (rd_T41 [(⟨3, (⟨#[97]⟩ : ByteArray)⟩ : S41)] 0).f1.toList = [97] from nmA)]
  rfl
end Go.Proofs.Ytnccbebjligpdaa.Pure
