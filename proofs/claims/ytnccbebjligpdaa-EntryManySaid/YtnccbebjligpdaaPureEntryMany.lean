/- For every two bytes: names that are added one by one are found, three in a block, in their order. Conditions: none beyond the form's own. -/
import Derived.Test.YtnccbebjligpdaaPAllx8
import Derived.Test.YtnccbebjligpdaaEntryOwnPure
namespace Go.Proofs.Ytnccbebjligpdaa.Pure
open Go Go.RowKit Go.Proofs.Ytnccbebjligpdaa.PAll Go.Proofs.YtnccbebjligpdaaW.PrintWords Go.Proofs.Ytnccbebjligpdaa.PathLaw Go.Proofs.Ytnccbebjligpdaa.Spin Go.Proofs.Ytnccbebjligpdaa.Field
set_option linter.unusedVariables false
set_option linter.unusedSimpArgs false

def nmI (i : Nat) : ByteArray := (⟨#[110]⟩ : ByteArray) ++ strOfNums [((97 + i % 26 : Nat) : Int), ((97 + i / 26 : Nat) : Int)]
def E (i : Nat) : S41 := ⟨((i % 32 : Nat) : Int), nmI i⟩
theorem nmI_toList (i : Nat) : (nmI i).toList = [110, UInt8.ofNat (97 + i % 26), UInt8.ofNat (97 + i / 26)] := by
  unfold nmI
  rw [toList_append, Lib.toList_data (strOfNums _), strOfNums_data, show (⟨#[110]⟩ : ByteArray).toList = [110] from B_toList [110]]
  rfl
theorem nm_ok : ∀ i, i < 100 → nm [110, UInt8.ofNat (97 + i % 26), UInt8.ofNat (97 + i / 26)] = true := by decide +kernel
theorem nmI_inj {i j : Nat} (hi : i < 100) (hj : j < 100) (h : (nmI i).toList = (nmI j).toList) : i = j := by
  rw [nmI_toList, nmI_toList] at h
  simp only [List.cons.injEq, and_true, true_and] at h
  have h1 := congrArg UInt8.toNat h.1
  have h2 := congrArg UInt8.toNat h.2
  rw [UInt8.toNat_ofNat', UInt8.toNat_ofNat'] at h1 h2
  omega
theorem rgt_E {i : Nat} (hi : i < 100) : rgt (E i) = true := by
  unfold rgt E
  dsimp only
  rw [nmI_toList, nm_ok i hi, decide_eq_true (by omega), decide_eq_true (by omega)]
  rfl
def rowE (i j : Nat) : List S41 := (List.range (min 3 (i - 3 * j))).map fun s => E (3 * j + s)
def ST (i : Nat) : List (List S41) := (List.range ((i + 2) / 3)).map (rowE i)
theorem ST_length (i : Nat) : (ST i).length = (i + 2) / 3 := by unfold ST; rw [List.length_map, List.length_range]
theorem ST_at (i j : Nat) (h : j < (ST i).length) : (ST i)[j] = rowE i j := by
  have h2 : j < (i + 2) / 3 := by rwa [ST_length] at h
  apply Option.some.inj
  rw [← List.getElem?_eq_getElem]
  unfold ST
  rw [List.getElem?_map, List.getElem?_range h2]
  rfl
theorem rowE_length (i j : Nat) : (rowE i j).length = min 3 (i - 3 * j) := by unfold rowE; rw [List.length_map, List.length_range]
theorem rowE_at (i j s : Nat) (h : s < (rowE i j).length) : (rowE i j)[s] = E (3 * j + s) := by
  have h2 : s < min 3 (i - 3 * j) := by rwa [rowE_length] at h
  apply Option.some.inj
  rw [← List.getElem?_eq_getElem]
  unfold rowE
  rw [List.getElem?_map, List.getElem?_range h2]
  rfl
theorem rowE_same {i k j : Nat} (h : min 3 (i - 3 * j) = min 3 (k - 3 * j)) : rowE i j = rowE k j := by unfold rowE; rw [h]
theorem room_ST (i : Nat) : roomI (ST i) = if i % 3 = 0 then none else some (i / 3) := by
  by_cases h : i % 3 = 0
  · rw [if_pos h]
    refine room_miss (fun j hj => ?_)
    rw [ST_at, rowE_length]
    rw [ST_length] at hj
    omega
  · rw [if_neg h]
    refine room_hit (by rw [ST_length]; omega) (by rw [ST_at, rowE_length]; omega) (fun j hj hji => ?_)
    rw [ST_at, rowE_length]
    omega
theorem addR_ST (i : Nat) (hi : i < 100) : addR (ST i) (E i) = (ST (i + 1), ((i / 3 : Nat) : Int), 0) := by
  have hr := room_ST i
  by_cases h : i % 3 = 0
  · rw [if_pos h] at hr
    rw [addR_none hr (by rw [ST_length]; omega)]
    have e1 : (ST i).length = i / 3 := by rw [ST_length]; omega
    rw [e1]
    congr 1
    apply List.ext_getElem
    · rw [List.length_append, List.length_singleton, ST_length, ST_length]; omega
    · intro j h1 h2'
      have h2 := h2'
      rw [ST_length] at h2
      rw [ST_at (i + 1) j h2']
      by_cases hj : j < (ST i).length
      · rw [List.getElem_append_left hj, ST_at]
        exact rowE_same (by omega)
      · have : j = i / 3 := by omega
        subst this
        rw [List.getElem_append_right (by omega)]
        simp only [List.getElem_singleton]
        unfold rowE
        rw [show min 3 (i + 1 - 3 * (i / 3)) = 1 from by omega]
        show [E i] = [E (3 * (i / 3) + 0)]
        rw [show 3 * (i / 3) + 0 = i from by omega]
  · rw [if_neg h] at hr
    obtain ⟨hl, h3, e⟩ := addR_some (x := E i) hr
    rw [e]
    congr 1
    apply List.ext_getElem
    · rw [List.length_set, ST_length, ST_length]; omega
    · intro j h1 h2'
      have h2 := h2'
      rw [ST_length] at h2
      rw [ST_at (i + 1) j h2', List.getElem_set]
      split
      · rename_i hj
        subst hj
        rw [ST_at]
        unfold rowE
        rw [show min 3 (i + 1 - 3 * (i / 3)) = min 3 (i - 3 * (i / 3)) + 1 from by omega, List.range_succ, List.map_append, List.map_singleton]
        rw [show 3 * (i / 3) + min 3 (i - 3 * (i / 3)) = i from by omega]
      · rw [ST_at]
        exact rowE_same (by omega)
theorem small {l : List (List S41)} (h : sndB l = true) : ∀ b ∈ l, ∀ x ∈ b, x.f1.size ≤ maxLen := fun b hb x hx => by
  have := rgt_facts (((snd_iff l).1 h).1 b hb |>.2 x hx)
  have : maxLen = 9223372036854775807 := rfl
  omega
theorem addI_ST (i : Nat) (hi : i < 100) (hs : sndB (ST i) = true) (hm : ∀ s, s ∈ nmsOf (ST i).flatten ↔ ∃ j, j < i ∧ s = (nmI j).toList) :
    addI (ST i) (E i) = (ST (i + 1), ((i / 3 : Nat) : Int), 0) ∧ sndB (ST (i + 1)) = true ∧ ∀ s, s ∈ nmsOf (ST (i + 1)).flatten ↔ ∃ j, j < i + 1 ∧ s = (nmI j).toList := by
  have hn : (nmI i).toList ∉ nmsOf (ST i).flatten := fun h => by
    obtain ⟨j, hj, e⟩ := (hm _).1 h
    have := nmI_inj hi (by omega) e
    omega
  have e : addI (ST i) (E i) = (ST (i + 1), ((i / 3 : Nat) : Int), 0) := by
    unfold addI
    rw [if_pos (chk_mk (by rw [ST_length]; omega) hs (rgt_E hi)), go_miss (E i).f1 _ _ hn, if_neg (by decide), addR_ST i hi]
  obtain ⟨_, _, a, _, H⟩ := added e
  refine ⟨e, H.snd, fun s => ?_⟩
  rw [H.names.mem_iff, List.mem_cons, hm]
  constructor
  · rintro (h | ⟨j, hj, h⟩)
    · exact ⟨i, Nat.lt_succ_self _, h⟩
    · exact ⟨j, by omega, h⟩
  · rintro ⟨j, hj, h⟩
    by_cases hji : j = i
    · subst hji; exact .inl h
    · exact .inr ⟨j, by omega, h⟩
theorem inv_ST : ∀ i, i ≤ 100 → sndB (ST i) = true ∧ ∀ s, s ∈ nmsOf (ST i).flatten ↔ ∃ j, j < i ∧ s = (nmI j).toList
  | 0, _ => ⟨rfl, fun s => ⟨(fun h => nomatch h), fun ⟨j, hj, _⟩ => absurd hj (Nat.not_lt_zero _)⟩⟩
  | i + 1, h => by
    obtain ⟨h1, h2⟩ := inv_ST i (by omega)
    exact (addI_ST i (by omega) h1 h2).2
theorem tm {i : Nat} (m : Nat) (hm : 0 < m) : Int.tmod (i : Int) (m : Int) = ((i % m : Nat) : Int) := by
  rw [Int.tmod_eq_emod_of_nonneg (by omega)]; rfl
theorem td {i : Nat} (m : Nat) (hm : 0 < m) : Int.tdiv (i : Int) (m : Int) = ((i / m : Nat) : Int) := by
  rw [Int.tdiv_eq_ediv_of_nonneg (by omega)]; rfl
theorem wk {n : Int} (h0 : 0 ≤ n) (h1 : n < 1000000) : wrap64 n = n := by unfold wrap64; omega
theorem name_of (i : Nat) (hi : i < 100) : ([(wrap64 (97 + (Int.tmod (i : Int) 26))) % 256, (wrap64 (97 + (wrap64 (Int.tdiv (i : Int) 26)))) % 256] : List Int) = [((97 + i % 26 : Nat) : Int), ((97 + i / 26 : Nat) : Int)] := by
  rw [show Int.tmod (i : Int) 26 = ((i % 26 : Nat) : Int) from tm 26 (by decide), show Int.tdiv (i : Int) 26 = ((i / 26 : Nat) : Int) from td 26 (by decide), wk (n := ((i / 26 : Nat) : Int)) (by omega) (by omega), wk (by omega) (by omega), wk (by omega) (by omega)]
  have h1 : (97 + ((i % 26 : Nat) : Int)) % 256 = ((97 + i % 26 : Nat) : Int) := by omega
  have h2 : (97 + ((i / 26 : Nat) : Int)) % 256 = ((97 + i / 26 : Nat) : Int) := by omega
  rw [h1, h2]
theorem size_two (a b : Int) : 1 + (strOfNums [a, b]).size ≤ 9223372036854775807 := by
  rw [strOfNums_size]; show 1 + 2 ≤ _; omega
/-- Behind the loop. -/
theorem many_end (n q : Nat) (a1 : Int) (hn : n ≤ 100) (hq : q < n) (ha : Int.tmod (wrap64 a1) (n : Int) = (q : Int)) (k : Nat) (hk : 200 < k) : drydocklaw10_EntryMany.l0 k a1 (n : Int) (ST n) (n : Int) = some true := by
  obtain ⟨k, rfl⟩ : ∃ z, k = z + 1 := ⟨k - 1, by omega⟩
  obtain ⟨hs, hm⟩ := inv_ST n hn
  have hl := ST_length n
  have hi : q / 3 < (ST n).length := by omega
  have hrow := ST_at n (q / 3) hi
  have hrl := rowE_length n (q / 3)
  have hj : q % 3 < (ST n)[q / 3].length := by rw [hrow, hrl]; omega
  have hx : (ST n)[q / 3][q % 3] = E q := by
    have : ∀ (z : List S41) (h : q % 3 < z.length), z = rowE n (q / 3) → z[q % 3] = E q := by
      rintro z h rfl
      rw [rowE_at, show 3 * (q / 3) + q % 3 = q from by omega]
    exact this _ hj hrow
  have hname : (ST n)[q / 3][q % 3].f1.toList = (nmI q).toList := by rw [hx]; rfl
  have hr0 : rgt ⟨0, nmI q⟩ = true := rgt_zero (rgt_E (i := q) (by omega))
  have h96 : (ST n).length ≤ 96 := by omega
  have hf := find_at hi hj h96 hs hr0 hname
  have hrm := rem_at hi hj h96 hs hr0 hname
  obtain ⟨hsb, hnb⟩ := rem_snd hi hj hs
  rw [hname] at hnb
  obtain ⟨b, hb⟩ : ∃ b, remR (ST n) (q / 3) (q % 3) = b := ⟨_, rfl⟩
  have hbl : b.length = (ST n).length := by rw [← hb]; exact rem_length _ _ _
  have hbi : q / 3 < b.length := by omega
  have hbr : b[q / 3] = (ST n)[q / 3].eraseIdx (q % 3) := by
    apply Option.some.inj
    rw [← List.getElem?_eq_getElem, ← hb]
    unfold remR
    rw [List.getElem?_set_self hi, getD_at _ _ hi]
  have hbo : ∀ j (h : j < b.length), j < q / 3 → b[j].length = 3 := by
    intro j h hjq
    have e : b[j]? = (ST n)[j]? := by
      rw [← hb]
      unfold remR
      rw [List.getElem?_set_ne (by omega)]
    rw [List.getElem?_eq_getElem h, List.getElem?_eq_getElem (by omega)] at e
    rw [Option.some.inj e, ST_at, rowE_length]
    omega
  rw [hb] at hrm hsb hnb
  have hrb : b[q / 3].length < 3 := by
    rw [hbr, List.length_eraseIdx_of_lt hj, hrow, hrl]; omega
  have hroom : roomI b = some (q / 3) := room_hit hbi hrb (fun j h hjq => by rw [hbo j h hjq]; omega)
  have hr1 : rgt (⟨1, nmI q⟩ : S41) = true := by
    unfold rgt
    dsimp only
    rw [nmI_toList, nm_ok q (by omega)]
    rfl
  obtain ⟨hl2, _, e2⟩ := addR_some (x := ⟨1, nmI q⟩) hroom
  have hadd : addI b ⟨1, nmI q⟩ = (b.set (q / 3) (b[q / 3] ++ [⟨1, nmI q⟩]), ((q / 3 : Nat) : Int), 0) := by
    unfold addI
    rw [if_pos (chk_mk (by omega) hsb hr1), go_miss _ _ _ hnb, if_neg (by decide), e2]
  have hcl : (b.set (q / 3) (b[q / 3] ++ [⟨1, nmI q⟩])).length = (ST n).length := by rw [List.length_set]; exact hbl
  have hci : (b.set (q / 3) (b[q / 3] ++ [(⟨1, nmI q⟩ : S41)]))[q / 3]'(by rw [hcl]; exact hi) = b[q / 3] ++ [⟨1, nmI q⟩] := List.getElem_set_self _
  have hlast : (b[q / 3] ++ [(⟨1, nmI q⟩ : S41)])[b[q / 3].length]'(by rw [List.length_append, List.length_singleton]; omega) = ⟨1, nmI q⟩ := by
    rw [List.getElem_append_right (Nat.le_refl _)]; simp
  have hadd2 := add_eq b ⟨1, nmI q⟩ (small hsb) k (by omega)
  dsimp only at hadd2
  rw [drydocklaw10_EntryMany.l0, if_neg (by omega), if_neg (by omega), Option.bind_some, ha, name_of q (by omega), if_pos (size_two _ _)]
  show ((entry_Find.f (ST n) (nmI q)).bind _) = _
  rw [find_eq _ _ (small hs), hf, Option.bind_some]
  show ((entry_Remove.f k (ST n) (nmI q)).bind _) = _
  rw [rem_eq _ _ (small hs) k (by omega), hrm, Option.bind_some]
  dsimp only
  have t3 : Int.tdiv (q : Int) 3 = ((q / 3 : Nat) : Int) := td 3 (by decide)
  have m3 : Int.tmod (q : Int) 3 = ((q % 3 : Nat) : Int) := tm 3 (by decide)
  rw [if_pos rfl, if_pos rfl, t3, wk (n := ((q / 3 : Nat) : Int)) (by omega) (by omega), if_pos rfl, m3, if_pos rfl, if_pos rfl, if_pos (by omega)]
  show ((entry_Add.f k b 1 (nmI q)).bind _) = _
  rw [hadd2, hadd, Option.bind_some]
  dsimp only
  rw [if_pos rfl, if_pos rfl, hcl, if_pos rfl, if_pos (by omega), if_pos (by omega), getL_nat _ _ (by rw [hcl]; exact hi), hci, List.length_append, List.length_singleton, wk (n := ((b[q / 3].length + 1 : Nat) : Int) - 1) (by omega) (by omega), show ((b[q / 3].length + 1 : Nat) : Int) - 1 = ((b[q / 3].length : Nat) : Int) from by omega,
    if_pos (by omega), if_pos (by omega), getT_nat _ _ (by rw [List.length_append, List.length_singleton]; omega), hlast]
  show some ((nmI q).toList == (nmI q).toList) = some true
  rw [beq_self_eq_true]
theorem many_loop (n q : Nat) (a1 : Int) (hn : n ≤ 100) (hq : q < n) (ha : Int.tmod (wrap64 a1) (n : Int) = (q : Int)) : ∀ d i k : Nat, d + i = n → 300 + d < k → drydocklaw10_EntryMany.l0 k a1 (n : Int) (ST i) (i : Int) = some true
  | 0, i, k, hi, hk => by
    obtain rfl : i = n := by omega
    exact many_end i q a1 hn hq ha k (by omega)
  | d + 1, i, k, hi, hk => by
    obtain ⟨k, rfl⟩ : ∃ z, k = z + 1 := ⟨k - 1, by omega⟩
    obtain ⟨hs, hm⟩ := inv_ST i (by omega)
    have hadd := (addI_ST i (by omega) hs hm).1
    have hadd2 := add_eq (ST i) (E i) (small hs) k (by omega)
    have m32 : Int.tmod (i : Int) 32 = ((i % 32 : Nat) : Int) := tm 32 (by decide)
    have t3 : Int.tdiv (i : Int) 3 = ((i / 3 : Nat) : Int) := td 3 (by decide)
    rw [drydocklaw10_EntryMany.l0, if_pos (by omega), Option.bind_some, name_of i (by omega), if_pos (size_two _ _), m32]
    show ((entry_Add.f k (ST i) (E i).f0 (E i).f1).bind _) = _
    rw [hadd2, hadd, Option.bind_some, awake10_true _ (by omega), Option.bind_some, if_pos rfl]
    dsimp only
    rw [if_pos rfl, t3, wk (n := ((i / 3 : Nat) : Int)) (by omega) (by omega), if_pos rfl, wk (n := (i : Int) + 1) (by omega) (by omega)]
    exact many_loop n q a1 hn hq ha d (i + 1) k (by omega) (by omega)
theorem EntryMany : drydocklaw10_EntryMany.Pure := by
  intro a0 a1 h0 h1
  have b0 := bytes_wf (l := [a0]) (by intro x hx; rw [List.mem_singleton.1 hx]; exact h0) a0 (List.mem_singleton.2 rfl)
  have b1 := bytes_wf (l := [a1]) (by intro x hx; rw [List.mem_singleton.1 hx]; exact h1) a1 (List.mem_singleton.2 rfl)
  obtain ⟨c0, rfl⟩ : ∃ c : Nat, a0 = c := ⟨a0.toNat, by omega⟩
  obtain ⟨c1, rfl⟩ : ∃ c : Nat, a1 = c := ⟨a1.toNat, by omega⟩
  refine ⟨1000, ?_⟩
  unfold drydocklaw10_EntryMany.f
  have m100 : Int.tmod (c0 : Int) 100 = ((c0 % 100 : Nat) : Int) := tm 100 (by decide)
  rw [wk (n := (c0 : Int)) (by omega) (by omega), m100, wk (n := ((c0 % 100 : Nat) : Int) + 1) (by omega) (by omega), show ((c0 % 100 : Nat) : Int) + 1 = ((c0 % 100 + 1 : Nat) : Int) from by omega]
  exact many_loop (c0 % 100 + 1) (c1 % (c0 % 100 + 1)) (c1 : Int) (by omega) (Nat.mod_lt _ (Nat.succ_pos _)) (by rw [wk (n := (c1 : Int)) (by omega) (by omega), tm _ (Nat.succ_pos _)]) (c0 % 100 + 1) 0 1000 (by omega) (by omega)
end Go.Proofs.Ytnccbebjligpdaa.Pure
