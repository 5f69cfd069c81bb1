/- What layer 14's printed functions come to. -/
import Derived.Test.YtjicnmelmflfbaaPAllx6
import Derived.Test.YtjicnmelmflfbaaPAllx4
import Derived.Test.YtjicnmelmflfbaaPAllx7
import Derived.Test.YtjicnmelmflfbaaPAllx6
import Derived.Test.YtjicnmelmflfbaaPAllx7
import Derived.Test.YtjicnmelmflfbaaPAllx5
import Derived.Test.YtjicnmelmflfbaaPathLaw
namespace Go.Proofs.Ytjicnmelmflfbaa.Pure
open Go Go.RowKit Go.Proofs.Ytjicnmelmflfbaa.PAll Go.Proofs.YtjicnmelmflfbaaW.PrintWords Go.Proofs.Ytjicnmelmflfbaa.PathLaw
set_option linter.unusedVariables false
set_option linter.unusedSimpArgs false

theorem data_toList (s : ByteArray) : s.data.toList = s.toList := (Lib.toList_data s).symm
/-! ### one byte in a string -/
theorem index_mem (l : List UInt8) (c : UInt8) : (Lib.indexByte l c ≥ 0) ↔ c ∈ l := by
  have hge := Lib.indexByte_ge l c
  constructor
  · intro h
    obtain ⟨o, ho⟩ : ∃ o : Nat, Lib.indexByte l c = o := ⟨(Lib.indexByte l c).toNat, by omega⟩
    exact List.mem_of_getElem? (Lib.indexByte_some ho).1
  · intro h
    apply Classical.byContradiction
    intro h2
    obtain ⟨k, hk, e⟩ := List.getElem_of_mem h
    exact Lib.indexByte_none (show Lib.indexByte l c = -1 by omega) k (by rw [List.getElem?_eq_getElem hk, e])
theorem contains_eq (s : ByteArray) (c : UInt8) : strings_Contains.f s (⟨#[c]⟩ : ByteArray) = some (s.toList.contains c) := by
  have e : strings_Contains.f s (⟨#[c]⟩ : ByteArray) = some (decide (Lib.indexByte s.data.toList c ≥ 0)) := rfl
  rw [e, data_toList, List.contains_eq_mem]
  congr 1
  exact decide_eq_decide.2 (index_mem _ _)
theorem named_eq (s : ByteArray) : entry_Named.f s = some (nm s.toList) := by
  unfold entry_Named.f
  rw [contains_eq, contains_eq]
  unfold nm
  have hz := size_toList s
  by_cases h0 : s.toList = []
  · rw [if_pos h0, h0]; rfl
  rw [if_neg h0]
  have h1 : 1 ≤ s.toList.length := by
    cases hl : s.toList with
    | nil => exact absurd hl h0
    | cons a b => exact Nat.le_add_left _ _
  by_cases h2 : (s.size : Int) ≤ 17
  · rw [if_pos h2]
    by_cases h3 : s.toList = [46]
    · rw [if_pos h3, h3]; rfl
    rw [if_neg h3]
    by_cases h4 : s.toList = [46, 46]
    · rw [if_pos h4, h4]; rfl
    rw [if_neg h4, decide_eq_true h1, decide_eq_true (show s.toList.length ≤ 17 by omega), beq_eq_false_iff_ne.2 h3, beq_eq_false_iff_ne.2 h4]
    simp only [Option.bind_some, Bool.true_and, Bool.not_false]
    cases s.toList.contains 47 <;> rfl
  · rw [if_neg h2, decide_eq_false (show ¬ s.toList.length ≤ 17 by omega)]
    simp
/-! ### the reference's Named -/
theorem bt_toList (s : ByteArray) (i : Nat) (h : i < s.size) : ∃ c : UInt8, s.toList.drop i = c :: s.toList.drop (i + 1) ∧ bt s (i : Int) = (c.toNat : Int) := by
  have hz := size_toList s
  have hl : i < s.toList.length := by omega
  refine ⟨s.toList[i], List.drop_eq_getElem_cons hl, ?_⟩
  rw [← bt_at s (i : Int) (by rw [Int.toNat_natCast]; exact h)]
  congr 2
  simp only [Int.toNat_natCast, Lib.toList_data]
  rfl
theorem byte_is (c : UInt8) (n : Nat) (hn : n < 256) : ((c.toNat : Int) = (n : Int)) ↔ c = UInt8.ofNat n := by
  constructor
  · intro h
    apply UInt8.toNat.inj
    rw [UInt8.toNat_ofNat']
    omega
  · rintro rfl
    rw [UInt8.toNat_ofNat']
    omega
theorem rnamed_loop (s : ByteArray) (hs : s.size ≤ 9223372036854775807) : ∀ d i k : Nat, d + i = s.size → d < k → drydockref10_Named.l0 k s (i : Int) = some ((nm s.toList || (s.toList.take i).contains 47 || (s.toList.take i).contains 0) && !((s.toList.drop i).contains 47) && !((s.toList.drop i).contains 0) && (decide (1 ≤ s.toList.length) && decide (s.toList.length ≤ 17) && !(s.toList == [46]) && !(s.toList == [46, 46])))
  | 0, i, k + 1, hi, _ => by
    have hz := size_toList s
    rw [drydockref10_Named.l0, if_neg (by omega), List.drop_of_length_le (by omega), List.take_of_length_le (by omega)]
    have g1 : ((s.size : Int) ≥ 1) ↔ 1 ≤ s.toList.length := by omega
    have g2 : ((s.size : Int) ≤ 17) ↔ s.toList.length ≤ 17 := by omega
    by_cases h1 : 1 ≤ s.toList.length
    · rw [if_pos (g1.2 h1), decide_eq_true h1]
      by_cases h2 : s.toList.length ≤ 17
      · rw [if_pos (g2.2 h2), decide_eq_true h2]
        by_cases h3 : s.toList = [46]
        · rw [if_pos h3, h3]; rfl
        · rw [if_neg h3, beq_eq_false_iff_ne.2 h3]
          unfold nm
          rw [decide_eq_true h1, decide_eq_true h2, beq_eq_false_iff_ne.2 h3]
          by_cases h4 : s.toList = [46, 46]
          · rw [h4]; rfl
          · rw [beq_eq_false_iff_ne.2 h4, bne_iff_ne.2 h4]
            cases s.toList.contains 47 <;> cases s.toList.contains 0 <;> rfl
      · rw [if_neg (fun h => h2 (g2.1 h)), decide_eq_false h2]; simp
    · rw [if_neg (fun h => h1 (g1.1 h)), decide_eq_false h1]; simp
  | d + 1, i, k + 1, hi, hk => by
    obtain ⟨c, hc, hb⟩ := bt_toList s i (by omega)
    have hz := size_toList s
    rw [drydockref10_Named.l0, if_pos (by omega), if_pos (by omega), hb, hc]
    by_cases e1 : c = 47
    · rw [if_pos (show (c.toNat : Int) = 47 by rw [e1]; rfl), e1]
      simp
    · rw [if_neg (show ¬ (c.toNat : Int) = 47 from fun h => e1 ((byte_is c 47 (by omega)).1 h))]
      by_cases e0 : c = 0
      · rw [if_pos (show (c.toNat : Int) = 0 by rw [e0]; rfl), e0]
        simp
      · rw [if_neg (show ¬ (c.toNat : Int) = 0 from fun h => e0 ((byte_is c 0 (by omega)).1 h))]
        rw [show wrap64 ((i : Int) + 1) = ((i + 1 : Nat) : Int) from by unfold wrap64; omega, rnamed_loop s hs d (i + 1) k (by omega) (by omega)]
        have ht : s.toList.take (i + 1) = s.toList.take i ++ [c] := by
          have hl : i < s.toList.length := by omega
          rw [List.take_succ_eq_append_getElem hl]
          rw [List.drop_eq_getElem_cons hl] at hc
          rw [(List.cons.inj hc).1]
        have q1 : (c :: s.toList.drop (i + 1)).contains 47 = (s.toList.drop (i + 1)).contains 47 := by
          rw [List.contains_cons]; simp [Ne.symm e1]
        have q0 : (c :: s.toList.drop (i + 1)).contains 0 = (s.toList.drop (i + 1)).contains 0 := by
          rw [List.contains_cons]; simp [Ne.symm e0]
        have p1 : (s.toList.take (i + 1)).contains 47 = (s.toList.take i).contains 47 := by
          rw [ht]; simp [List.contains_eq_mem, Ne.symm e1]
        have p0 : (s.toList.take (i + 1)).contains 0 = (s.toList.take i).contains 0 := by
          rw [ht]; simp [List.contains_eq_mem, Ne.symm e0]
        rw [q1, q0, p1, p0]
theorem rnamed_eq (s : ByteArray) (hs : s.size ≤ 9223372036854775807) (k : Nat) (hk : s.size < k) : drydockref10_Named.f k s = some (nm s.toList) := by
  unfold drydockref10_Named.f
  have h := rnamed_loop s hs s.size 0 k rfl hk
  rw [show ((0 : Nat) : Int) = 0 from rfl] at h
  rw [h, List.drop_zero, List.take_zero]
  congr 1
  unfold nm
  generalize decide (1 ≤ s.toList.length) = a
  generalize decide (s.toList.length ≤ 17) = b
  generalize (s.toList == [46]) = c
  generalize (s.toList == [46, 46]) = d
  generalize s.toList.contains 47 = e
  generalize s.toList.contains 0 = f
  revert a b c d e f
  decide

/-! ### the program's Split -/
theorem cut_pieces (s : ByteArray) (hs : s.size ≤ 1024) : ∃ p r m, strings_Cut.f s (⟨#[47]⟩ : ByteArray) = some (p, r, m) ∧ pieces s.toList = p.toList :: (if m = true then pieces r.toList else []) ∧ (m = true → r.size < s.size) := by
  have e1 : ((⟨#[47]⟩ : ByteArray).size : Int) = 1 := rfl
  have hz := size_toList s
  have he : strings_Cut.f s (⟨#[47]⟩ : ByteArray) = (stringslite_Cut.f s (⟨#[47]⟩ : ByteArray)).bind fun c => some (c.1, c.2.1, c.2.2) := rfl
  have hx : stringslite_Index.f s (⟨#[47]⟩ : ByteArray) = some (Lib.indexByte s.data.toList 47) := rfl
  unfold stringslite_Cut.f at he
  rw [hx, Option.bind_some, e1, data_toList] at he
  have hge := Lib.indexByte_ge s.toList 47
  by_cases hi : Lib.indexByte s.toList 47 ≥ 0
  · obtain ⟨o, ho⟩ : ∃ o : Nat, Lib.indexByte s.toList 47 = o := ⟨(Lib.indexByte s.toList 47).toNat, by omega⟩
    obtain ⟨h1, h2⟩ := Lib.indexByte_some ho
    have hl : o < s.toList.length := (List.getElem?_eq_some_iff.1 h1).1
    have hw : wrap64 ((o : Int) + 1) = ((o + 1 : Nat) : Int) := by unfold wrap64; omega
    rw [ho, if_pos (by omega), if_pos (by omega), if_pos (by omega), hw, if_pos (by omega), if_pos (by omega), Option.bind_some, Int.toNat_natCast, Int.toNat_natCast] at he
    refine ⟨_, _, _, he, ?_, fun _ => ?_⟩
    · rw [if_pos rfl, toList_extract, toList_extract, List.drop_zero, Nat.sub_zero, List.take_of_length_le (l := s.toList.drop (o + 1)) (by rw [List.length_drop]; omega)]
      have hsp : s.toList = s.toList.take o ++ 47 :: s.toList.drop (o + 1) := by
        have := List.take_append_drop o s.toList
        rw [List.drop_eq_getElem_cons hl, (List.getElem?_eq_some_iff.1 h1).2] at this
        exact this.symm
      have hn : (47 : UInt8) ∉ s.toList.take o := by
        intro hm
        obtain ⟨k, hk, e⟩ := List.getElem_of_mem hm
        rw [List.length_take] at hk
        refine h2 k (by omega) ?_
        rw [List.getElem_take] at e
        rw [List.getElem?_eq_getElem (by omega), e]
      conv => lhs; rw [hsp]
      exact pieces_stroke _ _ hn
    · rw [ByteArray.size_extract]; omega
  · rw [if_neg hi, Option.bind_some] at he
    refine ⟨_, _, _, he, ?_, fun h => Bool.noConfusion h⟩
    have hn : (47 : UInt8) ∉ s.toList := fun hm => hi ((index_mem _ _).2 hm)
    rw [pieces_none _ hn]
    rfl
theorem splitL_eq (n : Nat) : ∀ (rest : ByteArray) (out : List ByteArray) (k : Nat), rest.size < n → rest.size ≤ 1024 → out.length ≤ 16 → rest.size + 2 < k → path_Split.l0 k out rest true = some (run out (pieces rest.toList)) := by
  induction n with
  | zero => intro _ _ _ h; omega
  | succ n ih =>
    intro rest out k hn hr ho hk
    obtain ⟨p, r, m, hc, hp, hm⟩ := cut_pieces rest hr
    obtain ⟨k, rfl⟩ : ∃ j, k = j + 1 := ⟨k - 1, by omega⟩
    have next : ∀ out' : List ByteArray, out'.length ≤ 16 → path_Split.l0 k out' r m = some (run out' (if m = true then pieces r.toList else [])) := by
      intro out' ho'
      cases m with
      | false =>
        obtain ⟨k, rfl⟩ : ∃ j, k = j + 1 := ⟨k - 1, by omega⟩
        rfl
      | true =>
        have := hm rfl
        rw [ih r out' k (by omega) (by omega) ho' (by omega), if_pos rfl]
    rw [path_Split.l0, if_neg (by decide), hc, Option.bind_some, hp, run]
    simp only []
    by_cases c1 : p.toList = []
    · rw [if_pos c1, if_pos c1]; exact next out ho
    rw [if_neg c1, if_neg c1]
    by_cases c2 : p.toList = [46]
    · rw [if_pos c2, if_pos c2]; exact next out ho
    rw [if_neg c2, if_neg c2]
    by_cases c3 : p.toList = [46, 46]
    · rw [if_pos c3, if_pos c3]; exact next _ (by rw [List.length_take]; omega)
    rw [if_neg c3, if_neg c3, named_eq, Option.bind_some]
    cases hb : nm p.toList with
    | false => rw [if_neg (by decide), if_neg (by decide)]
    | true =>
      rw [if_pos rfl, if_pos rfl]
      by_cases c4 : out.length = 16
      · rw [if_pos (by omega), if_pos c4]
      · rw [if_neg (by omega), if_neg c4, if_pos (by omega), next _ (by rw [List.length_append, List.length_singleton]; omega), toList_B]
theorem prefix_eq (s : ByteArray) : strings_HasPrefix.f s (⟨#[47]⟩ : ByteArray) = some (match s.toList with | 47 :: _ => true | _ => false) := by
  have he : strings_HasPrefix.f s (⟨#[47]⟩ : ByteArray) = stringslite_HasPrefix.f s (⟨#[47]⟩ : ByteArray) := by
    unfold strings_HasPrefix.f
    cases stringslite_HasPrefix.f s (⟨#[47]⟩ : ByteArray) <;> rfl
  have e1 : ((⟨#[47]⟩ : ByteArray).size : Int) = 1 := rfl
  have hz := size_toList s
  rw [he]
  unfold stringslite_HasPrefix.f
  rw [e1]
  cases hl : s.toList with
  | nil =>
    rw [hl, List.length_nil] at hz
    rw [if_neg (by omega)]
  | cons c r =>
    rw [hl, List.length_cons] at hz
    rw [if_pos (by omega), if_pos (by omega), if_pos (by omega), toList_extract, hl, show (⟨#[47]⟩ : ByteArray).toList = [47] from B_toList [47]]
    show some ([c] == [47]) = _
    by_cases h : c = 47
    · subst h; rfl
    · rw [beq_eq_false_iff_ne.2 (fun e => h (List.cons.inj e).1)]
      split
      · rename_i h1; exact absurd (List.cons.inj h1).1 h
      · rfl
theorem pathSplit_eq (s : ByteArray) (k : Nat) (hk : 1027 < k) : path_Split.f k s = some (split s) := by
  unfold path_Split.f split
  by_cases h : s.size > 1024
  · rw [if_pos (by omega), if_pos h]
  rw [if_neg (by omega), if_neg h, prefix_eq, Option.bind_some]
  have hz := size_toList s
  cases hl : s.toList with
  | nil => rfl
  | cons c r =>
    rw [hl, List.length_cons] at hz
    by_cases h47 : c = 47
    · subst h47
      show (if true = true then _ else _) = some (run [] (pieces r))
      rw [if_pos rfl, if_pos (by omega), splitL_eq (s.size + 1) _ [] k (by rw [ByteArray.size_extract]; omega) (by rw [ByteArray.size_extract]; omega) (Nat.zero_le _) (by rw [ByteArray.size_extract]; omega), toList_extract, hl]
      rw [List.drop_succ_cons, List.drop_zero, List.take_of_length_le (by omega)]
    · split
      · rename_i h1
        exact absurd (List.cons.inj h1).1 h47
      · rw [if_neg (by decide)]
        split
        · rename_i h2; exact absurd (List.cons.inj h2).1 h47
        · rfl
/-! ### the reference's Split -/
theorem rsplit_piece (s part : ByteArray) (out : List ByteArray) (i K : Nat) (Q : List Bs) (hi : i ≤ 1024) (hp : part.size ≤ 1024) (ho : out.length ≤ 16)
    (next : ∀ (out' : List ByteArray) (k' : Nat), out'.length ≤ 16 → K ≤ k' → drydockref14_Split.l0 k' s out' (⟨#[]⟩ : ByteArray) ((i + 1 : Nat) : Int) = some (run out' Q)) (k : Nat) (hk : K + 1030 ≤ k) :
    drydockref14_Split.j2 k s out part (i : Int) false = some (run out (part.toList :: Q)) := by
  obtain ⟨k, rfl⟩ : ∃ j, k = j + 1 + 1 := ⟨k - 2, by omega⟩
  have hw : wrap64 ((i : Int) + 1) = ((i + 1 : Nat) : Int) := by unfold wrap64; omega
  have j3t : drydockref14_Split.j3 (k + 1) s out part (i : Int) true = some (run out Q) := by
    rw [drydockref14_Split.j3, if_pos rfl, hw, next out k ho (by omega)]
  rw [drydockref14_Split.j2, if_neg (by decide), run]
  by_cases c1 : part.toList = []
  · rw [if_pos c1, if_pos c1, j3t]
  rw [if_neg c1, if_neg c1]
  by_cases c2 : part.toList = [46]
  · rw [if_pos c2, beq_iff_eq.2 c2, j3t]
  rw [if_neg c2, beq_eq_false_iff_ne.2 c2, drydockref14_Split.j3, if_neg (by decide)]
  by_cases c3 : part.toList = [46, 46]
  · rw [if_pos c3, if_pos c3]
    by_cases c4 : (out.length : Int) > 0
    · have hv : wrap64 ((out.length : Int) - 1) = ((out.length - 1 : Nat) : Int) := by unfold wrap64; omega
      rw [if_pos c4, hv, if_pos (by omega), if_pos (by omega), Int.toNat_natCast, hw, next _ k (by rw [List.length_take]; omega) (by omega)]
    · rw [if_neg c4, hw, next out k ho (by omega)]
      obtain rfl : out = [] := List.length_eq_zero_iff.1 (by omega)
      rfl
  rw [if_neg c3, if_neg c3, rnamed_eq part (by omega) k (by omega), Option.bind_some]
  cases hb : nm part.toList with
  | false => rw [if_neg (by decide), if_neg (by decide)]
  | true =>
    rw [if_pos rfl, if_pos rfl]
    by_cases c4 : out.length = 16
    · rw [if_pos (by omega), if_pos c4]
    · rw [if_neg (by omega), if_neg c4, if_pos (by omega), hw, next _ k (by rw [List.length_append, List.length_singleton]; omega) (by omega), toList_B]
theorem rsplit_loop (s : ByteArray) (hs : s.size ≤ 1024) : ∀ (d i : Nat), d + i = s.size → ∀ (out : List ByteArray) (part : ByteArray) (k : Nat), part.size ≤ i → out.length ≤ 16 → 1040 * (d + 1) ≤ k → drydockref14_Split.l0 k s out part (i : Int) = some (run out (att part.toList (pieces (s.toList.drop i))))
  | 0, i, hi => by
    intro out part k hp ho hk
    obtain ⟨k, rfl⟩ : ∃ j, k = j + 1 := ⟨k - 1, by omega⟩
    have hz := size_toList s
    rw [drydockref14_Split.l0, if_pos (by omega), if_neg (by omega), List.drop_of_length_le (by omega)]
    rw [rsplit_piece s part out i 1 [] (by omega) (by omega) ho (fun out' k' _ hk' => by
      obtain ⟨k', rfl⟩ : ∃ j, k' = j + 1 := ⟨k' - 1, by omega⟩
      rw [drydockref14_Split.l0, if_neg (by omega)]
      rfl) k (by omega)]
    show _ = some (run out [part.toList ++ []])
    rw [List.append_nil]
  | d + 1, i, hi => by
    intro out part k hp ho hk
    obtain ⟨k, rfl⟩ : ∃ j, k = j + 1 := ⟨k - 1, by omega⟩
    obtain ⟨c, hc, hb⟩ := bt_toList s i (by omega)
    have hz := size_toList s
    rw [drydockref14_Split.l0, if_pos (by omega), if_pos (by omega), if_pos (by omega), hb, hc]
    by_cases e1 : c = 47
    · rw [e1, show (((47 : UInt8).toNat : Int) != 47) = false from rfl]
      rw [rsplit_piece s part out i (1040 * (d + 1)) (pieces (s.toList.drop (i + 1))) (by omega) (by omega) ho (fun out' k' ho' hk' => by
        have := rsplit_loop s hs d (i + 1) (by omega) out' (⟨#[]⟩ : ByteArray) k' (Nat.zero_le _) ho' hk'
        rw [this, show (⟨#[]⟩ : ByteArray).toList = [] from B_toList [], att_nil]) k (by omega)]
      rw [pieces, if_pos rfl]
      show _ = some (run out ((part.toList ++ []) :: _))
      rw [List.append_nil]
    · have hne : (((c.toNat : Int)) != 47) = true := bne_iff_ne.2 (fun h => e1 ((byte_is c 47 (by omega)).1 h))
      obtain ⟨k, rfl⟩ : ∃ j, k = j + 1 := ⟨k - 1, by omega⟩
      have hw : wrap64 ((i : Int) + 1) = ((i + 1 : Nat) : Int) := by unfold wrap64; omega
      have hx : (s.extract i (i + 1)).toList = [c] := by
        rw [toList_extract, hc, show i + 1 - i = 1 by omega]; rfl
      have hxs : (s.extract i (i + 1)).size = 1 := by rw [← size_toList, hx]; rfl
      rw [hne, drydockref14_Split.j2, if_pos rfl, if_pos (by omega), hw, if_pos (by omega), if_pos (by omega), Int.toNat_natCast, Int.toNat_natCast, if_pos (by rw [hxs]; omega)]
      rw [rsplit_loop s hs d (i + 1) (by omega) out _ k (by rw [ByteArray.size_append, hxs]; omega) ho (by omega), toList_append, hx]
      obtain ⟨p, ps, hp2⟩ := pieces_cons (s.toList.drop (i + 1))
      rw [pieces, if_neg e1, hp2]
      show some (run out (((part.toList ++ [c]) ++ p) :: ps)) = some (run out ((part.toList ++ (c :: p)) :: ps))
      rw [List.append_assoc]
      rfl
theorem refSplit_eq (s : ByteArray) (k : Nat) (hk : 1066000 ≤ k) : drydockref14_Split.f k s = some (split s) := by
  unfold drydockref14_Split.f split
  by_cases h : s.size > 1024
  · rw [if_pos (by omega), if_pos h]
  rw [if_neg (by omega), if_neg h]
  have hz := size_toList s
  obtain ⟨k, rfl⟩ : ∃ j, k = j + 1 := ⟨k - 1, by omega⟩
  have jt : drydockref14_Split.j0 (k + 1) s true = some ([], 2) := by rw [drydockref14_Split.j0, if_pos rfl]
  cases hl : s.toList with
  | nil =>
    rw [hl, List.length_nil] at hz
    rw [if_pos (by omega), jt]
  | cons c r =>
    rw [hl, List.length_cons] at hz
    obtain ⟨c', hc', hb⟩ := bt_toList s 0 (by omega)
    rw [hl, List.drop_zero] at hc'
    obtain ⟨rfl, hr⟩ := List.cons.inj hc'
    rw [if_neg (by omega), if_pos (by omega), show (0 : Int) = ((0 : Nat) : Int) from rfl, hb]
    by_cases h47 : c = 47
    · rw [h47, show (((47 : UInt8).toNat : Int) != 47) = false from rfl, drydockref14_Split.j0, if_neg (by decide)]
      have := rsplit_loop s (by omega) (s.size - 1) 1 (by omega) [] (⟨#[]⟩ : ByteArray) k (Nat.zero_le _) (Nat.zero_le _) (by omega)
      rw [show (1 : Int) = ((1 : Nat) : Int) from rfl, this, show (⟨#[]⟩ : ByteArray).toList = [] from B_toList [], att_nil, hl, List.drop_succ_cons, List.drop_zero]
      rfl
    · rw [show ((c.toNat : Int) != 47) = true from bne_iff_ne.2 (fun h => h47 ((byte_is c 47 (by omega)).1 h)), jt]
      split
      · rename_i h1; exact absurd (List.cons.inj h1).1 h47
      · rfl
/-! ### lists compared -/
theorem rdOf_nat (l : List ByteArray) (i : Nat) (h : i < l.length) : rdOf ByteArray.empty l (i : Int) = l[i] := by
  show l.getD (i : Int).toNat _ = _
  rw [Int.toNat_natCast, List.getD_eq_getElem?_getD, List.getElem?_eq_getElem h]; rfl
theorem same_loop (a b : List ByteArray) (hab : a.length = b.length) (hs : a.length < 9223372036854775807) : ∀ d i k : Nat, d + i = a.length → d < k → drydockref14_Same.l0 k a b (i : Int) = some (decide (a.drop i = b.drop i))
  | 0, i, k + 1, hi, _ => by
    rw [drydockref14_Same.l0, if_neg (by omega), List.drop_of_length_le (by omega), List.drop_of_length_le (by omega)]
    rfl
  | d + 1, i, k + 1, hi, hk => by
    have ha : i < a.length := by omega
    have hb : i < b.length := by omega
    rw [drydockref14_Same.l0, if_pos (by omega), if_pos (by omega), if_pos (by omega), rdOf_nat a i ha, rdOf_nat b i hb, List.drop_eq_getElem_cons ha, List.drop_eq_getElem_cons hb]
    by_cases h : a[i] = b[i]
    · rw [if_pos (by rw [h]), show wrap64 ((i : Int) + 1) = ((i + 1 : Nat) : Int) from by unfold wrap64; omega, same_loop a b hab hs d (i + 1) k (by omega) (by omega)]
      rw [h]
      exact congrArg some (decide_eq_decide.2 ⟨fun e => by rw [e], fun e => (List.cons.inj e).2⟩)
    · rw [if_neg (fun e => h (toList_inj.1 e))]
      exact congrArg some (decide_eq_false (fun e => h (List.cons.inj e).1)).symm
theorem same_eq (a b : List ByteArray) (hs : a.length < 9223372036854775807) (k : Nat) (hk : a.length < k) : drydockref14_Same.f k a b = some (decide (a = b)) := by
  unfold drydockref14_Same.f
  by_cases h : a.length = b.length
  · rw [if_pos (by omega), show (0 : Int) = ((0 : Nat) : Int) from rfl, same_loop a b h hs a.length 0 k (by omega) hk]; rfl
  · rw [if_neg (by omega)]
    congr 1
    exact (decide_eq_false (fun e => h (by rw [e]))).symm
theorem equal_loop (a b : List ByteArray) (hab : a.length = b.length) (hs : a.length < 9223372036854775807) : ∀ d i k : Nat, d + i = a.length → d < k → slices_Equal_string_string.l0 k a b (a.length : Int) (i : Int) = some (decide (a.drop i = b.drop i))
  | 0, i, k + 1, hi, _ => by
    rw [slices_Equal_string_string.l0, if_neg (by omega), List.drop_of_length_le (by omega), List.drop_of_length_le (by omega)]
    rfl
  | d + 1, i, k + 1, hi, hk => by
    have ha : i < a.length := by omega
    have hb : i < b.length := by omega
    rw [slices_Equal_string_string.l0, if_pos (by omega), if_pos (by omega), if_pos (by omega), if_pos (by omega), rdOf_nat a i ha, rdOf_nat b i hb, List.drop_eq_getElem_cons ha, List.drop_eq_getElem_cons hb]
    by_cases h : a[i] = b[i]
    · rw [if_pos (by rw [h]), show wrap64 ((i : Int) + 1) = ((i + 1 : Nat) : Int) from by unfold wrap64; omega, equal_loop a b hab hs d (i + 1) k (by omega) (by omega)]
      rw [h]
      exact congrArg some (decide_eq_decide.2 ⟨fun e => by rw [e], fun e => (List.cons.inj e).2⟩)
    · rw [if_neg (fun e => h (toList_inj.1 e))]
      exact congrArg some (decide_eq_false (fun e => h (List.cons.inj e).1)).symm
theorem equal_eq (a b : List ByteArray) (hs : a.length < 9223372036854775807) (k : Nat) (hk : a.length < k) : slices_Equal_string_string.f k a b = some (decide (a = b)) := by
  unfold slices_Equal_string_string.f
  by_cases h : a.length = b.length
  · rw [if_pos (by omega), show (0 : Int) = ((0 : Nat) : Int) from rfl, equal_loop a b h hs a.length 0 k (by omega) hk]; rfl
  · rw [if_neg (by omega)]
    congr 1
    exact (decide_eq_false (fun e => h (by rw [e]))).symm

/-! ### joining -/
theorem join_strokes (x : ByteArray) (xs : List ByteArray) : Lib.join ((x :: xs).map (·.data.toList)) [47] = x.toList ++ strokes xs := by
  induction xs generalizing x with
  | nil =>
    show Lib.join [x.data.toList] [47] = x.toList ++ []
    rw [Lib.join_one, List.append_nil, data_toList]
  | cons y ys ih =>
    rw [strokes_cons, ← ih y]
    show [47].intercalate (x.data.toList :: y.data.toList :: ys.map _) = _
    rw [← data_toList]
    unfold Lib.join
    simp [List.intercalate, List.intersperse]
theorem any_named (l : List ByteArray) : l.any (fun s => !(entry_Named.f s).getD false) = l.any (fun x => !nm x.toList) := by
  congr 1
  funext s
  rw [named_eq]
  rfl
theorem joinLen (l : List ByteArray) (h : good l) : (Lib.join (l.map (·.data.toList)) [47]).length ≤ 1024 := by
  cases l with
  | nil => exact Nat.zero_le _
  | cons x xs =>
    rw [join_strokes]
    have h2 := good_weigh h.2
    have h3 := h.1
    have e : (x.toList ++ strokes xs).length + 1 = (strokes (x :: xs)).length := by rw [strokes_cons, List.length_cons]
    have := strokes_length (x :: xs)
    omega
theorem pathJoin_eq (l : List ByteArray) : path_Join.f l = some (join l) := by
  unfold path_Join.f join
  by_cases h : l.length > 16
  · rw [if_pos (by omega), if_pos h]
  rw [if_neg (by omega), if_neg h, any_named]
  by_cases h2 : l.any (fun x => !nm x.toList) = true
  · rw [if_pos h2, if_pos h2]
  rw [if_neg h2, if_neg h2]
  have hg : good l := by
    refine ⟨by omega, fun x hx => ?_⟩
    have h3 := Bool.eq_false_iff.2 h2
    rw [List.any_eq_false] at h3
    simpa using h3 x hx
  have hL := joinLen l hg
  have e1 : (⟨#[47]⟩ : ByteArray).data.toList = [47] := rfl
  unfold Go.Proofs.Ytjicnmelmflfbaa.JoinLaid.joinF
  rw [e1, if_pos ⟨by omega, by omega⟩, Option.bind_some]
  have hsz : (⟨(Lib.join (l.map (·.data.toList)) [47]).toArray⟩ : ByteArray).size = (Lib.join (l.map (·.data.toList)) [47]).length := B_size _
  rw [if_pos (by rw [hsz]; have : (⟨#[47]⟩ : ByteArray).size = 1 := rfl; omega)]
  congr 2
  apply toList_inj.1
  rw [toList_append, show (⟨#[47]⟩ : ByteArray).toList = [47] from B_toList [47], B_toList]
  show [47] ++ (B (Lib.join (l.map (·.data.toList)) [47])).toList = _
  rw [B_toList]
  cases l with
  | nil => rfl
  | cons x xs => rw [join_strokes]; rfl
theorem rjoin_loop (l : List ByteArray) (hl : l.length ≤ 16) (hs : ∀ x ∈ l, x.size ≤ 9223372036854775807) : ∀ (d i : Nat), d + i = l.length → ∀ (acc : ByteArray) (k : Nat), (∀ x ∈ l.take i, nm x.toList = true) → acc.toList = strokes (l.take i) → (∀ x ∈ l, x.size + d + 20 < k) → 20 < k → d + 20 < k →
    drydockref14_Join.l0 k l acc (i : Int) = some (if (l.drop i).any (fun x => !nm x.toList) = true then (⟨#[]⟩, 9) else (B (joinL l), 0))
  | 0, i, hi => by
    intro acc k hn ha hk _ hk2
    obtain ⟨k, rfl⟩ : ∃ j, k = j + 1 := ⟨k - 1, by omega⟩
    have hd : l.drop i = [] := List.drop_of_length_le (by omega)
    rw [List.take_of_length_le (by omega)] at ha
    rw [drydockref14_Join.l0, if_neg (by omega), hd, ha]
    cases l with
    | nil => rfl
    | cons x xs =>
      rw [if_neg (by rw [strokes_cons]; simp)]
      show some (acc, 0) = some (B (strokes (x :: xs)), 0)
      rw [← ha, toList_B]
  | d + 1, i, hi => by
    intro acc k hn ha hk h20 hk2
    obtain ⟨k, rfl⟩ : ∃ j, k = j + 1 := ⟨k - 1, by omega⟩
    have hil : i < l.length := by omega
    have hm : l[i] ∈ l := List.getElem_mem hil
    have hsz := hk _ hm
    have hacc : acc.size ≤ 18 * 16 := by
      rw [← size_toList, ha, strokes_length]
      have := good_weigh hn
      rw [List.length_take] at this
      omega
    rw [drydockref14_Join.l0, if_pos (by omega), if_pos (by omega), rdOf_nat l i hil, rnamed_eq _ (hs _ hm) k (by omega), Option.bind_some, List.drop_eq_getElem_cons hil]
    cases hb : nm l[i].toList with
    | false =>
      rw [if_neg (by decide), if_pos]
      rw [List.any_cons, hb]; rfl
    | true =>
      have h17 := (nm_facts hb).2.1
      rw [size_toList] at h17
      have e47 : (⟨#[47]⟩ : ByteArray).size = 1 := rfl
      rw [if_pos rfl, if_pos (by omega), if_pos (by rw [ByteArray.size_append]; omega), show wrap64 ((i : Int) + 1) = ((i + 1 : Nat) : Int) from by unfold wrap64; omega]
      have ht : l.take (i + 1) = l.take i ++ [l[i]] := List.take_succ_eq_append_getElem hil
      rw [rjoin_loop l hl hs d (i + 1) (by omega) _ k (by
        intro x hx
        rw [ht] at hx
        rcases List.mem_append.1 hx with hx | hx
        · exact hn x hx
        · rw [List.mem_singleton.1 hx]; exact hb) (by
        rw [toList_append, toList_append, show (⟨#[47]⟩ : ByteArray).toList = [47] from B_toList [47], ha, ht]
        unfold strokes
        rw [List.flatMap_append]
        show _ ++ (47 :: l[i].toList) = _ ++ (47 :: (l[i].toList ++ []))
        rw [List.append_nil]) (fun x hx => by have := hk x hx; omega) (by omega) (by omega), List.any_cons, hb]
      rfl

theorem refJoin_eq (l : List ByteArray) (hs : ∀ x ∈ l, x.size ≤ 9223372036854775807) (k : Nat) (hk : ∀ x ∈ l, x.size + 100 < k) (h100 : 100 < k) : drydockref14_Join.f k l = some (join l) := by
  unfold drydockref14_Join.f join
  by_cases h : l.length > 16
  · rw [if_pos (by omega), if_pos h]
  rw [if_neg (by omega), if_neg h, show (0 : Int) = ((0 : Nat) : Int) from rfl, rjoin_loop l (by omega) hs l.length 0 (by omega) (⟨#[]⟩ : ByteArray) k (by simp) (by rw [List.take_zero]; exact B_toList []) (fun x hx => by have := hk x hx; omega) (by omega) (by omega), List.drop_zero]
  rfl
theorem under_eq (a b : ByteArray) (k : Nat) (hk : 1027 < k) : path_Under.f k a b = some (if (split a).2 = 0 then (if (split b).2 = 0 then (decide ((split b).1.length ≤ (split a).1.length ∧ (split a).1.take (split b).1.length = (split b).1), 0) else (false, (split b).2)) else (false, (split a).2)) := by
  unfold path_Under.f
  rw [pathSplit_eq a k hk, Option.bind_some]
  have ga := (split_facts a).1.1
  by_cases h1 : (split a).2 = 0
  · rw [if_pos h1, if_pos h1, pathSplit_eq b k hk, Option.bind_some]
    by_cases h2 : (split b).2 = 0
    · rw [if_pos h2, if_pos h2]
      by_cases h3 : (split b).1.length ≤ (split a).1.length
      · rw [if_pos (by omega), if_pos (by omega), Int.toNat_natCast, equal_eq _ _ (by rw [List.length_take]; omega) k (by rw [List.length_take]; omega), Option.bind_some]
        simp [h3]
      · rw [if_neg (by omega)]
        simp [h3]
    · rw [if_neg h2, if_neg h2]
  · rw [if_neg h1, if_neg h1]
theorem begins_eq (a b : List ByteArray) (ha : a.length < 9223372036854775807) (k : Nat) (hk : a.length < k) : drydockref14_Begins.f k a b = some (decide (b.length ≤ a.length ∧ a.take b.length = b)) := by
  unfold drydockref14_Begins.f
  by_cases h3 : b.length ≤ a.length
  · rw [if_pos (by omega), if_pos (by omega), Int.toNat_natCast, same_eq _ _ (by rw [List.length_take]; omega) k (by rw [List.length_take]; omega), Option.bind_some]
    simp [h3]
  · rw [if_neg (by omega)]
    simp [h3]
theorem split_B (r : Bs) (h : r.length < 1024) : split (B (47 :: r)) = run [] (pieces r) := by
  unfold split
  rw [B_size, if_neg (by rw [List.length_cons]; omega), B_toList]
  rfl
theorem awake14_true (k : Nat) (hk : 1027 < k) : drydocklaw14_awake.f k = some true := by
  have s1 : split (⟨#[47, 47, 97, 47, 46, 47, 98, 47, 46, 46, 47, 99, 47]⟩ : ByteArray) = ([B [97], B [99]], 0) := (split_B [47, 97, 47, 46, 47, 98, 47, 46, 46, 47, 99, 47] (by decide)).trans (by rfl)
  have g : good [B [97], B [99]] := ⟨by decide, fun x hx => by
    simp only [List.mem_cons, List.not_mem_nil, or_false] at hx
    rcases hx with rfl | rfl <;> rw [B_toList] <;> decide⟩
  have j1 : join [(⟨#[97]⟩ : ByteArray), (⟨#[99]⟩ : ByteArray)] = (B [47, 97, 47, 99], 0) := by
    rw [show [(⟨#[97]⟩ : ByteArray), (⟨#[99]⟩ : ByteArray)] = [B [97], B [99]] from rfl, join_of_good g]
    congr 2
    unfold joinL strokes
    rw [if_neg (by simp)]
    simp only [List.flatMap_cons, List.flatMap_nil, B_toList]
    rfl
  have s2 : split (⟨#[47, 97, 47, 99, 47, 100]⟩ : ByteArray) = ([B [97], B [99], B [100]], 0) := (split_B [97, 47, 99, 47, 100] (by decide)).trans (by rfl)
  have s3 : split (B [47, 97, 47, 99]) = ([B [97], B [99]], 0) := (split_B [97, 47, 99] (by decide)).trans (by rfl)
  unfold drydocklaw14_awake.f
  rw [pathSplit_eq _ k hk, s1, Option.bind_some, pathJoin_eq, j1, Option.bind_some, under_eq _ _ k hk, s2, s3, Option.bind_some]
  simp only [reduceIte]
  rw [if_pos (by rfl), if_pos (by decide), show rdOf ByteArray.empty [B [97], B [99]] 1 = B [99] from rfl, B_toList, if_pos rfl, B_toList, if_pos rfl]
  rfl
end Go.Proofs.Ytjicnmelmflfbaa.Pure
