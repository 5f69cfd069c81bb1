/- What layer 10's printed functions come to: names, soundness, where a name is. -/
import Derived.Test.YtnccbebjligpdaaPAllx4
import Derived.Test.YtnccbebjligpdaaBase
namespace Go.Proofs.Ytnccbebjligpdaa.Pure
open Go Go.RowKit Go.Proofs.Ytnccbebjligpdaa.PAll Go.Proofs.YtnccbebjligpdaaW.PrintWords Go.Proofs.Ytnccbebjligpdaa.PathLaw
set_option linter.unusedVariables false
set_option linter.unusedSimpArgs false

theorem data_toList (s : ByteArray) : s.data.toList = s.toList := (Lib.toList_data s).symm
/-! ### one byte in a string -/
theorem index_mem (l : List UInt8) (c : UInt8) : (Lib.indexByte l c ≥ 0) ↔ c ∈ l := by
  have hge := Lib.indexByte_ge l c
  constructor
  · intro h
    obtain ⟨o, ho⟩ : ∃ o : Nat, Lib.indexByte l c = o := ⟨(Lib.indexByte l c).toNat, by omega⟩
    exact List.mem_of_getElem? (Lib.indexByte_some ho).1
  · intro h
    apply Classical.byContradiction
    intro h2
    obtain ⟨k, hk, e⟩ := List.getElem_of_mem h
    exact Lib.indexByte_none (show Lib.indexByte l c = -1 by omega) k (by rw [List.getElem?_eq_getElem hk, e])
theorem contains_eq (s : ByteArray) (c : UInt8) : strings_Contains.f s (⟨#[c]⟩ : ByteArray) = some (s.toList.contains c) := by
  have e : strings_Contains.f s (⟨#[c]⟩ : ByteArray) = some (decide (Lib.indexByte s.data.toList c ≥ 0)) := rfl
  rw [e, data_toList, List.contains_eq_mem]
  congr 1
  exact decide_eq_decide.2 (index_mem _ _)
theorem named_eq (s : ByteArray) : entry_Named.f s = some (nm s.toList) := by
  unfold entry_Named.f
  rw [contains_eq, contains_eq]
  unfold nm
  have hz := size_toList s
  by_cases h0 : s.toList = []
  · rw [if_pos h0, h0]; rfl
  rw [if_neg h0]
  have h1 : 1 ≤ s.toList.length := by
    cases hl : s.toList with
    | nil => exact absurd hl h0
    | cons a b => exact Nat.le_add_left _ _
  by_cases h2 : (s.size : Int) ≤ 17
  · rw [if_pos h2]
    by_cases h3 : s.toList = [46]
    · rw [if_pos h3, h3]; rfl
    rw [if_neg h3]
    by_cases h4 : s.toList = [46, 46]
    · rw [if_pos h4, h4]; rfl
    rw [if_neg h4, decide_eq_true h1, decide_eq_true (show s.toList.length ≤ 17 by omega), beq_eq_false_iff_ne.2 h3, beq_eq_false_iff_ne.2 h4]
    simp only [Option.bind_some, Bool.true_and, Bool.not_false]
    cases s.toList.contains 47 <;> rfl
  · rw [if_neg h2, decide_eq_false (show ¬ s.toList.length ≤ 17 by omega)]
    simp
/-! ### the reference's Named -/
theorem bt_toList (s : ByteArray) (i : Nat) (h : i < s.size) : ∃ c : UInt8, s.toList.drop i = c :: s.toList.drop (i + 1) ∧ bt s (i : Int) = (c.toNat : Int) := by
  have hz := size_toList s
  have hl : i < s.toList.length := by omega
  refine ⟨s.toList[i], List.drop_eq_getElem_cons hl, ?_⟩
  rw [← bt_at s (i : Int) (by rw [Int.toNat_natCast]; exact h)]
  congr 2
  simp only [Int.toNat_natCast, Lib.toList_data]
  rfl
theorem byte_is (c : UInt8) (n : Nat) (hn : n < 256) : ((c.toNat : Int) = (n : Int)) ↔ c = UInt8.ofNat n := by
  constructor
  · intro h
    apply UInt8.toNat.inj
    rw [UInt8.toNat_ofNat']
    omega
  · rintro rfl
    rw [UInt8.toNat_ofNat']
    omega
/-! ### entries -/
def rgt (x : S41) : Bool := decide (x.f0 ≥ 0) && decide (x.f0 < 32) && nm x.f1.toList
theorem right_eq (a : Int) (s : ByteArray) : entry_right.f a s = some (rgt ⟨a, s⟩) := by
  unfold entry_right.f rgt
  rw [named_eq]
  by_cases h1 : a ≥ 0
  · rw [if_pos h1, decide_eq_true h1]
    by_cases h2 : a < 32
    · rw [if_pos h2, decide_eq_true h2]; rfl
    · rw [if_neg h2, decide_eq_false h2]; simp
  · rw [if_neg h1, decide_eq_false h1]; simp
theorem rightB_eq (x : S41) : entry_sound.rightB x = rgt x := by
  unfold entry_sound.rightB
  rw [right_eq]; rfl
/-! ### names that are all different -/
def dst : List Bs → List Bs → Bool
  | _, [] => true
  | acc, s :: r => !acc.contains s && dst (acc ++ [s]) r
theorem fold_le : ∀ (xs L : List Lit), (xs.foldl Go.Maps.addKey L).length ≤ L.length + xs.length
  | [], L => Nat.le_refl _
  | x :: r, L => by
    rw [List.foldl_cons, List.length_cons]
    have h := fold_le r (Go.Maps.addKey L x)
    have h2 : (Go.Maps.addKey L x).length ≤ L.length + 1 := by
      unfold Go.Maps.addKey
      split
      · exact Nat.le_succ _
      · rw [List.length_append, List.length_singleton]; exact Nat.le_refl _
    omega
theorem any_key (acc : List Bs) (s : Bs) : ((acc.map Lit.string).any fun y => y.sameKey (Lit.string s)) = acc.contains s := by
  induction acc with
  | nil => rfl
  | cons a r ih =>
    rw [List.map_cons, List.any_cons, ih, List.contains_cons]
    congr 1
    by_cases e : a = s
    · subst e
      rw [Go.WideAt.sameKey_self (show Go.WideAt.IsKeyLit (Lit.string a) from trivial)]
      exact (beq_self_eq_true _).symm
    · rw [beq_eq_false_iff_ne.2 (fun h => e h.symm)]
      cases hb : (Lit.string a).sameKey (Lit.string s) with
      | false => rfl
      | true => exact absurd (by simpa using Go.WideAt.sameKey_eq hb) e
theorem fold_dst : ∀ (xs acc : List Bs), ((xs.map Lit.string).foldl Go.Maps.addKey (acc.map Lit.string)).length = acc.length + xs.length ↔ dst acc xs = true
  | [], acc => by simp [dst]
  | s :: r, acc => by
    rw [List.map_cons, List.foldl_cons, List.length_cons, dst]
    unfold Go.Maps.addKey
    rw [any_key]
    cases h : acc.contains s with
    | true =>
      rw [if_pos rfl]
      have h2 := fold_le (r.map Lit.string) (acc.map Lit.string)
      unfold Go.Maps.addKey at h2
      rw [List.length_map, List.length_map] at h2
      constructor
      · intro h3; omega
      · intro h3; simp at h3
    | false =>
      rw [if_neg (by decide)]
      have ih := fold_dst r (acc ++ [s])
      unfold Go.Maps.addKey at ih
      rw [List.map_append, List.length_append, List.length_singleton] at ih
      rw [Bool.not_false, Bool.true_and, ← ih]
      show _ ↔ (List.foldl _ (acc.map Lit.string ++ [Lit.string s]) _).length = _
      omega
def nmsOf (l : List S41) : List Bs := l.map (fun x => x.f1.toList)
def okE (b : List S41) : Bool := decide (b.length ≤ 3) && b.all rgt
def sndB (l : List (List S41)) : Bool := l.all okE && dst [] (nmsOf l.flatten)
theorem okB_eq (b : List S41) : entry_sound.okB b = okE b := by
  unfold entry_sound.okB okE
  congr 2
  funext x
  exact rightB_eq x
theorem sound_eq (l : List (List S41)) (hl : l.length ≤ 1000) (hs : ∀ b ∈ l, ∀ x ∈ b, x.f1.size ≤ maxLen) : entry_sound.f l = some (sndB l) := by
  unfold entry_sound.f
  rw [if_pos ⟨hl, hs⟩]
  congr 1
  unfold sndB
  have e0 : l.all entry_sound.okB = l.all okE := by
    congr 1
    funext b
    exact okB_eq b
  rw [e0]
  congr 1
  have e1 : (entry_sound.pre l l.length).map entry_sound.key = (nmsOf l.flatten).map Lit.string := by
    unfold entry_sound.pre nmsOf
    rw [List.take_of_length_le (Nat.le_refl _), List.map_map, List.map_map]
    apply List.map_congr_left
    intro x _
    show Lit.string x.f1.data.toList = Lit.string x.f1.toList
    rw [data_toList]
  have e2 : (entry_sound.pre l l.length).length = (nmsOf l.flatten).length := by
    have := congrArg List.length e1
    rwa [List.length_map, List.length_map] at this
  unfold entry_sound.D
  rw [e1, e2, Go.Maps.size_setOf _ _ (by
    intro x hx
    obtain ⟨s, _, rfl⟩ := List.mem_map.1 hx
    trivial)]
  have h := fold_dst (nmsOf l.flatten) []
  rw [List.map_nil, List.length_nil, Nat.zero_add] at h
  cases hd : dst [] (nmsOf l.flatten) with
  | true =>
    rw [h.2 hd]; exact beq_self_eq_true _
  | false =>
    apply beq_eq_false_iff_ne.2
    intro e
    have := h.1 (by omega)
    rw [hd] at this
    exact absurd this (by decide)
/-! ### the reference's Sound -/
theorem getL_nat (l : List (List S41)) (k : Nat) (h : k < l.length) : rd_L4 l (k : Int) = l[k] := by
  show l.getD (k : Int).toNat _ = _
  rw [Int.toNat_natCast, List.getD_eq_getElem?_getD, List.getElem?_eq_getElem h]; rfl
theorem getT_nat (l : List S41) (k : Nat) (h : k < l.length) : rd_T41 l (k : Int) = l[k] := by
  show l.getD (k : Int).toNat _ = _
  rw [Int.toNat_natCast, List.getD_eq_getElem?_getD, List.getElem?_eq_getElem h]; rfl
theorem dst_append : ∀ (p acc q : List Bs), dst acc (p ++ q) = (dst acc p && dst (acc ++ p) q)
  | [], acc, q => by simp [dst]
  | s :: r, acc, q => by
    rw [List.cons_append, dst, dst, dst_append r (acc ++ [s]) q, List.append_assoc, List.singleton_append, Bool.and_assoc]
/-! ### where a name is -/
def findM (n : ByteArray) (l : List (List S41)) (i : Nat) : Int × Int × Int :=
  let r := entry_find.go n l i
  if r.2.2 = true then (r.1, r.2.1, 0) else (0, 0, 4)
theorem findM_nil (n : ByteArray) (i : Nat) : findM n [] i = (0, 0, 4) := rfl
theorem findM_hit (n : ByteArray) (b : List S41) (r : List (List S41)) (i j : Nat) (h : entry_find.idx n b = some j) : findM n (b :: r) i = ((i : Int), (j : Int), 0) := by
  unfold findM entry_find.go
  rw [h]; rfl
theorem findM_miss (n : ByteArray) (b : List S41) (r : List (List S41)) (i : Nat) (h : entry_find.idx n b = none) : findM n (b :: r) i = findM n r (i + 1) := by
  unfold findM
  rw [show entry_find.go n (b :: r) i = entry_find.go n r (i + 1) from by rw [entry_find.go, h]]
/-! ### Find -/
def chk (l : List (List S41)) (x : S41) : Int := if rgt x = true then (if l.length > 96 then 2 else if sndB l = true then 0 else 2) else 1
theorem check_eq (l : List (List S41)) (x : S41) (hs : ∀ b ∈ l, ∀ x ∈ b, x.f1.size ≤ maxLen) : entry_check.f l x.f0 x.f1 = some (chk l x) := by
  unfold entry_check.f chk
  rw [right_eq, Option.bind_some]
  show (if rgt x = true then _ else _) = _
  split
  · by_cases h : l.length > 96
    · rw [if_pos (by omega), if_pos h]
    · rw [if_neg (by omega), if_neg h, sound_eq l (by omega) hs, Option.bind_some]
      split <;> rfl
  · rfl
def findI (l : List (List S41)) (n : ByteArray) : Int × Int × Int := if chk l ⟨0, n⟩ = 0 then findM n l 0 else (0, 0, chk l ⟨0, n⟩)
theorem chk_len {l : List (List S41)} {x : S41} (h : chk l x = 0) : l.length ≤ 96 ∧ (∀ b ∈ l, b.length ≤ 3) ∧ sndB l = true ∧ rgt x = true := by
  unfold chk at h
  split at h
  · rename_i hr
    split at h
    · cases h
    · split at h
      · rename_i h1 h2
        refine ⟨by omega, fun b hb => ?_, h2, hr⟩
        unfold sndB at h2
        have h3 := List.all_eq_true.1 (Bool.and_eq_true_iff.1 h2).1 b hb
        unfold okE at h3
        exact of_decide_eq_true (Bool.and_eq_true_iff.1 h3).1
      · cases h
  · cases h
theorem find_eq (l : List (List S41)) (n : ByteArray) (hs : ∀ b ∈ l, ∀ x ∈ b, x.f1.size ≤ maxLen) : entry_Find.f l n = some (findI l n) := by
  unfold entry_Find.f findI
  rw [check_eq l ⟨0, n⟩ hs, Option.bind_some]
  split
  · show (if (entry_find.go n l 0).2.2 = true then _ else _) = _
    unfold findM
    dsimp only
    by_cases h : (entry_find.go n l 0).2.2 = true
    · rw [if_pos h, if_pos h]
    · rw [if_neg h, if_neg h]
  · rfl
end Go.Proofs.Ytnccbebjligpdaa.Pure
