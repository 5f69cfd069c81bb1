/- What layer 10's Add and Remove come to, and what they do to the names. -/
import Derived.Test.YtnccbebjligpdaaPAllx6
import Derived.Test.YtnccbebjligpdaaPAllx7
import Derived.Test.YtnccbebjligpdaaEntryBytes
namespace Go.Proofs.Ytnccbebjligpdaa.Pure
open Go Go.RowKit Go.Proofs.Ytnccbebjligpdaa.PAll Go.Proofs.YtnccbebjligpdaaW.PrintWords Go.Proofs.Ytnccbebjligpdaa.PathLaw Go.Proofs.Ytnccbebjligpdaa.Spin Go.Proofs.Ytnccbebjligpdaa.Field Go.Proofs.Ytnccbebjligpdaa.Text Go.Proofs.Ytnccbebjligpdaa.Ref
set_option linter.unusedVariables false
set_option linter.unusedSimpArgs false

theorem clone_loop (l : List (List S41)) (hn : l.length ≤ 1000) (h3 : ∀ b ∈ l, b.length ≤ 5) : ∀ d i k : Nat, d + i = l.length → d < k → entry_clone.l0 k (l.take i) l (l.length : Int) (i : Int) = some l
  | 0, i, k + 1, hi, _ => by
    rw [entry_clone.l0, if_neg (by omega), List.take_of_length_le (by omega)]
  | d + 1, i, k + 1, hi, hk => by
    have hlt : i < l.length := by omega
    have hm : l[i].length ≤ 5 := h3 _ (List.getElem_mem hlt)
    have hc : api_Entry_56.f l[i] = some l[i] := by unfold api_Entry_56.f; rw [if_pos (by omega)]
    rw [entry_clone.l0, if_pos (by omega), if_pos (by omega), if_pos (by omega), getL_nat l i hlt, hc, Option.bind_some, if_pos (by rw [List.length_take]; omega), show wrap64 ((i : Int) + 1) = ((i + 1 : Nat) : Int) from by unfold wrap64; omega, ← List.take_succ_eq_append_getElem hlt]
    exact clone_loop l hn h3 d (i + 1) k (by omega) (by omega)
theorem clone_eq (l : List (List S41)) (hn : l.length ≤ 1000) (h3 : ∀ b ∈ l, b.length ≤ 5) (k : Nat) (hk : l.length < k) : entry_clone.f k l = some l := clone_loop l hn h3 l.length 0 k (by omega) (by omega)
/-- The place of the first block that has room. -/
def roomI (l : List (List S41)) : Option Nat := l.findIdx? (fun b => decide (b.length < 3))
theorem room_hit {l : List (List S41)} {i : Nat} (h : i < l.length) (h2 : l[i].length < 3) (hm : ∀ j, (hj : j < l.length) → j < i → ¬ l[j].length < 3) : roomI l = some i := by
  unfold roomI
  rw [List.findIdx?_eq_some_iff_getElem]
  exact ⟨h, decide_eq_true h2, fun j hj => by rw [decide_eq_false (hm j (by omega) hj)]; decide⟩
theorem room_miss {l : List (List S41)} (hm : ∀ j, (hj : j < l.length) → ¬ l[j].length < 3) : roomI l = none := by
  unfold roomI
  rw [List.findIdx?_eq_none_iff]
  intro x hx
  obtain ⟨j, hj, rfl⟩ := List.mem_iff_getElem.1 hx
  exact decide_eq_false (hm j hj)
theorem room_some {l : List (List S41)} {i : Nat} (h : roomI l = some i) : ∃ hi : i < l.length, l[i].length < 3 := by
  unfold roomI at h
  rw [List.findIdx?_eq_some_iff_getElem] at h
  exact ⟨h.1, of_decide_eq_true h.2.1⟩
/-- Where an entry goes, and what is there then. -/
def addR (l : List (List S41)) (x : S41) : List (List S41) × Int × Int := match roomI l with
  | some k => (l.set k (l.getD k [] ++ [x]), (k : Int), 0)
  | none => if l.length = 96 then ([], 0, 11) else (l ++ [[x]], (l.length : Int), 0)
def addI (l : List (List S41)) (x : S41) : List (List S41) × Int × Int := if chk l x = 0 then (if (entry_find.go x.f1 l 0).2.2 = true then ([], 0, 5) else addR l x) else ([], 0, chk l x)
theorem getL_new (l : List (List S41)) (b : List S41) : rd_L4 (l ++ [b]) (l.length : Int) = b := by
  show (l ++ [b]).getD (l.length : Int).toNat _ = _
  rw [Int.toNat_natCast, List.getD_eq_getElem?_getD, List.getElem?_append_right (Nat.le_refl _), Nat.sub_self]; rfl
theorem set_new (l : List (List S41)) (b c : List S41) : (l ++ [b]).set l.length c = l ++ [c] := by
  rw [List.set_append_right _ _ (Nat.le_refl _), Nat.sub_self]; rfl
theorem getD_at (l : List (List S41)) (i : Nat) (h : i < l.length) : l.getD i [] = l[i] := by
  rw [List.getD_eq_getElem?_getD, List.getElem?_eq_getElem h]; rfl
theorem add_eq (l : List (List S41)) (x : S41) (hs : ∀ b ∈ l, ∀ x ∈ b, x.f1.size ≤ maxLen) (k : Nat) (hk : 100 < k) : entry_Add.f k l x.f0 x.f1 = some (addI l x) := by
  unfold entry_Add.f addI
  rw [check_eq l x hs, Option.bind_some]
  by_cases hc : chk l x = 0
  · obtain ⟨h96, h3, hsnd, hr⟩ := chk_len hc
    have h5 : ∀ b ∈ l, b.length ≤ 5 := fun b hb => by have := h3 b hb; omega
    obtain ⟨k, rfl⟩ : ∃ q, k = q + 1 := ⟨k - 1, by omega⟩
    rw [if_pos hc, if_pos hc]
    unfold entry_find.f
    rw [Option.bind_some]
    by_cases hf : (entry_find.go x.f1 l 0).2.2 = true
    · rw [if_pos hf, if_pos hf]
    · rw [if_neg hf, if_neg hf, clone_eq l (by omega) h5 (k + 1) (by omega), Option.bind_some]
      unfold api_Entry_40.f
      rw [Option.bind_some]
      unfold addR
      have hi : api_Entry_40.idx l = match roomI l with | some k => (k : Int) | none => -1 := rfl
      rw [hi]
      cases hq : roomI l with
      | some i =>
        obtain ⟨hil, hi3⟩ := room_some hq
        dsimp only
        rw [if_neg (by omega), entry_Add.j0, if_neg (by decide), if_neg (by omega), if_pos (by omega), if_pos (by omega), getL_nat l i hil, if_pos (by omega), Int.toNat_natCast, getD_at l i hil]
      | none =>
        dsimp only
        rw [if_pos (by omega), entry_Add.j0]
        by_cases h : l.length = 96
        · rw [if_pos (by rw [h]; rfl), if_pos h]
        · rw [if_neg (by rw [beq_eq_false_iff_ne.2 (show (l.length : Int) ≠ 96 by omega)]; decide), if_pos (by omega), if_pos (by omega), Option.bind_some, if_pos (by omega), if_pos (by rw [List.length_append, List.length_singleton]; omega), getL_new, if_pos (by rw [List.length_nil]; omega), Int.toNat_natCast, set_new, if_neg h, List.nil_append]
  · rw [if_neg hc, if_neg hc]
theorem idx_some {n : ByteArray} {b : List S41} {j : Nat} (h : entry_find.idx n b = some j) : ∃ hj : j < b.length, b[j].f1.toList = n.toList := by
  unfold entry_find.idx at h
  rw [List.findIdx?_eq_some_iff_getElem] at h
  exact ⟨h.1, beq_iff_eq.1 h.2.1⟩
theorem go_spec (n : ByteArray) : ∀ (l : List (List S41)) (s : Nat) (a b : Int), entry_find.go n l s = (a, b, true) → ∃ i j : Nat, a = ((s + i : Nat) : Int) ∧ b = (j : Int) ∧ ∃ hi : i < l.length, j < l[i].length
  | [], s, a, b, h => by
    unfold entry_find.go at h
    have : false = true := congrArg (fun z => z.2.2) h
    exact absurd this (by decide)
  | r :: l, s, a, b, h => by
    unfold entry_find.go at h
    cases hq : entry_find.idx n r with
    | some j =>
      rw [hq] at h
      have h1 : ((s : Int), (j : Int), true) = (a, b, true) := h
      simp only [Prod.mk.injEq, and_true] at h1
      obtain ⟨hj, _⟩ := idx_some hq
      exact ⟨0, j, by omega, h1.2.symm, Nat.succ_pos _, hj⟩
    | none =>
      rw [hq] at h
      obtain ⟨i, j, e1, e2, hi, hj⟩ := go_spec n l (s + 1) a b h
      exact ⟨i + 1, j, by omega, e2, Nat.succ_lt_succ hi, hj⟩
/-- What is there without a name. -/
def remR (l : List (List S41)) (i j : Nat) : List (List S41) := l.set i ((l.getD i []).eraseIdx j)
def remI (l : List (List S41)) (n : ByteArray) : List (List S41) × Int × Int := if chk l ⟨0, n⟩ = 0 then (if (entry_find.go n l 0).2.2 = true then (remR l (entry_find.go n l 0).1.toNat (entry_find.go n l 0).2.1.toNat, (entry_find.go n l 0).1, 0) else ([], 0, 4)) else ([], 0, chk l ⟨0, n⟩)
theorem rem_eq (l : List (List S41)) (n : ByteArray) (hs : ∀ b ∈ l, ∀ x ∈ b, x.f1.size ≤ maxLen) (k : Nat) (hk : 100 < k) : entry_Remove.f k l n = some (remI l n) := by
  unfold entry_Remove.f remI
  rw [check_eq l ⟨0, n⟩ hs, Option.bind_some]
  by_cases hc : chk l ⟨0, n⟩ = 0
  · obtain ⟨h96, h3, hsnd, hr⟩ := chk_len hc
    have h5 : ∀ b ∈ l, b.length ≤ 5 := fun b hb => by have := h3 b hb; omega
    rw [if_pos hc, if_pos hc]
    unfold entry_find.f
    rw [Option.bind_some]
    obtain ⟨⟨a, b, f⟩, hg⟩ : ∃ r, entry_find.go n l 0 = r := ⟨_, rfl⟩
    rw [hg]
    cases f with
    | false =>
      dsimp only
      rw [if_neg (by decide), if_neg (by decide)]
    | true =>
      obtain ⟨i, j, e1, e2, hi, hj⟩ := go_spec n l 0 a b hg
      rw [Nat.zero_add] at e1
      subst e1 e2
      have hrd : entry_sound.rdL l (i : Int) = l[i] := entry_sound.getD_nat l i hi
      dsimp only
      rw [if_pos rfl, if_pos rfl, clone_eq l (by omega) h5 k (by omega), Option.bind_some, hrd, if_pos ⟨⟨by omega, by omega⟩, by omega, by omega⟩, Int.toNat_natCast, Int.toNat_natCast]
      unfold remR
      rw [getD_at l i hi]
  · rw [if_neg hc, if_neg hc]
/-! ### names that are all different -/
theorem dst_nodup : ∀ (xs acc : List Bs), dst acc xs = true ↔ xs.Nodup ∧ ∀ s ∈ xs, s ∉ acc
  | [], acc => by simp [dst]
  | s :: r, acc => by
    rw [dst, Bool.and_eq_true, dst_nodup r (acc ++ [s]), Bool.not_eq_true', List.nodup_cons]
    constructor
    · rintro ⟨h1, h2, h3⟩
      have h1' : s ∉ acc := by
        intro hm
        rw [List.contains_eq_mem, decide_eq_false_iff_not] at h1
        exact h1 hm
      refine ⟨⟨fun hm => h3 s hm (List.mem_append_right _ (List.mem_singleton.2 rfl)), h2⟩, fun t ht => ?_⟩
      rcases List.mem_cons.1 ht with rfl | ht
      · exact h1'
      · exact fun hm => h3 t ht (List.mem_append_left _ hm)
    · rintro ⟨⟨h1, h2⟩, h3⟩
      refine ⟨by rw [List.contains_eq_mem, decide_eq_false_iff_not]; exact h3 s (List.mem_cons_self ..), h2, fun t ht hm => ?_⟩
      rcases List.mem_append.1 hm with hm | hm
      · exact h3 t (List.mem_cons_of_mem _ ht) hm
      · rw [List.mem_singleton.1 hm] at ht; exact h1 ht
theorem snd_iff (l : List (List S41)) : sndB l = true ↔ (∀ b ∈ l, b.length ≤ 3 ∧ ∀ y ∈ b, rgt y = true) ∧ (nmsOf l.flatten).Nodup := by
  unfold sndB
  rw [Bool.and_eq_true, dst_nodup, List.all_eq_true]
  constructor
  · rintro ⟨h1, h2, _⟩
    refine ⟨fun b hb => ?_, h2⟩
    have h := h1 b hb
    unfold okE at h
    rw [Bool.and_eq_true, decide_eq_true_eq, List.all_eq_true] at h
    exact h
  · rintro ⟨h1, h2⟩
    refine ⟨fun b hb => ?_, h2, fun s _ hm => nomatch hm⟩
    unfold okE
    rw [Bool.and_eq_true, decide_eq_true_eq, List.all_eq_true]
    exact h1 b hb
theorem chk_mk {l : List (List S41)} {x : S41} (h96 : l.length ≤ 96) (hs : sndB l = true) (hr : rgt x = true) : chk l x = 0 := by
  unfold chk
  rw [if_pos hr, if_neg (by omega), if_pos hs]
/-- Is the name in no block? -/
theorem go_miss (n : ByteArray) : ∀ (l : List (List S41)) (s : Nat), n.toList ∉ nmsOf l.flatten → entry_find.go n l s = (0, 0, false)
  | [], s, _ => rfl
  | r :: l, s, h => by
    unfold nmsOf at h
    rw [List.flatten_cons, List.map_append, List.mem_append] at h
    have h1 : entry_find.idx n r = none := entry_find.idx_miss n r (fun x hx => beq_eq_false_iff_ne.2 (fun e => h (.inl (List.mem_map.2 ⟨x, hx, e⟩))))
    unfold entry_find.go
    rw [h1]
    exact go_miss n l (s + 1) (fun hm => h (.inr hm))
theorem go_hit (n : ByteArray) : ∀ (l : List (List S41)) (s i j : Nat) (hi : i < l.length) (hj : j < l[i].length), (nmsOf l.flatten).Nodup → l[i][j].f1.toList = n.toList → entry_find.go n l s = (((s + i : Nat) : Int), (j : Int), true)
  | r :: l, s, 0, j, hi, hj, hnd, h => by
    have hj' : j < r.length := hj
    have h' : r[j].f1.toList = n.toList := h
    unfold nmsOf at hnd
    rw [List.flatten_cons, List.map_append] at hnd
    have hr := (List.nodup_append.1 hnd).1
    have h1 : entry_find.idx n r = some j := entry_find.idx_hit n r j hj' (beq_iff_eq.2 h') (fun q hq => beq_eq_false_iff_ne.2 (fun e => by
      have hp := List.pairwise_iff_getElem.1 hr q j (by rw [List.length_map]; omega) (by rw [List.length_map]; exact hj') hq
      rw [List.getElem_map, List.getElem_map] at hp
      exact hp (e.trans h'.symm)))
    unfold entry_find.go
    rw [h1]
    rfl
  | r :: l, s, i + 1, j, hi, hj, hnd, h => by
    have hi' : i < l.length := Nat.lt_of_succ_lt_succ hi
    have hj' : j < l[i].length := hj
    have h' : l[i][j].f1.toList = n.toList := h
    unfold nmsOf at hnd
    rw [List.flatten_cons, List.map_append, List.nodup_append] at hnd
    obtain ⟨_, h2, h3⟩ := hnd
    have hm : n.toList ∈ l.flatten.map (fun x => x.f1.toList) := List.mem_map.2 ⟨l[i][j], List.mem_flatten.2 ⟨l[i], List.getElem_mem hi', List.getElem_mem hj'⟩, h'⟩
    have h1 : entry_find.idx n r = none := entry_find.idx_miss n r (fun x hx => beq_eq_false_iff_ne.2 (fun e => h3 _ (List.mem_map.2 ⟨x, hx, rfl⟩) _ hm e))
    unfold entry_find.go
    rw [h1]
    have ih := go_hit n l (s + 1) i j hi' hj' h2 h'
    rw [show s + 1 + i = s + (i + 1) from by omega] at ih
    exact ih
theorem go_flag (n : ByteArray) : ∀ (l : List (List S41)) (s : Nat), (entry_find.go n l s).2.2 = decide (n.toList ∈ nmsOf l.flatten)
  | [], s => rfl
  | r :: l, s => by
    have e : nmsOf (r :: l).flatten = nmsOf r ++ nmsOf l.flatten := by unfold nmsOf; rw [List.flatten_cons, List.map_append]
    rw [e]
    unfold entry_find.go
    cases hq : entry_find.idx n r with
    | some j =>
      obtain ⟨hj, hx⟩ := idx_some hq
      have hm : n.toList ∈ nmsOf r := List.mem_map.2 ⟨_, List.getElem_mem hj, hx⟩
      rw [decide_eq_true (List.mem_append_left _ hm)]
    | none =>
      have hn : n.toList ∉ nmsOf r := by
        intro hm
        obtain ⟨x, hx, e⟩ := List.mem_map.1 hm
        unfold entry_find.idx at hq
        rw [List.findIdx?_eq_none_iff] at hq
        have := hq x hx
        rw [beq_eq_false_iff_ne] at this
        exact this e
      show (entry_find.go n l (s + 1)).2.2 = _
      rw [go_flag n l (s + 1)]
      exact decide_eq_decide.2 ⟨fun h => List.mem_append_right _ h, fun h => (List.mem_append.1 h).elim (fun h => absurd h hn) id⟩
/-- The names, when one row is another. -/
theorem set_names (l : List (List S41)) (i : Nat) (hi : i < l.length) (r : List S41) : nmsOf (l.set i r).flatten = nmsOf (l.take i).flatten ++ (nmsOf r ++ nmsOf (l.drop (i + 1)).flatten) := by
  unfold nmsOf
  rw [List.set_eq_take_append_cons_drop, if_pos hi, List.flatten_append, List.flatten_cons, List.map_append, List.map_append]
theorem same_names (l : List (List S41)) (i : Nat) (hi : i < l.length) : nmsOf l.flatten = nmsOf (l.take i).flatten ++ (nmsOf l[i] ++ nmsOf (l.drop (i + 1)).flatten) := by
  have h := set_names l i hi l[i]
  rwa [List.set_getElem_self] at h
theorem perm_mid (a b c : List Bs) (s : Bs) : (a ++ ((b ++ [s]) ++ c)).Perm (s :: (a ++ (b ++ c))) := by
  rw [List.append_assoc b, List.singleton_append, ← List.append_assoc, ← List.append_assoc a b c]
  exact List.perm_middle
theorem add_names (l : List (List S41)) (x : S41) (i : Nat) (hi : i < l.length) : (nmsOf (l.set i (l[i] ++ [x])).flatten).Perm (x.f1.toList :: nmsOf l.flatten) := by
  rw [set_names l i hi, same_names l i hi]
  have e : nmsOf (l[i] ++ [x]) = nmsOf l[i] ++ [x.f1.toList] := by unfold nmsOf; rw [List.map_append]; rfl
  rw [e]
  exact perm_mid _ _ _ _
theorem new_names (l : List (List S41)) (x : S41) : (nmsOf (l ++ [[x]]).flatten).Perm (x.f1.toList :: nmsOf l.flatten) := by
  unfold nmsOf
  rw [List.flatten_append, List.map_append]
  exact (List.perm_append_comm).trans (List.Perm.refl _)
theorem rem_names (l : List (List S41)) (i j : Nat) (hi : i < l.length) (hj : j < l[i].length) : (nmsOf l.flatten).Perm (l[i][j].f1.toList :: nmsOf (remR l i j).flatten) := by
  unfold remR
  rw [getD_at l i hi, set_names l i hi, same_names l i hi]
  have e1 : nmsOf l[i] = nmsOf (l[i].take j) ++ (l[i][j].f1.toList :: nmsOf (l[i].drop (j + 1))) := by
    unfold nmsOf
    conv => lhs; rw [← List.take_append_drop j l[i], List.drop_eq_getElem_cons hj]
    rw [List.map_append, List.map_cons]
  have e2 : nmsOf (l[i].eraseIdx j) = nmsOf (l[i].take j) ++ nmsOf (l[i].drop (j + 1)) := by
    unfold nmsOf
    rw [List.eraseIdx_eq_take_drop_succ, List.map_append]
  rw [e1, e2, List.append_assoc, List.append_assoc, List.cons_append, ← List.append_assoc, ← List.append_assoc]
  exact List.perm_middle
/-! ### what Add and Remove leave -/
theorem addR_some {l : List (List S41)} {x : S41} {i : Nat} (h : roomI l = some i) : ∃ hi : i < l.length, l[i].length < 3 ∧ addR l x = (l.set i (l[i] ++ [x]), (i : Int), 0) := by
  obtain ⟨hi, h3⟩ := room_some h
  refine ⟨hi, h3, ?_⟩
  unfold addR
  rw [h]
  dsimp only
  rw [getD_at l i hi]
theorem addR_none {l : List (List S41)} {x : S41} (h : roomI l = none) (h96 : l.length ≠ 96) : addR l x = (l ++ [[x]], (l.length : Int), 0) := by
  unfold addR
  rw [h]
  dsimp only
  rw [if_neg h96]
theorem mem_set {l : List (List S41)} {i : Nat} {r b : List S41} (h : b ∈ l.set i r) : b ∈ l ∨ b = r := List.mem_or_eq_of_mem_set h
/-- What is known when something was added. -/
structure Added (l A : List (List S41)) (x : S41) (i : Nat) : Prop where
  lt : i < A.length
  l96 : A.length ≤ 96
  last : ∃ r : List S41, A[i] = r ++ [x] ∧ r.length < 3
  good : ∀ b ∈ A, b.length ≤ 3 ∧ ∀ y ∈ b, rgt y = true
  names : (nmsOf A.flatten).Perm (x.f1.toList :: nmsOf l.flatten)
  nodup : (nmsOf A.flatten).Nodup
  mem : ∀ b ∈ A, ∀ y ∈ b, y = x ∨ ∃ c ∈ l, y ∈ c
theorem added {l : List (List S41)} {x : S41} {A : List (List S41)} {a : Int} (h : addI l x = (A, a, 0)) : chk l x = 0 ∧ x.f1.toList ∉ nmsOf l.flatten ∧ ∃ i : Nat, a = (i : Int) ∧ Added l A x i := by
  unfold addI at h
  split at h
  case isFalse hc => exact absurd (congrArg (fun z => z.2.2) h) hc
  rename_i hc
  obtain ⟨h96, h3, hsnd, hr⟩ := chk_len hc
  split at h
  · have h5 : (5 : Int) = 0 := congrArg (fun z => z.2.2) h
    omega
  rename_i hf
  rw [go_flag, decide_eq_true_eq] at hf
  obtain ⟨g1, g2⟩ := (snd_iff l).1 hsnd
  refine ⟨hc, hf, ?_⟩
  cases hq : roomI l with
  | some i =>
    obtain ⟨hi, hl3, e⟩ := addR_some (x := x) hq
    rw [e] at h
    have hA : l.set i (l[i] ++ [x]) = A := congrArg Prod.fst h
    have ha : (i : Int) = a := congrArg (fun z => z.2.1) h
    subst hA
    have hp := add_names l x i hi
    refine ⟨i, ha.symm, by rw [List.length_set]; exact hi, by rw [List.length_set]; exact h96, ⟨l[i], by rw [List.getElem_set_self], hl3⟩, fun b hb => ?_, hp, hp.nodup_iff.2 (List.nodup_cons.2 ⟨hf, g2⟩), fun b hb y hy => ?_⟩
    · rcases mem_set hb with hb | rfl
      · exact g1 b hb
      · refine ⟨by rw [List.length_append, List.length_singleton]; omega, fun y hy => ?_⟩
        rcases List.mem_append.1 hy with hy | hy
        · exact (g1 _ (List.getElem_mem hi)).2 y hy
        · rw [List.mem_singleton.1 hy]; exact hr
    · rcases mem_set hb with hb | rfl
      · exact .inr ⟨b, hb, hy⟩
      · rcases List.mem_append.1 hy with hy | hy
        · exact .inr ⟨_, List.getElem_mem hi, hy⟩
        · exact .inl (List.mem_singleton.1 hy)
  | none =>
    by_cases h9 : l.length = 96
    · unfold addR at h
      rw [hq] at h
      dsimp only at h
      rw [if_pos h9] at h
      have h5 : (11 : Int) = 0 := congrArg (fun z => z.2.2) h
      omega
    rw [addR_none hq h9] at h
    have hA : l ++ [[x]] = A := congrArg Prod.fst h
    have ha : (l.length : Int) = a := congrArg (fun z => z.2.1) h
    subst hA
    have hp := new_names l x
    refine ⟨l.length, ha.symm, by rw [List.length_append, List.length_singleton]; omega, by rw [List.length_append, List.length_singleton]; omega, ⟨[], by rw [List.getElem_append_right (Nat.le_refl _)]; simp, by decide⟩, fun b hb => ?_, hp, hp.nodup_iff.2 (List.nodup_cons.2 ⟨hf, g2⟩), fun b hb y hy => ?_⟩
    · rcases List.mem_append.1 hb with hb | hb
      · exact g1 b hb
      · rw [List.mem_singleton.1 hb]
        refine ⟨by show 1 ≤ 3; decide, fun y hy => ?_⟩
        rw [List.mem_singleton.1 hy]; exact hr
    · rcases List.mem_append.1 hb with hb | hb
      · exact .inr ⟨b, hb, hy⟩
      · rw [List.mem_singleton.1 hb] at hy
        exact .inl (List.mem_singleton.1 hy)
theorem Added.snd {l A : List (List S41)} {x : S41} {i : Nat} (h : Added l A x i) : sndB A = true := (snd_iff A).2 ⟨h.good, h.nodup⟩
theorem rem_mem {l : List (List S41)} {i j : Nat} {b : List S41} (hi : i < l.length) (h : b ∈ remR l i j) : ∃ c ∈ l, b.length ≤ c.length ∧ ∀ y ∈ b, y ∈ c := by
  unfold remR at h
  rcases mem_set h with h | rfl
  · exact ⟨b, h, Nat.le_refl _, fun y hy => hy⟩
  · rw [getD_at l i hi]
    exact ⟨_, List.getElem_mem hi, List.length_eraseIdx_le _ _, fun y hy => List.mem_of_mem_eraseIdx hy⟩
theorem rem_snd {l : List (List S41)} {i j : Nat} (hi : i < l.length) (hj : j < l[i].length) (h : sndB l = true) : sndB (remR l i j) = true ∧ l[i][j].f1.toList ∉ nmsOf (remR l i j).flatten := by
  obtain ⟨g1, g2⟩ := (snd_iff l).1 h
  have hp := (rem_names l i j hi hj).nodup_iff.1 g2
  rw [List.nodup_cons] at hp
  refine ⟨(snd_iff _).2 ⟨fun b hb => ?_, hp.2⟩, hp.1⟩
  obtain ⟨c, hc, h1, h2⟩ := rem_mem hi hb
  have := g1 c hc
  exact ⟨by omega, fun y hy => this.2 y (h2 y hy)⟩
theorem rem_length (l : List (List S41)) (i j : Nat) : (remR l i j).length = l.length := by unfold remR; rw [List.length_set]
/-- What Find answers, as an error. -/
theorem find_err (l : List (List S41)) (n : ByteArray) : (findI l n).2.2 = if chk l ⟨0, n⟩ = 0 then (if n.toList ∈ nmsOf l.flatten then 0 else 4) else chk l ⟨0, n⟩ := by
  unfold findI
  by_cases hc : chk l ⟨0, n⟩ = 0
  · rw [if_pos hc, if_pos hc]
    unfold findM
    have h := go_flag n l 0
    dsimp only
    by_cases hm : n.toList ∈ nmsOf l.flatten
    · rw [decide_eq_true hm] at h
      rw [if_pos h, if_pos hm]
    · rw [decide_eq_false hm] at h
      rw [if_neg (by rw [h]; decide), if_neg hm]
  · rw [if_neg hc, if_neg hc]
theorem find_at {l : List (List S41)} {n : ByteArray} {i j : Nat} (hi : i < l.length) (hj : j < l[i].length) (h96 : l.length ≤ 96) (hs : sndB l = true) (hr : rgt ⟨0, n⟩ = true) (h : l[i][j].f1.toList = n.toList) : findI l n = ((i : Int), (j : Int), 0) := by
  unfold findI
  rw [if_pos (chk_mk h96 hs hr)]
  unfold findM
  rw [go_hit n l 0 i j hi hj ((snd_iff l).1 hs).2 h, Nat.zero_add]
  rfl
theorem rem_at {l : List (List S41)} {n : ByteArray} {i j : Nat} (hi : i < l.length) (hj : j < l[i].length) (h96 : l.length ≤ 96) (hs : sndB l = true) (hr : rgt ⟨0, n⟩ = true) (h : l[i][j].f1.toList = n.toList) : remI l n = (remR l i j, (i : Int), 0) := by
  unfold remI
  rw [if_pos (chk_mk h96 hs hr), go_hit n l 0 i j hi hj ((snd_iff l).1 hs).2 h, Nat.zero_add, if_pos rfl]
  dsimp only
  rw [Int.toNat_natCast, Int.toNat_natCast]
theorem rgt_zero {x : S41} (h : rgt x = true) : rgt ⟨0, x.f1⟩ = true := by
  unfold rgt at h ⊢
  simp only [Bool.and_eq_true, decide_eq_true_eq] at h ⊢
  exact ⟨⟨by omega, by omega⟩, h.2⟩
end Go.Proofs.Ytnccbebjligpdaa.Pure
