/- Plain laws of paths: pieces between strokes, the names that they come to. No program in sight. -/
import Derived.Lib.Strings
import Derived.Lib.Bytealg
import Derived.Lib.IndexLaws
import Derived.Lib.Join
import Derived.Lib.SmallJoins
namespace Go.Proofs.Ytnccbebjligpdaa.PathLaw
set_option linter.unusedVariables false
abbrev Bs := List UInt8
def B (l : Bs) : ByteArray := ⟨l.toArray⟩
theorem B_toList (l : Bs) : (B l).toList = l := by rw [Lib.toList_data]; rfl
theorem toList_B (s : ByteArray) : B s.toList = s := by rw [Lib.toList_data]; exact Lib.mk_data s
theorem toList_inj {a b : ByteArray} : a.toList = b.toList ↔ a = b :=
  ⟨fun h => by rw [← toList_B a, ← toList_B b, h], fun h => by rw [h]⟩
theorem size_toList (s : ByteArray) : s.toList.length = s.size := by rw [Lib.toList_data]; rfl
theorem toList_append (a b : ByteArray) : (a ++ b).toList = a.toList ++ b.toList := by
  rw [Lib.toList_data, Lib.toList_data, Lib.toList_data]; exact Go.Joins.data_append a b
theorem toList_extract (s : ByteArray) (a b : Nat) : (s.extract a b).toList = (s.toList.drop a).take (b - a) := by
  rw [Lib.toList_data, Lib.toList_data]; exact Lib.extract_data s a b

/-- May it be a name? -/
def nm (l : Bs) : Bool := decide (1 ≤ l.length) && decide (l.length ≤ 17) && !(l == [46]) && !(l == [46, 46]) && !(l.contains 47) && !(l.contains 0)
def pieces : Bs → List Bs
  | [] => [[]]
  | c :: r => if c = 47 then [] :: pieces r else (match pieces r with | p :: ps => (c :: p) :: ps | [] => [[c]])
theorem pieces_cons (l : Bs) : ∃ p ps, pieces l = p :: ps := by
  cases l with
  | nil => exact ⟨_, _, rfl⟩
  | cons c r =>
    unfold pieces
    split
    · exact ⟨_, _, rfl⟩
    · split <;> exact ⟨_, _, rfl⟩
/-- A text ahead of the first piece. -/
def att (x : Bs) : List Bs → List Bs
  | p :: ps => (x ++ p) :: ps
  | [] => [x]
theorem att_nil (l : Bs) : att [] (pieces l) = pieces l := by
  obtain ⟨p, ps, h⟩ := pieces_cons l
  rw [h]; rfl
theorem pieces_att (x l : Bs) (h : (47 : UInt8) ∉ x) : pieces (x ++ l) = att x (pieces l) := by
  induction x with
  | nil => rw [List.nil_append, att_nil]
  | cons c r ih =>
    obtain ⟨p, ps, hp⟩ := pieces_cons l
    rw [List.cons_append, pieces, if_neg (fun e => h (by rw [e]; exact List.mem_cons_self)), ih (fun hm => h (List.mem_cons_of_mem _ hm)), hp]
    rfl
theorem pieces_none (x : Bs) (h : (47 : UInt8) ∉ x) : pieces x = [x] := by
  have := pieces_att x [] h
  rw [List.append_nil] at this
  rw [this]
  show [x ++ []] = _
  rw [List.append_nil]
theorem pieces_stroke (x l : Bs) (h : (47 : UInt8) ∉ x) : pieces (x ++ 47 :: l) = x :: pieces l := by
  rw [pieces_att x _ h, pieces, if_pos rfl]
  show (x ++ []) :: _ = _
  rw [List.append_nil]
theorem pieces_append (a b : Bs) : pieces (a ++ 47 :: b) = pieces a ++ pieces b := by
  induction a with
  | nil =>
    rw [List.nil_append]
    show pieces (47 :: b) = [] :: pieces b
    rw [pieces, if_pos rfl]
  | cons c r ih =>
    rw [List.cons_append, pieces]
    by_cases hc : c = 47
    · rw [if_pos hc, ih, pieces, if_pos hc]; rfl
    · obtain ⟨p, ps, hp⟩ := pieces_cons r
      rw [if_neg hc, ih, pieces, if_neg hc, hp]; rfl
/-- The sum of the pieces' lengths, with one for each. -/
def weigh (ps : List Bs) : Nat := (ps.map (fun p => p.length + 1)).sum
theorem pieces_weigh (l : Bs) : weigh (pieces l) = l.length + 1 := by
  induction l with
  | nil => rfl
  | cons c r ih =>
    rw [pieces]
    split
    · show 0 + 1 + weigh (pieces r) = _
      rw [ih, List.length_cons]; omega
    · obtain ⟨p, ps, hp⟩ := pieces_cons r
      rw [hp] at ih ⊢
      show (c :: p).length + 1 + weigh ps = _
      have : weigh (p :: ps) = p.length + 1 + weigh ps := rfl
      rw [List.length_cons, List.length_cons]; omega
theorem pieces_length (l : Bs) : (pieces l).length ≤ l.length + 1 := by
  have := pieces_weigh l
  have h : ∀ ps : List Bs, ps.length ≤ weigh ps := by
    intro ps
    induction ps with
    | nil => exact Nat.le_refl _
    | cons p ps ih =>
      have : weigh (p :: ps) = p.length + 1 + weigh ps := rfl
      rw [List.length_cons]; omega
  have := h (pieces l)
  omega
/-- The names that pieces come to. -/
def run : List ByteArray → List Bs → List ByteArray × Int
  | out, [] => (out, 0)
  | out, p :: ps => if p = [] then run out ps else if p = [46] then run out ps else if p = [46, 46] then run (out.take (out.length - 1)) ps else if nm p = true then (if out.length = 16 then ([], 11) else run (out ++ [B p]) ps) else ([], 9)
def split (s : ByteArray) : List ByteArray × Int := if s.size > 1024 then ([], 11) else match s.toList with | 47 :: r => run [] (pieces r) | _ => ([], 2)
theorem run_append (out : List ByteArray) (a b : List Bs) : run out (a ++ b) = if (run out a).2 = 0 then run (run out a).1 b else run out a := by
  induction a generalizing out with
  | nil => rfl
  | cons p ps ih =>
    rw [List.cons_append, run, run]
    repeat' split
    all_goals first | exact ih _ | rfl | skip
    all_goals simp_all

theorem nm_facts {l : Bs} (h : nm l = true) : 1 ≤ l.length ∧ l.length ≤ 17 ∧ l ≠ [46] ∧ l ≠ [46, 46] ∧ (47 : UInt8) ∉ l ∧ (0 : UInt8) ∉ l := by
  simp only [nm, Bool.and_eq_true, decide_eq_true_eq, Bool.not_eq_true', beq_eq_false_iff_ne, List.contains_eq_mem, decide_eq_false_iff_not] at h
  exact ⟨h.1.1.1.1.1, h.1.1.1.1.2, h.1.1.1.2, h.1.1.2, h.1.2, h.2⟩
def good (out : List ByteArray) : Prop := out.length ≤ 16 ∧ ∀ x ∈ out, nm x.toList = true
theorem good_nil : good [] := ⟨Nat.zero_le _, fun _ h => nomatch h⟩
theorem good_take {out : List ByteArray} (h : good out) (n : Nat) : good (out.take n) :=
  ⟨by have := h.1; rw [List.length_take]; omega, fun x hx => h.2 x (List.mem_of_mem_take hx)⟩
theorem run_good {out : List ByteArray} (h : good out) (ps : List Bs) : good (run out ps).1 := by
  induction ps generalizing out with
  | nil => exact h
  | cons p ps ih =>
    rw [run]
    split
    · exact ih h
    split
    · exact ih h
    split
    · exact ih (good_take h _)
    split
    · rename_i hn
      split
      · exact good_nil
      · refine ih ⟨?_, fun x hx => ?_⟩
        · have := h.1
          rw [List.length_append, List.length_singleton]; omega
        · rcases List.mem_append.1 hx with hx | hx
          · exact h.2 x hx
          · rw [List.mem_singleton.1 hx, B_toList]; exact hn
    · exact good_nil
def weighB (xs : List ByteArray) : Nat := (xs.map (fun x => x.size + 1)).sum
theorem weighB_append (a b : List ByteArray) : weighB (a ++ b) = weighB a + weighB b := by simp [weighB]
theorem weighB_take (a : List ByteArray) (n : Nat) : weighB (a.take n) ≤ weighB a := by
  have := weighB_append (a.take n) (a.drop n)
  rw [List.take_append_drop] at this
  omega
theorem B_size (l : Bs) : (B l).size = l.length := by rw [← size_toList, B_toList]
theorem run_weigh (out : List ByteArray) (ps : List Bs) : weighB (run out ps).1 ≤ weighB out + weigh ps := by
  induction ps generalizing out with
  | nil => exact Nat.le_refl _
  | cons p ps ih =>
    have hw : weigh (p :: ps) = p.length + 1 + weigh ps := rfl
    rw [run]
    split
    · have := ih out; omega
    split
    · have := ih out; omega
    split
    · have h1 := ih (out.take (out.length - 1))
      have h2 := weighB_take out (out.length - 1)
      omega
    split
    · split
      · exact Nat.zero_le _
      · have h1 := ih (out ++ [B p])
        rw [weighB_append] at h1
        have h2 : weighB [B p] = p.length + 1 := by show (B p).size + 1 + 0 = _; rw [B_size]
        omega
    · exact Nat.zero_le _
theorem run_all (out xs : List ByteArray) (h : ∀ x ∈ xs, nm x.toList = true) (hl : out.length + xs.length ≤ 16) : run out (xs.map (·.toList)) = (out ++ xs, 0) := by
  induction xs generalizing out with
  | nil => rw [List.append_nil]; rfl
  | cons x xs ih =>
    have hx := h x List.mem_cons_self
    obtain ⟨h1, h2, h3, h4, h5, h6⟩ := nm_facts hx
    rw [List.length_cons] at hl
    rw [List.map_cons, run, if_neg (fun e => by rw [e] at h1; exact absurd h1 (by decide)), if_neg h3, if_neg h4, if_pos hx, if_neg (by omega), toList_B, ih _ (fun y hy => h y (List.mem_cons_of_mem _ hy)) (by rw [List.length_append, List.length_singleton]; omega), List.append_assoc]
    rfl
def strokes (xs : List ByteArray) : Bs := xs.flatMap (fun x => 47 :: x.toList)
theorem strokes_cons (x : ByteArray) (xs : List ByteArray) : strokes (x :: xs) = 47 :: (x.toList ++ strokes xs) := rfl
theorem pieces_strokes (x : ByteArray) (xs : List ByteArray) (h : ∀ y ∈ x :: xs, nm y.toList = true) : pieces (x.toList ++ strokes xs) = (x :: xs).map (·.toList) := by
  induction xs generalizing x with
  | nil =>
    show pieces (x.toList ++ []) = _
    rw [List.append_nil]
    exact pieces_none _ (nm_facts (h x List.mem_cons_self)).2.2.2.2.1
  | cons y ys ih =>
    rw [strokes_cons, pieces_stroke _ _ (nm_facts (h x List.mem_cons_self)).2.2.2.2.1, ih y (fun z hz => h z (List.mem_cons_of_mem _ hz))]
    rfl
theorem strokes_length (xs : List ByteArray) : (strokes xs).length = weighB xs := by
  induction xs with
  | nil => rfl
  | cons x xs ih =>
    have hw : weighB (x :: xs) = x.size + 1 + weighB xs := rfl
    rw [strokes_cons, List.length_cons, List.length_append, ih, size_toList]; omega
theorem good_weigh {xs : List ByteArray} (h : ∀ x ∈ xs, nm x.toList = true) : weighB xs ≤ 18 * xs.length := by
  induction xs with
  | nil => exact Nat.le_refl _
  | cons x xs ih =>
    have hw : weighB (x :: xs) = x.size + 1 + weighB xs := rfl
    have h1 := (nm_facts (h x List.mem_cons_self)).2.1
    rw [size_toList] at h1
    have h2 := ih (fun y hy => h y (List.mem_cons_of_mem _ hy))
    rw [List.length_cons]; omega
def joinL (xs : List ByteArray) : Bs := if xs = [] then [47] else strokes xs
def join (xs : List ByteArray) : ByteArray × Int := if xs.length > 16 then (⟨#[]⟩, 11) else if xs.any (fun x => !nm x.toList) = true then (⟨#[]⟩, 9) else (B (joinL xs), 0)
theorem join_good {xs : List ByteArray} (h : (join xs).2 = 0) : good xs ∧ join xs = (B (joinL xs), 0) := by
  unfold join at h ⊢
  split at h
  · exact absurd h (by decide)
  split at h
  · exact absurd h (by decide)
  · rename_i h1 h2
    refine ⟨⟨by omega, fun x hx => ?_⟩, by rw [if_neg h1, if_neg h2]⟩
    have h3 := Bool.eq_false_iff.2 h2
    rw [List.any_eq_false] at h3
    simpa using h3 x hx
theorem join_of_good {xs : List ByteArray} (h : good xs) : join xs = (B (joinL xs), 0) := by
  unfold join
  rw [if_neg (by have := h.1; omega), if_neg]
  rw [Bool.not_eq_true, List.any_eq_false]
  intro x hx
  rw [h.2 x hx]; decide
theorem joinL_length {xs : List ByteArray} (h : good xs) : (joinL xs).length ≤ weighB xs + 1 ∧ (joinL xs).length ≤ 1024 := by
  have h1 := good_weigh h.2
  have h2 := h.1
  unfold joinL
  split
  · exact ⟨Nat.le_add_left _ _, by decide⟩
  · rw [strokes_length]; omega
theorem split_join {xs : List ByteArray} (h : good xs) : split (B (joinL xs)) = (xs, 0) := by
  unfold split
  rw [B_size, if_neg (by have := (joinL_length h).2; omega), B_toList]
  cases xs with
  | nil => rfl
  | cons x xs =>
    have e : joinL (x :: xs) = 47 :: (x.toList ++ strokes xs) := by unfold joinL; rw [if_neg (by simp)]; rfl
    rw [e]
    show run [] (pieces (x.toList ++ strokes xs)) = _
    rw [pieces_strokes x xs h.2, run_all [] (x :: xs) h.2 (by have := h.1; simpa using this)]
    rfl
theorem split_facts (s : ByteArray) : good (split s).1 ∧ ((split s).2 = 0 → s.size ≤ 1024 ∧ ∃ r, s.toList = 47 :: r ∧ split s = run [] (pieces r)) := by
  unfold split
  split
  · exact ⟨good_nil, fun h => absurd h (by decide)⟩
  · rename_i hs
    split
    · rename_i r hr
      exact ⟨run_good good_nil _, fun _ => ⟨by omega, r, hr, rfl⟩⟩
    · exact ⟨good_nil, fun h => absurd h (by decide)⟩
theorem split_size {s : ByteArray} (h : (split s).2 = 0) : (B (joinL (split s).1)).size ≤ s.size + 1 := by
  obtain ⟨hg, h2⟩ := split_facts s
  obtain ⟨h3, r, hr, e⟩ := h2 h
  have h4 := (joinL_length hg).1
  have h5 := run_weigh [] (pieces r)
  rw [← e, pieces_weigh] at h5
  have h6 := size_toList s
  rw [hr, List.length_cons] at h6
  have h7 : weighB [] = 0 := rfl
  have h8 : (joinL (split s).1).length ≤ s.size + 1 := by
    unfold joinL
    split
    · have : [(47 : UInt8)].length = 1 := rfl
      omega
    · rw [strokes_length]; omega
  rw [B_size]; exact h8
theorem split_up {s name : ByteArray} (h : (split s).2 = 0) (hl : (split s).1.length < 16) (hz : s.size + name.size ≤ 900) (hn : nm name.toList = true) : split (((s ++ ⟨#[47]⟩) ++ name) ++ ⟨#[47, 46, 46]⟩) = ((split s).1, 0) := by
  obtain ⟨hg, h2⟩ := split_facts s
  obtain ⟨h3, r, hr, e⟩ := h2 h
  have e1 : (((s ++ (⟨#[47]⟩ : ByteArray)) ++ name) ++ (⟨#[47, 46, 46]⟩ : ByteArray)).toList = 47 :: (r ++ 47 :: (name.toList ++ 47 :: [46, 46])) := by
    rw [toList_append, toList_append, toList_append, hr, show (⟨#[47]⟩ : ByteArray).toList = [47] from B_toList [47], show (⟨#[47, 46, 46]⟩ : ByteArray).toList = [47, 46, 46] from B_toList [47, 46, 46]]
    simp
  have e2 : (((s ++ (⟨#[47]⟩ : ByteArray)) ++ name) ++ (⟨#[47, 46, 46]⟩ : ByteArray)).size = s.size + name.size + 4 := by
    rw [← size_toList, e1]
    have h6 := size_toList s
    rw [hr, List.length_cons] at h6
    have h7 := size_toList name
    simp only [List.length_cons, List.length_append, List.length_nil]
    omega
  obtain ⟨n1, n2, n3, n4, n5, n6⟩ := nm_facts hn
  rw [show split (((s ++ (⟨#[47]⟩ : ByteArray)) ++ name) ++ (⟨#[47, 46, 46]⟩ : ByteArray)) = run [] (pieces (r ++ 47 :: (name.toList ++ 47 :: [46, 46]))) from by
    unfold split
    rw [if_neg (by omega), e1]
    rfl]
  rw [pieces_append, pieces_stroke _ _ n5, run_append, ← e, if_pos h, show pieces [46, 46] = [[46, 46]] from rfl]
  generalize (split s).1 = l at hl
  rw [run, if_neg (fun e => by rw [e] at n1; exact absurd n1 (by decide)), if_neg n3, if_neg n4, if_pos hn, if_neg (by omega), run, if_neg (by decide), if_neg (by decide), if_pos rfl, run]
  rw [List.length_append, List.length_singleton, Nat.add_sub_cancel, List.take_left']
  rfl
/-- What stands ahead of a name: a stroke, two, a point between, a name that is left again. -/
def sepL : Nat → Bs
  | 0 => [47]
  | 1 => [47, 47]
  | 2 => [47, 46, 47]
  | _ => [47, 120, 47, 46, 46, 47]
theorem run_sep (out : List ByteArray) (x : ByteArray) (n : Nat) (rest : List Bs) (hl : out.length < 16) (hx : nm x.toList = true) :
    ∃ u : Bs, sepL n = 47 :: u ∧ ∀ v : Bs, (∃ q, pieces (x.toList ++ v) = x.toList :: q ∧ run out (pieces (u ++ (x.toList ++ v))) = run (out ++ [x]) q) ∨ ¬ (∃ q, pieces (x.toList ++ v) = x.toList :: q) := by
  obtain ⟨n1, n2, n3, n4, n5, n6⟩ := nm_facts hx
  have key : ∀ q, run out (x.toList :: q) = run (out ++ [x]) q := by
    intro q
    rw [run, if_neg (fun e => by rw [e] at n1; exact absurd n1 (by decide)), if_neg n3, if_neg n4, if_pos hx, if_neg (by omega), toList_B]
  have pu : ∀ (c : Bs) (w : Bs), (47 : UInt8) ∉ c → pieces (c ++ 47 :: w) = c :: pieces w := fun c w hc => pieces_stroke c w hc
  match n with
  | 0 => exact ⟨[], rfl, fun v => by
      by_cases h : ∃ q, pieces (x.toList ++ v) = x.toList :: q
      · obtain ⟨q, hq⟩ := h
        exact .inl ⟨q, hq, by rw [List.nil_append, hq, key]⟩
      · exact .inr h⟩
  | 1 => exact ⟨[47], rfl, fun v => by
      by_cases h : ∃ q, pieces (x.toList ++ v) = x.toList :: q
      · obtain ⟨q, hq⟩ := h
        exact .inl ⟨q, hq, by rw [show ([47] : Bs) ++ (x.toList ++ v) = [] ++ 47 :: (x.toList ++ v) from rfl, pu [] _ (by decide), hq, run, if_pos rfl, key]⟩
      · exact .inr h⟩
  | 2 => exact ⟨[46, 47], rfl, fun v => by
      by_cases h : ∃ q, pieces (x.toList ++ v) = x.toList :: q
      · obtain ⟨q, hq⟩ := h
        exact .inl ⟨q, hq, by rw [show ([46, 47] : Bs) ++ (x.toList ++ v) = [46] ++ 47 :: (x.toList ++ v) from rfl, pu [46] _ (by decide), hq, run, if_neg (by decide), if_pos rfl, key]⟩
      · exact .inr h⟩
  | n + 3 => exact ⟨[120, 47, 46, 46, 47], rfl, fun v => by
      by_cases h : ∃ q, pieces (x.toList ++ v) = x.toList :: q
      · obtain ⟨q, hq⟩ := h
        refine .inl ⟨q, hq, ?_⟩
        rw [show ([120, 47, 46, 46, 47] : Bs) ++ (x.toList ++ v) = [120] ++ 47 :: ([46, 46] ++ 47 :: (x.toList ++ v)) from rfl, pu [120] _ (by decide), pu [46, 46] _ (by decide), hq, run, if_neg (by decide), if_neg (by decide), if_neg (by decide), if_pos (by decide), if_neg (by omega), run, if_neg (by decide), if_neg (by decide), if_pos rfl]
        rw [List.length_append, List.length_singleton, Nat.add_sub_cancel, List.take_left', key]
        rfl
      · exact .inr h⟩
/-- Names with such things ahead of them. -/
def dots : List (Nat × ByteArray) → Bs
  | [] => []
  | (n, x) :: r => sepL n ++ (x.toList ++ dots r)
theorem dots_cons (n : Nat) (x : ByteArray) (r : List (Nat × ByteArray)) : ∃ u : Bs, dots ((n, x) :: r) = 47 :: u := by
  match n with
  | 0 => exact ⟨_, rfl⟩
  | 1 => exact ⟨_, rfl⟩
  | 2 => exact ⟨_, rfl⟩
  | n + 3 => exact ⟨_, rfl⟩
theorem pieces_dots (x : ByteArray) (r : List (Nat × ByteArray)) (hx : nm x.toList = true) : (r = [] ∧ pieces (x.toList ++ dots r) = [x.toList]) ∨ (∃ u, dots r = 47 :: u ∧ pieces (x.toList ++ dots r) = x.toList :: pieces u) := by
  have h5 := (nm_facts hx).2.2.2.2.1
  match r with
  | [] => exact .inl ⟨rfl, by show pieces (x.toList ++ []) = _; rw [List.append_nil]; exact pieces_none _ h5⟩
  | (n, y) :: r =>
    obtain ⟨u, hu⟩ := dots_cons n y r
    exact .inr ⟨u, hu, by rw [hu]; exact pieces_stroke _ _ h5⟩
theorem run_dots (out : List ByteArray) (l : List (Nat × ByteArray)) (u : Bs) (hu : dots l = 47 :: u) (hg : ∀ p ∈ l, nm p.2.toList = true) (hl : out.length + l.length ≤ 16) : run out (pieces u) = (out ++ l.map (·.2), 0) := by
  induction l generalizing out u with
  | nil => exact absurd hu (by simp [dots])
  | cons p r ih =>
    obtain ⟨n, x⟩ := p
    have hx := hg (n, x) List.mem_cons_self
    rw [List.length_cons] at hl
    obtain ⟨u', h1, h2⟩ := run_sep out x n [] (by omega) hx
    have e : u = u' ++ (x.toList ++ dots r) := by
      have : dots ((n, x) :: r) = sepL n ++ (x.toList ++ dots r) := rfl
      rw [this, h1] at hu
      exact (List.cons.inj hu).2.symm
    rcases h2 (dots r) with ⟨q, hq, hr⟩ | hno
    · rw [e, hr]
      rcases pieces_dots x r hx with ⟨rfl, h3⟩ | ⟨v, hv, h3⟩
      · rw [h3] at hq
        obtain rfl : [] = q := (List.cons.inj hq).2
        rfl
      · rw [h3] at hq
        obtain rfl : pieces v = q := (List.cons.inj hq).2
        rw [ih (out ++ [x]) v hv (fun p hp => hg p (List.mem_cons_of_mem _ hp)) (by rw [List.length_append, List.length_singleton]; omega), List.append_assoc]
        rfl
    · exfalso
      rcases pieces_dots x r hx with ⟨_, h3⟩ | ⟨v, hv, h3⟩
      · exact hno ⟨_, h3⟩
      · exact hno ⟨_, h3⟩
theorem dots_length (l : List (Nat × ByteArray)) (hg : ∀ p ∈ l, nm p.2.toList = true) : (dots l).length ≤ 23 * l.length := by
  induction l with
  | nil => exact Nat.le_refl _
  | cons p r ih =>
    obtain ⟨n, x⟩ := p
    have hx : x.toList.length ≤ 17 := (nm_facts (hg (n, x) List.mem_cons_self)).2.1
    have h1 : (sepL n).length ≤ 6 := by
      match n with
      | 0 => decide
      | 1 => decide
      | 2 => decide
      | n + 3 => exact Nat.le_refl _
    have h2 := ih (fun p hp => hg p (List.mem_cons_of_mem _ hp))
    show (sepL n ++ (x.toList ++ dots r)).length ≤ _
    rw [List.length_append, List.length_append, List.length_cons]; omega
theorem split_dots (l : List (Nat × ByteArray)) (hg : ∀ p ∈ l, nm p.2.toList = true) (hl : l.length ≤ 16) : split (B (if dots l = [] then [47] else dots l)) = (l.map (·.2), 0) := by
  cases l with
  | nil =>
    rw [if_pos (show dots [] = [] from rfl)]
    unfold split
    rw [B_size, if_neg (by decide), B_toList]
    rfl
  | cons p r =>
    obtain ⟨n, x⟩ := p
    obtain ⟨u, hu⟩ := dots_cons n x r
    have hd := dots_length _ hg
    rw [hu, if_neg (by simp)]
    unfold split
    rw [B_size, if_neg (by rw [← hu]; omega), B_toList]
    show run [] (pieces u) = _
    rw [run_dots [] _ u hu hg (by simpa using hl)]
    rfl
end Go.Proofs.Ytnccbebjligpdaa.PathLaw
