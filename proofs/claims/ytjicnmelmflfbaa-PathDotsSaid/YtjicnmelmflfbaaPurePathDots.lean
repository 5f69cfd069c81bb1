/- For every list of names that may be joined: more strokes, and points, between the names change nothing. Conditions: none beyond the form's own. -/
import Derived.Test.YtjicnmelmflfbaaPAllx11
import Derived.Test.YtjicnmelmflfbaaPathPure
namespace Go.Proofs.Ytjicnmelmflfbaa.Pure
open Go Go.RowKit Go.Proofs.Ytjicnmelmflfbaa.PAll Go.Proofs.YtjicnmelmflfbaaW.PrintWords Go.Proofs.Ytjicnmelmflfbaa.PathLaw
set_option linter.unusedVariables false

def sel (m : List Int) (i : Nat) : Nat := if i < m.length then ((rd m (i : Int)).tmod 4).toNat else 0
def mkp (m : List Int) : Nat → List ByteArray → List (Nat × ByteArray)
  | _, [] => []
  | i, x :: xs => (sel m i, x) :: mkp m (i + 1) xs
theorem mkp_map (m : List Int) (l : List ByteArray) : ∀ i, (mkp m i l).map (·.2) = l := by
  induction l with
  | nil => intro i; rfl
  | cons x xs ih => intro i; show x :: (mkp m (i + 1) xs).map (·.2) = _; rw [ih]
theorem seps_at (j : Nat) (h : j < 4) : rdOf ByteArray.empty [(⟨#[47]⟩ : ByteArray), (⟨#[47, 47]⟩ : ByteArray), (⟨#[47, 46, 47]⟩ : ByteArray), (⟨#[47, 120, 47, 46, 46, 47]⟩ : ByteArray)] (j : Int) = B (sepL j) := by
  have : j = 0 ∨ j = 1 ∨ j = 2 ∨ j = 3 := by omega
  rcases this with rfl | rfl | rfl | rfl <;> rfl
theorem sep_size (j : Nat) : (B (sepL j)).size ≤ 6 := by
  rw [B_size]
  match j with
  | 0 => decide
  | 1 => decide
  | 2 => decide
  | n + 3 => exact Nat.le_refl _
theorem wrap_small (j : Nat) (h : j < 4) : wrap64 (j : Int) = (j : Int) := by unfold wrap64; omega
theorem mod4 (m : List Int) (i : Nat) (c : i < m.length) (hm : ∀ x ∈ m, (Lit.int .u8 x).wf = true) : ∃ j : Nat, j < 4 ∧ (rd m (i : Int)).tmod 4 = (j : Int) := by
  have e : rd m (i : Int) = m[i] := by
    show m.getD (i : Int).toNat 0 = _
    rw [Int.toNat_natCast, List.getD_eq_getElem?_getD, List.getElem?_eq_getElem c]; rfl
  have w := bounds_u8 (hm _ (List.getElem_mem c))
  rw [e]
  generalize m[i] = v at w ⊢
  have h0 : 0 ≤ v := w.1
  rw [Int.tmod_eq_emod_of_nonneg h0]
  exact ⟨(v % 4).toNat, by omega, by omega⟩
theorem dots_loop (l : List ByteArray) (m : List Int) (s : ByteArray) (hm : ∀ x ∈ m, (Lit.int .u8 x).wf = true) (hl : l.length ≤ 16) (hn : ∀ x ∈ l, nm x.toList = true) (k2 : Nat) : ∀ (d i : Nat), d + i = l.length → ∀ acc : ByteArray, acc.size ≤ 23 * i →
    drydocklaw14_PathDots.l0 (d + 1 + k2) l m s acc (i : Int) = drydocklaw14_PathDots.j2 (k2) l s (if acc.toList ++ dots (mkp m i (l.drop i)) = [] then (⟨#[47]⟩ : ByteArray) else B (acc.toList ++ dots (mkp m i (l.drop i))))
  | 0, i, hi => by
    intro acc ha
    have hd : l.drop i = [] := List.drop_of_length_le (by omega)
    rw [show 0 + 1 + k2 = k2 + 1 by omega, drydocklaw14_PathDots.l0, if_neg (by omega), hd]
    show _ = drydocklaw14_PathDots.j2 k2 l s (if acc.toList ++ [] = [] then _ else B (acc.toList ++ []))
    rw [List.append_nil]
    by_cases h : acc.toList = []
    · rw [if_pos h, if_pos h]
    · rw [if_neg h, if_neg h, toList_B]
  | d + 1, i, hi => by
    intro acc ha
    have hil : i < l.length := by omega
    have hx := hn _ (List.getElem_mem hil)
    have h17 := (nm_facts hx).2.1
    rw [size_toList] at h17
    have hs6 := sep_size (sel m i)
    have key : ∀ y : ByteArray, y = B (sepL (sel m i)) → drydocklaw14_PathDots.l0 (d + 1 + k2) l m s (acc ++ (y ++ l[i])) (((i + 1 : Nat) : Int)) = drydocklaw14_PathDots.j2 (k2) l s (if acc.toList ++ dots (mkp m i (l.drop i)) = [] then (⟨#[47]⟩ : ByteArray) else B (acc.toList ++ dots (mkp m i (l.drop i)))) := by
      intro y hy
      rw [dots_loop l m s hm hl hn k2 d (i + 1) (by omega) _ (by rw [ByteArray.size_append, ByteArray.size_append, hy]; omega)]
      have e : (acc ++ (y ++ l[i])).toList ++ dots (mkp m (i + 1) (l.drop (i + 1))) = acc.toList ++ dots (mkp m i (l.drop i)) := by
        rw [toList_append, toList_append, hy, B_toList, List.drop_eq_getElem_cons hil, List.append_assoc, List.append_assoc]
        rfl
      rw [e]
    rw [show d + 1 + 1 + k2 = (d + 1 + k2) + 1 by omega, drydocklaw14_PathDots.l0, if_pos (by omega), rdOf_nat l i hil, show wrap64 ((i : Int) + 1) = ((i + 1 : Nat) : Int) from by unfold wrap64; omega]
    by_cases c : i < m.length
    · obtain ⟨j, hj4, hj⟩ := mod4 m i c hm
      have hsel : sel m i = j := by unfold sel; rw [if_pos c, hj, Int.toNat_natCast]
      rw [hsel] at key hs6
      have hw := wrap_small j hj4
      rw [if_pos (show (i : Int) < (m.length : Int) from Int.ofNat_lt.2 c), if_pos (Int.natCast_nonneg i), Option.bind_some, hj, hw, if_pos (Int.natCast_nonneg j), if_pos (show (j : Int) < (([(⟨#[47]⟩ : ByteArray), (⟨#[47, 47]⟩ : ByteArray), (⟨#[47, 46, 47]⟩ : ByteArray), (⟨#[47, 120, 47, 46, 46, 47]⟩ : ByteArray)].length : Nat) : Int) from Int.ofNat_lt.2 hj4), seps_at j hj4]
      clear hw hj
      rw [if_pos (by omega), if_pos (by rw [ByteArray.size_append]; omega), key _ rfl]
    · have hsel : sel m i = 0 := by unfold sel; rw [if_neg c]
      rw [hsel] at key hs6
      rw [if_neg (by omega), Option.bind_some, if_pos (by show (0 : Int) < ((4 : Nat) : Int); omega), if_pos (by omega), show (0 : Int) = ((0 : Nat) : Int) from rfl, seps_at 0 (by omega), if_pos (by omega), if_pos (by rw [ByteArray.size_append]; omega), key _ rfl]
theorem PathDots (l : List ByteArray) (m : List Int) (hm : ∀ x ∈ m, (Lit.int .u8 x).wf = true) : ∃ k, drydocklaw14_PathDots.f k l m = some true := by
  refine ⟨l.length + 1 + 2000 + 1, ?_⟩
  unfold drydocklaw14_PathDots.f
  rw [pathJoin_eq, Option.bind_some, awake14_true _ (by omega), Option.bind_some, if_pos rfl, drydocklaw14_PathDots.j0]
  by_cases h : (join l).2 = 0
  · obtain ⟨hg, hj⟩ := join_good h
    have hl := hg.1
    have hlm : (mkp m 0 l).length = l.length := by rw [← List.length_map (f := (·.2)), mkp_map]
    have hgm : ∀ p ∈ mkp m 0 l, nm p.2.toList = true := by
      intro p hp
      have : p.2 ∈ (mkp m 0 l).map (·.2) := List.mem_map_of_mem hp
      rw [mkp_map] at this
      exact hg.2 _ this
    rw [hj, show ((0 : Int) != 0) = false from rfl, if_neg (by decide), show (0 : Int) = ((0 : Nat) : Int) from rfl, dots_loop l m _ hm hl hg.2 2000 l.length 0 (by omega) (⟨#[]⟩ : ByteArray) (Nat.le_refl _), List.drop_zero, show (⟨#[]⟩ : ByteArray).toList = [] from B_toList [], List.nil_append]
    have hs := split_dots (mkp m 0 l) hgm (by omega)
    rw [mkp_map] at hs
    have e : (if dots (mkp m 0 l) = [] then (⟨#[47]⟩ : ByteArray) else B (dots (mkp m 0 l))) = B (if dots (mkp m 0 l) = [] then [47] else dots (mkp m 0 l)) := by
      split <;> rfl
    rw [e, show (2000 : Nat) = 1999 + 1 from rfl, drydocklaw14_PathDots.j2, pathSplit_eq _ _ (by omega), hs, Option.bind_some, pathSplit_eq _ _ (by omega), split_join hg, Option.bind_some, if_neg (by show ¬ ((0 : Int) = 11); decide), if_pos (by rfl), if_pos (by rfl), same_eq _ _ (by show l.length < _; omega) _ (by show l.length < _; omega), Option.bind_some, decide_eq_true rfl]
  · rw [if_pos (bne_iff_ne.2 h), awake14_true _ (by omega)]
    rfl
end Go.Proofs.Ytjicnmelmflfbaa.Pure
