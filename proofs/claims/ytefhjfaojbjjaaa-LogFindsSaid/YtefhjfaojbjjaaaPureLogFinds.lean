/- For every log and head: log.Find answers what the document answers. Conditions: the rows' bytes are bytes. -/
import Derived.Test.YtefhjfaojbjjaaaPAllx16
import Derived.Test.YtefhjfaojbjjaaaLogFindRef
namespace Go.Proofs.Ytefhjfaojbjjaaa.Pure
open Go Go.RowKit Go.Proofs.Ytefhjfaojbjjaaa.PAll Go.Proofs.YtefhjfaojbjjaaaW.PrintWords Go.Proofs.Ytefhjfaojbjjaaa.Spin Go.Proofs.Ytefhjfaojbjjaaa.Field Go.Proofs.Ytefhjfaojbjjaaa.Log
set_option linter.unusedVariables false

theorem same_loop (l : List S50) (hs : l.length ≤ 20) : ∀ d i k : Nat, d + i = l.length → d < k → drydockref15_SameWrites.l0 k l l (i : Int) = some true
  | 0, i, k + 1, hi, _ => by rw [drydockref15_SameWrites.l0, if_neg (by omega)]
  | d + 1, i, k + 1, hi, hk => by
    rw [drydockref15_SameWrites.l0, if_pos (by omega), if_pos (by omega), if_pos (by omega), if_pos rfl, if_pos rfl, show wrap64 ((i : Int) + 1) = ((i + 1 : Nat) : Int) from by unfold wrap64; omega]
    exact same_loop l hs d (i + 1) k (by omega) (by omega)
theorem same_same (l : List S50) (hs : l.length ≤ 20) (k : Nat) (hk : 20 < k) : drydockref15_SameWrites.f k l l = some true := by
  unfold drydockref15_SameWrites.f
  rw [if_pos rfl]
  exact same_loop l hs l.length 0 k (by omega) (by omega)
theorem finds_loop (l : List (List S50)) (h20 : ∀ x ∈ l, x.length ≤ 20) (hl : l.length ≤ 1073741824) : ∀ d i k : Nat, d + i = l.length → d + 30 < k → drydocklaw15_LogFinds.l0 k l l (i : Int) = some true
  | 0, i, k + 1, hi, _ => by rw [drydocklaw15_LogFinds.l0, if_neg (by omega)]
  | d + 1, i, k + 1, hi, hk => by
    have hil : i < l.length := by omega
    have hr : rd_L4 l (i : Int) = l[i] := by
      show l.getD (i : Int).toNat _ = _
      rw [Int.toNat_natCast, List.getD_eq_getElem?_getD, List.getElem?_eq_getElem hil]; rfl
    rw [drydocklaw15_LogFinds.l0, if_pos (by omega), if_pos (by omega), if_pos (by omega), hr, same_same _ (h20 _ (List.getElem_mem hil)) k (by omega), Option.bind_some, if_pos rfl, show wrap64 ((i : Int) + 1) = ((i + 1 : Nat) : Int) from by unfold wrap64; omega]
    exact finds_loop l h20 hl d (i + 1) k (by omega) (by omega)
theorem findI_bound (bl : List (List Int)) (a q : Int) : (∀ x ∈ (findI bl a q).1, x.length ≤ 20) ∧ (findI bl a q).1.length ≤ 1073741824 := by
  unfold findI
  split
  · next h =>
    obtain ⟨⟨ha, ha'⟩, hq, _⟩ := h
    obtain ⟨more, h1, _, _, _, h5, h6, _⟩ := fnd_facts bl (1073741824 - q.toNat) [] a.toNat q (by omega)
    rw [h1, List.nil_append]
    exact ⟨h5, by omega⟩
  · exact ⟨(fun x h => nomatch h), by simp⟩
theorem LogFinds (bl : List (List Int)) (a q : Int) (hb : ∀ b ∈ bl, ∀ x ∈ b, (Lit.int .u8 x).wf = true) : ∃ k, drydocklaw15_LogFinds.f k bl a q = some true := by
  have hb' : ∀ b ∈ bl, Bytes b := fun b h => bytes_wf (hb b h)
  obtain ⟨h20, hlen⟩ := findI_bound bl a q
  refine ⟨42949676002, ?_⟩
  unfold drydocklaw15_LogFinds.f
  rw [find_eq hb' a q _ (by omega), Option.bind_some, rfind_eq hb' a q _ (by omega), Option.bind_some, awake15_true _ (by omega), Option.bind_some, if_pos rfl, if_pos rfl, if_neg (by simp),
    show (((findI bl a q).1.length : Int) != ((findI bl a q).1.length : Int)) = false from bne_eq_false_iff_eq.2 rfl, show (42949676002 : Nat) = 42949676001 + 1 from rfl, drydocklaw15_LogFinds.j0, if_neg (by decide)]
  exact finds_loop _ h20 hlen _ 0 _ (Nat.add_zero _) (by omega)
end Go.Proofs.Ytefhjfaojbjjaaa.Pure
