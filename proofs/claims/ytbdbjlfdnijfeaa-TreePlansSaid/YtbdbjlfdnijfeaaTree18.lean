/- For all worlds: the reader's rows, turned: what a page adds to the pointers. -/
import Derived.Test.YtbdbjlfdnijfeaaTree17
namespace Go.Proofs.Ytbdbjlfdnijfeaa.Tree
open Go Go.RowKit Go.Maps Go.Proofs.YtbdbjlfdnijfeaaW.PrintWords Go.Proofs.YtbdbjlfdnijfeaaW.PrintLast Go.Proofs.YtbdbjlfdnijfeaaW.PrintMore
set_option linter.unusedVariables false
set_option linter.unusedSimpArgs false
set_option maxRecDepth 100000
section
variable {w0 w w1 W : World} {r : Nat} {A : Option Addr} {n c : Nat} {ws : List Wr} {vp vo v1 : Value} {pl ol : List Int} {bad : Bool}
theorem Rd.freshO (h : Rd w0 w r A n c ws vp vo pl ol bad) : ∀ k, w.heap.size ≤ k → some k ≠ vo.ownBlock := fun k hk e => by
  have := Kd.R_lt h.ho k e.symm
  omega
/-- What is appended to the pointers. -/
theorem Rd.join {l : List Int} (h : Rd w0 w r A n c ws vp vo pl ol bad) (hp : I.R 3 w1 w0.heap.size (fun k => some k ≠ vo.ownBlock) v1 (pl ++ l)) (hb : Below w0.heap.size w0 w1) (hg : w.grownBy w1 vp.ownBlock) (hat : v1.ownBlock = vp.ownBlock ∨ ∃ b, v1.ownBlock = some b ∧ w.heap.size ≤ b) :
    Rd w0 (w1.setCell ⟨r, 1, none⟩ v1) r A n c ws v1 vo (pl ++ l) ol bad := by
  have hm1 := blk_grown h.hr hg (Kd.R_ne h.hp h.hr (by decide))
  refine ⟨blk_set hm1 1 v1, Kd.R_set hp hm1 (by decide) 1 v1, ?_, h.hw, hb.setCell (p := ⟨r, 1, none⟩) h.br _, h.br⟩
  have h1 := Kd.R_after (ok := fun _ => True) (Kd.R_mono h.ho (fun k hk => ⟨trivial, hk⟩)) hg hat
  exact Kd.R_set (Kd.R_mono h1 (fun k hk => hk.2)) hm1 (by decide) 1 v1
theorem Rd.join_row {dl : List Int} {v : Value} {b : Nat} (h : Rd w0 w r A n c ws vp vo pl ol bad) (hg : w.grownBy w1 vp.ownBlock) (hat : v1.ownBlock = vp.ownBlock ∨ ∃ b, v1.ownBlock = some b ∧ w.heap.size ≤ b)
    (hl : I.R 3 w b (fun k => some k ≠ vp.ownBlock ∧ some k ≠ vo.ownBlock) v dl) : I.R 3 (w1.setCell ⟨r, 1, none⟩ v1) b (fun k => some k ≠ v1.ownBlock ∧ some k ≠ vo.ownBlock) v dl := by
  have hm1 := blk_grown h.hr hg (Kd.R_ne h.hp h.hr (by decide))
  have h1 := Kd.R_after (ok := fun k => some k ≠ vo.ownBlock) (Kd.R_mono hl (fun k hk => ⟨hk.2, hk.1⟩)) hg hat
  exact Kd.R_set (Kd.R_mono h1 (fun k hk => ⟨hk.2, hk.1⟩)) hm1 (by decide) 1 v1
/-- A row that lies apart from the reader's, behind a page. -/
theorem Rd.page_row {dl : List Int} {v vo' : Value} {b : Nat} (h : Rd w0 w r A n c ws vp vo pl ol bad) (f : Fr w W r vo.ownBlock) (hat : vo'.ownBlock = vo.ownBlock ∨ ∃ b, vo'.ownBlock = some b ∧ w.heap.size ≤ b)
    (hl : I.R 3 w b (fun k => some k ≠ vp.ownBlock ∧ some k ≠ vo.ownBlock) v dl) : I.R 3 W b (fun k => some k ≠ vp.ownBlock ∧ some k ≠ vo'.ownBlock) v dl := by
  have h1 := Kd.R_bound (Kd.R_types hl h.hr (by decide))
  refine Kd.R_mono (Kd.R_step h1 (fun k hk hlt => f.far k hlt hk.1.2 hk.1.1.2)) (fun k hk => ⟨hk.1.1.1, ?_⟩)
  rcases hat with e | ⟨q, e, hq⟩
  · rw [e]; exact hk.1.1.2
  · rw [e]
    intro e2
    have := Option.some.inj e2
    have := hk.2.2.1
    omega
end
/-- One page more: its numbers, its place among the own, whether it was bad. -/
def rdK (ws : List Wr) (s : List Int × List Int × Bool) (p : Int) : List Int × List Int × Bool := (s.1 ++ pgL ws p, s.2.1 ++ pgOwn p, s.2.2 || !pgOk ws p)
theorem pgL_length (ws : List Wr) (p : Int) : (pgL ws p).length = 30 := by
  unfold pgL
  split
  · rfl
  · unfold goodB
    split
    · split
      · exact numsT_length _ _
      · rfl
    · rfl
theorem pgOwn_length (p : Int) : (pgOwn p).length ≤ 1 := by
  unfold pgOwn
  split <;> simp
theorem pgL_wide {ws : List Wr} (h : ∀ x ∈ ws, Spin.Bytes x.data) (p : Int) : wide (pgL ws p) = true := by
  have hz : wide zer = true := by decide
  unfold pgL
  split
  · exact hz
  · unfold goodB
    split
    · rename_i x hx
      split
      · exact numsT_wide (h x (List.mem_of_find?_eq_some hx))
      · exact hz
    · exact hz
theorem wide_append {a b : List Int} (h : wide a = true) (h2 : wide b = true) : wide (a ++ b) = true := by
  unfold wide at *
  rw [List.all_append, h, h2]; rfl
theorem wide_own {p : Int} (h : (Lit.int .i64 p).wf = true) : wide (pgOwn p) = true := by
  unfold pgOwn wide
  split
  · rfl
  · rw [List.all_cons, h]; rfl
theorem trim_le (l : List Int) : (trimL l).length ≤ l.length := by
  unfold trimL
  rw [List.length_reverse]
  have h1 := (List.dropWhile_sublist (fun p => p == 0) (l := l.reverse)).length_le
  rw [List.length_reverse] at h1
  exact h1
theorem wide_trim {l : List Int} (h : wide l = true) : wide (trimL l) = true := by
  unfold wide at *
  rw [List.all_eq_true] at *
  intro x hx
  unfold trimL at hx
  exact h x (List.mem_reverse.1 ((List.dropWhile_sublist _).subset (List.mem_reverse.1 hx)))
end Go.Proofs.Ytbdbjlfdnijfeaa.Tree
