/- For every blocks, entry and other name: what was added is found where it was added, and removed it is not found; all others stay. Conditions: none beyond the form's own. -/
import Derived.Test.YtnccbebjligpdaaPAllx9
import Derived.Test.YtnccbebjligpdaaEntryOwnPure
namespace Go.Proofs.Ytnccbebjligpdaa.Pure
open Go Go.RowKit Go.Proofs.Ytnccbebjligpdaa.PAll Go.Proofs.YtnccbebjligpdaaW.PrintWords Go.Proofs.Ytnccbebjligpdaa.PathLaw
set_option linter.unusedVariables false

theorem back_skip (k : Nat) (hk : 20 < k) (l : List (List S41)) (o : ByteArray) (A : List (List S41)) (at_ a : Int) (n : ByteArray) : drydocklaw10_EntryBack.j0 k l o A at_ true a n = some true := by
  obtain ⟨k, rfl⟩ : ∃ q, k = q + 1 := ⟨k - 1, by omega⟩
  rw [drydocklaw10_EntryBack.j0, if_pos rfl, awake10_true _ (by omega), Option.bind_some]
theorem find_other {l A b : List (List S41)} {x : S41} {o : ByteArray} (hA : (nmsOf A.flatten).Perm (x.f1.toList :: nmsOf l.flatten)) (hb : (nmsOf A.flatten).Perm (x.f1.toList :: nmsOf b.flatten)) (hl : l.length ≤ 96) (hbl : b.length ≤ 96) (hsl : sndB l = true) (hsb : sndB b = true)
    (hne : o.toList ≠ x.f1.toList) : (findI l o).2.2 = (findI b o).2.2 := by
  rw [find_err, find_err]
  by_cases hr : rgt ⟨0, o⟩ = true
  · rw [if_pos (chk_mk hl hsl hr), if_pos (chk_mk hbl hsb hr)]
    have h1 : o.toList ∈ nmsOf l.flatten ↔ o.toList ∈ nmsOf b.flatten := by
      have e1 := hA.mem_iff (a := o.toList)
      have e2 := hb.mem_iff (a := o.toList)
      rw [List.mem_cons] at e1 e2
      constructor
      · intro h
        exact (e2.1 (e1.2 (.inr h))).resolve_left hne
      · intro h
        exact (e1.1 (e2.2 (.inr h))).resolve_left hne
    by_cases hm : o.toList ∈ nmsOf l.flatten
    · rw [if_pos hm, if_pos (h1.1 hm)]
    · rw [if_neg hm, if_neg (fun h => hm (h1.2 h))]
  · have e1 : chk l ⟨0, o⟩ = 1 := by unfold chk; rw [if_neg hr]
    have e2 : chk b ⟨0, o⟩ = 1 := by unfold chk; rw [if_neg hr]
    rw [e1, e2, if_neg (by decide), if_neg (by decide)]
theorem EntryBack (l : List (List S41)) (a : Int) (n o : ByteArray) (hs : ∀ b ∈ l, ∀ x ∈ b, x.f1.size ≤ maxLen) (hn : n.size ≤ maxLen) : ∃ k, drydocklaw10_EntryBack.f k l a n o = some true := by
  refine ⟨203, ?_⟩
  unfold drydocklaw10_EntryBack.f
  have ha := add_eq l ⟨a, n⟩ hs 203 (by omega)
  dsimp only at ha
  rw [ha, Option.bind_some, awake10_true _ (by omega), Option.bind_some, if_pos rfl]
  obtain ⟨⟨A, at_, e⟩, hA⟩ : ∃ r, addI l ⟨a, n⟩ = r := ⟨_, rfl⟩
  rw [hA]
  dsimp only
  by_cases he : e = 0
  · subst he
    obtain ⟨hc, hnot, i, rfl, H⟩ := added hA
    obtain ⟨h96, h3, hsnd, hr⟩ := chk_len hc
    obtain ⟨r, hlast, hr3⟩ := H.last
    have hr0 : rgt ⟨0, n⟩ = true := rgt_zero hr
    have hAl := H.lt
    have hlen : A[i].length = r.length + 1 := by rw [hlast, List.length_append, List.length_singleton]
    have hj : r.length < A[i].length := by omega
    have hx : A[i][r.length] = ⟨a, n⟩ := by
      have : ∀ (z : List S41) (h : r.length < z.length), z = r ++ [(⟨a, n⟩ : S41)] → z[r.length] = ⟨a, n⟩ := by
        rintro z h rfl
        rw [List.getElem_append_right (Nat.le_refl _)]
        simp
      exact this _ hj hlast
    have hname : A[i][r.length].f1.toList = n.toList := by rw [hx]
    have hsz : ∀ b ∈ A, ∀ x ∈ b, x.f1.size ≤ maxLen := fun b hb y hy => by
      rcases H.mem b hb y hy with rfl | ⟨c, hc, hy⟩
      · exact hn
      · exact hs c hc y hy
    have hf := find_at hAl hj H.l96 H.snd hr0 hname
    have hrm := rem_at hAl hj H.l96 H.snd hr0 hname
    obtain ⟨hsb, hnb⟩ := rem_snd hAl hj H.snd
    rw [hname] at hnb
    have hb96 : (remR A i r.length).length ≤ 96 := by rw [rem_length]; exact H.l96
    have hszb : ∀ b ∈ remR A i r.length, ∀ x ∈ b, x.f1.size ≤ maxLen := fun b hb y hy => by
      obtain ⟨c, hc, _, h2⟩ := rem_mem hAl hb
      exact hsz c hc y (h2 y hy)
    rw [if_pos rfl, if_neg (by omega), decide_eq_false (by omega)]
    rw [drydocklaw10_EntryBack.j0, if_neg (by decide), find_eq A n hsz, hf, Option.bind_some]
    dsimp only
    have hA5 : A[i].length ≤ 5 := by omega
    have ew : wrap64 ((A[i].length : Int) - 1) = (r.length : Int) := by rw [hlen]; unfold wrap64; omega
    rw [if_pos rfl, if_pos rfl, if_pos (by omega), if_pos (by omega), getL_nat A i hAl, ew, if_pos rfl, if_pos (by omega), if_pos (by omega), if_pos (by omega), if_pos (by omega), getT_nat _ _ hj, hx]
    dsimp only
    rw [beq_self_eq_true, beq_self_eq_true, drydocklaw10_EntryBack.j1, if_neg (by decide), rem_eq A n hsz _ (by omega), hrm, Option.bind_some]
    dsimp only
    rw [if_pos rfl, bne_self_eq_false, drydocklaw10_EntryBack.j2, if_neg (by decide), find_eq _ n hszb, Option.bind_some, find_eq l o hs, Option.bind_some, find_eq _ o hszb, Option.bind_some]
    have e4 : (findI (remR A i r.length) n).2.2 = 4 := by
      rw [find_err, if_pos (chk_mk hb96 hsb hr0), if_neg hnb]
    rw [if_pos e4]
    by_cases ho : o.toList = n.toList
    · split
      · rfl
      · rw [ho, beq_self_eq_true]
    · have hp2 := rem_names A i r.length hAl hj
      rw [hname] at hp2
      rw [if_pos (find_other (x := ⟨a, n⟩) H.names hp2 h96 hb96 hsnd hsb ho)]
  · rw [if_neg he, back_skip _ (by omega)]
end Go.Proofs.Ytnccbebjligpdaa.Pure
