/- For all worlds: tree.apart (a map as a set). Conditions: the rows can be read, are not too long, and their numbers are 64 bits wide. -/
import Derived.Test.YtbdbjlfdnijfeaaTree13
namespace Go.Proofs.Ytbdbjlfdnijfeaa.Tree
open Go Go.RowKit Go.Maps Go.Proofs.YtbdbjlfdnijfeaaW.PrintWords Go.Proofs.YtbdbjlfdnijfeaaW.PrintLast Go.Proofs.YtbdbjlfdnijfeaaW.PrintMore
set_option linter.unusedVariables false
set_option linter.unusedSimpArgs false
set_option maxRecDepth 100000
def okA (seen : List Int) (p : Int) : Bool := !(seen.contains p && p != 0)
def aloneB : List Int → List Int → Bool
  | _, [] => true
  | seen, p :: r => okA seen p && aloneB (seen ++ [p]) r
theorem aloneB_append : ∀ (l : List Int) (seen : List Int) (p : Int), aloneB seen (l ++ [p]) = (aloneB seen l && okA (seen ++ l) p)
  | [], seen, p => by simp [aloneB]
  | x :: l, seen, p => by
    rw [List.cons_append, aloneB, aloneB_append l, aloneB, Bool.and_assoc, List.append_assoc]
    rfl
theorem aloneB_false : ∀ (l : List Int) (seen : List Int) (k : Nat) (p : Int), l[k]? = some p → okA (seen ++ l.take k) p = false → aloneB seen l = false
  | [], seen, k, p, h, _ => by simp at h
  | x :: l, seen, 0, p, h, hp => by
    obtain rfl := Option.some.inj h
    rw [List.take_zero, List.append_nil] at hp
    rw [aloneB, hp, Bool.false_and]
  | x :: l, seen, k + 1, p, h, hp => by
    rw [aloneB, aloneB_false l (seen ++ [x]) k p h (by rw [List.append_assoc]; exact hp), Bool.and_false]
theorem grown_below {w w' : World} {row : Option Nat} (h : Below w.heap.size w w') : w.grownBy w' row := ⟨h.os, h.tape, h.output, h.size, fun k hk _ => h.block k hk⟩
theorem apart_row {w w2 : World} {o1 o2 : Obj} {v : Value} {l : List Int} (h : I.R 3 w2 ((w.alloc o1).alloc o2).heap.size (fun _ => True) v l) : I.R 3 w2 w.heap.size (fun k => k ≠ w.heap.size) v l := by
  refine Kd.R_lower (Kd.R_mono (Kd.R_bound h) (fun k hk => ?_)) ?_
  · have := hk.2.1
    rw [World.size_alloc, World.size_alloc] at this
    omega
  · rw [World.size_alloc, World.size_alloc]; omega
set_option maxHeartbeats 1000000 in
theorem apart_calls (A0 : Option Addr) (c0 n0 : Nat) (l0 : List Int) (h0 : l0.length = n0) (A1 : Option Addr) (c1 n1 : Nat) (l1 : List Int) (h1 : l1.length = n1) (w : World) (hr0 : I.C w A0 n0 l0) (hr1 : I.C w A1 n1 l1) (hl0 : n0 ≤ 100000) (hl1 : n1 ≤ 100000) (hw0 : wide l0 = true) (hw1 : wide l1 = true) :
    Calls Try.prog 34 #[.slice A0 n0 c0, .slice A1 n1 c1] w fun e w' => e = .returned (.bool (aloneB [] (l0 ++ l1))) ∧ Below w.heap.size w w' := by
  have hmm := @run_makeMap Try.prog
  have HR0 := Aside0.mk hr0
  have HR1 := Aside0.mk hr1
  have HN0 := Aside0.mk h0
  have HN1 := Aside0.mk h1
  have HL0 := Aside0.mk hl0
  have HL1 := Aside0.mk hl1
  obtain ⟨l, hl⟩ : ∃ l, l0 ++ l1 = l := ⟨_, rfl⟩
  have HW : Aside0 (∀ x ∈ l, (Lit.int .i64 x).wf = true) := ⟨fun x hx => by
    rw [← hl] at hx
    rcases List.mem_append.1 hx with h | h
    · exact List.all_eq_true.1 hw0 x h
    · exact List.all_eq_true.1 hw1 x h⟩
  have HLEN : Aside0 (l.length ≤ 200000) := ⟨by rw [← hl, List.length_append]; omega⟩
  have HCC : Aside0 (∀ (W : World) (g : Nat), I.C W A0 n0 l0 → I.C W A1 n1 l1 → W.heap[g]? = some (.cells #[.slice A0 n0 c0, .slice A1 n1 c1] 22 (0, 0)) → Calls Try.prog 47 #[.slice (some ⟨g, 0, none⟩) 2 2] W fun e w' => ∃ v0_ : Value, e = .returned (v0_) ∧ I.R 3 w' W.heap.size (fun _ => True) v0_ l ∧ Below W.heap.size W w') := ⟨fun W g r0 r1 hg => by
    rw [← hl]
    exact concat_calls A0 c0 n0 l0 h0 A1 c1 n1 l1 h1 g W r0 r1 hl0 hl1 hg⟩
  rw [hl]
  obtain ⟨n, hn⟩ : ∃ n, l.length = n := ⟨_, rfl⟩
  rw [hn] at HLEN
  have HN := Aside0.mk hn
  have hn63 : n ≤ 200000 := HLEN.out
  clear hn
  clear hl hr0 hr1 h0 h1 hl0 hl1 hw0 hw1
  go_enter Try.func34, Try.ntmps34
  go_wp2_with (go_at_call 47; (with_reducible refine (HCC.out _ _ ?c0 ?c1 ?c2).mono ?_); (case c0 => exact Kd.C_below HR0.out (below_alloc (below_alloc (Below.refl _ _) _) _)); (case c1 => exact Kd.C_below HR1.out (below_alloc (below_alloc (Below.refl _ _) _) _)); (case c2 => exact heap_alloc2_new _ _ _); rintro e w2 ⟨v2, rfl, ho, hb⟩; have HOM := Aside0.mk (((World.ownsMap_made w Try.prog 3 (unitElem (H := Unit))).alloc (.cells #[.slice A0 n0 c0, .slice A1 n1 c1] 22)).kept (grown_below (row := none) hb) (by simp)); have HB := Aside0.mk ((below_alloc (below_alloc (Below.refl w.heap.size w) (.map #[] 0)) (.cells #[.slice A0 n0 c0, .slice A1 n1 c1] 22)).trans (hb.mono (below_alloc (below_alloc (Below.refl w.heap.size w) _) _).size)); obtain ⟨A2, c2, e2⟩ := Kd.R_slice ho; rw [HN.out] at e2; subst e2; have HR := Aside0.mk (apart_row ho); clear ho hb)
  go_loopg [16] n (fun gg i wr => ∃ k : Nat, k ≤ n ∧ n - k ≤ gg ∧ i = .int .i64 k ∧ Aside0 (wr.ownsMap Try.prog 3 (unitElem (H := Unit)) w.heap.size k (setU (l.take k))) ∧ Aside0 (Below w.heap.size w wr) ∧ Aside0 (aloneB [] (l.take k) = true) ∧ Aside0 (I.R 3 wr w.heap.size (fun k => k ≠ w.heap.size) (.slice A2 n c2) l))
  case atStart => exact ⟨0, Nat.zero_le _, Nat.le_refl _, rfl, HOM, HB, ⟨rfl⟩, HR⟩
  case round =>
    clear HOM HB HR
    obtain ⟨k, hk, hgk, rfl, HO, HB, HA, HR⟩ := hrel
    by_cases hlt : k < n
    · have b1 : decide (k < n) = true := decide_eq_true hlt
      obtain ⟨p, hp⟩ : ∃ p, l[k]? = some p := ⟨_, List.getElem?_eq_getElem (by have := HN.out; omega)⟩
      obtain ⟨ad, e, hc⟩ := at_i (by have h := (Kd.R_reads' HR.out).2.2; rw [HN.out] at h; exact h) hp
      subst e
      have hkey : keyOf Try.prog 3 (.int .i64 p) = some (.int .i64 p) := keyOf_int_mk Try.underlying3 (HW.out p (List.mem_of_getElem? hp))
      have HP := Aside0.mk hp
      have HKEY := Aside0.mk hkey
      have hkz : (0 : Int) ≤ (k : Int) := by omega
      have hkn : (k : Int) < (n : Int) := by omega
      obtain ⟨sn, hsn⟩ : ∃ q, Maps.has (setU (l.take k)) (.int .i64 p) = q := ⟨_, rfl⟩
      have hok : okA (l.take k) p = !(sn && p != 0) := by unfold okA; rw [← hsn, show Maps.has (setU (l.take k)) (.int .i64 p) = (l.take k).contains p from has_keys _ _]
      have hml : k < maxLen := by unfold maxLen; omega
      have HML := Aside0.mk hml
      clear hkey hp hml
      by_cases hp0 : (sn && p != 0) = true
      · have HOK : Aside0 (okA (l.take k) p = false) := ⟨by rw [hok, hp0]; rfl⟩
        rw [Bool.and_eq_true] at hp0
        obtain ⟨e1, bp⟩ := hp0
        subst e1
        clear hok
        go_wp2_with (first | (at_lookup; refine wpList_lookup_own_unit _ rfl _ _ 65 rfl 3 66 law3 Try.underlying65 (zeroU _) w.heap.size k _ rfl HO.out _ _ rfl HKEY.out ?_; rw [hsn]))
        go_ret
        refine ⟨?_, below_alloc HB.out _⟩
        rw [aloneB_false l [] k p HP.out (by rw [List.nil_append]; exact HOK.out)]; rfl
      · have HOK : Aside0 (okA (l.take k) p = true) := ⟨by rw [hok, Bool.eq_false_iff.2 hp0]; rfl⟩
        clear hok
        cases sn with
        | true =>
          rw [Bool.true_and] at hp0
          have bp := Bool.eq_false_iff.2 hp0
          clear hp0
          go_wp2_with (first | (at_lookup; refine wpList_lookup_own_unit _ rfl _ _ 65 rfl 3 66 law3 Try.underlying65 (zeroU _) w.heap.size k _ rfl HO.out _ _ rfl HKEY.out ?_; rw [hsn]) | (at_mapUpdate; refine wpList_mapUpdate_own _ rfl _ _ _ 65 rfl 3 66 law3 Try.underlying65 (unitElem (H := Unit)) w.heap.size k _ rfl (HO.out.alloc _) HML.out _ _ _ rfl rfl HKEY.out _ [] unitElem_mk ?_; intro w1 hown1 hgrow1; have HO1 := Aside0.mk hown1; have HG1 := Aside0.mk hgrow1; clear hown1 hgrow1))
          go_roundg (n - (k + 1))
          case measure => omega
          case rel =>
            refine ⟨k + 1, by omega, Nat.le_refl _, by go_num, ⟨?_⟩, ⟨((below_alloc HB.out _).grown HG1.out (by have := HB.out.size; rw [World.size_alloc]; omega) (fun j hj => by cases hj; exact Nat.le_refl _))⟩, ⟨?_⟩, ⟨?_⟩⟩
            · rw [take_snoc HP.out, setU_snoc]; exact HO1.out
            · rw [take_snoc HP.out, aloneB_append, HA.out, List.nil_append, HOK.out]; rfl
            · exact Kd.R_grown (Kd.R_alloc HR.out _) HG1.out (fun k hk e => hk (Option.some.inj e))
        | false =>
          clear hp0
          go_wp2_with (first | (at_lookup; refine wpList_lookup_own_unit _ rfl _ _ 65 rfl 3 66 law3 Try.underlying65 (zeroU _) w.heap.size k _ rfl HO.out _ _ rfl HKEY.out ?_; rw [hsn]) | (at_mapUpdate; refine wpList_mapUpdate_own _ rfl _ _ _ 65 rfl 3 66 law3 Try.underlying65 (unitElem (H := Unit)) w.heap.size k _ rfl (HO.out.alloc _) HML.out _ _ _ rfl rfl HKEY.out _ [] unitElem_mk ?_; intro w1 hown1 hgrow1; have HO1 := Aside0.mk hown1; have HG1 := Aside0.mk hgrow1; clear hown1 hgrow1))
          go_roundg (n - (k + 1))
          case measure => omega
          case rel =>
            refine ⟨k + 1, by omega, Nat.le_refl _, by go_num, ⟨?_⟩, ⟨((below_alloc HB.out _).grown HG1.out (by have := HB.out.size; rw [World.size_alloc]; omega) (fun j hj => by cases hj; exact Nat.le_refl _))⟩, ⟨?_⟩, ⟨?_⟩⟩
            · rw [take_snoc HP.out, setU_snoc]; exact HO1.out
            · rw [take_snoc HP.out, aloneB_append, HA.out, List.nil_append, HOK.out]; rfl
            · exact Kd.R_grown (Kd.R_alloc HR.out _) HG1.out (fun k hk e => hk (Option.some.inj e))
    · have b1 : decide (k < n) = false := decide_eq_false hlt
      have hkn : k = n := by omega
      have HE : Aside0 (aloneB [] l = true) := ⟨by have h := HA.out; rw [hkn, ← HN.out, List.take_length] at h; exact h⟩
      clear hlt
      go_wp2_with fail
      go_ret
      exact ⟨by rw [HE.out]; rfl, HB.out⟩
end Go.Proofs.Ytbdbjlfdnijfeaa.Tree
