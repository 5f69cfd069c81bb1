/- For all worlds: slices.Clone over numbers, tree.Trim. Conditions: the list can be read and is not too long. -/
import Derived.Test.YtbdbjlfdnijfeaaTree11
import Derived.Test.YtbdbjlfdnijfeaaWZeros
namespace Go.Proofs.Ytbdbjlfdnijfeaa.Tree
open Go Go.RowKit Go.Maps Go.Proofs.YtbdbjlfdnijfeaaW.PrintWords Go.Proofs.YtbdbjlfdnijfeaaW.PrintLast Go.Proofs.YtbdbjlfdnijfeaaW.PrintMore
set_option linter.unusedVariables false
set_option linter.unusedSimpArgs false
set_option maxRecDepth 100000
theorem cloneI_of (A0 : Option Addr) (c0 : Nat) (l0 : List Int) (w : World) (hr0 : I.C w A0 l0.length l0) (hc0 : l0.length ≤ c0) (hlen : l0.length ≤ 1000000) :
    Calls Try.prog 31 #[.slice A0 l0.length c0] w fun e w' => ∃ v0_ : Value, e = .returned (v0_) ∧ I.R 3 w' w.heap.size (fun _ => True) v0_ l0 ∧ Below w.heap.size w w' := by
  cases A0 with
  | none =>
    have hl0 : l0 = [] := by
      rcases l0 with _ | ⟨x, xs⟩
      · rfl
      · obtain ⟨ad, h, _⟩ := hr0.2.2 (by simp)
        cases h
    subst hl0
    clear hr0 hlen
    have he : ∀ W : World, (binOp .eql 22 (.slice none 0 c0) (.slice none 0 0)).run Try.prog W = .ok (.bool true) W := fun W => Lib.run_eql_slice_nil W _ _ _ _ _ _ _ Try.underlying22
    go_enter Try.func31, Try.ntmps31
    go_wp2
    go_ret
    exact ⟨_, rfl, Kd.R_nil _ _ _ _ _, Below.refl _ _⟩
  | some ad =>
    have he : ∀ W : World, (binOp .eql 22 (.slice (some ad) l0.length c0) (.slice none 0 0)).run Try.prog W = .ok (.bool false) W := fun W => Lib.run_eql_slice_nil W _ _ _ _ _ _ _ Try.underlying22
    have HR0 := Aside0.mk hr0
    have HC0 := Aside0.mk hc0
    have HL := Aside0.mk hlen
    clear hr0 hc0 hlen
    go_enter Try.func31, Try.ntmps31
    go_wp2_with (first | ((with_reducible refine gate_dst (N := 5) rfl ?_); (try (refine gate_guard (by rfl) ?_; dsimp only)); refine Kd.R_lit I _ 3 ?hg (N := 5) ?hd (xs := ([] : List Int)) (inner := []) (ok := fun _ => True) (okp := fun _ => True) ?hr ?hp (fun _ hk => hk) trivial (Below.refl _ _) (Nat.le_refl _) (by simp) ?_; (case hd => rfl); (case hg => rfl); (case hr => first | (go_simp; done) | (go_simp; rfl)); (case hp => exact (Reps.none _ _)); intro v1 w1 ho1 hb1 hg1 hn1; clear hg1 hn1; have HO := Aside0.mk ho1; have HB := Aside0.mk hb1; clear ho1 hb1) | ((with_reducible refine gate_builtin (b := .append) (xs := #[.tmp 5, .tmp 6]) rfl ?_); (try (refine gate_guard (by rfl) ?_; dsimp only)); at_builtin; refine Kd.R_append_rows I (w0 := w) w.heap.size rfl (.tmp 5) (.tmp 6) 22 3 (.int .i64 0) 8 rfl Try.underlying22 infoI rfl (by decide) (by omega) v1 [] l0 _ _ _ (fun _ => True) (fun _ => False) rfl rfl HO.out (Kd.C_below HR0.out HB.out) (fun _ _ h => h) (fun _ h => h.elim) (fun _ _ => trivial) HB.out (below_size HB.out) ?aL ?_; (case aL => have := HL.out; simp only [List.length_nil]; omega); intro v2 w2 ho hb hg hat; have HO2 := Aside0.mk ho; have HB2 := Aside0.mk hb; clear ho hb hg hat))
    go_ret
    exact ⟨_, rfl, HO2.out, HB2.out⟩
theorem cloneI_calls (A0 : Option Addr) (c0 n : Nat) (l0 : List Int) (hn : l0.length = n) (w : World) (hr0 : I.C w A0 n l0) (hc0 : n ≤ c0) (hlen : n ≤ 1000000) :
    Calls Try.prog 31 #[.slice A0 n c0] w fun e w' => ∃ v0_ : Value, e = .returned (v0_) ∧ I.R 3 w' w.heap.size (fun _ => True) v0_ l0 ∧ Below w.heap.size w w' := by
  subst hn
  exact cloneI_of A0 c0 l0 w hr0 hc0 hlen
/-- Without zeros at the end. -/
def trimL (l : List Int) : List Int := (l.reverse.dropWhile (fun p => p == 0)).reverse
theorem trim_zero (l : List Int) : trimL (l ++ [0]) = trimL l := by
  unfold trimL
  rw [List.reverse_append, List.reverse_cons, List.reverse_nil, List.nil_append, List.singleton_append, List.dropWhile_cons_of_pos (by decide)]
theorem trim_some (l : List Int) {p : Int} (h : p ≠ 0) : trimL (l ++ [p]) = l ++ [p] := by
  unfold trimL
  rw [List.reverse_append, List.reverse_cons, List.reverse_nil, List.nil_append, List.singleton_append, List.dropWhile_cons_of_neg (by simpa using h), List.reverse_cons, List.reverse_reverse]
theorem C_takeI {w : World} {A : Option Addr} {n m : Nat} {l : List Int} (h : I.C w A n l) (hm : m ≤ n) : I.C w A m (l.take m) :=
  ⟨by rw [List.length_take, h.1]; omega, by have := h.2.1; omega, fun h0 => by
    obtain ⟨ad, e, hc⟩ := h.2.2 (by omega)
    refine ⟨ad, e, fun j x hj => hc j x ?_⟩
    rw [List.getElem?_take] at hj
    split at hj
    · exact hj
    · cases hj⟩
theorem trim_calls (A0 : Option Addr) (c0 n : Nat) (l0 : List Int) (hn : l0.length = n) (w : World) (hr0 : I.C w A0 n l0) (hc0 : n ≤ c0) (hlen : n ≤ 1000000) :
    Calls Try.prog 33 #[.slice A0 n c0] w fun e w' => ∃ v0_ : Value, e = .returned (v0_) ∧ I.R 3 w' w.heap.size (fun _ => True) v0_ (trimL l0) ∧ Below w.heap.size w w' := by
  have HN := Aside0.mk hn
  have HR := Aside0.mk hr0
  have HC := Aside0.mk hc0
  have HL := Aside0.mk hlen
  clear hr0 hc0 hlen hn
  go_enter Try.func33, Try.ntmps33
  go_wp2_with fail
  go_loopg [0] n (fun gg v wr => ∃ m : Nat, m ≤ n ∧ m ≤ gg ∧ v = .slice A0 m c0 ∧ wr = w ∧ Aside0 (trimL (l0.take m) = trimL l0))
  case atStart => exact ⟨n, Nat.le_refl _, Nat.le_refl _, rfl, rfl, ⟨by rw [← HN.out, List.take_length]⟩⟩
  case round =>
    obtain ⟨m, hm, hgm, rfl, rfl, HA⟩ := hrel
    have HC2 : Aside0 (m ≤ c0) := ⟨by have := HC.out; omega⟩
    have HM := Aside0.mk hm
    have HRM : Aside0 (I.C wr A0 m (l0.take m)) := ⟨C_takeI HR.out hm⟩
    have HLM : Aside0 ((l0.take m).length = m) := ⟨by rw [List.length_take, HN.out]; omega⟩
    rcases m with _ | k
    · have HE : Aside0 (l0.take 0 = trimL l0) := ⟨by rw [← HA.out]; rfl⟩
      go_wp2_with (go_at_call 31; (with_reducible refine (cloneI_calls A0 c0 _ _ HLM.out _ HRM.out HC2.out (by decide)).mono ?_); rintro e w2 ⟨v2, rfl, ho, hb⟩; have HO := Aside0.mk ho; have HB := Aside0.mk hb; clear ho hb)
      go_ret
      exact ⟨_, rfl, by rw [← HE.out]; exact HO.out, HB.out⟩
    · obtain ⟨p, hp⟩ : ∃ p, l0[k]? = some p := ⟨_, List.getElem?_eq_getElem (by have := HN.out; omega)⟩
      obtain ⟨ad, e, hc⟩ := at_i HR.out hp
      subst e
      have hts := take_snoc hp
      have hwk : wrap64 (k : Int) = (k : Int) := by have := HL.out; unfold wrap64; omega
      have hkz : (0 : Int) ≤ (k : Int) := by omega
      by_cases hp0 : p = 0
      · subst hp0
        have HE : Aside0 (trimL (l0.take k) = trimL l0) := ⟨by rw [← HA.out, hts, trim_zero]⟩
        have hkc : k ≤ c0 := by have := HC2.out; omega
        clear hp hts
        go_wp2_with fail
        go_roundg k
        case measure => omega
        case rel => exact ⟨k, by omega, Nat.le_refl _, by go_num, rfl, HE⟩
      · have bp : (p == 0) = false := beq_eq_false_iff_ne.2 hp0
        have HE : Aside0 (l0.take (k + 1) = trimL l0) := ⟨by rw [← HA.out, hts, trim_some _ hp0]⟩
        clear hp hts hp0
        have HL2 : Aside0 (k + 1 ≤ 1000000) := ⟨by have := HM.out; have := HL.out; omega⟩
        go_wp2_with (go_at_call 31; (with_reducible refine (cloneI_calls _ c0 _ _ HLM.out _ HRM.out HC2.out HL2.out).mono ?_); rintro e w2 ⟨v2, rfl, ho, hb⟩; have HO := Aside0.mk ho; have HB := Aside0.mk hb; clear ho hb)
        go_ret
        exact ⟨_, rfl, by rw [← HE.out]; exact HO.out, HB.out⟩
end Go.Proofs.Ytbdbjlfdnijfeaa.Tree
