/- For all worlds: slices.Clone over numbers, tree.Trim. Conditions: the list can be read and is not too long. -/
import Derived.Test.YtbdbjlfdnijfeaaTree11
import Derived.Test.YtbdbjlfdnijfeaaWZeros
namespace Go.Proofs.Ytbdbjlfdnijfeaa.Tree
open Go Go.RowKit Go.Maps Go.Proofs.YtbdbjlfdnijfeaaW.PrintWords Go.Proofs.YtbdbjlfdnijfeaaW.PrintLast Go.Proofs.YtbdbjlfdnijfeaaW.PrintMore
set_option linter.unusedVariables false
set_option linter.unusedSimpArgs false
set_option maxRecDepth 100000
theorem cloneI_of (A0 : Option Addr) (c0 : Nat) (l0 : List Int) (w : World) (hr0 : I.C w A0 l0.length l0) (hc0 : l0.length ≤ c0) (hlen : l0.length ≤ 1000000) :
    Calls Try.prog 31 #[.slice A0 l0.length c0] w fun e w' => ∃ v0_ : Value, e = .returned (v0_) ∧ I.R 3 w' w.heap.size (fun _ => True) v0_ l0 ∧ Below w.heap.size w w' := by
  cases A0 with
  | none =>
    have hl0 : l0 = [] := by
      rcases l0 with _ | ⟨x, xs⟩
      · rfl
      · obtain ⟨ad, h, _⟩ := hr0.2.2 (by simp)
        cases h
    subst hl0
    clear hr0 hlen
    have he : ∀ W : World, (binOp .eql 22 (.slice none 0 c0) (.slice none 0 0)).run Try.prog W = .ok (.bool true) W := fun W => Lib.run_eql_slice_nil W _ _ _ _ _ _ _ Try.underlying22
    go_enter Try.func31, Try.ntmps31
    go_wp2
    go_ret
    exact ⟨_, rfl, Kd.R_nil _ _ _ _ _, Below.refl _ _⟩
  | some ad =>
    have he : ∀ W : World, (binOp .eql 22 (.slice (some ad) l0.length c0) (.slice none 0 0)).run Try.prog W = .ok (.bool false) W := fun W => Lib.run_eql_slice_nil W _ _ _ _ _ _ _ Try.underlying22
    have HR0 := Aside0.mk hr0
    have HC0 := Aside0.mk hc0
    have HL := Aside0.mk hlen
    clear hr0 hc0 hlen
    go_enter Try.func31, Try.ntmps31
    go_wp2_with (first | ((with_reducible refine gate_dst (N := 5) rfl ?_); (try (refine gate_guard (by rfl) ?_; dsimp only)); refine Kd.R_lit I _ 3 ?hg (N := 5) ?hd (xs := ([] : List Int)) (inner := []) (ok := fun _ => True) (okp := fun _ => True) ?hr ?hp (fun _ hk => hk) trivial (Below.refl _ _) (Nat.le_refl _) (by simp) ?_; (case hd => rfl); (case hg => rfl); (case hr => first | (go_simp; done) | (go_simp; rfl)); (case hp => exact (Reps.none _ _)); intro v1 w1 ho1 hb1 hg1 hn1; clear hg1 hn1; have HO := Aside0.mk ho1; have HB := Aside0.mk hb1; clear ho1 hb1) | ((with_reducible refine gate_builtin (b := .append) (xs := #[.tmp 5, .tmp 6]) rfl ?_); (try (refine gate_guard (by rfl) ?_; dsimp only)); at_builtin; refine Kd.R_append_rows I (w0 := w) w.heap.size rfl (.tmp 5) (.tmp 6) 22 3 (.int .i64 0) 8 rfl Try.underlying22 infoI rfl (by decide) (by omega) v1 [] l0 _ _ _ (fun _ => True) (fun _ => False) rfl rfl HO.out (Kd.C_below HR0.out HB.out) (fun _ _ h => h) (fun _ h => h.elim) (fun _ _ => trivial) HB.out (below_size HB.out) ?aL ?_; (case aL => have := HL.out; simp only [List.length_nil]; omega); intro v2 w2 ho hb hg hat; have HO2 := Aside0.mk ho; have HB2 := Aside0.mk hb; clear ho hb hg hat))
    go_ret
    exact ⟨_, rfl, HO2.out, HB2.out⟩
theorem cloneI_calls (A0 : Option Addr) (c0 n : Nat) (l0 : List Int) (hn : l0.length = n) (w : World) (hr0 : I.C w A0 n l0) (hc0 : n ≤ c0) (hlen : n ≤ 1000000) :
    Calls Try.prog 31 #[.slice A0 n c0] w fun e w' => ∃ v0_ : Value, e = .returned (v0_) ∧ I.R 3 w' w.heap.size (fun _ => True) v0_ l0 ∧ Below w.heap.size w w' := by
  subst hn
  exact cloneI_of A0 c0 l0 w hr0 hc0 hlen
/-- Without zeros at the end. -/
def trimL (l : List Int) : List Int := (l.reverse.dropWhile (fun p => p == 0)).reverse
theorem trim_zero (l : List Int) : trimL (l ++ [0]) = trimL l := by
  unfold trimL
  rw [List.reverse_append, List.reverse_cons, List.reverse_nil, List.nil_append, List.singleton_append, List.dropWhile_cons_of_pos (by decide)]
theorem trim_some (l : List Int) {p : Int} (h : p ≠ 0) : trimL (l ++ [p]) = l ++ [p] := by
  unfold trimL
  rw [List.reverse_append, List.reverse_cons, List.reverse_nil, List.nil_append, List.singleton_append, List.dropWhile_cons_of_neg (by simpa using h), List.reverse_cons, List.reverse_reverse]
theorem C_takeI {w : World} {A : Option Addr} {n m : Nat} {l : List Int} (h : I.C w A n l) (hm : m ≤ n) : I.C w A m (l.take m) :=
  ⟨by rw [List.length_take, h.1]; omega, by have := h.2.1; omega, fun h0 => by
    obtain ⟨ad, e, hc⟩ := h.2.2 (by omega)
    refine ⟨ad, e, fun j x hj => hc j x ?_⟩
    rw [List.getElem?_take] at hj
    split at hj
    · exact hj
    · cases hj⟩
theorem trim_calls (A0 : Option Addr) (c0 n : Nat) (l0 : List Int) (hn : l0.length = n) (w : World) (hr0 : I.C w A0 n l0) (hc0 : n ≤ c0) (hlen : n ≤ 1000000) :
    Calls Try.prog 33 #[.slice A0 n c0] w fun e w' => ∃ v0_ : Value, e = .returned (v0_) ∧ I.R 3 w' w.heap.size (fun _ => True) v0_ (trimL l0) ∧ Below w.heap.size w w' := by
  have HN := Aside0.mk hn
  have HR := Aside0.mk hr0
  have HC := Aside0.mk hc0
  have HL := Aside0.mk hlen
  clear hr0 hc0 hlen hn
  go_enter Try.func33, Try.ntmps33
  go_wp2_with fail
  go_loopg [0] n (fun gg v wr => ∃ m : Nat, m ≤ n ∧ m ≤ gg ∧ v = .slice A0 m c0 ∧ wr = w ∧ Aside0 (trimL (l0.take m) = trimL l0))
  case atStart => exact ⟨n, Nat.le_refl _, Nat.le_refl _, rfl, rfl, ⟨by rw [← HN.out, List.take_length]⟩⟩
  case round =>
    obtain ⟨m, hm, hgm, rfl, rfl, HA⟩ := hrel
    have HC2 : Aside0 (m ≤ c0) := ⟨by have := HC.out; omega⟩
    have HM := Aside0.mk hm
    have HRM : Aside0 (I.C wr A0 m (l0.take m)) := ⟨C_takeI HR.out hm⟩
    have HLM : Aside0 ((l0.take m).length = m) := ⟨by rw [List.length_take, HN.out]; omega⟩
    rcases m with _ | k
    · have HE : Aside0 (l0.take 0 = trimL l0) := ⟨by rw [← HA.out]; rfl⟩
      go_wp2_with (go_at_call 31; (with_reducible refine (cloneI_calls A0 c0 _ _ HLM.out _ HRM.out HC2.out (by decide)).mono ?_); rintro e w2 ⟨v2, rfl, ho, hb⟩; have HO := Aside0.mk ho; have HB := Aside0.mk hb; clear ho hb)
      go_ret
      exact ⟨_, rfl, by rw [← HE.out]; exact HO.out, HB.out⟩
    · obtain ⟨p, hp⟩ : ∃ p, l0[k]? = some p := ⟨_, List.getElem?_eq_getElem (by have := HN.out; omega)⟩
      obtain ⟨ad, e, hc⟩ := at_i HR.out hp
      subst e
      have hts := take_snoc hp
      have hwk : wrap64 (k : Int) = (k : Int) := by have := HL.out; unfold wrap64; omega
      have hkz : (0 : Int) ≤ (k : Int) := by omega
      by_cases hp0 : p = 0
      · subst hp0
        have HE : Aside0 (trimL (l0.take k) = trimL l0) := ⟨by rw [← HA.out, hts, trim_zero]⟩
        have hkc : k ≤ c0 := by have := HC2.out; omega
        clear hp hts
        go_wp2_with fail
        go_roundg k
        case measure => omega
        case rel => exact ⟨k, by omega, Nat.le_refl _, by go_num, rfl, HE⟩
      · have bp : (p == 0) = false := beq_eq_false_iff_ne.2 hp0
        have HE : Aside0 (l0.take (k + 1) = trimL l0) := ⟨by rw [← HA.out, hts, trim_some _ hp0]⟩
        clear hp hts hp0
        have HL2 : Aside0 (k + 1 ≤ 1000000) := ⟨by have := HM.out; have := HL.out; omega⟩
        go_wp2_with (go_at_call 31; (with_reducible refine (cloneI_calls _ c0 _ _ HLM.out _ HRM.out HC2.out HL2.out).mono ?_); rintro e w2 ⟨v2, rfl, ho, hb⟩; have HO := Aside0.mk ho; have HB := Aside0.mk hb; clear ho hb)
        go_ret
        exact ⟨_, rfl, by rw [← HE.out]; exact HO.out, HB.out⟩
end Go.Proofs.Ytbdbjlfdnijfeaa.Tree
/- For all worlds: slices.Grow of nil, slices.Concat of two rows of numbers. Conditions: the rows can be read and are not too long. -/
namespace Go.Proofs.Ytbdbjlfdnijfeaa.Tree
open Go Go.RowKit Go.Maps Go.Proofs.YtbdbjlfdnijfeaaW.PrintWords Go.Proofs.YtbdbjlfdnijfeaaW.PrintLast Go.Proofs.YtbdbjlfdnijfeaaW.PrintMore
set_option linter.unusedVariables false
set_option linter.unusedSimpArgs false
set_option maxRecDepth 100000
theorem growI_calls (n : Nat) (nI : Int) (he : (n : Int) = nI) (hn : n ≤ 1000000) (w : World) :
    Calls Try.prog 58 #[.slice none 0 0, .int .i64 nI] w fun e w' => ∃ v0_ : Value, e = .returned (v0_) ∧ I.R 3 w' w.heap.size (fun _ => True) v0_ [] ∧ Below w.heap.size w w' := by
  subst he
  have hwn : wrap64 (n : Int) = (n : Int) := by unfold wrap64; omega
  have hnn : (0 : Int) ≤ (n : Int) := by omega
  have bn : decide ((n : Int) < 0) = false := decide_eq_false (by omega)
  have HN := Aside0.mk hn
  by_cases h0 : n = 0
  · subst h0
    clear HN
    go_enter Try.func58, Try.ntmps58
    go_wp2_with fail
    go_ret
    exact ⟨_, rfl, Kd.R_nil _ _ _ _ _, Below.refl _ _⟩
  · have b0 : decide (0 < (n : Int)) = true := decide_eq_true (by omega)
    have b1 : decide (0 < n) = true := decide_eq_true (by omega)
    have HP : Aside0 (0 < n) := ⟨by omega⟩
    clear h0 hn
    go_enter Try.func58, Try.ntmps58
    go_wp2_with ((with_reducible refine gate_builtin (b := .append) (xs := #[.tmp 20, .tmp 21]) rfl ?_); at_builtin; refine Kd.R_append_zeros I (w0 := w) w.heap.size rfl (.tmp 20) (.tmp 21) 22 3 3 (.int .i64 0) 8 rfl Try.underlying22 Try.underlying3 infoI rfl (by decide) (by omega) (.slice none 0 0) [] (0 : Int) (wrap64 (n : Int)) (fun _ => True) rfl rfl rfl (fun _ _ => trivial) (Kd.R_nil _ _ _ _ _) (by rw [hwn]; omega) (Below.refl _ _) (Nat.le_refl _) (by have := HN.out; rw [hwn]; simp only [List.length_nil, Int.toNat_natCast]; omega) ?_; intro v1 w1 ho hb hg hat; rw [hwn, List.nil_append, Int.toNat_natCast] at ho; obtain ⟨g, cap, e1, h1, h2, h3⟩ := Kd.R_form ho (by rw [List.length_replicate]; exact HP.out); rw [List.length_replicate] at e1; subst e1; have HO := Aside0.mk ho; have HB := Aside0.mk hb; clear ho hb hg hat h1 h2 h3)
    go_ret
    refine ⟨_, rfl, ?_, HB.out⟩
    exact Kd.R_take HO.out (Nat.zero_le _)
theorem concat_calls (A0 : Option Addr) (c0 n0 : Nat) (l0 : List Int) (h0 : l0.length = n0) (A1 : Option Addr) (c1 n1 : Nat) (l1 : List Int) (h1 : l1.length = n1) (g : Nat) (w : World) (hr0 : I.C w A0 n0 l0) (hr1 : I.C w A1 n1 l1) (hl0 : n0 ≤ 100000) (hl1 : n1 ≤ 100000)
    (hg : w.heap[g]? = some (.cells #[.slice A0 n0 c0, .slice A1 n1 c1] 22 (0, 0))) :
    Calls Try.prog 47 #[.slice (some ⟨g, 0, none⟩) 2 2] w fun e w' => ∃ v0_ : Value, e = .returned (v0_) ∧ I.R 3 w' w.heap.size (fun _ => True) v0_ (l0 ++ l1) ∧ Below w.heap.size w w' := by
  have HR0 := Aside0.mk hr0
  have HR1 := Aside0.mk hr1
  have HN0 := Aside0.mk h0
  have HN1 := Aside0.mk h1
  have HL0 := Aside0.mk hl0
  have HL1 := Aside0.mk hl1
  have cg0 := blk_cell hg 0
  have cg1 := blk_cell hg 1
  have HG := Aside0.mk hg
  clear hr0 hr1 h0 h1
  go_enter Try.func47, Try.ntmps47
  go_wp2_with fail
  go_loopg [3, 11] 2 (fun gg s i wr => wr = w ∧ ((gg = 2 ∧ i = .int .i64 0 ∧ s = .int .i64 0) ∨ (gg = 1 ∧ i = .int .i64 1 ∧ s = .int .i64 n0) ∨ (gg = 0 ∧ i = .int .i64 2 ∧ s = .int .i64 ((n0 + n1 : Nat) : Int))))
  case atStart => exact ⟨rfl, .inl ⟨rfl, rfl, rfl⟩⟩
  case round =>
    obtain ⟨e, h⟩ := hrel
    obtain rfl : w = wr := e.symm
    rcases h with ⟨rfl, rfl, rfl⟩ | ⟨rfl, rfl, rfl⟩ | ⟨rfl, rfl, rfl⟩
    · have hw0 : wrap64 (n0 : Int) = (n0 : Int) := by unfold wrap64; omega
      have b0 : decide ((n0 : Int) < 0) = false := decide_eq_false (by omega)
      go_wp2_with fail
      go_roundg 1
      case measure => omega
      case rel => exact ⟨rfl, .inr (.inl ⟨rfl, rfl, by go_num⟩)⟩
    · have hw0 : wrap64 ((n0 : Int) + (n1 : Int)) = ((n0 + n1 : Nat) : Int) := by unfold wrap64; omega
      have b0 : decide (((n0 + n1 : Nat) : Int) < 0) = false := decide_eq_false (by omega)
      go_wp2_with fail
      go_roundg 0
      case measure => omega
      case rel => exact ⟨rfl, .inr (.inr ⟨rfl, rfl, rfl⟩)⟩
    · clear hl0 hl1
      go_wp2_with (go_at_call 58; (with_reducible refine (growI_calls (n0 + n1) _ (by omega) (by have := HL0.out; have := HL1.out; omega) _).mono ?_); rintro e w2 ⟨v2, rfl, ho, hb⟩; have HO := Aside0.mk ho; have HB := Aside0.mk hb; have hg2 := blk_below HG.out hb; have dg0 := blk_cell hg2 0; have dg1 := blk_cell hg2 1; clear ho hb hg2)
      go_loopg [6, 27] 2 (fun gg v i w3 => ∃ l : List Int, Aside0 (I.R 3 w3 w.heap.size (fun _ => True) v l) ∧ Aside0 (Below w.heap.size w w3) ∧ ((gg = 2 ∧ i = .int .i64 0 ∧ l = []) ∨ (gg = 1 ∧ i = .int .i64 1 ∧ l = l0) ∨ (gg = 0 ∧ i = .int .i64 2 ∧ l = l0 ++ l1)))
      case atStart => exact ⟨_, HO, HB, .inl ⟨rfl, rfl, rfl⟩⟩
      case round =>
        clear HO HB dg0 dg1
        obtain ⟨l, HO, HB, h⟩ := hrel
        have hg2 := blk_below HG.out HB.out
        have dg0 := blk_cell hg2 0
        have dg1 := blk_cell hg2 1
        clear hg2
        obtain ⟨A3, c3, e3⟩ := Kd.R_slice HO.out
        subst e3
        obtain ⟨m, hm⟩ : ∃ m, l.length = m := ⟨_, rfl⟩
        rw [hm] at HO
        rw [hm]
        have HM := Aside0.mk hm
        clear hm
        rcases h with ⟨rfl, rfl, rfl⟩ | ⟨rfl, rfl, rfl⟩ | ⟨rfl, rfl, rfl⟩
        · go_wp2_with (((with_reducible refine gate_builtin (b := .append) (xs := #[.tmp 31, .tmp 32]) rfl ?_); at_builtin; refine Kd.R_append_rows I (w0 := w) w.heap.size rfl (.tmp 31) (.tmp 32) 22 3 (.int .i64 0) 8 rfl Try.underlying22 infoI rfl (by decide) (by omega) _ [] l0 _ _ _ (fun _ => True) (fun _ => False) rfl rfl HO.out (Kd.C_below HR0.out HB.out) (fun _ _ h => h) (fun _ h => h.elim) (fun _ _ => trivial) HB.out (below_size HB.out) ?aL ?_; (case aL => have := HL0.out; simp only [List.length_nil]; omega); intro v4 w4 ho hb hg hat; have HO2 := Aside0.mk ho; have HB2 := Aside0.mk hb; clear ho hb hg hat))
          go_roundg 1
          case measure => omega
          case rel => exact ⟨_, HO2, HB2, .inr (.inl ⟨rfl, rfl, rfl⟩)⟩
        · go_wp2_with (((with_reducible refine gate_builtin (b := .append) (xs := #[.tmp 31, .tmp 32]) rfl ?_); at_builtin; refine Kd.R_append_rows I (w0 := w) w.heap.size rfl (.tmp 31) (.tmp 32) 22 3 (.int .i64 0) 8 rfl Try.underlying22 infoI rfl (by decide) (by omega) _ l l1 _ _ _ (fun _ => True) (fun _ => False) rfl rfl HO.out (Kd.C_below HR1.out HB.out) (fun _ _ h => h) (fun _ h => h.elim) (fun _ _ => trivial) HB.out (below_size HB.out) ?aL ?_; (case aL => have := HL0.out; have := HN0.out; have := HL1.out; omega); intro v4 w4 ho hb hg hat; have HO2 := Aside0.mk ho; have HB2 := Aside0.mk hb; clear ho hb hg hat))
          go_roundg 0
          case measure => omega
          case rel => exact ⟨_, HO2, HB2, .inr (.inr ⟨rfl, rfl, rfl⟩)⟩
        · go_wp2_with fail
          go_ret
          exact ⟨_, rfl, HO.out, HB.out⟩
end Go.Proofs.Ytbdbjlfdnijfeaa.Tree
/- For all worlds: tree.apart (a map as a set). Conditions: the rows can be read, are not too long, and their numbers are 64 bits wide. -/
namespace Go.Proofs.Ytbdbjlfdnijfeaa.Tree
open Go Go.RowKit Go.Maps Go.Proofs.YtbdbjlfdnijfeaaW.PrintWords Go.Proofs.YtbdbjlfdnijfeaaW.PrintLast Go.Proofs.YtbdbjlfdnijfeaaW.PrintMore
set_option linter.unusedVariables false
set_option linter.unusedSimpArgs false
set_option maxRecDepth 100000
def okA (seen : List Int) (p : Int) : Bool := !(seen.contains p && p != 0)
def aloneB : List Int → List Int → Bool
  | _, [] => true
  | seen, p :: r => okA seen p && aloneB (seen ++ [p]) r
theorem aloneB_append : ∀ (l : List Int) (seen : List Int) (p : Int), aloneB seen (l ++ [p]) = (aloneB seen l && okA (seen ++ l) p)
  | [], seen, p => by simp [aloneB]
  | x :: l, seen, p => by
    rw [List.cons_append, aloneB, aloneB_append l, aloneB, Bool.and_assoc, List.append_assoc]
    rfl
theorem aloneB_false : ∀ (l : List Int) (seen : List Int) (k : Nat) (p : Int), l[k]? = some p → okA (seen ++ l.take k) p = false → aloneB seen l = false
  | [], seen, k, p, h, _ => by simp at h
  | x :: l, seen, 0, p, h, hp => by
    obtain rfl := Option.some.inj h
    rw [List.take_zero, List.append_nil] at hp
    rw [aloneB, hp, Bool.false_and]
  | x :: l, seen, k + 1, p, h, hp => by
    rw [aloneB, aloneB_false l (seen ++ [x]) k p h (by rw [List.append_assoc]; exact hp), Bool.and_false]
theorem grown_below {w w' : World} {row : Option Nat} (h : Below w.heap.size w w') : w.grownBy w' row := ⟨h.os, h.tape, h.output, h.size, fun k hk _ => h.block k hk⟩
theorem apart_row {w w2 : World} {o1 o2 : Obj} {v : Value} {l : List Int} (h : I.R 3 w2 ((w.alloc o1).alloc o2).heap.size (fun _ => True) v l) : I.R 3 w2 w.heap.size (fun k => k ≠ w.heap.size) v l := by
  refine Kd.R_lower (Kd.R_mono (Kd.R_bound h) (fun k hk => ?_)) ?_
  · have := hk.2.1
    rw [World.size_alloc, World.size_alloc] at this
    omega
  · rw [World.size_alloc, World.size_alloc]; omega
set_option maxHeartbeats 1000000 in
theorem apart_calls (A0 : Option Addr) (c0 n0 : Nat) (l0 : List Int) (h0 : l0.length = n0) (A1 : Option Addr) (c1 n1 : Nat) (l1 : List Int) (h1 : l1.length = n1) (w : World) (hr0 : I.C w A0 n0 l0) (hr1 : I.C w A1 n1 l1) (hl0 : n0 ≤ 100000) (hl1 : n1 ≤ 100000) (hw0 : wide l0 = true) (hw1 : wide l1 = true) :
    Calls Try.prog 34 #[.slice A0 n0 c0, .slice A1 n1 c1] w fun e w' => e = .returned (.bool (aloneB [] (l0 ++ l1))) ∧ Below w.heap.size w w' := by
  have hmm := @run_makeMap Try.prog
  have HR0 := Aside0.mk hr0
  have HR1 := Aside0.mk hr1
  have HN0 := Aside0.mk h0
  have HN1 := Aside0.mk h1
  have HL0 := Aside0.mk hl0
  have HL1 := Aside0.mk hl1
  obtain ⟨l, hl⟩ : ∃ l, l0 ++ l1 = l := ⟨_, rfl⟩
  have HW : Aside0 (∀ x ∈ l, (Lit.int .i64 x).wf = true) := ⟨fun x hx => by
    rw [← hl] at hx
    rcases List.mem_append.1 hx with h | h
    · exact List.all_eq_true.1 hw0 x h
    · exact List.all_eq_true.1 hw1 x h⟩
  have HLEN : Aside0 (l.length ≤ 200000) := ⟨by rw [← hl, List.length_append]; omega⟩
  have HCC : Aside0 (∀ (W : World) (g : Nat), I.C W A0 n0 l0 → I.C W A1 n1 l1 → W.heap[g]? = some (.cells #[.slice A0 n0 c0, .slice A1 n1 c1] 22 (0, 0)) → Calls Try.prog 47 #[.slice (some ⟨g, 0, none⟩) 2 2] W fun e w' => ∃ v0_ : Value, e = .returned (v0_) ∧ I.R 3 w' W.heap.size (fun _ => True) v0_ l ∧ Below W.heap.size W w') := ⟨fun W g r0 r1 hg => by
    rw [← hl]
    exact concat_calls A0 c0 n0 l0 h0 A1 c1 n1 l1 h1 g W r0 r1 hl0 hl1 hg⟩
  rw [hl]
  obtain ⟨n, hn⟩ : ∃ n, l.length = n := ⟨_, rfl⟩
  rw [hn] at HLEN
  have HN := Aside0.mk hn
  have hn63 : n ≤ 200000 := HLEN.out
  clear hn
  clear hl hr0 hr1 h0 h1 hl0 hl1 hw0 hw1
  go_enter Try.func34, Try.ntmps34
  go_wp2_with (go_at_call 47; (with_reducible refine (HCC.out _ _ ?c0 ?c1 ?c2).mono ?_); (case c0 => exact Kd.C_below HR0.out (below_alloc (below_alloc (Below.refl _ _) _) _)); (case c1 => exact Kd.C_below HR1.out (below_alloc (below_alloc (Below.refl _ _) _) _)); (case c2 => exact heap_alloc2_new _ _ _); rintro e w2 ⟨v2, rfl, ho, hb⟩; have HOM := Aside0.mk (((World.ownsMap_made w Try.prog 3 (unitElem (H := Unit))).alloc (.cells #[.slice A0 n0 c0, .slice A1 n1 c1] 22)).kept (grown_below (row := none) hb) (by simp)); have HB := Aside0.mk ((below_alloc (below_alloc (Below.refl w.heap.size w) (.map #[] 0)) (.cells #[.slice A0 n0 c0, .slice A1 n1 c1] 22)).trans (hb.mono (below_alloc (below_alloc (Below.refl w.heap.size w) _) _).size)); obtain ⟨A2, c2, e2⟩ := Kd.R_slice ho; rw [HN.out] at e2; subst e2; have HR := Aside0.mk (apart_row ho); clear ho hb)
  go_loopg [16] n (fun gg i wr => ∃ k : Nat, k ≤ n ∧ n - k ≤ gg ∧ i = .int .i64 k ∧ Aside0 (wr.ownsMap Try.prog 3 (unitElem (H := Unit)) w.heap.size k (setU (l.take k))) ∧ Aside0 (Below w.heap.size w wr) ∧ Aside0 (aloneB [] (l.take k) = true) ∧ Aside0 (I.R 3 wr w.heap.size (fun k => k ≠ w.heap.size) (.slice A2 n c2) l))
  case atStart => exact ⟨0, Nat.zero_le _, Nat.le_refl _, rfl, HOM, HB, ⟨rfl⟩, HR⟩
  case round =>
    clear HOM HB HR
    obtain ⟨k, hk, hgk, rfl, HO, HB, HA, HR⟩ := hrel
    by_cases hlt : k < n
    · have b1 : decide (k < n) = true := decide_eq_true hlt
      obtain ⟨p, hp⟩ : ∃ p, l[k]? = some p := ⟨_, List.getElem?_eq_getElem (by have := HN.out; omega)⟩
      obtain ⟨ad, e, hc⟩ := at_i (by have h := (Kd.R_reads' HR.out).2.2; rw [HN.out] at h; exact h) hp
      subst e
      have hkey : keyOf Try.prog 3 (.int .i64 p) = some (.int .i64 p) := keyOf_int_mk Try.underlying3 (HW.out p (List.mem_of_getElem? hp))
      have HP := Aside0.mk hp
      have HKEY := Aside0.mk hkey
      have hkz : (0 : Int) ≤ (k : Int) := by omega
      have hkn : (k : Int) < (n : Int) := by omega
      obtain ⟨sn, hsn⟩ : ∃ q, Maps.has (setU (l.take k)) (.int .i64 p) = q := ⟨_, rfl⟩
      have hok : okA (l.take k) p = !(sn && p != 0) := by unfold okA; rw [← hsn, show Maps.has (setU (l.take k)) (.int .i64 p) = (l.take k).contains p from has_keys _ _]
      have hml : k < maxLen := by unfold maxLen; omega
      have HML := Aside0.mk hml
      clear hkey hp hml
      by_cases hp0 : (sn && p != 0) = true
      · have HOK : Aside0 (okA (l.take k) p = false) := ⟨by rw [hok, hp0]; rfl⟩
        rw [Bool.and_eq_true] at hp0
        obtain ⟨e1, bp⟩ := hp0
        subst e1
        clear hok
        go_wp2_with (first | (at_lookup; refine wpList_lookup_own_unit _ rfl _ _ 65 rfl 3 66 law3 Try.underlying65 (zeroU _) w.heap.size k _ rfl HO.out _ _ rfl HKEY.out ?_; rw [hsn]))
        go_ret
        refine ⟨?_, below_alloc HB.out _⟩
        rw [aloneB_false l [] k p HP.out (by rw [List.nil_append]; exact HOK.out)]; rfl
      · have HOK : Aside0 (okA (l.take k) p = true) := ⟨by rw [hok, Bool.eq_false_iff.2 hp0]; rfl⟩
        clear hok
        cases sn with
        | true =>
          rw [Bool.true_and] at hp0
          have bp := Bool.eq_false_iff.2 hp0
          clear hp0
          go_wp2_with (first | (at_lookup; refine wpList_lookup_own_unit _ rfl _ _ 65 rfl 3 66 law3 Try.underlying65 (zeroU _) w.heap.size k _ rfl HO.out _ _ rfl HKEY.out ?_; rw [hsn]) | (at_mapUpdate; refine wpList_mapUpdate_own _ rfl _ _ _ 65 rfl 3 66 law3 Try.underlying65 (unitElem (H := Unit)) w.heap.size k _ rfl (HO.out.alloc _) HML.out _ _ _ rfl rfl HKEY.out _ [] unitElem_mk ?_; intro w1 hown1 hgrow1; have HO1 := Aside0.mk hown1; have HG1 := Aside0.mk hgrow1; clear hown1 hgrow1))
          go_roundg (n - (k + 1))
          case measure => omega
          case rel =>
            refine ⟨k + 1, by omega, Nat.le_refl _, by go_num, ⟨?_⟩, ⟨((below_alloc HB.out _).grown HG1.out (by have := HB.out.size; rw [World.size_alloc]; omega) (fun j hj => by cases hj; exact Nat.le_refl _))⟩, ⟨?_⟩, ⟨?_⟩⟩
            · rw [take_snoc HP.out, setU_snoc]; exact HO1.out
            · rw [take_snoc HP.out, aloneB_append, HA.out, List.nil_append, HOK.out]; rfl
            · exact Kd.R_grown (Kd.R_alloc HR.out _) HG1.out (fun k hk e => hk (Option.some.inj e))
        | false =>
          clear hp0
          go_wp2_with (first | (at_lookup; refine wpList_lookup_own_unit _ rfl _ _ 65 rfl 3 66 law3 Try.underlying65 (zeroU _) w.heap.size k _ rfl HO.out _ _ rfl HKEY.out ?_; rw [hsn]) | (at_mapUpdate; refine wpList_mapUpdate_own _ rfl _ _ _ 65 rfl 3 66 law3 Try.underlying65 (unitElem (H := Unit)) w.heap.size k _ rfl (HO.out.alloc _) HML.out _ _ _ rfl rfl HKEY.out _ [] unitElem_mk ?_; intro w1 hown1 hgrow1; have HO1 := Aside0.mk hown1; have HG1 := Aside0.mk hgrow1; clear hown1 hgrow1))
          go_roundg (n - (k + 1))
          case measure => omega
          case rel =>
            refine ⟨k + 1, by omega, Nat.le_refl _, by go_num, ⟨?_⟩, ⟨((below_alloc HB.out _).grown HG1.out (by have := HB.out.size; rw [World.size_alloc]; omega) (fun j hj => by cases hj; exact Nat.le_refl _))⟩, ⟨?_⟩, ⟨?_⟩⟩
            · rw [take_snoc HP.out, setU_snoc]; exact HO1.out
            · rw [take_snoc HP.out, aloneB_append, HA.out, List.nil_append, HOK.out]; rfl
            · exact Kd.R_grown (Kd.R_alloc HR.out _) HG1.out (fun k hk e => hk (Option.some.inj e))
    · have b1 : decide (k < n) = false := decide_eq_false hlt
      have hkn : k = n := by omega
      have HE : Aside0 (aloneB [] l = true) := ⟨by have h := HA.out; rw [hkn, ← HN.out, List.take_length] at h; exact h⟩
      clear hlt
      go_wp2_with fail
      go_ret
      exact ⟨by rw [HE.out]; rfl, HB.out⟩
end Go.Proofs.Ytbdbjlfdnijfeaa.Tree
