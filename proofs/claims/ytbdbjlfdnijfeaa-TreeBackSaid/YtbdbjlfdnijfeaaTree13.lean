/- For all worlds: slices.Grow of nil, slices.Concat of two rows of numbers. Conditions: the rows can be read and are not too long. -/
import Derived.Test.YtbdbjlfdnijfeaaTree12
namespace Go.Proofs.Ytbdbjlfdnijfeaa.Tree
open Go Go.RowKit Go.Maps Go.Proofs.YtbdbjlfdnijfeaaW.PrintWords Go.Proofs.YtbdbjlfdnijfeaaW.PrintLast Go.Proofs.YtbdbjlfdnijfeaaW.PrintMore
set_option linter.unusedVariables false
set_option linter.unusedSimpArgs false
set_option maxRecDepth 100000
theorem growI_calls (n : Nat) (nI : Int) (he : (n : Int) = nI) (hn : n ≤ 1000000) (w : World) :
    Calls Try.prog 58 #[.slice none 0 0, .int .i64 nI] w fun e w' => ∃ v0_ : Value, e = .returned (v0_) ∧ I.R 3 w' w.heap.size (fun _ => True) v0_ [] ∧ Below w.heap.size w w' := by
  subst he
  have hwn : wrap64 (n : Int) = (n : Int) := by unfold wrap64; omega
  have hnn : (0 : Int) ≤ (n : Int) := by omega
  have bn : decide ((n : Int) < 0) = false := decide_eq_false (by omega)
  have HN := Aside0.mk hn
  by_cases h0 : n = 0
  · subst h0
    clear HN
    go_enter Try.func58, Try.ntmps58
    go_wp2_with fail
    go_ret
    exact ⟨_, rfl, Kd.R_nil _ _ _ _ _, Below.refl _ _⟩
  · have b0 : decide (0 < (n : Int)) = true := decide_eq_true (by omega)
    have b1 : decide (0 < n) = true := decide_eq_true (by omega)
    have HP : Aside0 (0 < n) := ⟨by omega⟩
    clear h0 hn
    go_enter Try.func58, Try.ntmps58
    go_wp2_with ((with_reducible refine gate_builtin (b := .append) (xs := #[.tmp 20, .tmp 21]) rfl ?_); at_builtin; refine Kd.R_append_zeros I (w0 := w) w.heap.size rfl (.tmp 20) (.tmp 21) 22 3 3 (.int .i64 0) 8 rfl Try.underlying22 Try.underlying3 infoI rfl (by decide) (by omega) (.slice none 0 0) [] (0 : Int) (wrap64 (n : Int)) (fun _ => True) rfl rfl rfl (fun _ _ => trivial) (Kd.R_nil _ _ _ _ _) (by rw [hwn]; omega) (Below.refl _ _) (Nat.le_refl _) (by have := HN.out; rw [hwn]; simp only [List.length_nil, Int.toNat_natCast]; omega) ?_; intro v1 w1 ho hb hg hat; rw [hwn, List.nil_append, Int.toNat_natCast] at ho; obtain ⟨g, cap, e1, h1, h2, h3⟩ := Kd.R_form ho (by rw [List.length_replicate]; exact HP.out); rw [List.length_replicate] at e1; subst e1; have HO := Aside0.mk ho; have HB := Aside0.mk hb; clear ho hb hg hat h1 h2 h3)
    go_ret
    refine ⟨_, rfl, ?_, HB.out⟩
    exact Kd.R_take HO.out (Nat.zero_le _)
theorem concat_calls (A0 : Option Addr) (c0 n0 : Nat) (l0 : List Int) (h0 : l0.length = n0) (A1 : Option Addr) (c1 n1 : Nat) (l1 : List Int) (h1 : l1.length = n1) (g : Nat) (w : World) (hr0 : I.C w A0 n0 l0) (hr1 : I.C w A1 n1 l1) (hl0 : n0 ≤ 100000) (hl1 : n1 ≤ 100000)
    (hg : w.heap[g]? = some (.cells #[.slice A0 n0 c0, .slice A1 n1 c1] 22 (0, 0))) :
    Calls Try.prog 47 #[.slice (some ⟨g, 0, none⟩) 2 2] w fun e w' => ∃ v0_ : Value, e = .returned (v0_) ∧ I.R 3 w' w.heap.size (fun _ => True) v0_ (l0 ++ l1) ∧ Below w.heap.size w w' := by
  have HR0 := Aside0.mk hr0
  have HR1 := Aside0.mk hr1
  have HN0 := Aside0.mk h0
  have HN1 := Aside0.mk h1
  have HL0 := Aside0.mk hl0
  have HL1 := Aside0.mk hl1
  have cg0 := blk_cell hg 0
  have cg1 := blk_cell hg 1
  have HG := Aside0.mk hg
  clear hr0 hr1 h0 h1
  go_enter Try.func47, Try.ntmps47
  go_wp2_with fail
  go_loopg [3, 11] 2 (fun gg s i wr => wr = w ∧ ((gg = 2 ∧ i = .int .i64 0 ∧ s = .int .i64 0) ∨ (gg = 1 ∧ i = .int .i64 1 ∧ s = .int .i64 n0) ∨ (gg = 0 ∧ i = .int .i64 2 ∧ s = .int .i64 ((n0 + n1 : Nat) : Int))))
  case atStart => exact ⟨rfl, .inl ⟨rfl, rfl, rfl⟩⟩
  case round =>
    obtain ⟨e, h⟩ := hrel
    obtain rfl : w = wr := e.symm
    rcases h with ⟨rfl, rfl, rfl⟩ | ⟨rfl, rfl, rfl⟩ | ⟨rfl, rfl, rfl⟩
    · have hw0 : wrap64 (n0 : Int) = (n0 : Int) := by unfold wrap64; omega
      have b0 : decide ((n0 : Int) < 0) = false := decide_eq_false (by omega)
      go_wp2_with fail
      go_roundg 1
      case measure => omega
      case rel => exact ⟨rfl, .inr (.inl ⟨rfl, rfl, by go_num⟩)⟩
    · have hw0 : wrap64 ((n0 : Int) + (n1 : Int)) = ((n0 + n1 : Nat) : Int) := by unfold wrap64; omega
      have b0 : decide (((n0 + n1 : Nat) : Int) < 0) = false := decide_eq_false (by omega)
      go_wp2_with fail
      go_roundg 0
      case measure => omega
      case rel => exact ⟨rfl, .inr (.inr ⟨rfl, rfl, rfl⟩)⟩
    · clear hl0 hl1
      go_wp2_with (go_at_call 58; (with_reducible refine (growI_calls (n0 + n1) _ (by omega) (by have := HL0.out; have := HL1.out; omega) _).mono ?_); rintro e w2 ⟨v2, rfl, ho, hb⟩; have HO := Aside0.mk ho; have HB := Aside0.mk hb; have hg2 := blk_below HG.out hb; have dg0 := blk_cell hg2 0; have dg1 := blk_cell hg2 1; clear ho hb hg2)
      go_loopg [6, 27] 2 (fun gg v i w3 => ∃ l : List Int, Aside0 (I.R 3 w3 w.heap.size (fun _ => True) v l) ∧ Aside0 (Below w.heap.size w w3) ∧ ((gg = 2 ∧ i = .int .i64 0 ∧ l = []) ∨ (gg = 1 ∧ i = .int .i64 1 ∧ l = l0) ∨ (gg = 0 ∧ i = .int .i64 2 ∧ l = l0 ++ l1)))
      case atStart => exact ⟨_, HO, HB, .inl ⟨rfl, rfl, rfl⟩⟩
      case round =>
        clear HO HB dg0 dg1
        obtain ⟨l, HO, HB, h⟩ := hrel
        have hg2 := blk_below HG.out HB.out
        have dg0 := blk_cell hg2 0
        have dg1 := blk_cell hg2 1
        clear hg2
        obtain ⟨A3, c3, e3⟩ := Kd.R_slice HO.out
        subst e3
        obtain ⟨m, hm⟩ : ∃ m, l.length = m := ⟨_, rfl⟩
        rw [hm] at HO
        rw [hm]
        have HM := Aside0.mk hm
        clear hm
        rcases h with ⟨rfl, rfl, rfl⟩ | ⟨rfl, rfl, rfl⟩ | ⟨rfl, rfl, rfl⟩
        · go_wp2_with (((with_reducible refine gate_builtin (b := .append) (xs := #[.tmp 31, .tmp 32]) rfl ?_); at_builtin; refine Kd.R_append_rows I (w0 := w) w.heap.size rfl (.tmp 31) (.tmp 32) 22 3 (.int .i64 0) 8 rfl Try.underlying22 infoI rfl (by decide) (by omega) _ [] l0 _ _ _ (fun _ => True) (fun _ => False) rfl rfl HO.out (Kd.C_below HR0.out HB.out) (fun _ _ h => h) (fun _ h => h.elim) (fun _ _ => trivial) HB.out (below_size HB.out) ?aL ?_; (case aL => have := HL0.out; simp only [List.length_nil]; omega); intro v4 w4 ho hb hg hat; have HO2 := Aside0.mk ho; have HB2 := Aside0.mk hb; clear ho hb hg hat))
          go_roundg 1
          case measure => omega
          case rel => exact ⟨_, HO2, HB2, .inr (.inl ⟨rfl, rfl, rfl⟩)⟩
        · go_wp2_with (((with_reducible refine gate_builtin (b := .append) (xs := #[.tmp 31, .tmp 32]) rfl ?_); at_builtin; refine Kd.R_append_rows I (w0 := w) w.heap.size rfl (.tmp 31) (.tmp 32) 22 3 (.int .i64 0) 8 rfl Try.underlying22 infoI rfl (by decide) (by omega) _ l l1 _ _ _ (fun _ => True) (fun _ => False) rfl rfl HO.out (Kd.C_below HR1.out HB.out) (fun _ _ h => h) (fun _ h => h.elim) (fun _ _ => trivial) HB.out (below_size HB.out) ?aL ?_; (case aL => have := HL0.out; have := HN0.out; have := HL1.out; omega); intro v4 w4 ho hb hg hat; have HO2 := Aside0.mk ho; have HB2 := Aside0.mk hb; clear ho hb hg hat))
          go_roundg 0
          case measure => omega
          case rel => exact ⟨_, HO2, HB2, .inr (.inr ⟨rfl, rfl, rfl⟩)⟩
        · go_wp2_with fail
          go_ret
          exact ⟨_, rfl, HO.out, HB.out⟩
end Go.Proofs.Ytbdbjlfdnijfeaa.Tree
