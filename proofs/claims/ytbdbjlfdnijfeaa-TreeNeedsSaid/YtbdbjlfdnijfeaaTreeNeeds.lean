/- For all worlds: the law TreeNeeds. -/
import Derived.Test.YtbdbjlfdnijfeaaTree21
namespace Go.Proofs.Ytbdbjlfdnijfeaa.Tree
open Go Go.RowKit Go.Maps Go.Proofs.YtbdbjlfdnijfeaaW.PrintWords Go.Proofs.YtbdbjlfdnijfeaaW.PrintLast Go.Proofs.YtbdbjlfdnijfeaaW.PrintMore
open Go.Proofs.Ytbdbjlfdnijfeaa.PAll
set_option linter.unusedVariables false
set_option linter.unusedSimpArgs false
set_option maxRecDepth 100000
theorem wide_of {l : List Int} (h : ∀ x ∈ l, (Lit.int .i64 x).wf = true) : wide l = true := List.all_eq_true.2 h
set_option maxHeartbeats 1000000 in
theorem needs_row (A0 : Option Addr) (c0 : Nat) (l0 : List Int) (w : World) (hr0 : I.C w A0 l0.length l0) (hc0 : l0.length ≤ c0) (hw : ∀ x ∈ l0, (Lit.int .i64 x).wf = true) :
    Calls Try.prog 3 #[.slice A0 l0.length c0] w fun e w' => e = .returned (.bool true) ∧ Below w.heap.size w w' := by
  have hwd := wide_of hw
  have HN : Aside0 (∀ W, Below w.heap.size w W → Calls Try.prog 7 #[.slice A0 l0.length c0] W fun e w' => e = .returned (.tuple #[.int .i64 (needF l0).1, .int .i64 (needF l0).2]) ∧ Below W.heap.size W w') := ⟨fun W hW => need_calls A0 c0 l0.length l0 rfl W (Kd.C_below hr0 hW) hc0 hwd⟩
  have HP : Aside0 (∀ W, Below w.heap.size w W → Calls Try.prog 8 #[.slice A0 l0.length c0] W fun e w' => e = .returned (.bool (ptsB l0)) ∧ Below W.heap.size W w') := ⟨fun W hW => (drydockref11_Pointers.calls 97 A0 c0 l0 _ W (Kd.C_below hr0 hW) hc0 (refPointers_eq l0 97 (by omega)))⟩
  have HQ : Aside0 (∀ W, Below w.heap.size w W → Calls Try.prog 10 #[.slice A0 l0.length c0] W fun e w' => e = .returned (.int .i64 (needN l0 : Int)) ∧ Below W.heap.size W w') := ⟨fun W hW => (drydockref11_Need.calls 41 A0 c0 l0 _ W (Kd.C_below hr0 hW) hc0 (refNeed_eq l0 41 (by omega)))⟩
  obtain ⟨n, hn⟩ : ∃ n, l0.length = n := ⟨_, rfl⟩
  rw [hn] at HN HP HQ
  rw [hn]
  clear hr0 hc0 hw hwd hn
  cases hp : ptsB l0 with
  | false =>
    have hF : needF l0 = (0, 1) := by unfold needF; rw [hp]; rfl
    rw [hF] at HN
    rw [hp] at HP
    clear hp hF
    go_enter Try.func3, Try.ntmps3
    go_wp2_with (first | (go_at_call 7; (with_reducible refine (HN.out _ (Below.refl _ _)).mono ?_); rintro e w1 ⟨rfl, hb⟩; have HB1 := Aside0.mk hb; clear hb) | (go_at_call 8; (with_reducible refine (HP.out _ HB1.out).mono ?_); rintro e w2 ⟨rfl, hb⟩; have HB2 := Aside0.mk (below_step HB1.out hb); clear hb) | (go_at_call 9; (with_reducible refine (awake_calls _).mono ?_); rintro e w3 ⟨rfl, hb⟩; have HB3 := Aside0.mk (below_step HB2.out hb); clear hb))
    go_ret
    exact ⟨rfl, HB3.out⟩
  | true =>
    have hF : needF l0 = ((needN l0 : Int), 0) := by unfold needF; rw [hp]; rfl
    rw [hF] at HN
    rw [hp] at HP
    obtain ⟨m, hm⟩ : ∃ m : Int, (needN l0 : Int) = m := ⟨_, rfl⟩
    rw [hm] at HN HQ
    clear hp hF hm
    go_enter Try.func3, Try.ntmps3
    go_wp2_with (first | (go_at_call 7; (with_reducible refine (HN.out _ (Below.refl _ _)).mono ?_); rintro e w1 ⟨rfl, hb⟩; have HB1 := Aside0.mk hb; clear hb) | (go_at_call 8; (with_reducible refine (HP.out _ HB1.out).mono ?_); rintro e w2 ⟨rfl, hb⟩; have HB2 := Aside0.mk (below_step HB1.out hb); clear hb) | (go_at_call 9; (with_reducible refine (awake_calls _).mono ?_); rintro e w3 ⟨rfl, hb⟩; have HB3 := Aside0.mk (below_step HB2.out hb); clear hb) | (go_at_call 10; (with_reducible refine (HQ.out _ HB3.out).mono ?_); rintro e w4 ⟨rfl, hb⟩; have HB4 := Aside0.mk (below_step HB3.out hb); clear hb))
    go_ret
    exact ⟨rfl, HB4.out⟩
end Go.Proofs.Ytbdbjlfdnijfeaa.Tree
