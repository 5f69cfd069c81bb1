/- For every number, list and row of numbers: no disk answers that it is none. Conditions: none. -/
import Derived.Test.YtiengbimednonaaDisk8
namespace Go.Proofs.Ytiengbimednonaa.Disk
open Go Go.RowKit Go.Proofs.YtiengbimednonaaW.PrintWords Go.Proofs.YtiengbimednonaaW.PrintLast Go.Proofs.YtiengbimednonaaW.PrintMore
set_option linter.unusedVariables false
theorem none_calls (n : Int) (A1 : Option Addr) (n1 c1 : Nat) (A2 : Option Addr) (n2 c2 : Nat) (w : World) :
    Calls Try.prog 7 #[.int .i64 n, .slice A1 n1 c1, .slice A2 n2 c2] w fun e w' => e = .returned (.bool true) ∧ Below w.heap.size w w' := by
  go_enter Try.func7, Try.ntmps7
  go_wp2_with (first | (go_at_call 19; (with_reducible refine (fail_nil _ _).mono ?_); rintro e w' ⟨rfl, rfl⟩) | (go_at_call 11; (with_reducible refine (restart_nil _ _ _ _).mono ?_); rintro e w' ⟨rfl, rfl⟩) | (go_at_call 12; (with_reducible refine (get_nil _ _).mono ?_); rintro e w' ⟨rfl, rfl⟩) | (go_at_call 9; (with_reducible refine (awake_calls _).mono ?_); rintro e w1 ⟨rfl, hb⟩; have HB := Aside0.mk hb; clear hb) | (go_at_call 10; (with_reducible refine (put_nil _ _ _ _).mono ?_); rintro e w' ⟨rfl, rfl⟩) | (go_at_call 14; (with_reducible refine (barrier_nil _).mono ?_); rintro e w' ⟨rfl, rfl⟩) | (go_at_call 21; (with_reducible refine (blocks_nil _).mono ?_); rintro e w' ⟨rfl, rfl⟩) | (go_at_call 13; (with_reducible refine (open_nil _ _).mono ?_); rintro e w' ⟨rfl, rfl⟩))
  go_ret
  exact ⟨rfl, HB.out⟩
end Go.Proofs.Ytiengbimednonaa.Disk
