/- For all worlds: the reference disk's Get. Conditions: the blocks are as the state says. -/
import Derived.Test.YtiengbimednonaaDiskRef
namespace Go.Proofs.Ytiengbimednonaa.Disk
open Go Go.RowKit Go.Proofs.YtiengbimednonaaW.PrintWords Go.Proofs.YtiengbimednonaaW.PrintLast Go.Proofs.YtiengbimednonaaW.PrintMore
set_option linter.unusedVariables false
set_option linter.unusedSimpArgs false
section
variable {w w1 : World} {G : Nat → Prop} {g gL gO cL cO : Nat} {CL CO : Array Value} {s : DS}
theorem rget_off (h : RDx w G g gL gO cL cO CL CO s) (ho : s.off = true) (i : Int) : Calls Try.prog 17 #[.pointer (some ⟨g, 0, none⟩), .int .i64 i] w fun e w' => e = .returned (.tuple #[.string ByteArray.empty, .int .i64 8]) ∧ w = w' := by
  have c3 := blk_cell h.hg 3
  rw [ho] at c3
  clear h ho
  go_enter Try.func17, Try.ntmps17
  go_wp2_with fail
  go_ret2
  exact ⟨rfl, rfl⟩
theorem rget_bad (h : RDx w G g gL gO cL cO CL CO s) (ho : s.off = false) (i : Int) (hi : i < 0 ∨ (s.bs.length : Int) ≤ i) : Calls Try.prog 17 #[.pointer (some ⟨g, 0, none⟩), .int .i64 i] w fun e w' => e = .returned (.tuple #[.string ByteArray.empty, .int .i64 7]) ∧ w = w' := by
  have c0 := blk_cell h.hg 0
  have c3 := blk_cell h.hg 3
  rw [ho] at c3
  obtain ⟨N, hN⟩ : ∃ N, s.bs.length = N := ⟨_, rfl⟩
  rw [hN] at c0 c3 hi
  clear h ho hN
  by_cases h1 : i < 0
  · have b1 : decide (i < 0) = true := decide_eq_true h1
    clear hi
    go_enter Try.func17, Try.ntmps17
    go_wp2_with fail
    go_ret2
    exact ⟨rfl, rfl⟩
  · have b1 : decide (i < 0) = false := decide_eq_false h1
    have b2 : decide ((N : Int) ≤ i) = true := decide_eq_true (hi.elim (fun h => absurd h h1) id)
    clear hi
    go_enter Try.func17, Try.ntmps17
    go_wp2_with fail
    go_ret2
    exact ⟨rfl, rfl⟩
set_option maxHeartbeats 1000000 in
theorem rget_yes (h : RDx w G g gL gO cL cO CL CO s) (ho : s.off = false) {i : Nat} {b : Blk} (hi : s.bs[i]? = some b) (hn : b.opn.length ≤ 2199023255551) : Calls Try.prog 17 #[.pointer (some ⟨g, 0, none⟩), .int .i64 (i : Int)] w fun e w' => e = .returned (.tuple #[.string (str (curB b)), .int .i64 0]) ∧ Below w.heap.size w w' := by
  have hil : i < s.bs.length := (List.getElem?_eq_some_iff.1 hi).1
  have c0 := blk_cell h.hg 0
  have c1 := blk_cell h.hg 1
  have c3 := blk_cell h.hg 3
  rw [ho] at c3
  obtain ⟨v, hv, hr⟩ := h.vO i b hi
  obtain ⟨Av, cv, rfl⟩ := Kd.R_slice hr
  have hC := (Kd.R_reads' hr).2.2
  have hLen : (b.opn.map str).length = b.opn.length := List.length_map ..
  have n480 := h.n480
  obtain ⟨N, hN⟩ : ∃ N, s.bs.length = N := ⟨_, rfl⟩
  rw [hN] at c0 c1 c3 hil n480
  have cO_ := (blk_cell h.hO i).trans hv
  have cL_ := (blk_cell h.hL i).trans (h.vL i b hi)
  have hi0 : (0 : Int) ≤ (i : Int) := by omega
  have hiN : (i : Int) < (N : Int) := by omega
  have b0 : decide ((i : Int) < 0) = false := decide_eq_false (by omega)
  have b1 : decide (N ≤ i) = false := decide_eq_false (by omega)
  obtain ⟨q, hq⟩ : ∃ q, b.opn.length = q := ⟨_, rfl⟩
  rw [hLen, hq] at cO_
  have HQ := Aside0.mk hq
  have HC := Aside0.mk hC
  rw [hq] at hn
  clear h hi ho hv hr hC hLen hN hq
  by_cases h0 : 0 < q
  · obtain ⟨ad, e, hc⟩ := at_text HC.out (i := q - 1) (x := str (curB b)) (by
      have hlt : q - 1 < b.opn.length := by rw [HQ.out]; omega
      rw [List.getElem?_map, List.getElem?_eq_getElem hlt]
      unfold curB
      rw [List.getLastD_eq_getLast?, List.getLast?_eq_getElem?, HQ.out, List.getElem?_eq_getElem hlt]
      rfl)
    subst e
    have b2 : decide (0 < q) = true := decide_eq_true h0
    have b3 : decide (0 < (q : Int)) = true := decide_eq_true (by omega)
    have hq0 : 0 ≤ (q : Int) - 1 := by omega
    have hq1 : (1 : Int) ≤ (q : Int) := by omega
    have hqL : (q : Int) - 1 < (q : Int) := by omega
    have hcI : w.cell? (ad.add ((q : Int) - 1).toNat) = some (.string (str (curB b))) := by rw [show ((q : Int) - 1).toNat = q - 1 by omega]; exact hc
    have hwr : IntKind.i64.wrap ((q : Int) - 1) = (q : Int) - 1 := (i64_w _).trans (by unfold wrap64; omega)
    go_enter Try.func17, Try.ntmps17
    go_wp2_with fail
    go_quiet (fail)
    go_wp2_with fail
    go_ret2
    exact ⟨rfl, pw_below_drewN (Below.refl _ _) _⟩
  · obtain rfl : q = 0 := by omega
    have hcb : curB b = b.last := by unfold curB; rw [List.length_eq_zero_iff.1 HQ.out]; rfl
    rw [hcb]
    go_enter Try.func17, Try.ntmps17
    go_wp2_with fail
    go_ret2
    exact ⟨rfl, Below.refl _ _⟩
theorem rbarrier_off (h : RDx w G g gL gO cL cO CL CO s) (ho : s.off = true) : Calls Try.prog 18 #[.pointer (some ⟨g, 0, none⟩)] w fun e w' => e = .returned (.int .i64 8) ∧ w = w' := by
  have c3 := blk_cell h.hg 3
  rw [ho] at c3
  clear h ho
  go_enter Try.func18, Try.ntmps18
  go_wp2_with fail
  go_ret
  exact ⟨rfl, rfl⟩
theorem rbarrier_power (h : RDx w G g gL gO cL cO CL CO s) (ho : s.off = false) (hl : s.left = 0) : Calls Try.prog 18 #[.pointer (some ⟨g, 0, none⟩)] w fun e w' => e = .returned (.int .i64 8) ∧ RDx w' G g gL gO cL cO CL CO ⟨true, 0, s.bs⟩ ∧ w.grownBy w' (some g) := by
  have c3 := blk_cell h.hg 3
  rw [ho] at c3
  have hgo := goes_calls h
  rw [hl] at hgo
  have HGO := Aside0.mk hgo
  clear h ho hgo hl
  go_enter Try.func18, Try.ntmps18
  go_wp2_with (go_at_call 26; (with_reducible refine HGO.out.mono ?_); rintro e w1 ⟨rfl, hr, hg⟩; have HR := Aside0.mk hr; have HG := Aside0.mk hg; clear hr hg)
  go_ret
  exact ⟨rfl, HR.out, HG.out⟩
end
end Go.Proofs.Ytiengbimednonaa.Disk
