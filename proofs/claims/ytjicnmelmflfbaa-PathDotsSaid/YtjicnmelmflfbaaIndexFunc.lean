/- slices.IndexFunc and ContainsFunc over texts, at whatever predicate that neither lays nor turns anything. -/
import Derived.Test.YtjicnmelmflfbaaProg
import Derived.Test.YtjicnmelmflfbaaWWords
import Derived.WalkKit
import Derived.KernelRfl
import Derived.Lib.SlBy
import Derived.Lib.Walk
import Derived.Lib.LaidU8
import Derived.Deep.LoopGhost
import Derived.Deep.Draws
import Derived.ScopeJumps
import Derived.WalkMore
namespace Go.Proofs.Ytjicnmelmflfbaa.IdxFn
open Go Go.RowKit Go.Lib Go.Proofs.YtjicnmelmflfbaaW.PrintWords
set_option linter.unusedVariables false

theorem row_cells {enc : ByteArray → Value} {d : ByteArray} {w : World} {A : Option Addr} {n : Nat} {l : List ByteArray} (h : ReadsOf enc d w A n l) (hn : 0 < n) :
    ∃ b o, A = some ⟨b, o, none⟩ ∧ (∀ j, j < n → w.cell? ⟨b, o + j, none⟩ = some (enc (l.getD j d))) ∧ b < w.heap.size := by
  obtain ⟨⟨b, o, sp⟩, rfl, hc⟩ := h.2.2 hn
  have h0 := hc 0 hn
  have e : sp = none := by
    have h1 := h0
    unfold Addr.add at h1
    rw [if_pos rfl] at h1
    exact Go.Proofs.cell_spot h1
  subst e
  refine ⟨b, o, rfl, fun j hj => ?_, ?_⟩
  · have := hc j hj
    unfold Addr.add at this
    split at this
    · rename_i h; subst h; exact this
    · exact this
  · have := World.block_lt_of_cell? _ _ h0
    simpa [Addr.add] using this

set_option maxHeartbeats 2000000 in
theorem index_calls (p : ByteArray → Bool) (g : Nat) (hp : ∀ (x : ByteArray) (W : World), Calls Try.prog g #[.string x] W fun e w' => e = .returned (.bool (p x)) ∧ Drawn0 W w') (eg : ∀ args w, (callFunc g args).run Try.prog w = .ok (.enter g args) w)
    (A0 : Option Addr) (c : Nat) (l : List ByteArray) (w : World) (hr : ReadsOf Value.string ByteArray.empty w A0 l.length l) :
    Calls Try.prog 28 #[.slice A0 l.length c, .func (.func g) #[] #[]] w fun e w' => e = .returned (.int .i64 (Lib.idxBy (fun _ y => p y) l default)) ∧ Drawn0 w w' := by
  by_cases h0 : l.length = 0
  · obtain rfl : l = [] := List.length_eq_zero_iff.1 h0
    clear hr hp h0
    go_enter Try.func28, Try.ntmps28
    go_wp2
    go_loopg [5, 8] 0 (fun _ _ s8 wr => s8 = .int .i64 0 ∧ wr = w)
    case atStart => exact ⟨rfl, rfl⟩
    case round =>
      obtain ⟨rfl, rfl⟩ := hrel
      go_wp2
      go_ret
      exact ⟨rfl, .refl _⟩
  obtain ⟨b, off, rfl, hc, _⟩ := row_cells hr (by omega)
  have hbig : l.length ≤ 9223372036854775807 := hr.2.1
  obtain ⟨n, hn⟩ : ∃ n, l.length = n := ⟨_, rfl⟩
  have hpAt : ∀ (x : ByteArray) (q : Nat), Calls Try.prog g #[.string x] (w.drewN q) fun e w' => e = .returned (.bool (p x)) ∧ ∃ q', w' = (w.drewN q).drewN q' := fun x q => (hp x _).mono fun e w' h => ⟨h.1, h.2.out⟩
  have hN : Aside (l.length = n) := hn
  rw [hn] at hc hbig ⊢
  clear hp hr h0 hn
  go_enter Try.func28, Try.ntmps28
  go_wp2
  go_loopg [5, 8] n (fun gg _ s8 wr => ∃ kk q : Nat, kk ≤ n ∧ n - kk ≤ gg ∧ s8 = .int .i64 kk ∧ wr = w.drewN q ∧ Aside (∀ j, j < kk → p (l.getD j ByteArray.empty) = false))
  case atStart => exact ⟨0, 0, Nat.zero_le _, by omega, rfl, rfl, fun j hj => absurd hj (Nat.not_lt_zero _)⟩
  case round =>
    obtain ⟨kk, q, hkk, hg, rfl, rfl, A⟩ := hrel
    by_cases hlt : kk < n
    · have hltz : (kk : Int) < (n : Int) := by omega
      have hcell : w.cell? ⟨b, off + kk, none⟩ = some (.string (l.getD kk ByteArray.empty)) := hc kk (by omega)
      clear hc
      generalize hy : l.getD kk ByteArray.empty = y at hcell
      have B : Aside (l.getD kk ByteArray.empty = y) := hy
      clear hy
      have hcall := hpAt y
      cases hq : p y with
      | true =>
        rw [hq] at hcall
        go_wp2_with (go_at_fn g; refine (hcall _).mono ?_; rintro e w' ⟨rfl, q', rfl⟩)
        go_ret
        refine ⟨?_, ⟨⟨_, rfl⟩⟩⟩
        have hz := Lib.idxBy_hit (fun _ y => p y) l n kk default hlt (by have := hN.out; omega) (by show p l[kk]! = true; rw [show l[kk]! = l.getD kk ByteArray.empty from by simp [List.getElem!_eq_getElem?_getD, List.getD_eq_getElem?_getD]; rfl, B.out]; exact hq) (fun j hj => by show p l[j]! = false; rw [show l[j]! = l.getD j ByteArray.empty from by simp [List.getElem!_eq_getElem?_getD, List.getD_eq_getElem?_getD]; rfl]; exact A.out j hj)
        rw [List.take_of_length_le (by have := hN.out; omega)] at hz
        rw [hz]
        rfl
      | false =>
        rw [hq] at hcall
        go_wp2_with (go_at_fn g; refine (hcall _).mono ?_; rintro e w' ⟨rfl, q', rfl⟩)
        go_roundg (n - (kk + 1))
        case measure => omega
        case rel =>
          refine ⟨kk + 1, _, by omega, by omega, by go_num, rfl, (show Aside _ from fun j hj => ?_)⟩
          by_cases e : j = kk
          · subst e
            rw [B.out]; exact hq
          · exact A.out j (by omega)
    · have hltz : ¬ (kk : Int) < (n : Int) := by omega
      have : kk = n := by omega
      subst this
      go_wp2
      go_ret
      refine ⟨?_, ⟨⟨q, rfl⟩⟩⟩
      have hz := Lib.idxBy_miss (fun _ y => p y) l kk default (fun j hj => by show p l[j]! = false; rw [show l[j]! = l.getD j ByteArray.empty from by simp [List.getElem!_eq_getElem?_getD, List.getD_eq_getElem?_getD]; rfl]; exact A.out j hj)
      rw [List.take_of_length_le (by have := hN.out; omega)] at hz
      rw [hz]
      rfl
theorem contains_calls (p : ByteArray → Bool) (g : Nat) (hp : ∀ (x : ByteArray) (W : World), Calls Try.prog g #[.string x] W fun e w' => e = .returned (.bool (p x)) ∧ Drawn0 W w') (eg : ∀ args w, (callFunc g args).run Try.prog w = .ok (.enter g args) w)
    (A0 : Option Addr) (c : Nat) (l : List ByteArray) (w : World) (hr : ReadsOf Value.string ByteArray.empty w A0 l.length l) :
    Calls Try.prog 21 #[.slice A0 l.length c, .func (.func g) #[] #[]] w fun e w' => e = .returned (.bool (l.any p)) ∧ Drawn0 w w' := by
  have hi := index_calls p g hp eg A0 c l w hr
  rw [show l.any p = decide (0 ≤ Lib.idxBy (fun _ y => p y) l default) from (Lib.idxBy_nonneg_iff (fun _ y => p y) l default).symm]
  clear hp hr
  go_enter Try.func21, Try.ntmps21
  go_wp2_with fail
  (with_reducible refine hi.mono ?_)
  rintro e w' ⟨rfl, ⟨q, rfl⟩⟩
  go_wp2
  go_ret
  exact ⟨rfl, ⟨⟨q, rfl⟩⟩⟩
end Go.Proofs.Ytjicnmelmflfbaa.IdxFn
