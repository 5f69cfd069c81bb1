/- For all worlds: slices.IndexFunc and ContainsFunc at 'is it not 0', make([]int, n), tree.part. Conditions: the list can be read; sizes as a slice may be. -/
import Derived.Test.YtbdbjlfdnijfeaaTree1
import Derived.Laws.NewBlocks
import Derived.Laws.MakeOwn
import Derived.Laws.CopyOwn
namespace Go.Proofs.Ytbdbjlfdnijfeaa.Tree
open Go Go.RowKit Go.Maps Go.Proofs.YtbdbjlfdnijfeaaW.PrintWords Go.Proofs.YtbdbjlfdnijfeaaW.PrintLast Go.Proofs.YtbdbjlfdnijfeaaW.PrintMore
set_option linter.unusedVariables false
set_option linter.unusedSimpArgs false
theorem infoI : (Try.prog.info? 3).map (fun i => (i.zero, i.size, i.bytes)) = some (some (.int .i64 0), 1, 8) := by kernel_rfl
theorem made_ints (n : Nat) : (madeCells #[Value.int .i64 0] (n * 1)) = Array.replicate n (Value.int .i64 0) := by
  unfold madeCells
  apply Array.ext
  · simp
  · intro i h1 h2
    rw [Array.getElem_map, Array.getElem_range, Array.getElem_replicate]
    simp [Nat.mod_one]
theorem mkI (n : Nat) (hn : n ≤ 1099511627776) (W : World) : (Instr.makeSlice 22 (.int .i64 (n : Int)) (.int .i64 (n : Int))).run Try.prog W = .ok (.slice (some ⟨W.heap.size, 0, none⟩) n n) (W.alloc (.cells (Array.replicate n (Value.int .i64 0)) 3)) := by
  obtain ⟨i0, hi0, hz0, hs0, hb0⟩ := info_parts infoI
  have hr := run_make (P := Try.prog) W 22 3 i0 (.int .i64 0) Try.underlying22 hi0 hz0 .i64 .i64 n n (by omega) (by omega) (by rw [hb0]; omega) (by omega)
  simp only [Int.toNat_natCast, hs0] at hr
  rw [← made_ints]
  exact hr
def idx0 (l : List Int) : Int := match l.findIdx? (fun p => p != 0) with
  | some k => (k : Int)
  | none => -1
def someB (l : List Int) : Bool := l.any (fun p => p != 0)
theorem idx0_some (l : List Int) : decide (0 ≤ idx0 l) = someB l := by
  unfold idx0 someB
  cases h : l.findIdx? (fun p => p != 0) with
  | none =>
    have h1 := List.findIdx?_eq_none_iff.1 h
    rw [show l.any (fun p => p != 0) = false from List.any_eq_false.2 (fun x hx => by have := h1 x hx; simpa using this)]
    rfl
  | some k =>
    have h1 := List.findIdx?_eq_some_iff_getElem.1 h
    obtain ⟨hk, h2, _⟩ := h1
    rw [show l.any (fun p => p != 0) = true from List.any_eq_true.2 ⟨_, List.getElem_mem hk, h2⟩]
    exact decide_eq_true (by show (0 : Int) ≤ (k : Int); omega)
theorem idx0_at {l : List Int} {k : Nat} {p : Int} (hk : l[k]? = some p) (hp : (p != 0) = true) (hb : ∀ j, j < k → l.getD j 0 = 0) : idx0 l = (k : Int) := by
  obtain ⟨hl, e⟩ := List.getElem?_eq_some_iff.1 hk
  have h : l.findIdx? (fun p => p != 0) = some k := List.findIdx?_eq_some_iff_getElem.2 ⟨hl, by rw [e]; exact hp, fun j hj => by
    have h1 := hb j hj
    rw [List.getD_eq_getElem?_getD, List.getElem?_eq_getElem (by omega)] at h1
    rw [show l[j] = 0 from h1]; decide⟩
  unfold idx0
  rw [h]
theorem idx0_none {l : List Int} (hb : ∀ j, j < l.length → l.getD j 0 = 0) : idx0 l = -1 := by
  have h : l.findIdx? (fun p => p != 0) = none := List.findIdx?_eq_none_iff.2 (fun x hx => by
    obtain ⟨j, hj, rfl⟩ := List.getElem_of_mem hx
    have h1 := hb j hj
    rw [List.getD_eq_getElem?_getD, List.getElem?_eq_getElem hj] at h1
    rw [show l[j] = 0 from h1]; decide)
  unfold idx0
  rw [h]
theorem at_i {w : World} {A : Option Addr} {n : Nat} {l : List Int} (h : Kd.C (Kd.int .i64) w A n l) {k : Nat} {p : Int} (hk : l[k]? = some p) : ∃ ad, A = some ad ∧ w.cell? (ad.add k) = some (.int .i64 p) := by
  have hl : k < n := by rw [← h.1]; exact (List.getElem?_eq_some_iff.1 hk).1
  obtain ⟨ad, e, hc⟩ := Kd.at_int h (k : Int) (by omega) (by omega)
  refine ⟨ad, e, ?_⟩
  rw [Int.toNat_natCast, show rd l (k : Int) = p from by show l.getD (k : Int).toNat 0 = p; rw [Int.toNat_natCast, List.getD_eq_getElem?_getD, hk]; rfl] at hc
  exact hc
theorem nzp_calls (x : Int) (w : World) : Calls Try.prog 37 #[.int .i64 x] w fun e w' => e = .returned (.bool (x != 0)) ∧ w = w' := by
  go_enter Try.func37, Try.ntmps37
  go_wp2_with fail
  go_ret
  exact ⟨rfl, rfl⟩
theorem nzp_index (A0 : Option Addr) (c0 : Nat) (l0 : List Int) (w : World) (hr0 : Kd.C (Kd.int .i64) w A0 l0.length l0) :
    Calls Try.prog 48 #[.slice A0 l0.length c0, .func (.func 37) #[] #[]] w fun e w' => e = .returned (.int .i64 (idx0 l0)) ∧ w = w' := by
  obtain ⟨n, hn⟩ : ∃ n, l0.length = n := ⟨_, rfl⟩
  have HN := Aside0.mk hn
  have hn63 := hr0.2.1
  rw [hn] at hr0 hn63
  rw [hn]
  have HR := Aside0.mk hr0
  clear hr0 hn
  go_enter Try.func48, Try.ntmps48
  go_wp2_with fail
  go_loopg [8] n (fun gg i wr => ∃ k : Nat, k ≤ n ∧ n - k ≤ gg ∧ i = .int .i64 k ∧ wr = w ∧ Aside0 (∀ j, j < k → l0.getD j 0 = 0))
  case atStart => exact ⟨0, Nat.zero_le _, Nat.le_refl _, rfl, rfl, ⟨fun j hj => absurd hj (Nat.not_lt_zero _)⟩⟩
  case round =>
    obtain ⟨k, hk, hgk, rfl, rfl, HA⟩ := hrel
    by_cases hlt : k < n
    · have b1 : decide (k < n) = true := decide_eq_true hlt
      obtain ⟨p, hp⟩ : ∃ p, l0[k]? = some p := ⟨_, List.getElem?_eq_getElem (by have := HN.out; omega)⟩
      obtain ⟨ad, e, hc⟩ := at_i HR.out hp
      subst e
      have HP := Aside0.mk hp
      have hkz : (0 : Int) ≤ (k : Int) := by omega
      have hkn : (k : Int) < (n : Int) := by omega
      have hcall := Aside0.mk (nzp_calls p wr)
      clear hp
      go_wp2_with fail
      (with_reducible refine hcall.out.mono ?_)
      rintro e w2 ⟨rfl, rfl⟩
      by_cases hp0 : p = 0
      · have bp : (p != 0) = false := bne_eq_false_iff_eq.2 hp0
        have HP0 := Aside0.mk hp0
        clear hp0
        go_wp2_with fail
        go_roundg (n - (k + 1))
        case measure => omega
        case rel => exact ⟨k + 1, by omega, Nat.le_refl _, by go_num, rfl, ⟨fun j hj => by
          by_cases e : j = k
          · subst e; rw [List.getD_eq_getElem?_getD, HP.out]; exact HP0.out
          · exact HA.out j (by omega)⟩⟩
      · have bp : (p != 0) = true := bne_iff_ne.2 hp0
        have HBP := Aside0.mk bp
        clear hp0
        go_wp2_with fail
        go_ret
        exact ⟨by rw [idx0_at HP.out HBP.out HA.out]; rfl, rfl⟩
    · have b1 : decide (k < n) = false := decide_eq_false hlt
      have HKN : Aside0 (k = n) := ⟨by omega⟩
      clear hlt
      go_wp2_with fail
      go_ret
      exact ⟨by rw [idx0_none (fun j hj => HA.out j (by have := HN.out; have := HKN.out; omega))]; rfl, rfl⟩
theorem nzp_contains (A0 : Option Addr) (c0 : Nat) (l0 : List Int) (w : World) (hr0 : Kd.C (Kd.int .i64) w A0 l0.length l0) :
    Calls Try.prog 36 #[.slice A0 l0.length c0, .func (.func 37) #[] #[]] w fun e w' => e = .returned (.bool (someB l0)) ∧ w = w' := by
  have HC := Aside0.mk (nzp_index A0 c0 l0 w hr0)
  have hs := idx0_some l0
  obtain ⟨q, hq⟩ : ∃ q, someB l0 = q := ⟨_, rfl⟩
  obtain ⟨z, hz⟩ : ∃ z, idx0 l0 = z := ⟨_, rfl⟩
  rw [hq, hz] at hs
  rw [hz] at HC
  rw [hq]
  clear hq hz hr0
  go_enter Try.func36, Try.ntmps36
  go_wp2_with (go_at_call 48; (with_reducible refine HC.out.mono ?_); rintro e w2 ⟨rfl, rfl⟩)
  go_ret
  exact ⟨rfl, rfl⟩
theorem nzr_calls (x : Int) (w : World) : Calls Try.prog 46 #[.int .i64 x] w fun e w' => e = .returned (.bool (x != 0)) ∧ w = w' := by
  go_enter Try.func46, Try.ntmps46
  go_wp2_with fail
  go_ret
  exact ⟨rfl, rfl⟩
theorem nzr_index (A0 : Option Addr) (c0 : Nat) (l0 : List Int) (w : World) (hr0 : Kd.C (Kd.int .i64) w A0 l0.length l0) :
    Calls Try.prog 48 #[.slice A0 l0.length c0, .func (.func 46) #[] #[]] w fun e w' => e = .returned (.int .i64 (idx0 l0)) ∧ w = w' := by
  obtain ⟨n, hn⟩ : ∃ n, l0.length = n := ⟨_, rfl⟩
  have HN := Aside0.mk hn
  have hn63 := hr0.2.1
  rw [hn] at hr0 hn63
  rw [hn]
  have HR := Aside0.mk hr0
  clear hr0 hn
  go_enter Try.func48, Try.ntmps48
  go_wp2_with fail
  go_loopg [8] n (fun gg i wr => ∃ k : Nat, k ≤ n ∧ n - k ≤ gg ∧ i = .int .i64 k ∧ wr = w ∧ Aside0 (∀ j, j < k → l0.getD j 0 = 0))
  case atStart => exact ⟨0, Nat.zero_le _, Nat.le_refl _, rfl, rfl, ⟨fun j hj => absurd hj (Nat.not_lt_zero _)⟩⟩
  case round =>
    obtain ⟨k, hk, hgk, rfl, rfl, HA⟩ := hrel
    by_cases hlt : k < n
    · have b1 : decide (k < n) = true := decide_eq_true hlt
      obtain ⟨p, hp⟩ : ∃ p, l0[k]? = some p := ⟨_, List.getElem?_eq_getElem (by have := HN.out; omega)⟩
      obtain ⟨ad, e, hc⟩ := at_i HR.out hp
      subst e
      have HP := Aside0.mk hp
      have hkz : (0 : Int) ≤ (k : Int) := by omega
      have hkn : (k : Int) < (n : Int) := by omega
      have hcall := Aside0.mk (nzr_calls p wr)
      clear hp
      go_wp2_with fail
      (with_reducible refine hcall.out.mono ?_)
      rintro e w2 ⟨rfl, rfl⟩
      by_cases hp0 : p = 0
      · have bp : (p != 0) = false := bne_eq_false_iff_eq.2 hp0
        have HP0 := Aside0.mk hp0
        clear hp0
        go_wp2_with fail
        go_roundg (n - (k + 1))
        case measure => omega
        case rel => exact ⟨k + 1, by omega, Nat.le_refl _, by go_num, rfl, ⟨fun j hj => by
          by_cases e : j = k
          · subst e; rw [List.getD_eq_getElem?_getD, HP.out]; exact HP0.out
          · exact HA.out j (by omega)⟩⟩
      · have bp : (p != 0) = true := bne_iff_ne.2 hp0
        have HBP := Aside0.mk bp
        clear hp0
        go_wp2_with fail
        go_ret
        exact ⟨by rw [idx0_at HP.out HBP.out HA.out]; rfl, rfl⟩
    · have b1 : decide (k < n) = false := decide_eq_false hlt
      have HKN : Aside0 (k = n) := ⟨by omega⟩
      clear hlt
      go_wp2_with fail
      go_ret
      exact ⟨by rw [idx0_none (fun j hj => HA.out j (by have := HN.out; have := HKN.out; omega))]; rfl, rfl⟩
theorem nzr_contains (A0 : Option Addr) (c0 : Nat) (l0 : List Int) (w : World) (hr0 : Kd.C (Kd.int .i64) w A0 l0.length l0) :
    Calls Try.prog 36 #[.slice A0 l0.length c0, .func (.func 46) #[] #[]] w fun e w' => e = .returned (.bool (someB l0)) ∧ w = w' := by
  have HC := Aside0.mk (nzr_index A0 c0 l0 w hr0)
  have hs := idx0_some l0
  obtain ⟨q, hq⟩ : ∃ q, someB l0 = q := ⟨_, rfl⟩
  obtain ⟨z, hz⟩ : ∃ z, idx0 l0 = z := ⟨_, rfl⟩
  rw [hq, hz] at hs
  rw [hz] at HC
  rw [hq]
  clear hq hz hr0
  go_enter Try.func36, Try.ntmps36
  go_wp2_with (go_at_call 48; (with_reducible refine HC.out.mono ?_); rintro e w2 ⟨rfl, rfl⟩)
  go_ret
  exact ⟨rfl, rfl⟩
theorem nzp_cont_n (A0 : Option Addr) (c0 n : Nat) (l0 : List Int) (hn : l0.length = n) (w : World) (hr0 : Kd.C (Kd.int .i64) w A0 n l0) :
    Calls Try.prog 36 #[.slice A0 n c0, .func (.func 37) #[] #[]] w fun e w' => e = .returned (.bool (someB l0)) ∧ w = w' := by
  subst hn; exact nzp_contains A0 c0 l0 w hr0
theorem nzr_cont_n (A0 : Option Addr) (c0 n : Nat) (l0 : List Int) (hn : l0.length = n) (w : World) (hr0 : Kd.C (Kd.int .i64) w A0 n l0) :
    Calls Try.prog 36 #[.slice A0 n c0, .func (.func 46) #[] #[]] w fun e w' => e = .returned (.bool (someB l0)) ∧ w = w' := by
  subst hn; exact nzr_contains A0 c0 l0 w hr0
end Go.Proofs.Ytbdbjlfdnijfeaa.Tree
