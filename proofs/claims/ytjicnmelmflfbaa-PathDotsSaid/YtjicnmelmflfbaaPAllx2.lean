-- Printed out of the translation by a program; functions that were proved by hand stand among them. Lean checks it.
import Derived.Test.YtjicnmelmflfbaaPAllx0
import Derived.Test.YtjicnmelmflfbaaPAllx1
namespace Go.Proofs.Ytjicnmelmflfbaa.PAll
open Go.RowKit Go.Proofs.YtjicnmelmflfbaaW.PrintWords Go.Proofs.YtjicnmelmflfbaaW.PrintLast Go.Proofs.YtjicnmelmflfbaaW.PrintMore
attribute [local go_sem] max2_int min2_int max_two min_two max_three min_three max_four min_four   -- for this text's walks alone
set_option linter.unusedVariables false
set_option linter.unusedSimpArgs false

/-! ### path_Split: function 9 -/
def path_Split.l0 : Nat → List ByteArray → ByteArray → Bool → Option (List ByteArray × Int)
  | 0, _, _, _ => none
  | k + 1, xs, rest, more => if more = false then some (xs, 0) else ((strings_Cut.f rest (⟨#[47]⟩ : ByteArray)).bind fun c => (if c.1.toList = ([] : List UInt8) then path_Split.l0 k xs c.2.1 c.2.2 else (if c.1.toList = ([46] : List UInt8) then path_Split.l0 k xs c.2.1 c.2.2 else (if c.1.toList = ([46, 46] : List UInt8) then path_Split.l0 k (xs.take (xs.length - 1)) c.2.1 c.2.2 else ((entry_Named.f c.1).bind fun b => (if b = true then (if (xs.length : Int) = 16 then some ([], 11) else (if xs.length < 8796093022208 then path_Split.l0 k (xs ++ [c.1]) c.2.1 c.2.2 else none)) else some ([], 9)))))))
theorem path_Split.mono_l : ∀ k xs rest more, LeO (path_Split.l0 k xs rest more) (path_Split.l0 (k + 1) xs rest more)
  | 0, _, _, _ => fun r h => by simp [path_Split.l0] at h
  | k + 1, xs, rest, more => by
    rw [path_Split.l0, path_Split.l0.eq_2 xs rest more (k + 1)]
    refine LeO.ite (LeO.refl _) (LeO.bind (LeO.refl _) (fun c => ?_))
    refine LeO.ite (path_Split.mono_l k _ _ _) (LeO.ite (path_Split.mono_l k _ _ _) (LeO.ite (path_Split.mono_l k _ _ _) (LeO.bind (LeO.refl _) (fun b => ?_))))
    exact LeO.ite (LeO.ite (LeO.refl _) (LeO.ite (path_Split.mono_l k _ _ _) (LeO.none _))) (LeO.refl _)
def path_Split.f (k : Nat) (a0 : ByteArray) : Option (List ByteArray × Int) := if (a0.size : Int) > 1024 then some ([], 11) else ((strings_HasPrefix.f a0 (⟨#[47]⟩ : ByteArray)).bind fun b => (if b = true then (if 1 ≤ (a0.size : Int) then path_Split.l0 k [] (a0.extract 1 a0.size) true else none) else some ([], 2)))
theorem path_Split.mono : ∀ a0 k, LeO (path_Split.f k a0) (path_Split.f (k + 1) a0) := by
  intro a0 k
  unfold path_Split.f
  refine LeO.ite (LeO.refl _) (LeO.bind (LeO.refl _) (fun b => ?_))
  exact LeO.ite (LeO.ite (path_Split.mono_l k _ _ _) (LeO.none _)) (LeO.refl _)
def path_Split.weigh : Value → Value → Nat
  | .string r, .bool true => r.size + 1
  | _, _ => 0
theorem path_Split.shorter {s : ByteArray} {c : ByteArray × ByteArray × Bool} (hs : s.size ≤ 1024) (h : strings_Cut.f s (⟨#[47]⟩ : ByteArray) = some c) : path_Split.weigh (.string c.2.1) (.bool c.2.2) < s.size + 1 ∧ c.2.1.size ≤ 1024 := by
  unfold strings_Cut.f stringslite_Cut.f at h
  obtain ⟨a, h1, h2⟩ := Option.bind_eq_some_iff.1 h
  obtain ⟨t, h3, h4⟩ := Option.bind_eq_some_iff.1 h1
  cases h2
  clear h h1 h3
  have e1 : ((⟨#[47]⟩ : ByteArray).size : Int) = 1 := rfl
  rw [e1] at h4
  by_cases g0 : t ≥ 0
  · rw [if_pos g0, if_pos g0] at h4
    by_cases g1 : t ≤ (s.size : Int)
    · rw [if_pos g1] at h4
      have hw : wrap64 (t + 1) = t + 1 := by unfold wrap64; omega
      rw [hw] at h4
      by_cases g3 : t + 1 ≤ (s.size : Int)
      · rw [if_pos (by omega), if_pos g3] at h4
        cases h4
        show (s.extract (t + 1).toNat s.size).size + 1 < s.size + 1 ∧ (s.extract (t + 1).toNat s.size).size ≤ 1024
        rw [ByteArray.size_extract]
        omega
      · rw [if_pos (by omega), if_neg g3] at h4; cases h4
    · rw [if_neg g1] at h4; cases h4
  · rw [if_neg g0] at h4
    cases h4
    exact ⟨Nat.succ_pos _, Nat.zero_le _⟩
theorem wp_scope_pass {P : Program} {a : Act} {w : World} {Q : Exit → Act → World → Prop} {c rest : Code} (l : Nat) (J : Act → World → Prop) (μ : Act → World → Nat) (hf : findLabel c l = some (Code.skip.seq rest))
    (pass : ∀ a w, J a w → rest.wp P (Exit.jump l (fun a' w' => J a' w' ∧ μ a' w' < μ a w) Q) a w)
    (first : (∀ a w, J a w → rest.wp P (Exit.jump l J Q) a w) → c.wp P (Exit.jump l J Q) a w) : (Code.scope c).wp P Q a w :=
  wp_scope_jumps l J μ hf (first fun a w hJ => Code.wp_mono (fun e a' w' h => by cases e <;> first | exact h | exact ⟨h.1, h.2.1⟩) (pass a w hJ)) (fun a w hJ => wp_seq (wp_skip (pass a w hJ)))
set_option maxHeartbeats 8000000 in
set_option maxRecDepth 100000 in
theorem path_Split.calls (k : Nat) (a0 : ByteArray) (r1 : List ByteArray) (r2 : Int) (w : World) (h : path_Split.f k a0 = some (r1, r2)) :
    Calls Try.prog 9 #[.string a0] w fun e w' => ∃ v0_ : Value, e = .returned (.tuple #[v0_, .int .i64 r2]) ∧ Kd.R Kd.string 9 w' w.heap.size (fun _ => True) v0_ r1 ∧ Below w.heap.size w w' := by
  have HB := Aside0.mk (Below.refl w.heap.size w)
  have H := Aside0.mk h
  clear h
  go_enter Try.func9, Try.ntmps9
  go_wp2
  refine wp_scope_pass 0 (fun a' w' => (∃ (v U1 : Value) (part rest : ByteArray) (more : Bool) (xs : List ByteArray) (k : Nat) (u8 u9 u10 u11 u12 u13 u14 u15 u16 u17 u18 u19 u20 u21 u22 u23 u24 u25 u26 u27 u28 u29 u30 u31 u32 u33 u34 u35 u36 u37 u38 u39 u40 u41 u42 u43 u44 u45 u46 u47 u48 : Value), a' = { tmps := #[.string a0, U1, .slice none 0 0, .int .i64 0, v, .string part, .string rest, .bool more, u8, u9, u10, u11, u12, u13, u14, u15, u16, u17, u18, u19, u20, u21, u22, u23, u24, u25, u26, u27, u28, u29, u30, u31, u32, u33, u34, u35, u36, u37, u38, u39, u40, u41, u42, u43, u44, u45, u46, u47, u48], defers := [] } ∧ Aside0 (path_Split.l0 k xs rest more = some (r1, r2)) ∧ Aside0 (Kd.R Kd.string 9 w' w.heap.size (fun _ => True) v xs) ∧ Aside0 (Below w.heap.size w w') ∧ Aside0 (rest.size ≤ 1024) ∧ Aside0 (xs.length ≤ 16))) (fun a' _ => path_Split.weigh (a'.tmps.getD 6 undef) (a'.tmps.getD 7 undef)) rfl ?_ ?_
  · clear H HB
    rintro a' w' ⟨v, U1, part, rest, more, xs, k, u8, u9, u10, u11, u12, u13, u14, u15, u16, u17, u18, u19, u20, u21, u22, u23, u24, u25, u26, u27, u28, u29, u30, u31, u32, u33, u34, u35, u36, u37, u38, u39, u40, u41, u42, u43, u44, u45, u46, u47, u48, rfl, H, HO, HB, HS, HL⟩
    obtain ⟨Ao, co, eo⟩ := Kd.R_slice HO.out
    subst eo
    have H := H.out
    cases k with
    | zero => simp [path_Split.l0] at H
    | succ k =>
    rw [path_Split.l0] at H
    cases more with
    | false =>
      rw [if_pos rfl] at H
      cases H
      go_wp2
      (try simp only [Exit.jump])
      go_ret2
      exact ⟨_, rfl, HO.out, HB.out⟩
    | true =>
    rw [if_neg (by decide)] at H
    obtain ⟨⟨p, rest2, more2⟩, hc, H⟩ := Option.bind_eq_some_iff.1 H
    have hμ : Aside0 (path_Split.weigh (.string rest2) (.bool more2) < rest.size + 1) := ⟨(path_Split.shorter HS.out hc).1⟩
    have hR : Aside0 (rest2.size ≤ 1024) := ⟨(path_Split.shorter HS.out hc).2⟩
    have hc := Aside0.mk hc
    simp only [] at H
    have HX := Aside0.mk H
    clear H
    by_cases c1 : p.toList = ([] : List UInt8)
    · have H := HX.out
      clear HX
      rw [if_pos c1] at H
      have c1b : (p.toList == ([] : List UInt8)) = true := beq_iff_eq.2 c1
      clear c1
      have H := Aside0.mk H
      go_wp2_with (first | ((with_reducible refine gate_callee (f := 18) rfl ?_); refine goesL_ (some 23) rfl rfl Try.func18 (by kernel_rfl) rfl #[.string rest, .string ⟨#[47]⟩] rfl (by (try simp only [List.map_toArray, List.map_cons, List.map_nil]); first | done | rfl | (simp only [List.length_drop, List.length_take]; rfl)) ?_; (with_reducible refine (strings_Cut.calls rest ⟨#[47]⟩ p rest2 more2 _ hc.out).mono ?_); rintro e w' ⟨rfl, ⟨nd, rfl⟩⟩; refine ⟨_, rfl, ?_⟩))
      (try go_step3)
      refine ⟨rfl, ⟨_, _, _, _, _, _, _, _, _, _, _, _, _, _, _, _, _, _, _, _, _, _, _, _, _, _, _, _, _, _, _, _, _, _, _, _, _, _, _, _, _, _, _, _, _, _, _, _, rfl, ⟨H.out⟩, ⟨by (with_reducible repeat (first | apply Kd.R_alloc | apply Kd.R_drewN | apply Kd.R_drew)); exact HO.out⟩, ⟨by repeat (first | (with_reducible first | exact HB.out | apply below_alloc | apply pw_below_drewN | apply below_drew1) | exact HB.out)⟩, hR, HL⟩, hμ.out⟩
    have c1b : (p.toList == ([] : List UInt8)) = false := beq_eq_false_iff_ne.2 c1
    by_cases c2 : p.toList = ([46] : List UInt8)
    · have H := HX.out
      clear HX
      rw [if_neg c1, if_pos c2] at H
      have c2b : (p.toList == ([46] : List UInt8)) = true := beq_iff_eq.2 c2
      clear c1 c2
      have H := Aside0.mk H
      go_wp2_with (first | ((with_reducible refine gate_callee (f := 18) rfl ?_); refine goesL_ (some 23) rfl rfl Try.func18 (by kernel_rfl) rfl #[.string rest, .string ⟨#[47]⟩] rfl (by (try simp only [List.map_toArray, List.map_cons, List.map_nil]); first | done | rfl | (simp only [List.length_drop, List.length_take]; rfl)) ?_; (with_reducible refine (strings_Cut.calls rest ⟨#[47]⟩ p rest2 more2 _ hc.out).mono ?_); rintro e w' ⟨rfl, ⟨nd, rfl⟩⟩; refine ⟨_, rfl, ?_⟩))
      (try go_step3)
      refine ⟨rfl, ⟨_, _, _, _, _, _, _, _, _, _, _, _, _, _, _, _, _, _, _, _, _, _, _, _, _, _, _, _, _, _, _, _, _, _, _, _, _, _, _, _, _, _, _, _, _, _, _, _, rfl, ⟨H.out⟩, ⟨by (with_reducible repeat (first | apply Kd.R_alloc | apply Kd.R_drewN | apply Kd.R_drew)); exact HO.out⟩, ⟨by repeat (first | (with_reducible first | exact HB.out | apply below_alloc | apply pw_below_drewN | apply below_drew1) | exact HB.out)⟩, hR, HL⟩, hμ.out⟩
    have c2b : (p.toList == ([46] : List UInt8)) = false := beq_eq_false_iff_ne.2 c2
    by_cases c3 : p.toList = ([46, 46] : List UInt8)
    · have H := HX.out
      clear HX
      rw [if_neg c1, if_neg c2, if_pos c3] at H
      have c3b : (p.toList == ([46, 46] : List UInt8)) = true := beq_iff_eq.2 c3
      clear c1 c2 c3
      have hlc : xs.length ≤ co := (Kd.R_reads' HO.out).2.1
      obtain ⟨i0, hi0, _, hsz0, _⟩ := info_parts info9
      by_cases n0 : xs.length = 0
      · have hwr : wrap64 ((xs.length : Int) - 1) = -1 := by unfold wrap64; omega
        have f1 : decide (wrap64 ((xs.length : Int) - 1) < 0) = true := by rw [hwr]; decide
        have f2 : (wrap64 ((xs.length : Int) - 1) < 0) = True := eq_true (by rw [hwr]; decide)
        have f3 : (0 ≤ wrap64 ((xs.length : Int) - 1)) = False := eq_false (by rw [hwr]; decide)
        have hcut0 := cut_to (P := Try.prog) 22 9 .i64 Try.underlying22 hi0 Ao xs.length co 0 (by decide) (by omega) hlc
        have hr0 := Kd.R_take (m := (0 : Int).toNat) HO.out (Nat.zero_le _)
        have HO := Aside0.mk hr0
        have HL : Aside0 ((xs.take (0 : Int).toNat).length ≤ 16) := ⟨by rw [List.length_take]; omega⟩
        have H : path_Split.l0 k (xs.take (0 : Int).toNat) rest2 more2 = some (r1, r2) := by rw [n0] at H; exact H
        have H := Aside0.mk H
        clear hwr hlc hr0 hi0 hsz0 n0
        go_wp2_with (first | ((with_reducible refine gate_callee (f := 18) rfl ?_); refine goesL_ (some 23) rfl rfl Try.func18 (by kernel_rfl) rfl #[.string rest, .string ⟨#[47]⟩] rfl (by (try simp only [List.map_toArray, List.map_cons, List.map_nil]); first | done | rfl | (simp only [List.length_drop, List.length_take]; rfl)) ?_; (with_reducible refine (strings_Cut.calls rest ⟨#[47]⟩ p rest2 more2 _ hc.out).mono ?_); rintro e w' ⟨rfl, ⟨nd, rfl⟩⟩; refine ⟨_, rfl, ?_⟩))
        (try go_step3)
        refine ⟨rfl, ⟨_, _, _, _, _, _, _, _, _, _, _, _, _, _, _, _, _, _, _, _, _, _, _, _, _, _, _, _, _, _, _, _, _, _, _, _, _, _, _, _, _, _, _, _, _, _, _, _, rfl, ⟨H.out⟩, ⟨by (with_reducible repeat (first | apply Kd.R_alloc | apply Kd.R_drewN | apply Kd.R_drew)); exact HO.out⟩, ⟨by repeat (first | (with_reducible first | exact HB.out | apply below_alloc | apply pw_below_drewN | apply below_drew1) | exact HB.out)⟩, hR, HL⟩, hμ.out⟩
      · obtain ⟨j, hj⟩ : ∃ j : Nat, xs.length - 1 = j := ⟨_, rfl⟩
        have hwr : wrap64 ((xs.length : Int) - 1) = (j : Int) := by have := HL.out; unfold wrap64; omega
        have f1 : decide (wrap64 ((xs.length : Int) - 1) < 0) = false := decide_eq_false (by rw [hwr]; omega)
        have f2 : (wrap64 ((xs.length : Int) - 1) < 0) = False := eq_false (by rw [hwr]; omega)
        have f3 : (0 ≤ wrap64 ((xs.length : Int) - 1)) = True := eq_true (by rw [hwr]; omega)
        have hcut0 := cut_to (P := Try.prog) 22 9 .i64 Try.underlying22 hi0 Ao xs.length co (wrap64 ((xs.length : Int) - 1)) (by rw [hwr]; omega) (by rw [hwr]; omega) hlc
        have hr0 := Kd.R_take (m := (wrap64 ((xs.length : Int) - 1)).toNat) HO.out (by rw [hwr]; omega)
        have HO := Aside0.mk hr0
        have hw2 : (wrap64 ((xs.length : Int) - 1)).toNat = xs.length - 1 := by rw [hwr]; omega
        have HL : Aside0 ((xs.take (wrap64 ((xs.length : Int) - 1)).toNat).length ≤ 16) := ⟨by have := HL.out; rw [List.length_take]; omega⟩
        have H : path_Split.l0 k (xs.take (wrap64 ((xs.length : Int) - 1)).toNat) rest2 more2 = some (r1, r2) := by rw [hw2]; exact H
        have H := Aside0.mk H
        clear hwr hlc hr0 hi0 hsz0 n0 hw2 hj
        go_wp2_with (first | ((with_reducible refine gate_callee (f := 18) rfl ?_); refine goesL_ (some 23) rfl rfl Try.func18 (by kernel_rfl) rfl #[.string rest, .string ⟨#[47]⟩] rfl (by (try simp only [List.map_toArray, List.map_cons, List.map_nil]); first | done | rfl | (simp only [List.length_drop, List.length_take]; rfl)) ?_; (with_reducible refine (strings_Cut.calls rest ⟨#[47]⟩ p rest2 more2 _ hc.out).mono ?_); rintro e w' ⟨rfl, ⟨nd, rfl⟩⟩; refine ⟨_, rfl, ?_⟩))
        (try go_step3)
        refine ⟨rfl, ⟨_, _, _, _, _, _, _, _, _, _, _, _, _, _, _, _, _, _, _, _, _, _, _, _, _, _, _, _, _, _, _, _, _, _, _, _, _, _, _, _, _, _, _, _, _, _, _, _, rfl, ⟨H.out⟩, ⟨by (with_reducible repeat (first | apply Kd.R_alloc | apply Kd.R_drewN | apply Kd.R_drew)); exact HO.out⟩, ⟨by repeat (first | (with_reducible first | exact HB.out | apply below_alloc | apply pw_below_drewN | apply below_drew1) | exact HB.out)⟩, hR, HL⟩, hμ.out⟩
    have c3b : (p.toList == ([46, 46] : List UInt8)) = false := beq_eq_false_iff_ne.2 c3
    have H := HX.out
    clear HX
    rw [if_neg c1, if_neg c2, if_neg c3] at H
    clear c1 c2 c3
    obtain ⟨b, hb, H⟩ := Option.bind_eq_some_iff.1 H
    have hb := Aside0.mk hb
    cases b with
    | false =>
      rw [if_neg (by decide)] at H
      cases H
      go_wp2_with (first | ((with_reducible refine gate_callee (f := 18) rfl ?_); refine goesL_ (some 23) rfl rfl Try.func18 (by kernel_rfl) rfl #[.string rest, .string ⟨#[47]⟩] rfl (by (try simp only [List.map_toArray, List.map_cons, List.map_nil]); first | done | rfl | (simp only [List.length_drop, List.length_take]; rfl)) ?_; (with_reducible refine (strings_Cut.calls rest ⟨#[47]⟩ p rest2 more2 _ hc.out).mono ?_); rintro e w' ⟨rfl, ⟨nd, rfl⟩⟩; refine ⟨_, rfl, ?_⟩) | ((with_reducible refine gate_callee (f := 19) rfl ?_); refine goesL_ (some 40) rfl rfl Try.func19 (by kernel_rfl) rfl #[.string p] rfl (by (try simp only [List.map_toArray, List.map_cons, List.map_nil]); first | done | rfl | (simp only [List.length_drop, List.length_take]; rfl)) ?_; (with_reducible refine (entry_Named.calls p false _ hb.out).mono ?_); rintro e w' ⟨rfl, ⟨nd, rfl⟩⟩; refine ⟨_, rfl, ?_⟩))
      (try simp only [Exit.jump])
      go_ret2
      exact ⟨_, rfl, Kd.R_nil _ _ _ _ _, by repeat (first | (with_reducible first | exact HB.out | apply below_alloc | apply pw_below_drewN | apply below_drew1) | exact HB.out)⟩
    | true =>
    rw [if_pos rfl] at H
    by_cases c4 : (xs.length : Int) = 16
    · rw [if_pos c4] at H
      have c4b : ((xs.length : Int) == 16) = true := beq_iff_eq.2 c4
      clear c4
      cases H
      go_wp2_with (first | ((with_reducible refine gate_callee (f := 18) rfl ?_); refine goesL_ (some 23) rfl rfl Try.func18 (by kernel_rfl) rfl #[.string rest, .string ⟨#[47]⟩] rfl (by (try simp only [List.map_toArray, List.map_cons, List.map_nil]); first | done | rfl | (simp only [List.length_drop, List.length_take]; rfl)) ?_; (with_reducible refine (strings_Cut.calls rest ⟨#[47]⟩ p rest2 more2 _ hc.out).mono ?_); rintro e w' ⟨rfl, ⟨nd, rfl⟩⟩; refine ⟨_, rfl, ?_⟩) | ((with_reducible refine gate_callee (f := 19) rfl ?_); refine goesL_ (some 40) rfl rfl Try.func19 (by kernel_rfl) rfl #[.string p] rfl (by (try simp only [List.map_toArray, List.map_cons, List.map_nil]); first | done | rfl | (simp only [List.length_drop, List.length_take]; rfl)) ?_; (with_reducible refine (entry_Named.calls p true _ hb.out).mono ?_); rintro e w' ⟨rfl, ⟨nd, rfl⟩⟩; refine ⟨_, rfl, ?_⟩))
      (try simp only [Exit.jump])
      go_ret2
      exact ⟨_, rfl, Kd.R_nil _ _ _ _ _, by repeat (first | (with_reducible first | exact HB.out | apply below_alloc | apply pw_below_drewN | apply below_drew1) | exact HB.out)⟩
    rw [if_neg c4] at H
    have c4b : ((xs.length : Int) == 16) = false := beq_eq_false_iff_ne.2 c4
    have HL2 : Aside0 (xs.length ≠ 16) := ⟨fun e => c4 (by omega)⟩
    clear c4
    by_cases c5 : xs.length < 8796093022208
    · rw [if_pos c5] at H
      have LM := Aside0.mk c5
      clear c5
      have HL : Aside0 ((xs ++ [p]).length ≤ 16) := ⟨by have := HL.out; have := HL2.out; rw [List.length_append, List.length_singleton]; omega⟩
      have H := Aside0.mk H
      go_wp2_with (first | ((with_reducible refine gate_callee (f := 18) rfl ?_); refine goesL_ (some 23) rfl rfl Try.func18 (by kernel_rfl) rfl #[.string rest, .string ⟨#[47]⟩] rfl (by (try simp only [List.map_toArray, List.map_cons, List.map_nil]); first | done | rfl | (simp only [List.length_drop, List.length_take]; rfl)) ?_; (with_reducible refine (strings_Cut.calls rest ⟨#[47]⟩ p rest2 more2 _ hc.out).mono ?_); rintro e w' ⟨rfl, ⟨nd, rfl⟩⟩; refine ⟨_, rfl, ?_⟩) | ((with_reducible refine gate_callee (f := 19) rfl ?_); refine goesL_ (some 40) rfl rfl Try.func19 (by kernel_rfl) rfl #[.string p] rfl (by (try simp only [List.map_toArray, List.map_cons, List.map_nil]); first | done | rfl | (simp only [List.length_drop, List.length_take]; rfl)) ?_; (with_reducible refine (entry_Named.calls p true _ hb.out).mono ?_); rintro e w' ⟨rfl, ⟨nd, rfl⟩⟩; refine ⟨_, rfl, ?_⟩) | ((with_reducible refine gate_builtin (b := .append) (xs := #[.tmp 45, .tmp 47]) rfl ?_); at_builtin; refine Kd.R_append Kd.string (w0 := w) w.heap.size rfl (.tmp 45) (.tmp 47) 22 9 (.string ⟨#[]⟩) 16 rfl Try.underlying22 info9 rfl (by decide) (by omega) (.slice Ao xs.length co) xs p [.string p] (fun _ => True) (fun _ => False) rfl rfl ?aP (fun _ hk => hk.elim) ?aF ?aO ?aB ?aS ?aL ?_; (case aP => exact rfl); (case aB => exact (by repeat (first | (with_reducible first | exact HB.out | apply below_alloc | apply pw_below_drewN | apply below_drew1) | exact HB.out))); (case aF => exact (fun _ _ => trivial)); (case aO => exact (by (with_reducible repeat (first | apply Kd.R_alloc | apply Kd.R_drewN | apply Kd.R_drew)); exact HO.out)); (case aS => exact (below_size (by repeat (first | (with_reducible first | exact HB.out | apply below_alloc | apply pw_below_drewN | apply below_drew1) | exact HB.out)))); (case aL => have hL_ := LM.out; first | omega | exact Nat.le_of_lt hL_); intro v119 w37 ho hb2 hg hat; have n0_ := Aside0.mk (hb2); have n1_ := Aside0.mk (ho); clear HB; clear HO; have HB := n0_; have HO := n1_; clear n0_ n1_; clear ho hb2 hg hat))
      (try go_step3)
      refine ⟨rfl, ⟨_, _, _, _, _, _, _, _, _, _, _, _, _, _, _, _, _, _, _, _, _, _, _, _, _, _, _, _, _, _, _, _, _, _, _, _, _, _, _, _, _, _, _, _, _, _, _, _, rfl, ⟨H.out⟩, ⟨by (with_reducible repeat (first | apply Kd.R_alloc | apply Kd.R_drewN | apply Kd.R_drew)); exact HO.out⟩, ⟨by repeat (first | (with_reducible first | exact HB.out | apply below_alloc | apply pw_below_drewN | apply below_drew1) | exact HB.out)⟩, hR, HL⟩, hμ.out⟩
    · rw [if_neg c5] at H
      cases H
  · intro pass
    have h := H.out
    unfold path_Split.f at h
    clear H
    by_cases c2 : (a0.size : Int) > 1024
    · rw [if_pos c2] at h
      have c2b0 : decide (1024 < (a0.size : Int)) = true := decide_eq_true c2
      have c2b1 : decide (1024 < a0.size) = true := decide_eq_true (by omega)
      clear c2 pass
      cases h
      go_wp2
      (try simp only [Exit.jump])
      go_ret2
      exact ⟨_, rfl, Kd.R_nil _ _ _ _ _, by repeat (first | (with_reducible first | exact HB.out | apply below_alloc | apply pw_below_drewN | apply below_drew1) | exact HB.out)⟩
    · rw [if_neg c2] at h
      have c2b0 : decide (1024 < (a0.size : Int)) = false := decide_eq_false c2
      have c2b1 : decide (1024 < a0.size) = false := decide_eq_false (by omega)
      have hS : Aside0 (a0.size ≤ 1024) := ⟨by omega⟩
      clear c2
      obtain ⟨b, hp, h⟩ := Option.bind_eq_some_iff.1 h
      have hp := Aside0.mk hp
      cases b with
      | false =>
        clear pass
        rw [if_neg (by decide)] at h
        cases h
        go_wp2_with (first | ((with_reducible refine gate_callee (f := 17) rfl ?_); refine goesL_ (some 14) rfl rfl Try.func17 (by kernel_rfl) rfl #[.string a0, .string ⟨#[47]⟩] rfl (by (try simp only [List.map_toArray, List.map_cons, List.map_nil]); first | done | rfl | (simp only [List.length_drop, List.length_take]; rfl)) ?_; (with_reducible refine (strings_HasPrefix.calls a0 ⟨#[47]⟩ false _ hp.out).mono ?_); rintro e w' ⟨rfl, ⟨nd, rfl⟩⟩; refine ⟨_, rfl, ?_⟩))
        (try simp only [Exit.jump])
        go_ret2
        exact ⟨_, rfl, Kd.R_nil _ _ _ _ _, by repeat (first | (with_reducible first | exact HB.out | apply below_alloc | apply pw_below_drewN | apply below_drew1) | exact HB.out)⟩
      | true =>
        rw [if_pos rfl] at h
        by_cases c3 : 1 ≤ (a0.size : Int)
        · rw [if_pos c3] at h
          have H := Aside0.mk h
          clear h
          have c3b0 : decide (1 ≤ (a0.size : Int)) = true := decide_eq_true c3
          have c3b1 : (1 ≤ (a0.size : Int)) = True := eq_true c3
          have hP := Aside0.mk pass
          clear pass c3
          go_wp2_with (first | ((with_reducible refine gate_callee (f := 17) rfl ?_); refine goesL_ (some 14) rfl rfl Try.func17 (by kernel_rfl) rfl #[.string a0, .string ⟨#[47]⟩] rfl (by (try simp only [List.map_toArray, List.map_cons, List.map_nil]); first | done | rfl | (simp only [List.length_drop, List.length_take]; rfl)) ?_; (with_reducible refine (strings_HasPrefix.calls a0 ⟨#[47]⟩ true _ hp.out).mono ?_); rintro e w' ⟨rfl, ⟨nd, rfl⟩⟩; refine ⟨_, rfl, ?_⟩))
          refine wp_label ?_
          rename_i hK
          refine hK _ _ ?_
          refine hP.out _ _ ?_
          exact ⟨_, _, _, _, _, _, _, _, _, _, _, _, _, _, _, _, _, _, _, _, _, _, _, _, _, _, _, _, _, _, _, _, _, _, _, _, _, _, _, _, _, _, _, _, _, _, _, _, rfl, ⟨H.out⟩, ⟨Kd.R_nil _ _ _ _ _⟩, ⟨by repeat (first | (with_reducible first | exact HB.out | apply below_alloc | apply pw_below_drewN | apply below_drew1) | exact HB.out)⟩, ⟨by have := hS.out; rw [ByteArray.size_extract]; omega⟩, ⟨Nat.zero_le _⟩⟩
        · rw [if_neg c3] at h
          cases h

end Go.Proofs.Ytjicnmelmflfbaa.PAll
