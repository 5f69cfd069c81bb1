-- Printed out of the translation by a program; functions that were proved by hand stand among them. Lean checks it.
import Derived.Test.YtnccbebjligpdaaPAllx0
namespace Go.Proofs.Ytnccbebjligpdaa.PAll
open Go.RowKit Go.Proofs.YtnccbebjligpdaaW.PrintWords Go.Proofs.YtnccbebjligpdaaW.PrintLast Go.Proofs.YtnccbebjligpdaaW.PrintMore
open Go.Proofs.YtnccbebjligpdaaW.PrintWords renaming blk_drewN → zN, blk_drew → zD, blk_alloc → zA, below_alloc → zB, pw_below_drewN → zP, below_drew1 → zE, below_set → zS
attribute [local go_sem] max2_int min2_int max_two min_two max_three min_three max_four min_four   -- for this text's walks alone
set_option linter.unusedVariables false
set_option linter.unusedSimpArgs false

/-! ### stringslite_Index: function 60 -/
def stringslite_Index.f (a0 : ByteArray) (a1 : ByteArray) : Option (Int) := Go.Proofs.Ytnccbebjligpdaa.Index.indexF a0 a1
theorem stringslite_Index.calls (a0 : ByteArray) (a1 : ByteArray) (r : Int) (w : World) (h : stringslite_Index.f a0 a1 = some r) :
    Calls Try.prog 60 #[.string a0, .string a1] w fun e w' => e = .returned (.int .i64 r) ∧ Drawn0 w w' := Go.Proofs.Ytnccbebjligpdaa.Index.index_calls a0 a1 r w h

/-! ### strings_Index: function 53 -/
def strings_Index.f (a0 : ByteArray) (a1 : ByteArray) : Option (Int) := (stringslite_Index.f a0 a1).bind fun t101 => (some t101)
set_option maxHeartbeats 8000000 in
set_option maxRecDepth 100000 in
theorem strings_Index.calls (a0 : ByteArray) (a1 : ByteArray) (r : Int) (w : World) (h : strings_Index.f a0 a1 = some r) :
    Calls Try.prog 53 #[.string a0, .string a1] w fun e w' => e = .returned (.int .i64 r) ∧ Drawn0 w w' := by
  have H : ((stringslite_Index.f a0 a1).bind fun t101 => (some t101)) = some r := h
  clear h
  replace H := Option.bind_eq_some_iff.mp H
  obtain ⟨t101, A30, H⟩ := H
  replace H : (some t101) = some r := H
  have A3 := Aside0.mk A30
  clear A30
  obtain rfl := Option.some.inj H
  go_enter Try.func53, Try.ntmps53
  go_wp2_with (first | ((with_reducible refine gate_callee (f := 60) rfl ?_); refine goesL_ (some 7) rfl rfl Try.func60 (by kernel_rfl) rfl #[.string a0, .string a1] rfl (by (try simp only [List.map_toArray, List.map_cons, List.map_nil]); first | done | rfl | (simp only [List.length_drop, List.length_take]; rfl)) ?_; (with_reducible refine (stringslite_Index.calls a0 a1 t101 _ A3.out).mono ?_); rintro e w' ⟨rfl, ⟨nd, rfl⟩⟩; refine ⟨_, rfl, ?_⟩))
  go_ret
  exact ⟨by first | rfl | (simp; done) | (simp [*]; done), by repeat (first | exact Drawn0.refl _ | apply Drawn0.step)⟩

/-! ### strings_Contains: function 35 -/
def strings_Contains.f (a0 : ByteArray) (a1 : ByteArray) : Option (Bool) := (strings_Index.f a0 a1).bind fun t102 => (some (decide (t102 ≥ 0)))
set_option maxHeartbeats 8000000 in
set_option maxRecDepth 100000 in
theorem strings_Contains.calls (a0 : ByteArray) (a1 : ByteArray) (r : Bool) (w : World) (h : strings_Contains.f a0 a1 = some r) :
    Calls Try.prog 35 #[.string a0, .string a1] w fun e w' => e = .returned (.bool r) ∧ Drawn0 w w' := by
  have H : ((strings_Index.f a0 a1).bind fun t102 => (some (decide (t102 ≥ 0)))) = some r := h
  clear h
  replace H := Option.bind_eq_some_iff.mp H
  obtain ⟨t102, A30, H⟩ := H
  replace H : (some (decide (t102 ≥ 0))) = some r := H
  have A3 := Aside0.mk A30
  clear A30
  obtain rfl := Option.some.inj H
  go_enter Try.func35, Try.ntmps35
  go_wp2_with (first | ((with_reducible refine gate_callee (f := 53) rfl ?_); refine goesL_ (some 7) rfl rfl Try.func53 (by kernel_rfl) rfl #[.string a0, .string a1] rfl (by (try simp only [List.map_toArray, List.map_cons, List.map_nil]); first | done | rfl | (simp only [List.length_drop, List.length_take]; rfl)) ?_; (with_reducible refine (strings_Index.calls a0 a1 t102 _ A3.out).mono ?_); rintro e w' ⟨rfl, ⟨nd, rfl⟩⟩; refine ⟨_, rfl, ?_⟩))
  go_ret
  exact ⟨by first | rfl | (simp; done) | (simp [*]; done), by repeat (first | exact Drawn0.refl _ | apply Drawn0.step)⟩

/-! ### entry_Named: function 18 -/
def entry_Named.f (a0 : ByteArray) : Option (Bool) := if a0.toList = ([] : List UInt8) then (some false) else (if (a0.size : Int) ≤ 17 then (if a0.toList = ([46] : List UInt8) then (some false) else (if a0.toList = ([46, 46] : List UInt8) then (some false) else ((strings_Contains.f a0 (⟨#[47]⟩ : ByteArray)).bind fun t103 => (if t103 = true then (some false) else ((strings_Contains.f a0 (⟨#[0]⟩ : ByteArray)).bind fun t104 => (some (!t104))))))) else (some false))
set_option maxHeartbeats 8000000 in
set_option maxRecDepth 100000 in
theorem entry_Named.calls (a0 : ByteArray) (r : Bool) (w : World) (h : entry_Named.f a0 = some r) :
    Calls Try.prog 18 #[.string a0] w fun e w' => e = .returned (.bool r) ∧ Drawn0 w w' := by
  have H : (if a0.toList = ([] : List UInt8) then (some false) else (if (a0.size : Int) ≤ 17 then (if a0.toList = ([46] : List UInt8) then (some false) else (if a0.toList = ([46, 46] : List UInt8) then (some false) else ((strings_Contains.f a0 (⟨#[47]⟩ : ByteArray)).bind fun t103 => (if t103 = true then (some false) else ((strings_Contains.f a0 (⟨#[0]⟩ : ByteArray)).bind fun t104 => (some (!t104))))))) else (some false))) = some r := h
  clear h
  by_cases c2 : a0.toList = ([] : List UInt8)
  · rw [if_pos c2] at H
    have c2b0 : (a0.toList == ([] : List UInt8)) = true := beq_iff_eq.mpr c2
    have c2b1 : (a0.toList != ([] : List UInt8)) = false := bne_eq_false_iff_eq.mpr c2
    clear c2
    obtain rfl := Option.some.inj H
    go_enter Try.func18, Try.ntmps18
    go_wp2
    go_ret
    exact ⟨by first | rfl | (simp; done) | (simp [*]; done), by repeat (first | exact Drawn0.refl _ | apply Drawn0.step)⟩
  · rw [if_neg c2] at H
    have c2b0 : (a0.toList == ([] : List UInt8)) = false := beq_eq_false_iff_ne.mpr c2
    have c2b1 : (a0.toList != ([] : List UInt8)) = true := bne_iff_ne.mpr c2
    by_cases c3 : (a0.size : Int) ≤ 17
    · rw [if_pos c3] at H
      have c3b0 : decide ((a0.size : Int) ≤ 17) = true := decide_eq_true c3
      have c3b1 : decide (a0.size ≤ 17) = true := decide_eq_true (by omega)
      clear c3
      by_cases c4 : a0.toList = ([46] : List UInt8)
      · rw [if_pos c4] at H
        have c4b0 : (a0.toList == ([46] : List UInt8)) = true := beq_iff_eq.mpr c4
        have c4b1 : (a0.toList != ([46] : List UInt8)) = false := bne_eq_false_iff_eq.mpr c4
        clear c4
        obtain rfl := Option.some.inj H
        go_enter Try.func18, Try.ntmps18
        go_wp2
        go_ret
        exact ⟨by first | rfl | (simp; done) | (simp [*]; done), by repeat (first | exact Drawn0.refl _ | apply Drawn0.step)⟩
      · rw [if_neg c4] at H
        have c4b0 : (a0.toList == ([46] : List UInt8)) = false := beq_eq_false_iff_ne.mpr c4
        have c4b1 : (a0.toList != ([46] : List UInt8)) = true := bne_iff_ne.mpr c4
        by_cases c5 : a0.toList = ([46, 46] : List UInt8)
        · rw [if_pos c5] at H
          have c5b0 : (a0.toList == ([46, 46] : List UInt8)) = true := beq_iff_eq.mpr c5
          have c5b1 : (a0.toList != ([46, 46] : List UInt8)) = false := bne_eq_false_iff_eq.mpr c5
          clear c5
          obtain rfl := Option.some.inj H
          go_enter Try.func18, Try.ntmps18
          go_wp2
          go_ret
          exact ⟨by first | rfl | (simp; done) | (simp [*]; done), by repeat (first | exact Drawn0.refl _ | apply Drawn0.step)⟩
        · rw [if_neg c5] at H
          have c5b0 : (a0.toList == ([46, 46] : List UInt8)) = false := beq_eq_false_iff_ne.mpr c5
          have c5b1 : (a0.toList != ([46, 46] : List UInt8)) = true := bne_iff_ne.mpr c5
          replace H := Option.bind_eq_some_iff.mp H
          obtain ⟨t103, A60, H⟩ := H
          replace H : (if t103 = true then (some false) else ((strings_Contains.f a0 (⟨#[0]⟩ : ByteArray)).bind fun t104 => (some (!t104)))) = some r := H
          have A6 := Aside0.mk A60
          clear A60
          by_cases c7 : t103 = true
          · subst c7
            have H1 : (some false) = some r := by rw [if_pos rfl] at H; exact H
            clear H
            have H := H1
            clear H1
            obtain rfl := Option.some.inj H
            go_enter Try.func18, Try.ntmps18
            go_wp2_with (first | (go_at_call 35; (with_reducible refine (strings_Contains.calls a0 (⟨#[47]⟩ : ByteArray) true _ A6.out).mono ?_); rintro e w' ⟨rfl, ⟨nd, rfl⟩⟩))
            go_ret
            exact ⟨by first | rfl | (simp; done) | (simp [*]; done), by repeat (first | exact Drawn0.refl _ | apply Drawn0.step)⟩
          · replace c7 := Bool.eq_false_iff.mpr c7
            subst c7
            have H1 : ((strings_Contains.f a0 (⟨#[0]⟩ : ByteArray)).bind fun t104 => (some (!t104))) = some r := by rw [if_neg (show ¬ (false = true) by decide)] at H; exact H
            clear H
            have H := H1
            clear H1
            replace H := Option.bind_eq_some_iff.mp H
            obtain ⟨t104, A80, H⟩ := H
            replace H : (some (!t104)) = some r := H
            have A8 := Aside0.mk A80
            clear A80
            obtain rfl := Option.some.inj H
            go_enter Try.func18, Try.ntmps18
            go_wp2_with (first | (go_at_call 35; (with_reducible refine (strings_Contains.calls a0 (⟨#[47]⟩ : ByteArray) false _ A6.out).mono ?_); rintro e w' ⟨rfl, ⟨nd, rfl⟩⟩) | (go_at_call 35; (with_reducible refine (strings_Contains.calls a0 (⟨#[0]⟩ : ByteArray) t104 _ A8.out).mono ?_); rintro e w' ⟨rfl, ⟨nd, rfl⟩⟩))
            go_ret
            exact ⟨by first | rfl | (simp; done) | (simp [*]; done), by repeat (first | exact Drawn0.refl _ | apply Drawn0.step)⟩
    · rw [if_neg c3] at H
      have c3b0 : decide ((a0.size : Int) ≤ 17) = false := decide_eq_false c3
      have c3b1 : decide (a0.size ≤ 17) = false := decide_eq_false (by omega)
      clear c3
      obtain rfl := Option.some.inj H
      go_enter Try.func18, Try.ntmps18
      go_wp2
      go_ret
      exact ⟨by first | rfl | (simp; done) | (simp [*]; done), by repeat (first | exact Drawn0.refl _ | apply Drawn0.step)⟩

/-! ### entry_right: function 44 -/
def entry_right.f (a0_0 : Int) (a0_1 : ByteArray) : Option (Bool) := if a0_0 ≥ 0 then (if a0_0 < 32 then ((entry_Named.f a0_1).bind fun t106 => (some t106)) else (some false)) else (some false)
set_option maxHeartbeats 8000000 in
set_option maxRecDepth 100000 in
theorem entry_right.calls (a0_0 : Int) (a0_1 : ByteArray) (r : Bool) (w : World) (h : entry_right.f a0_0 a0_1 = some r) :
    Calls Try.prog 44 #[.agg #[.int .i64 a0_0, .string a0_1]] w fun e w' => e = .returned (.bool r) ∧ Below w.heap.size w w' := by
  have hu41 := Try.underlying41
  have HB := Aside0.mk (Below.refl w.heap.size w)
  have H : (if a0_0 ≥ 0 then (if a0_0 < 32 then ((entry_Named.f a0_1).bind fun t106 => (some t106)) else (some false)) else (some false)) = some r := h
  clear h
  by_cases c2 : a0_0 ≥ 0
  · rw [if_pos c2] at H
    have c2b0 : decide (0 ≤ a0_0) = true := decide_eq_true c2
    clear c2
    by_cases c3 : a0_0 < 32
    · rw [if_pos c3] at H
      have c3b0 : decide (a0_0 < 32) = true := decide_eq_true c3
      clear c3
      replace H := Option.bind_eq_some_iff.mp H
      obtain ⟨t106, A40, H⟩ := H
      replace H : (some t106) = some r := H
      have A4 := Aside0.mk A40
      clear A40
      obtain rfl := Option.some.inj H
      go_enter Try.func44, Try.ntmps44
      go_wp2_with (first | ((with_reducible refine gate_dst (N := 1) rfl ?_); refine box_event ?hg (N := 1) ?hd (cs := #[.int .i64 a0_0, .string a0_1]) (t := 41) ?hr ?_; (case hd => rfl); (case hg => rfl); (case hr => first | (go_simp; done) | (go_simp; rfl)); intro gb105 hg w5 hbox hb; have n0_ := Aside0.mk (below_step (by repeat (first | (with_reducible first | exact HB.out | apply zB | apply zP | apply zE) | exact HB.out)) hb); have n1_ := Aside0.mk (hbox); have n2_ := Aside0.mk ((by rw [hg]; exact (below_size (by repeat (first | (with_reducible first | exact HB.out | apply zB | apply zP | apply zE) | exact HB.out))) : w.heap.size ≤ gb105)); have n3_ := Aside0.mk ((by rw [hg]; exact (below_size (by repeat (first | (with_reducible first | exact HB.out | apply zB | apply zP | apply zE) | exact HB.out))) : w.heap.size ≤ gb105)); clear HB; have HB := n0_; have BK105 := n1_; have GW105 := n2_; have GE105 := n3_; clear n0_ n1_ n2_ n3_; clear hb hbox hg; have hcz6_0 : w5.cell? ⟨gb105, 0, none⟩ = some (.int .i64 a0_0) := (blk_cell BK105.out 0).trans rfl; have hcz6_1 : w5.cell? ⟨gb105, 1, none⟩ = some (.string a0_1) := (blk_cell BK105.out 1).trans rfl; have hfz6_0 := blk_frozen BK105.out 0; have hfz6_1 := blk_frozen BK105.out 1) | (go_at_call 18; (with_reducible refine (entry_Named.calls a0_1 t106 _ A4.out).mono ?_); rintro e w' ⟨rfl, ⟨nd, rfl⟩⟩))
      go_ret
      exact ⟨by first | rfl | (simp [errW_none, errW_some] <;> rfl) | (simp [*, errW_none, errW_some] <;> rfl), by repeat (first | (with_reducible first | exact HB.out | apply zB | apply zP | apply zE | refine zS ?_ GE105.out) | exact HB.out)⟩
    · rw [if_neg c3] at H
      have c3b0 : decide (a0_0 < 32) = false := decide_eq_false c3
      clear c3
      obtain rfl := Option.some.inj H
      go_enter Try.func44, Try.ntmps44
      go_wp2_with (first | ((with_reducible refine gate_dst (N := 1) rfl ?_); refine box_event ?hg (N := 1) ?hd (cs := #[.int .i64 a0_0, .string a0_1]) (t := 41) ?hr ?_; (case hd => rfl); (case hg => rfl); (case hr => first | (go_simp; done) | (go_simp; rfl)); intro gb105 hg w7 hbox hb; have n0_ := Aside0.mk (below_step (by repeat (first | (with_reducible first | exact HB.out | apply zB | apply zP | apply zE) | exact HB.out)) hb); have n1_ := Aside0.mk (hbox); have n2_ := Aside0.mk ((by rw [hg]; exact (below_size (by repeat (first | (with_reducible first | exact HB.out | apply zB | apply zP | apply zE) | exact HB.out))) : w.heap.size ≤ gb105)); have n3_ := Aside0.mk ((by rw [hg]; exact (below_size (by repeat (first | (with_reducible first | exact HB.out | apply zB | apply zP | apply zE) | exact HB.out))) : w.heap.size ≤ gb105)); clear HB; have HB := n0_; have BK105 := n1_; have GW105 := n2_; have GE105 := n3_; clear n0_ n1_ n2_ n3_; clear hb hbox hg; have hcz8_0 : w7.cell? ⟨gb105, 0, none⟩ = some (.int .i64 a0_0) := (blk_cell BK105.out 0).trans rfl; have hcz8_1 : w7.cell? ⟨gb105, 1, none⟩ = some (.string a0_1) := (blk_cell BK105.out 1).trans rfl; have hfz8_0 := blk_frozen BK105.out 0; have hfz8_1 := blk_frozen BK105.out 1))
      go_ret
      exact ⟨by first | rfl | (simp [errW_none, errW_some] <;> rfl) | (simp [*, errW_none, errW_some] <;> rfl), by repeat (first | (with_reducible first | exact HB.out | apply zB | apply zP | apply zE | refine zS ?_ GE105.out) | exact HB.out)⟩
  · rw [if_neg c2] at H
    have c2b0 : decide (0 ≤ a0_0) = false := decide_eq_false c2
    clear c2
    obtain rfl := Option.some.inj H
    go_enter Try.func44, Try.ntmps44
    go_wp2_with (first | ((with_reducible refine gate_dst (N := 1) rfl ?_); refine box_event ?hg (N := 1) ?hd (cs := #[.int .i64 a0_0, .string a0_1]) (t := 41) ?hr ?_; (case hd => rfl); (case hg => rfl); (case hr => first | (go_simp; done) | (go_simp; rfl)); intro gb105 hg w9 hbox hb; have n0_ := Aside0.mk (below_step (by repeat (first | (with_reducible first | exact HB.out | apply zB | apply zP | apply zE) | exact HB.out)) hb); have n1_ := Aside0.mk (hbox); have n2_ := Aside0.mk ((by rw [hg]; exact (below_size (by repeat (first | (with_reducible first | exact HB.out | apply zB | apply zP | apply zE) | exact HB.out))) : w.heap.size ≤ gb105)); have n3_ := Aside0.mk ((by rw [hg]; exact (below_size (by repeat (first | (with_reducible first | exact HB.out | apply zB | apply zP | apply zE) | exact HB.out))) : w.heap.size ≤ gb105)); clear HB; have HB := n0_; have BK105 := n1_; have GW105 := n2_; have GE105 := n3_; clear n0_ n1_ n2_ n3_; clear hb hbox hg; have hcz10_0 : w9.cell? ⟨gb105, 0, none⟩ = some (.int .i64 a0_0) := (blk_cell BK105.out 0).trans rfl; have hcz10_1 : w9.cell? ⟨gb105, 1, none⟩ = some (.string a0_1) := (blk_cell BK105.out 1).trans rfl; have hfz10_0 := blk_frozen BK105.out 0; have hfz10_1 := blk_frozen BK105.out 1))
    go_ret
    exact ⟨by first | rfl | (simp [errW_none, errW_some] <;> rfl) | (simp [*, errW_none, errW_some] <;> rfl), by repeat (first | (with_reducible first | exact HB.out | apply zB | apply zP | apply zE | refine zS ?_ GE105.out) | exact HB.out)⟩

/-! ### entry_sound: function 26 -/
def entry_sound.key (s : ByteArray) : Lit := .string s.data.toList
def entry_sound.D (ns : List ByteArray) : DataW Unit := Go.Maps.setOf (.agg []) (ns.map entry_sound.key)
theorem entry_sound.D_nil : entry_sound.D [] = .map [] := rfl
theorem entry_sound.D_snoc (ns : List ByteArray) (s : ByteArray) : entry_sound.D (ns ++ [s]) = (entry_sound.D ns).put (entry_sound.key s) (.agg []) := by
  unfold entry_sound.D
  rw [List.map_append]
  exact Go.Maps.setOf_snoc _ _ _
/-- The names of the first blocks. -/
def entry_sound.pre (l : List (List S41)) (k : Nat) : List ByteArray := ((l.take k).flatten).map (·.f1)
theorem entry_sound.pre_succ (l : List (List S41)) (k : Nat) (h : k < l.length) : entry_sound.pre l (k + 1) = entry_sound.pre l k ++ (l[k].map (·.f1)) := by
  unfold entry_sound.pre
  rw [List.take_succ_eq_append_getElem h, List.flatten_append, List.map_append]
  simp
def entry_sound.rightB (x : S41) : Bool := (entry_right.f x.f0 x.f1).getD false
theorem entry_Named.total (s : ByteArray) : entry_Named.f s = some ((entry_Named.f s).getD false) := by
  have hc : ∀ c : UInt8, ∃ b, strings_Contains.f s (⟨#[c]⟩ : ByteArray) = some b := fun c => ⟨_, rfl⟩
  unfold entry_Named.f
  obtain ⟨b1, e1⟩ := hc 47
  obtain ⟨b2, e2⟩ := hc 0
  rw [e1, e2]
  cases b1 <;> (repeat' split) <;> rfl
theorem entry_sound.right_some (x : S41) : entry_right.f x.f0 x.f1 = some (entry_sound.rightB x) := by
  unfold entry_sound.rightB entry_right.f
  rw [entry_Named.total]
  (repeat' split) <;> rfl
def entry_sound.okB (b : List S41) : Bool := decide (b.length ≤ 3) && b.all entry_sound.rightB
def entry_sound.f (l0 : List (List S41)) : Option Bool := if l0.length ≤ 1000 ∧ ∀ b ∈ l0, ∀ x ∈ b, x.f1.size ≤ maxLen then some (l0.all entry_sound.okB && ((Go.Maps.size (entry_sound.D (entry_sound.pre l0 l0.length)) : Int) == ((entry_sound.pre l0 l0.length).length : Int))) else none
def entry_sound.rdL (xs : List (List S41)) (i : Int) : List S41 := xs.getD i.toNat ([] : List S41)
theorem entry_sound.atL {w : World} {A : Option Addr} {n : Nat} {xs : List (List S41)} (h : Kd.C (Kd.slice 41 k41) w A n xs) (i : Int) (h0 : 0 ≤ i) (h1 : i < n) : ∃ ad A0 c0, A = some ad ∧ w.cell? (ad.add i.toNat) = some (.slice A0 (entry_sound.rdL xs i).length c0) ∧ (entry_sound.rdL xs i).length ≤ c0 ∧ k41.C w A0 (entry_sound.rdL xs i).length (entry_sound.rdL xs i) := by
  obtain ⟨ad, c, e, _, hK, hc0⟩ := Kd.C_get h ([] : List S41) i h0 h1
  have hc : ∀ j u, c[j]? = some u → w.cell? (ad.add (i.toNat * 1 + j)) = some u := hc0
  obtain ⟨A0, c0, rfl, l0, g0⟩ := hK
  exact ⟨ad, A0, c0, e, by have hq := hc 0 _ rfl; rwa [Nat.mul_one, Nat.add_zero] at hq, l0, g0⟩
theorem entry_sound.getD_nat (l : List (List S41)) (k : Nat) (h : k < l.length) : entry_sound.rdL l (k : Int) = l[k] := by
  show l.getD (k : Int).toNat _ = _
  rw [Int.toNat_natCast, List.getD_eq_getElem?_getD, List.getElem?_eq_getElem h]; rfl
theorem entry_sound.getT_nat (l : List S41) (k : Nat) (h : k < l.length) : rd_T41 l (k : Int) = l[k] := by
  show l.getD (k : Int).toNat _ = _
  rw [Int.toNat_natCast, List.getD_eq_getElem?_getD, List.getElem?_eq_getElem h]; rfl
theorem entry_sound.pre_len (l : List (List S41)) : ∀ k, k ≤ l.length → (∀ b ∈ l.take k, b.length ≤ 3) → (entry_sound.pre l k).length ≤ 3 * k
  | 0, _, _ => Nat.le_refl _
  | k + 1, hk, h => by
    have hkl : k < l.length := hk
    rw [List.take_succ_eq_append_getElem hkl] at h
    have h1 := entry_sound.pre_len l k (by omega) (fun b hb => h b (List.mem_append_left _ hb))
    have h2 := h l[k] (List.mem_append_right _ (List.mem_singleton.2 rfl))
    rw [entry_sound.pre_succ l k hkl, List.length_append, List.length_map]
    omega
theorem entry_sound.owns_below {P : Program} {k : TypeId} {R : Value → Option (DataW Unit × List MemPlace)} {w w' : World} {b n : Nat} {D : DataW Unit} (h : w.ownsMap P k R b n D) (hb : Below w.heap.size w w') : w'.ownsMap P k R b n D := by
  have hl := h.lt
  obtain ⟨es, clock, hbk, r⟩ := h
  exact ⟨es, clock, (hb.block _ hl).trans hbk, r⟩
set_option maxRecDepth 100000 in
set_option maxHeartbeats 8000000 in
theorem entry_sound.calls (A0 : Option Addr) (c0 : Nat) (l0 : List (List S41)) (r : Bool) (w : World) (hr0 : Kd.C (Kd.slice 41 k41) w A0 l0.length l0) (hc0 : l0.length ≤ c0) (h : entry_sound.f l0 = some r) :
    Calls Try.prog 26 #[.slice A0 l0.length c0] w fun e w' => e = .returned (.bool r) ∧ Below w.heap.size w w' := by
  unfold entry_sound.f at h
  split at h
  case isFalse => cases h
  rename_i hbnd
  obtain ⟨h1000, hsize⟩ := hbnd
  have HR := Aside0.mk hr0
  have HZ := Aside0.mk hsize
  have HF := Aside0.mk h
  clear hr0 hsize h
  obtain ⟨n, hn⟩ : ∃ n, l0.length = n := ⟨_, rfl⟩
  have HN := Aside0.mk hn
  rw [hn] at h1000 hc0 ⊢
  clear hn
  have hmm := @run_makeMap Try.prog
  go_enter Try.func26, Try.ntmps26
  go_wp2
  go_loopg [4, 12] n (fun gg s4 i wr => ∃ k : Nat, k ≤ n ∧ n - k ≤ gg ∧ s4 = .int .i64 ((entry_sound.pre l0 k).length : Int) ∧ i = .int .i64 k ∧ Aside0 (wr.ownsMap Try.prog 9 (unitElem (H := Unit)) w.heap.size (entry_sound.pre l0 k).length (entry_sound.D (entry_sound.pre l0 k))) ∧ Aside0 (Below w.heap.size w wr) ∧ Aside0 (∀ b ∈ l0.take k, entry_sound.okB b = true))
  case atStart => exact ⟨0, Nat.zero_le _, by omega, rfl, rfl, ⟨World.ownsMap_made _ _ _ _⟩, ⟨(Below.refl _ _).alloc (Nat.le_refl _) _⟩, ⟨fun b hb => by simp at hb⟩⟩
  case round =>
    obtain ⟨k, hk, hgo, rfl, rfl, HO, HB, HP⟩ := hrel
    have hpl : (entry_sound.pre l0 k).length ≤ 3 * k := entry_sound.pre_len l0 k (by have := HN.out; omega) (fun b hb => by have := HP.out b hb; simp only [entry_sound.okB, Bool.and_eq_true, decide_eq_true_eq] at this; exact this.1)
    by_cases hlt : k < n
    · have hkl : k < l0.length := by have := HN.out; omega
      obtain ⟨ad, Ab, cb, hA, hcell, hlc, hCb⟩ := entry_sound.atL HR.out (k : Int) (by omega) (by omega)
      rw [entry_sound.getD_nat l0 k hkl] at hcell hlc hCb
      subst hA
      have hc1 : wr.cell? (ad.add k) = some (.slice Ab l0[k].length cb) := (HB.out.cell (World.block_lt_of_cell? w _ hcell)).trans hcell
      obtain ⟨b, hb⟩ : ∃ b, l0[k] = b := ⟨_, rfl⟩
      have hmem : b ∈ l0 := hb ▸ List.getElem_mem hkl
      have hps := entry_sound.pre_succ l0 k hkl
      have htk : l0.take (k + 1) = l0.take k ++ [b] := by rw [List.take_succ_eq_append_getElem hkl, hb]
      rw [hb] at hc1 hlc hCb hps
      have HCB := Aside0.mk hCb
      have HPS := Aside0.mk hps
      have HTK := Aside0.mk htk
      have HMEM := Aside0.mk hmem
      obtain ⟨ns, hns⟩ : ∃ ns, entry_sound.pre l0 k = ns := ⟨_, rfl⟩
      rw [hns] at hpl HO HPS ⊢
      have hltz : (k : Int) < (n : Int) := by omega
      clear hcell hCb hps htk hmem hb hns hkl
      by_cases h3 : 3 < b.length
      · have d1 : decide (3 < (b.length : Int)) = true := decide_eq_true (by omega)
        have d2 : decide (3 < b.length) = true := decide_eq_true h3
        have hrf : r = false := by
          have h1 := HF.out
          have h2 : l0.all entry_sound.okB = false := by
            rw [List.all_eq_false]
            exact ⟨b, HMEM.out, by unfold entry_sound.okB; rw [decide_eq_false (by omega)]; simp⟩
          rw [h2, Bool.false_and] at h1
          exact (Option.some.inj h1).symm
        subst hrf
        clear HF h3
        go_wp2
        go_ret
        exact ⟨rfl, HB.out⟩
      · have d1 : decide (3 < (b.length : Int)) = false := decide_eq_false (by omega)
        have d2 : decide (3 < b.length) = false := decide_eq_false h3
        go_wp2
        go_loopg [4, 21] b.length (fun gg s4 j wr => ∃ q : Nat, q ≤ b.length ∧ b.length - q ≤ gg ∧ s4 = .int .i64 ((ns.length + q : Nat) : Int) ∧ j = .int .i64 q ∧ Aside0 (wr.ownsMap Try.prog 9 (unitElem (H := Unit)) w.heap.size (ns.length + q) (entry_sound.D (ns ++ (b.take q).map (·.f1)))) ∧ Aside0 (Below w.heap.size w wr) ∧ Aside0 (∀ x ∈ b.take q, entry_sound.rightB x = true))
        case atStart => exact ⟨0, Nat.zero_le _, by omega, rfl, rfl, ⟨by rw [List.take_zero, List.map_nil, List.append_nil]; exact HO.out⟩, HB, ⟨fun x hx => by simp at hx⟩⟩
        case round =>
          obtain ⟨q, hq, hgi, rfl, rfl, HO, HB, HQ⟩ := hrel
          by_cases hlq : q < b.length
          · obtain ⟨ad2, hA2, hx0, hx1⟩ := at_T41 HCB.out (q : Int) (by omega) (by omega)
            rw [entry_sound.getT_nat b q hlq] at hx0 hx1
            subst hA2
            rw [Int.toNat_natCast] at hx0 hx1
            have hy0 := (HB.out.cell (World.block_lt_of_cell? w _ hx0)).trans hx0
            have hy1 := (HB.out.cell (World.block_lt_of_cell? w _ hx1)).trans hx1
            have hmemx : b[q] ∈ b := List.getElem_mem hlq
            have htq : b.take (q + 1) = b.take q ++ [b[q]] := List.take_succ_eq_append_getElem hlq
            obtain ⟨x, hxe⟩ : ∃ x, b[q] = x := ⟨_, rfl⟩
            rw [hxe] at hy0 hy1 hmemx htq
            have HMX := Aside0.mk hmemx
            have HTQ := Aside0.mk htq
            have hrs := Aside0.mk (entry_sound.right_some x)
            have hltq : (q : Int) < (b.length : Int) := by omega
            clear hx0 hx1 hmemx htq hxe
            cases hrb : entry_sound.rightB x with
            | false =>
              have hrf : r = false := by
                have h1 := HF.out
                have h2 : l0.all entry_sound.okB = false := by
                  rw [List.all_eq_false]
                  refine ⟨b, HMEM.out, ?_⟩
                  have h5 : b.all entry_sound.rightB = false := by
                    rw [List.all_eq_false]
                    exact ⟨x, HMX.out, by rw [hrb]; decide⟩
                  unfold entry_sound.okB
                  rw [h5, Bool.and_false]; decide
                rw [h2, Bool.false_and] at h1
                exact (Option.some.inj h1).symm
              subst hrf
              have HBA := Aside0.mk (zB HB.out (.cells #[.int .i64 x.f0, .string x.f1] 41))
              clear HF
              go_wp2_with fail
              ((with_reducible refine (entry_right.calls x.f0 x.f1 false _ (by rw [hrs.out, hrb])).mono ?_); rintro e w2 ⟨rfl, hb2⟩)
              have HB2 := Aside0.mk (HBA.out.trans (hb2.mono HBA.out.size))
              clear hb2
              go_wp2
              go_ret
              exact ⟨rfl, HB2.out⟩
            | true =>
              have HBA := Aside0.mk (zB HB.out (.cells #[.int .i64 x.f0, .string x.f1] 41))
              have HOA := Aside0.mk (HO.out.alloc (.cells #[.int .i64 x.f0, .string x.f1] 41))
              have HBX : Aside0 ((wr.alloc (.cells #[.int .i64 x.f0, .string x.f1] 41)).heap[wr.heap.size]? = some (.cells #[.int .i64 x.f0, .string x.f1] 41 (0, 0))) := ⟨Array.getElem?_push_size⟩
              have HSZ : Aside0 ((wr.alloc (.cells #[.int .i64 x.f0, .string x.f1] 41)).heap.size = wr.heap.size + 1) := ⟨Array.size_push _⟩
              have hkey := Go.WideMaps.keyOf_string_mk (P := Try.prog) Try.underlying9 (HZ.out b HMEM.out x HMX.out)
              have hcnt : ns.length + q < maxLen := by have : maxLen = 9223372036854775807 := rfl; omega
              go_wp2_with fail
              ((with_reducible refine (entry_right.calls x.f0 x.f1 true _ (by rw [hrs.out, hrb])).mono ?_); rintro e w2 ⟨rfl, hb2⟩)
              have HB2 := Aside0.mk (HBA.out.trans (hb2.mono HBA.out.size))
              have HO2 := Aside0.mk (entry_sound.owns_below HOA.out hb2)
              have hbk : w2.heap[wr.heap.size]? = some (.cells #[.int .i64 x.f0, .string x.f1] 41 (0, 0)) := (hb2.block _ (by rw [HSZ.out]; exact Nat.lt_succ_self _)).trans HBX.out
              have hn1 : w2.cell? ⟨wr.heap.size, 1, none⟩ = some (.string x.f1) := blk_cell hbk 1
              clear hb2 hbk hy0 hy1
              go_wp2_with (first | (at_mapUpdate; refine wpList_mapUpdate_own _ rfl _ _ _ 64 rfl 9 66 (Go.Maps.string_keyed Try.underlying9) Try.underlying64 (unitElem (H := Unit)) w.heap.size (ns.length + q) _ rfl HO2.out hcnt _ _ _ rfl rfl hkey _ [] unitElem_mk ?_; intro w3 hown3 hgrow3))
              have HO3 := Aside0.mk hown3
              have HB3 := Aside0.mk (HB2.out.grown hgrow3 HB2.out.size (fun j hj => by cases hj; exact Nat.le_refl _))
              clear hown3 hgrow3
              go_roundg (b.length - (q + 1))
              case measure => omega
              case rel =>
                refine ⟨q + 1, by omega, by omega, by go_num, by go_num, ⟨?_⟩, HB3, ⟨fun y hy => ?_⟩⟩
                · rw [HTQ.out, List.map_append, ← List.append_assoc]
                  show World.ownsMap _ _ _ _ _ _ (entry_sound.D ((ns ++ (b.take q).map (·.f1)) ++ [x.f1]))
                  rw [entry_sound.D_snoc]
                  exact HO3.out
                · rw [HTQ.out] at hy
                  rcases List.mem_append.1 hy with hy | hy
                  · exact HQ.out y hy
                  · rw [List.mem_singleton.1 hy]; exact hrb
          · have hltq : ¬ (q : Int) < (b.length : Int) := by omega
            obtain rfl : q = b.length := by omega
            go_wp2
            go_roundg (n - (k + 1))
            case measure => omega
            case rel =>
              have hl2 : (entry_sound.pre l0 (k + 1)).length = ns.length + b.length := by rw [HPS.out, List.length_append, List.length_map]
              refine ⟨k + 1, by omega, by omega, by rw [hl2, Int.natCast_add], by go_num, ⟨?_⟩, HB, ⟨fun y hy => ?_⟩⟩
              · rw [hl2, HPS.out]
                have h6 := HO.out
                rw [List.take_of_length_le (Nat.le_refl _)] at h6
                exact h6
              · rw [HTK.out] at hy
                rcases List.mem_append.1 hy with hy | hy
                · exact HP.out y hy
                · rw [List.mem_singleton.1 hy]
                  have h7 := HQ.out
                  rw [List.take_of_length_le (Nat.le_refl _)] at h7
                  unfold entry_sound.okB
                  rw [decide_eq_true (by omega), Bool.true_and, List.all_eq_true]
                  exact h7
    · have hltz : ¬ (k : Int) < (n : Int) := by omega
      obtain rfl : k = n := by omega
      have hrt : r = ((Go.Maps.size (entry_sound.D (entry_sound.pre l0 k)) : Int) == ((entry_sound.pre l0 k).length : Int)) := by
        have h1 := HF.out
        have h2 := HP.out
        rw [List.take_of_length_le (by have := HN.out; omega)] at h2
        rw [show l0.all entry_sound.okB = true from List.all_eq_true.2 h2, Bool.true_and, HN.out] at h1
        exact (Option.some.inj h1).symm
      subst hrt
      clear HF
      go_wp2_with (first | (at_len; refine wpList_len_own _ rfl _ 64 rfl 9 66 Try.underlying64 (unitElem (H := Unit)) w.heap.size _ _ rfl HO.out ?_))
      go_ret
      exact ⟨rfl, HB.out⟩

end Go.Proofs.Ytnccbebjligpdaa.PAll
