-- Printed out of the translation by a program; functions that were proved by hand stand among them. Lean checks it.
import Derived.Test.YtbgnmiicbaecfaaPAllx0
import Derived.Test.YtbgnmiicbaecfaaPAllx5
import Derived.Test.YtbgnmiicbaecfaaPAllx6
namespace Go.Proofs.Ytbgnmiicbaecfaa.PAll
open Go.RowKit Go.Proofs.YtbgnmiicbaecfaaW.PrintWords Go.Proofs.YtbgnmiicbaecfaaW.PrintLast Go.Proofs.YtbgnmiicbaecfaaW.PrintMore
open Go.Proofs.YtbgnmiicbaecfaaW.PrintWords renaming blk_drewN → zN, blk_drew → zD, blk_alloc → zA, below_alloc → zB, pw_below_drewN → zP, below_drew1 → zE, below_set → zS
attribute [local go_sem] max2_int min2_int max_two min_two max_three min_three max_four min_four   -- for this text's walks alone
set_option linter.unusedVariables false
set_option linter.unusedSimpArgs false

/-! ### drydockref08_Decode: function 31 -/
def drydockref08_Decode.f (k : Nat) (l0 : List Int) : Option (Int × Int × Int × Int × Int × Int) := if (l0.length : Int) = 64 then ((drydockref04_Num.f k l0 4 2).bind fun t180 => (if 6 < (l0.length : Int) then (if 7 < (l0.length : Int) then (if 8 < (l0.length : Int) then ((drydockref04_Num.f k l0 10 2).bind fun t184 => ((drydockref08_Encode.f k t180 (wrap64 (rd l0 6)) (wrap64 (rd l0 7)) (wrap64 (rd l0 8)) t184).bind fun bt186 => (if bt186.2 = 0 then (if (strOfNums bt186.1).toList = (strOfNums l0).toList then (some (t180, wrap64 (rd l0 6), wrap64 (rd l0 7), wrap64 (rd l0 8), t184, 0)) else (some (0, 0, 0, 0, 0, 2))) else (some (0, 0, 0, 0, 0, 2))))) else (none)) else (none)) else (none))) else (some (0, 0, 0, 0, 0, 2))
theorem drydockref08_Decode.mono : ∀ a0 k, LeO (drydockref08_Decode.f k a0) (drydockref08_Decode.f (k + 1) a0) := by
  intro a0 k
  unfold drydockref08_Decode.f
  repeat' first
      | (with_reducible exact drydockref04_Num.mono _ _ _ _)
      | (with_reducible exact drydockref08_Encode.mono _ _ _ _ _ _)
      | (with_reducible exact LeO.refl _)
      | (with_reducible exact LeO.none _)
      | (with_reducible refine LeO.ite ?_ ?_)
      | (with_reducible refine LeO.bind ?_ (fun _ => ?_))
      | exact drydockref04_Num.mono _ _ _ _
      | exact drydockref08_Encode.mono _ _ _ _ _ _
      | exact LeO.none _
      | refine LeO.ite ?_ ?_
      | refine LeO.bind ?_ (fun _ => ?_)
def drydockref08_Decode.T3 : Bool × List (List Nat × List Nat) := (true, [([], []), ([0], [0]), ([], []), ([2], [2]), ([3], [3]), ([4], [4]), ([], []), ([6], [6]), ([7], [7]), ([8], [8]), ([], []), ([10], [10]), ([11], [11]), ([12], [12]), ([], []), ([14, 1], [14]), ([1, 5, 9, 13, 15], [1, 5, 9, 13, 15]), ([], []), ([17, 16, 15, 0, 1, 2, 3, 4, 5, 6, 7, 8, 9, 10, 11, 12, 13, 14, 15, 16, 17], [16, 17])])
def drydockref08_Decode.B3 : List Nat := [0, 1, 0, 4, 12, 28, 0, 64, 192, 448, 0, 1024, 3072, 7168, 0, 16387, 65535, 0, 262143]
theorem drydockref08_Decode.tab3 : rtab .any (opsOf Try.f31 3) = drydockref08_Decode.T3 := by kernel_rfl
theorem drydockref08_Decode.bits3 : waitsOk drydockref08_Decode.T3.2 drydockref08_Decode.B3 = true := by kernel_rfl
set_option maxHeartbeats 8000000 in
set_option maxRecDepth 100000 in
theorem drydockref08_Decode.calls (k : Nat) (A0 : Option Addr) (c0 : Nat) (l0 : List Int) (r1 : Int) (r2 : Int) (r3 : Int) (r4 : Int) (r5 : Int) (r6 : Int) (w : World) (hr0 : Kd.C (Kd.int .u8) w A0 l0.length l0) (hc0 : l0.length ≤ c0) (h : drydockref08_Decode.f k l0 = some (r1, r2, r3, r4, r5, r6)) :
    Calls Try.prog 31 #[.slice A0 l0.length c0] w fun e w' => e = .returned (.tuple #[.agg #[.int .i64 r1, .int .i64 r2, .int .i64 r3, .int .i64 r4, .int .i64 r5], .int .i64 r6]) ∧ Below w.heap.size w w' := by
  have hu40 := Try.underlying40
  have HR0 := Aside0.mk hr0
  have HC0 := Aside0.mk hc0
  clear hr0 hc0
  have HB := Aside0.mk (Below.refl w.heap.size w)
  have H : (if (l0.length : Int) = 64 then ((drydockref04_Num.f k l0 4 2).bind fun t180 => (if 6 < (l0.length : Int) then (if 7 < (l0.length : Int) then (if 8 < (l0.length : Int) then ((drydockref04_Num.f k l0 10 2).bind fun t184 => ((drydockref08_Encode.f k t180 (wrap64 (rd l0 6)) (wrap64 (rd l0 7)) (wrap64 (rd l0 8)) t184).bind fun bt186 => (if bt186.2 = 0 then (if (strOfNums bt186.1).toList = (strOfNums l0).toList then (some (t180, wrap64 (rd l0 6), wrap64 (rd l0 7), wrap64 (rd l0 8), t184, 0)) else (some (0, 0, 0, 0, 0, 2))) else (some (0, 0, 0, 0, 0, 2))))) else (none)) else (none)) else (none))) else (some (0, 0, 0, 0, 0, 2))) = some (r1, r2, r3, r4, r5, r6) := h
  clear h
  by_cases c2 : (l0.length : Int) = 64
  · rw [if_pos c2] at H
    have c2b0 : ((l0.length : Int) == 64) = true := beq_iff_eq.mpr c2
    have c2b1 : ((l0.length : Int) != 64) = false := bne_eq_false_iff_eq.mpr c2
    clear c2
    replace H := Option.bind_eq_some_iff.mp H
    obtain ⟨t180, A30, H⟩ := H
    replace H : (if 6 < (l0.length : Int) then (if 7 < (l0.length : Int) then (if 8 < (l0.length : Int) then ((drydockref04_Num.f k l0 10 2).bind fun t184 => ((drydockref08_Encode.f k t180 (wrap64 (rd l0 6)) (wrap64 (rd l0 7)) (wrap64 (rd l0 8)) t184).bind fun bt186 => (if bt186.2 = 0 then (if (strOfNums bt186.1).toList = (strOfNums l0).toList then (some (t180, wrap64 (rd l0 6), wrap64 (rd l0 7), wrap64 (rd l0 8), t184, 0)) else (some (0, 0, 0, 0, 0, 2))) else (some (0, 0, 0, 0, 0, 2))))) else (none)) else (none)) else (none)) = some (r1, r2, r3, r4, r5, r6) := H
    have A3 := Aside0.mk A30
    clear A30
    by_cases c4 : 6 < (l0.length : Int)
    · rw [if_pos c4] at H
      have c4b0 : decide (6 < (l0.length : Int)) = true := decide_eq_true c4
      have c4b1 : decide (6 < l0.length) = true := decide_eq_true (by omega)
      clear c4
      by_cases c5 : 7 < (l0.length : Int)
      · rw [if_pos c5] at H
        have c5b0 : decide (7 < (l0.length : Int)) = true := decide_eq_true c5
        have c5b1 : decide (7 < l0.length) = true := decide_eq_true (by omega)
        clear c5
        by_cases c6 : 8 < (l0.length : Int)
        · rw [if_pos c6] at H
          have c6b0 : decide (8 < (l0.length : Int)) = true := decide_eq_true c6
          have c6b1 : decide (8 < l0.length) = true := decide_eq_true (by omega)
          clear c6
          replace H := Option.bind_eq_some_iff.mp H
          obtain ⟨t184, A70, H⟩ := H
          replace H : ((drydockref08_Encode.f k t180 (wrap64 (rd l0 6)) (wrap64 (rd l0 7)) (wrap64 (rd l0 8)) t184).bind fun bt186 => (if bt186.2 = 0 then (if (strOfNums bt186.1).toList = (strOfNums l0).toList then (some (t180, wrap64 (rd l0 6), wrap64 (rd l0 7), wrap64 (rd l0 8), t184, 0)) else (some (0, 0, 0, 0, 0, 2))) else (some (0, 0, 0, 0, 0, 2)))) = some (r1, r2, r3, r4, r5, r6) := H
          have A7 := Aside0.mk A70
          clear A70
          replace H := Option.bind_eq_some_iff.mp H
          obtain ⟨⟨t186, t189⟩, A80, H⟩ := H
          replace H : (if t189 = 0 then (if (strOfNums t186).toList = (strOfNums l0).toList then (some (t180, wrap64 (rd l0 6), wrap64 (rd l0 7), wrap64 (rd l0 8), t184, 0)) else (some (0, 0, 0, 0, 0, 2))) else (some (0, 0, 0, 0, 0, 2))) = some (r1, r2, r3, r4, r5, r6) := H
          have A8 := Aside0.mk A80
          clear A80
          by_cases c9 : t189 = 0
          · rw [if_pos c9] at H
            have c9b0 : (t189 == 0) = true := beq_iff_eq.mpr c9
            have c9b1 : (t189 != 0) = false := bne_eq_false_iff_eq.mpr c9
            clear c9
            by_cases c10 : (strOfNums t186).toList = (strOfNums l0).toList
            · rw [if_pos c10] at H
              have c10b0 : ((strOfNums t186).toList == (strOfNums l0).toList) = true := beq_iff_eq.mpr c10
              have c10b1 : ((strOfNums t186).toList != (strOfNums l0).toList) = false := bne_eq_false_iff_eq.mpr c10
              clear c10
              simp only [Option.some.injEq, Prod.mk.injEq] at H
              obtain ⟨rfl, rfl, rfl, rfl, rfl, rfl⟩ := H
              go_enter Try.func31, Try.ntmps31
              try go_wp2_with (first | ((with_reducible refine gate_dst (N := 2) rfl ?_); refine box_event ?hg (N := 2) ?hd (cs := #[.int .i64 0, .int .i64 0, .int .i64 0, .int .i64 0, .int .i64 0]) (t := 40) ?hr ?_; (case hd => rfl); (case hg => rfl); (case hr => first | (go_simp; done) | (go_simp; rfl)); intro gb179 hg w11 hbox hb; have n0_ := Aside0.mk (below_step (by repeat (first | (with_reducible first | exact HB.out | apply zB | apply zP | apply zE) | exact HB.out)) hb); have n1_ := Aside0.mk (hbox); have n2_ := Aside0.mk ((by rw [hg]; exact (below_size (by repeat (first | (with_reducible first | exact HB.out | apply zB | apply zP | apply zE) | exact HB.out))) : w.heap.size ≤ gb179)); have n3_ := Aside0.mk ((by rw [hg]; exact (below_size (by repeat (first | (with_reducible first | exact HB.out | apply zB | apply zP | apply zE) | exact HB.out))) : w.heap.size ≤ gb179)); clear HB; have HB := n0_; have BK179 := n1_; have GW179 := n2_; have GE179 := n3_; clear n0_ n1_ n2_ n3_; clear hb hbox hg))
              have n0_ := Aside0.mk (zD BK179.out)
              have n1_ := Aside0.mk (zE HB.out)
              clear BK179
              clear HB
              have BK179 := n0_
              have HB := n1_
              clear n0_ n1_
              have p181 : 0 ≤ (6 : Int) := (by omega)
              have q181 : 6 < (l0.length : Int) := of_decide_eq_true (by first | (with_reducible assumption) | assumption)
              obtain ⟨ad181, e181, hx181_0⟩ := Kd.at_int HR0.out 6 p181 q181
              have hw181_0 := hx181_0
              (try rw [show ((6 : Int)).toNat = 6 from rfl] at hw181_0)
              (try rw [show 6 * 1 = 6 from rfl] at hw181_0)
              (try simp only [Nat.reduceMul, Nat.reduceEqDiff, Go.Addr.add, ↓reduceIte] at hw181_0)
              cases e181
              (try simp only [show (6 : Int).toNat = 6 from rfl, Nat.reduceMul, Nat.reduceEqDiff, Go.Addr.add, ↓reduceIte] at hx181_0)
              have qi181 : (6 < l0.length) = True := eq_true (by omega)
              (try rw [show ((6 : Int)).toNat = 6 from rfl] at hx181_0)
              replace hx181_0 := (HB.out.cell (World.block_lt_of_cell? w _ hx181_0)).trans hx181_0
              replace p181 := eq_true p181
              replace q181 := eq_true q181
              have p182 : 0 ≤ (7 : Int) := (by omega)
              have q182 : 7 < (l0.length : Int) := of_decide_eq_true (by first | (with_reducible assumption) | assumption)
              obtain ⟨ad182, e182, hx182_0⟩ := Kd.at_int HR0.out 7 p182 q182
              have hw182_0 := hx182_0
              (try rw [show ((7 : Int)).toNat = 7 from rfl] at hw182_0)
              (try rw [show 7 * 1 = 7 from rfl] at hw182_0)
              (try simp only [Nat.reduceMul, Nat.reduceEqDiff, Go.Addr.add, ↓reduceIte] at hw182_0)
              obtain rfl : ad181 = ad182 := (by injection e182)
              (try simp only [show (7 : Int).toNat = 7 from rfl, Nat.reduceMul, Nat.reduceEqDiff, Go.Addr.add, ↓reduceIte] at hx182_0)
              have qi182 : (7 < l0.length) = True := eq_true (by omega)
              (try rw [show ((7 : Int)).toNat = 7 from rfl] at hx182_0)
              replace hx182_0 := (HB.out.cell (World.block_lt_of_cell? w _ hx182_0)).trans hx182_0
              replace p182 := eq_true p182
              replace q182 := eq_true q182
              have p183 : 0 ≤ (8 : Int) := (by omega)
              have q183 : 8 < (l0.length : Int) := of_decide_eq_true (by first | (with_reducible assumption) | assumption)
              obtain ⟨ad183, e183, hx183_0⟩ := Kd.at_int HR0.out 8 p183 q183
              have hw183_0 := hx183_0
              (try rw [show ((8 : Int)).toNat = 8 from rfl] at hw183_0)
              (try rw [show 8 * 1 = 8 from rfl] at hw183_0)
              (try simp only [Nat.reduceMul, Nat.reduceEqDiff, Go.Addr.add, ↓reduceIte] at hw183_0)
              obtain rfl : ad181 = ad183 := (by injection e183)
              (try simp only [show (8 : Int).toNat = 8 from rfl, Nat.reduceMul, Nat.reduceEqDiff, Go.Addr.add, ↓reduceIte] at hx183_0)
              have qi183 : (8 < l0.length) = True := eq_true (by omega)
              (try rw [show ((8 : Int)).toNat = 8 from rfl] at hx183_0)
              replace hx183_0 := (HB.out.cell (World.block_lt_of_cell? w _ hx183_0)).trans hx183_0
              replace p183 := eq_true p183
              replace q183 := eq_true q183
              refine start_ (n := 19) (S := fun w' => w'.cell? ⟨ad181.block, ad181.off + 6, none⟩ = some (.int .u8 (rd l0 6)) ∧ w'.cell? ⟨ad181.block, ad181.off + 7, none⟩ = some (.int .u8 (rd l0 7)) ∧ w'.cell? ⟨ad181.block, ad181.off + 8, none⟩ = some (.int .u8 (rd l0 8))) (ds := []) #[false, false, false, false, false, false, false, false, false, false, false, false, false, false, false, false, false, false, false] (by kernel_rfl) rfl rfl ⟨((HB.out.cell (World.block_lt_of_cell? w _ hw181_0)).trans hw181_0), ((HB.out.cell (World.block_lt_of_cell? w _ hw182_0)).trans hw182_0), ((HB.out.cell (World.block_lt_of_cell? w _ hw183_0)).trans hw183_0)⟩ (fun hHeld => ?_); refine with_tabW drydockref08_Decode.tab3 drydockref08_Decode.bits3 (fun HT_ HW_ => ?_)
              generalize w11.drew = w12 at BK179 HB hx181_0 hx182_0 hx183_0 hHeld ⊢
              refine pure_ (i := 0) (N := some 11) (v := ?_) (a' := ?_) #[true, false, false, false, false, false, false, false, false, false, false, false, false, false, false, false, false, false, false] rfl rfl (any_of HT_.out (by kernel_rfl)) (fun _ _ _ h => h) (Or.inl ⟨by rfl, ?_⟩) ?_ ?_
              rotate_left
              · intro w'
                go_simp
                with_reducible rfl
              rotate_left
              · simp only [Act.put, List.setIfInBounds_toArray, List.set_cons_zero, List.set_cons_succ, i64_w, i32_w]
                rfl
              refine pure_ (i := 2) (N := some 13) (v := ?_) (a' := ?_) #[true, false, true, false, false, false, false, false, false, false, false, false, false, false, false, false, false, false, false] rfl rfl (any_of HT_.out (by kernel_rfl)) (fun _ _ _ h => h) (Or.inl ⟨by rfl, ?_⟩) ?_ ?_
              rotate_left
              · intro w'
                go_simp
                with_reducible rfl
              rotate_left
              · simp only [Act.put, List.setIfInBounds_toArray, List.set_cons_zero, List.set_cons_succ, i64_w, i32_w]
                rfl
              refine pure_ (i := 3) (N := some 14) (v := ?_) (a' := ?_) #[true, false, true, true, false, false, false, false, false, false, false, false, false, false, false, false, false, false, false] rfl rfl (any_of HT_.out (by kernel_rfl)) (fun _ _ _ h => h) (Or.inl ⟨by rfl, ?_⟩) ?_ ?_
              rotate_left
              · intro w'
                go_simp
                with_reducible rfl
              rotate_left
              · simp only [Act.put, List.setIfInBounds_toArray, List.set_cons_zero, List.set_cons_succ, i64_w, i32_w]
                rfl
              refine pure_ (i := 6) (N := some 17) (v := ?_) (a' := ?_) #[true, false, true, true, false, false, true, false, false, false, false, false, false, false, false, false, false, false, false] rfl rfl (any_of HT_.out (by kernel_rfl)) (fun _ _ _ h => h) (Or.inl ⟨by rfl, ?_⟩) ?_ ?_
              rotate_left
              · intro w'
                go_simp
                with_reducible rfl
              rotate_left
              · simp only [Act.put, List.setIfInBounds_toArray, List.set_cons_zero, List.set_cons_succ, i64_w, i32_w]
                rfl
              refine pure_ (i := 7) (N := some 18) (v := ?_) (a' := ?_) #[true, false, true, true, false, false, true, true, false, false, false, false, false, false, false, false, false, false, false] rfl rfl (any_of HT_.out (by kernel_rfl)) (fun _ _ _ h => h) (Or.inl ⟨by rfl, ?_⟩) ?_ ?_
              rotate_left
              · intro w'
                go_simp
                with_reducible rfl
              rotate_left
              · simp only [Act.put, List.setIfInBounds_toArray, List.set_cons_zero, List.set_cons_succ, i64_w, i32_w]
                rfl
              refine pure_ (i := 10) (N := some 21) (v := ?_) (a' := ?_) #[true, false, true, true, false, false, true, true, false, false, true, false, false, false, false, false, false, false, false] rfl rfl (any_of HT_.out (by kernel_rfl)) (fun _ _ _ h => h) (Or.inl ⟨by rfl, ?_⟩) ?_ ?_
              rotate_left
              · intro w'
                go_simp
                with_reducible rfl
              rotate_left
              · simp only [Act.put, List.setIfInBounds_toArray, List.set_cons_zero, List.set_cons_succ, i64_w, i32_w]
                rfl
              refine pure_ (i := 11) (N := some 22) (v := ?_) (a' := ?_) #[true, false, true, true, false, false, true, true, false, false, true, true, false, false, false, false, false, false, false] rfl rfl (any_of HT_.out (by kernel_rfl)) (fun _ _ _ h => h) (Or.inl ⟨by rfl, ?_⟩) ?_ ?_
              rotate_left
              · intro w'
                go_simp
                with_reducible rfl
              rotate_left
              · simp only [Act.put, List.setIfInBounds_toArray, List.set_cons_zero, List.set_cons_succ, i64_w, i32_w]
                rfl
              refine pure_ (i := 14) (N := some 25) (v := ?_) (a' := ?_) #[true, false, true, true, false, false, true, true, false, false, true, true, false, false, true, false, false, false, false] rfl rfl (any_of HT_.out (by kernel_rfl)) (fun _ _ _ h => h) (Or.inl ⟨by rfl, ?_⟩) ?_ ?_
              rotate_left
              · intro w'
                go_simp
                with_reducible rfl
              rotate_left
              · simp only [Act.put, List.setIfInBounds_toArray, List.set_cons_zero, List.set_cons_succ, i64_w, i32_w]
                rfl
              refine take_ (i := 4) (N := some 15) (v := ?_) (a' := ?_) #[true, false, true, true, true, false, true, true, false, false, true, true, false, false, true, false, false, false, false] rfl rfl (take_ofW HT_.out HW_.out (by kernel_rfl)) (fun _ _ _ h => h) (Or.inl ⟨by rfl, ?_⟩) hHeld ?_ ?_
              rotate_left
              · rintro w' ⟨s0, s1, s2⟩
                go_simp
                with_reducible rfl
              rotate_left
              · simp only [Act.put, List.setIfInBounds_toArray, List.set_cons_zero, List.set_cons_succ, i64_w, i32_w]
                rfl
              refine pure_ (i := 5) (N := some 16) (v := ?_) (a' := ?_) #[true, false, true, true, true, true, true, true, false, false, true, true, false, false, true, false, false, false, false] rfl rfl (any_of HT_.out (by kernel_rfl)) (fun _ _ _ h => h) (Or.inl ⟨by rfl, ?_⟩) ?_ ?_
              rotate_left
              · intro w'
                go_simp
                with_reducible rfl
              rotate_left
              · simp only [Act.put, List.setIfInBounds_toArray, List.set_cons_zero, List.set_cons_succ, i64_w, i32_w]
                rfl
              refine take_ (i := 8) (N := some 19) (v := ?_) (a' := ?_) #[true, false, true, true, true, true, true, true, true, false, true, true, false, false, true, false, false, false, false] rfl rfl (take_ofW HT_.out HW_.out (by kernel_rfl)) (fun _ _ _ h => h) (Or.inl ⟨by rfl, ?_⟩) hHeld ?_ ?_
              rotate_left
              · rintro w' ⟨s0, s1, s2⟩
                go_simp
                with_reducible rfl
              rotate_left
              · simp only [Act.put, List.setIfInBounds_toArray, List.set_cons_zero, List.set_cons_succ, i64_w, i32_w]
                rfl
              refine pure_ (i := 9) (N := some 20) (v := ?_) (a' := ?_) #[true, false, true, true, true, true, true, true, true, true, true, true, false, false, true, false, false, false, false] rfl rfl (any_of HT_.out (by kernel_rfl)) (fun _ _ _ h => h) (Or.inl ⟨by rfl, ?_⟩) ?_ ?_
              rotate_left
              · intro w'
                go_simp
                with_reducible rfl
              rotate_left
              · simp only [Act.put, List.setIfInBounds_toArray, List.set_cons_zero, List.set_cons_succ, i64_w, i32_w]
                rfl
              refine take_ (i := 12) (N := some 23) (v := ?_) (a' := ?_) #[true, false, true, true, true, true, true, true, true, true, true, true, true, false, true, false, false, false, false] rfl rfl (take_ofW HT_.out HW_.out (by kernel_rfl)) (fun _ _ _ h => h) (Or.inl ⟨by rfl, ?_⟩) hHeld ?_ ?_
              rotate_left
              · rintro w' ⟨s0, s1, s2⟩
                go_simp
                with_reducible rfl
              rotate_left
              · simp only [Act.put, List.setIfInBounds_toArray, List.set_cons_zero, List.set_cons_succ, i64_w, i32_w]
                rfl
              refine pure_ (i := 13) (N := some 24) (v := ?_) (a' := ?_) #[true, false, true, true, true, true, true, true, true, true, true, true, true, true, true, false, false, false, false] rfl rfl (any_of HT_.out (by kernel_rfl)) (fun _ _ _ h => h) (Or.inl ⟨by rfl, ?_⟩) ?_ ?_
              rotate_left
              · intro w'
                go_simp
                with_reducible rfl
              rotate_left
              · simp only [Act.put, List.setIfInBounds_toArray, List.set_cons_zero, List.set_cons_succ, i64_w, i32_w]
                rfl
              refine join_ (σ := Nat) 1 #[true, true, true, true, true, true, true, true, true, true, true, true, true, true, true, true, true, true, false] (fun s_ => [(12, .int .i64 t180), (26, .int .i64 t184), (4, .pointer (some ⟨s_, 0, none⟩)), (27, .agg #[.int .i64 t180, .int .i64 (wrap64 (rd l0 6)), .int .i64 (wrap64 (rd l0 7)), .int .i64 (wrap64 (rd l0 8)), .int .i64 t184])]) (fun s_ w' => (w'.cell? ⟨ad181.block, ad181.off + 6, none⟩ = some (.int .u8 (rd l0 6)) ∧ w'.cell? ⟨ad181.block, ad181.off + 7, none⟩ = some (.int .u8 (rd l0 7)) ∧ w'.cell? ⟨ad181.block, ad181.off + 8, none⟩ = some (.int .u8 (rd l0 8))) ∧ (w'.heap[gb179]? = some (.cells #[.int .i64 0, .int .i64 0, .int .i64 0, .int .i64 0, .int .i64 0] 40 (0, 0))) ∧ (w'.heap[s_]? = some (.cells #[.int .i64 0, .int .i64 0, .int .i64 0, .int .i64 0, .int .i64 0] 40 (0, 0))) ∧ (w.heap.size ≤ s_) ∧ (w.heap.size ≤ s_) ∧ (gb179 ≠ s_) ∧ (s_ ≠ gb179) ∧ (Below w.heap.size w w')) ?_ ?_
              rotate_left
              · intro hCont
                refine two_ (i := 1) (j := 17) (Ni := some 12) (Nj := some 4) #[true, true, true, true, true, true, true, true, true, true, true, true, true, true, true, false, false, false, false] #[true, false, true, true, true, true, true, true, true, true, true, true, true, true, true, false, false, true, false] rfl rfl rfl rfl (two_of HT_.out (by kernel_rfl)) (by decide) (by decide) (fun K hK => ?_) (fun K hK => ?_)
                · skip
                  refine goes_ Try.func39 (by kernel_rfl) rfl #[.slice (some ad181) l0.length c0, .int .i64 4, .int .i64 2] (by rfl) rfl rfl (by (try simp only [List.map_toArray, List.map_cons, List.map_nil]); first | done | rfl | (simp only [List.length_drop, List.length_take]; rfl)) ?_
                  with_reducible refine (drydockref04_Num.calls k _ _ l0 4 2 t180 _ ?side1 ?side2 A3.out).mono ?_
                  (case side1 => repeat (first | exact (Kd.C_below HR0.out HB.out) | (with_reducible refine Kd.C_alloc ?_ _) | (with_reducible refine Kd.C_drewN ?_ _) | (with_reducible refine Kd.C_drew ?_)))
                  (case side2 => exact HC0.out)
                  rintro e w' ⟨rfl, ⟨nd, rfl⟩⟩
                  refine ⟨_, rfl, ?_⟩
                  refine hK.out _ _ ⟨((HB.out.cell (World.block_lt_of_cell? w _ hw181_0)).trans hw181_0), ((HB.out.cell (World.block_lt_of_cell? w _ hw182_0)).trans hw182_0), ((HB.out.cell (World.block_lt_of_cell? w _ hw183_0)).trans hw183_0)⟩ (fun hHeld => ?_)
                  clear hK K
                  refine norm_ (a' := ?_) ?_ ?_
                  rotate_left
                  · show Act.put _ (some 12) _ = _
                    simp only [Act.put, List.setIfInBounds_toArray, List.set_cons_zero, List.set_cons_succ, i64_w, i32_w]
                    rfl
                  refine two_ (i := 15) (j := 17) (Ni := some 26) (Nj := some 4) #[true, true, true, true, true, true, true, true, true, true, true, true, true, true, true, true, false, false, false] #[true, true, true, true, true, true, true, true, true, true, true, true, true, true, true, false, false, true, false] rfl rfl rfl rfl (two_of HT_.out (by kernel_rfl)) (by decide) (by decide) (fun K hK => ?_) (fun K hK => ?_)
                  · skip
                    refine goes_ Try.func39 (by kernel_rfl) rfl #[.slice (some ad181) l0.length c0, .int .i64 10, .int .i64 2] (by rfl) rfl rfl (by (try simp only [List.map_toArray, List.map_cons, List.map_nil]); first | done | rfl | (simp only [List.length_drop, List.length_take]; rfl)) ?_
                    with_reducible refine (drydockref04_Num.calls k _ _ l0 10 2 t184 _ ?side1 ?side2 A7.out).mono ?_
                    (case side1 => repeat (first | exact (Kd.C_below HR0.out (by repeat (first | (with_reducible first | exact HB.out | apply zB | apply zP | apply zE | refine zS ?_ GE179.out) | exact HB.out))) | (with_reducible refine Kd.C_alloc ?_ _) | (with_reducible refine Kd.C_drewN ?_ _) | (with_reducible refine Kd.C_drew ?_)))
                    (case side2 => exact HC0.out)
                    rintro e w' ⟨rfl, ⟨nd, rfl⟩⟩
                    refine ⟨_, rfl, ?_⟩
                    refine hK.out _ _ ⟨((HB.out.cell (World.block_lt_of_cell? w _ hw181_0)).trans hw181_0), ((HB.out.cell (World.block_lt_of_cell? w _ hw182_0)).trans hw182_0), ((HB.out.cell (World.block_lt_of_cell? w _ hw183_0)).trans hw183_0)⟩ (fun hHeld => ?_)
                    clear hK K
                    refine norm_ (a' := ?_) ?_ ?_
                    rotate_left
                    · show Act.put _ (some 26) _ = _
                      simp only [Act.put, List.setIfInBounds_toArray, List.set_cons_zero, List.set_cons_succ, i64_w, i32_w]
                      rfl
                    refine pure_ (i := 16) (N := some 27) (v := ?_) (a' := ?_) #[true, true, true, true, true, true, true, true, true, true, true, true, true, true, true, true, true, false, false] rfl rfl (any_of HT_.out (by kernel_rfl)) (fun _ _ _ h => h) (Or.inl ⟨by rfl, ?_⟩) ?_ ?_
                    rotate_left
                    · intro w'
                      go_simp
                      with_reducible rfl
                    rotate_left
                    · simp only [Act.put, List.setIfInBounds_toArray, List.set_cons_zero, List.set_cons_succ, i64_w, i32_w]
                      rfl
                    refine one_ (i := 17) (N := some 4) #[true, true, true, true, true, true, true, true, true, true, true, true, true, true, true, true, true, true, false] rfl rfl (one_of HT_.out (by kernel_rfl)) (by decide) (fun K hK => ?_)
                    refine box_step ?hg (N := 4) ?hd (cs := #[.int .i64 0, .int .i64 0, .int .i64 0, .int .i64 0, .int .i64 0]) (t := 40) ?hr ?_; (case hd => rfl); (case hg => rfl); (case hr => first | (go_simp; done) | (go_simp; rfl))
                    intro gb185 hg w13 hbox hb
                    have n0_ := Aside0.mk (blk_below (g := gb179) (o := .cells #[.int .i64 0, .int .i64 0, .int .i64 0, .int .i64 0, .int .i64 0] 40 (0, 0)) (by (with_reducible repeat (first | refine zN ?_ _ | refine zD ?_ | refine zA ?_ _)); exact BK179.out) hb)
                    have n1_ := Aside0.mk (below_step (by repeat (first | (with_reducible first | exact HB.out | apply zB | apply zP | apply zE | refine zS ?_ GE179.out) | exact HB.out)) hb)
                    have n2_ := Aside0.mk (hbox)
                    have n3_ := Aside0.mk ((by rw [hg]; exact (below_size (by repeat (first | (with_reducible first | exact HB.out | apply zB | apply zP | apply zE | refine zS ?_ GE179.out) | exact HB.out))) : w.heap.size ≤ gb185))
                    have n4_ := Aside0.mk ((by rw [hg]; exact (below_size (by repeat (first | (with_reducible first | exact HB.out | apply zB | apply zP | apply zE | refine zS ?_ GE179.out) | exact HB.out))) : w.heap.size ≤ gb185))
                    have n5_ := Aside0.mk ((by rw [hg]; exact Nat.ne_of_lt (blk_lt (g := gb179) (o := .cells #[.int .i64 0, .int .i64 0, .int .i64 0, .int .i64 0, .int .i64 0] 40 (0, 0)) (by (with_reducible repeat (first | refine zN ?_ _ | refine zD ?_ | refine zA ?_ _)); exact BK179.out)) : gb179 ≠ gb185))
                    have n6_ := Aside0.mk ((by rw [hg]; exact Nat.ne_of_gt (blk_lt (g := gb179) (o := .cells #[.int .i64 0, .int .i64 0, .int .i64 0, .int .i64 0, .int .i64 0] 40 (0, 0)) (by (with_reducible repeat (first | refine zN ?_ _ | refine zD ?_ | refine zA ?_ _)); exact BK179.out)) : gb185 ≠ gb179))
                    clear BK179
                    clear HB
                    have BK179 := n0_
                    have HB := n1_
                    have BK185 := n2_
                    have GW185 := n3_
                    have GE185 := n4_
                    have NB179_185 := n5_
                    have NB185_179 := n6_
                    clear n0_ n1_ n2_ n3_ n4_ n5_ n6_
                    clear hb hbox hg
                    refine hK.out _ _ ⟨((HB.out.cell (World.block_lt_of_cell? w _ hw181_0)).trans hw181_0), ((HB.out.cell (World.block_lt_of_cell? w _ hw182_0)).trans hw182_0), ((HB.out.cell (World.block_lt_of_cell? w _ hw183_0)).trans hw183_0)⟩ (fun hHeld => ?_)
                    clear hK K
                    refine norm_ (a' := ?_) ?_ ?_
                    rotate_left
                    · show Act.put _ (some 4) _ = _
                      simp only [Act.put, List.setIfInBounds_toArray, List.set_cons_zero, List.set_cons_succ, i64_w, i32_w]
                      rfl
                    exact norm_ (by simp only [putAll, Act.put, List.setIfInBounds_toArray, List.set_cons_zero, List.set_cons_succ]) (hCont (gb185) _ ⟨hHeld, (by (with_reducible repeat (first | refine zN ?_ _ | refine zD ?_ | refine zA ?_ _)); exact BK179.out), (by (with_reducible repeat (first | refine zN ?_ _ | refine zD ?_ | refine zA ?_ _)); exact BK185.out), GW185.out, GE185.out, NB179_185.out, NB185_179.out, (by repeat (first | (with_reducible first | exact HB.out | apply zB | apply zP | apply zE | refine zS ?_ GE179.out | refine zS ?_ GE185.out) | exact HB.out))⟩)
                  · skip
                    refine box_step ?hg (N := 4) ?hd (cs := #[.int .i64 0, .int .i64 0, .int .i64 0, .int .i64 0, .int .i64 0]) (t := 40) ?hr ?_; (case hd => rfl); (case hg => rfl); (case hr => first | (go_simp; done) | (go_simp; rfl))
                    intro gb185 hg w13 hbox hb
                    have n0_ := Aside0.mk (blk_below (g := gb179) (o := .cells #[.int .i64 0, .int .i64 0, .int .i64 0, .int .i64 0, .int .i64 0] 40 (0, 0)) (by (with_reducible repeat (first | refine zN ?_ _ | refine zD ?_ | refine zA ?_ _)); exact BK179.out) hb)
                    have n1_ := Aside0.mk (below_step (by repeat (first | (with_reducible first | exact HB.out | apply zB | apply zP | apply zE | refine zS ?_ GE179.out) | exact HB.out)) hb)
                    have n2_ := Aside0.mk (hbox)
                    have n3_ := Aside0.mk ((by rw [hg]; exact (below_size (by repeat (first | (with_reducible first | exact HB.out | apply zB | apply zP | apply zE | refine zS ?_ GE179.out) | exact HB.out))) : w.heap.size ≤ gb185))
                    have n4_ := Aside0.mk ((by rw [hg]; exact (below_size (by repeat (first | (with_reducible first | exact HB.out | apply zB | apply zP | apply zE | refine zS ?_ GE179.out) | exact HB.out))) : w.heap.size ≤ gb185))
                    have n5_ := Aside0.mk ((by rw [hg]; exact Nat.ne_of_lt (blk_lt (g := gb179) (o := .cells #[.int .i64 0, .int .i64 0, .int .i64 0, .int .i64 0, .int .i64 0] 40 (0, 0)) (by (with_reducible repeat (first | refine zN ?_ _ | refine zD ?_ | refine zA ?_ _)); exact BK179.out)) : gb179 ≠ gb185))
                    have n6_ := Aside0.mk ((by rw [hg]; exact Nat.ne_of_gt (blk_lt (g := gb179) (o := .cells #[.int .i64 0, .int .i64 0, .int .i64 0, .int .i64 0, .int .i64 0] 40 (0, 0)) (by (with_reducible repeat (first | refine zN ?_ _ | refine zD ?_ | refine zA ?_ _)); exact BK179.out)) : gb185 ≠ gb179))
                    clear BK179
                    clear HB
                    have BK179 := n0_
                    have HB := n1_
                    have BK185 := n2_
                    have GW185 := n3_
                    have GE185 := n4_
                    have NB179_185 := n5_
                    have NB185_179 := n6_
                    clear n0_ n1_ n2_ n3_ n4_ n5_ n6_
                    clear hb hbox hg
                    refine hK.out _ _ ⟨((HB.out.cell (World.block_lt_of_cell? w _ hw181_0)).trans hw181_0), ((HB.out.cell (World.block_lt_of_cell? w _ hw182_0)).trans hw182_0), ((HB.out.cell (World.block_lt_of_cell? w _ hw183_0)).trans hw183_0)⟩ (fun hHeld => ?_)
                    clear hK K
                    refine norm_ (a' := ?_) ?_ ?_
                    rotate_left
                    · show Act.put _ (some 4) _ = _
                      simp only [Act.put, List.setIfInBounds_toArray, List.set_cons_zero, List.set_cons_succ, i64_w, i32_w]
                      rfl
                    refine one_ (i := 15) (N := some 26) #[true, true, true, true, true, true, true, true, true, true, true, true, true, true, true, true, false, true, false] rfl rfl (one_of HT_.out (by kernel_rfl)) (by decide) (fun K hK => ?_)
                    refine goes_ Try.func39 (by kernel_rfl) rfl #[.slice (some ad181) l0.length c0, .int .i64 10, .int .i64 2] (by rfl) rfl rfl (by (try simp only [List.map_toArray, List.map_cons, List.map_nil]); first | done | rfl | (simp only [List.length_drop, List.length_take]; rfl)) ?_
                    with_reducible refine (drydockref04_Num.calls k _ _ l0 10 2 t184 _ ?side1 ?side2 A7.out).mono ?_
                    (case side1 => repeat (first | exact (Kd.C_below HR0.out HB.out) | (with_reducible refine Kd.C_alloc ?_ _) | (with_reducible refine Kd.C_drewN ?_ _) | (with_reducible refine Kd.C_drew ?_)))
                    (case side2 => exact HC0.out)
                    rintro e w' ⟨rfl, ⟨nd, rfl⟩⟩
                    refine ⟨_, rfl, ?_⟩
                    refine hK.out _ _ ⟨((HB.out.cell (World.block_lt_of_cell? w _ hw181_0)).trans hw181_0), ((HB.out.cell (World.block_lt_of_cell? w _ hw182_0)).trans hw182_0), ((HB.out.cell (World.block_lt_of_cell? w _ hw183_0)).trans hw183_0)⟩ (fun hHeld => ?_)
                    clear hK K
                    refine norm_ (a' := ?_) ?_ ?_
                    rotate_left
                    · show Act.put _ (some 26) _ = _
                      simp only [Act.put, List.setIfInBounds_toArray, List.set_cons_zero, List.set_cons_succ, i64_w, i32_w]
                      rfl
                    refine pure_ (i := 16) (N := some 27) (v := ?_) (a' := ?_) #[true, true, true, true, true, true, true, true, true, true, true, true, true, true, true, true, true, true, false] rfl rfl (any_of HT_.out (by kernel_rfl)) (fun _ _ _ h => h) (Or.inl ⟨by rfl, ?_⟩) ?_ ?_
                    rotate_left
                    · intro w'
                      go_simp
                      with_reducible rfl
                    rotate_left
                    · simp only [Act.put, List.setIfInBounds_toArray, List.set_cons_zero, List.set_cons_succ, i64_w, i32_w]
                      rfl
                    exact norm_ (by simp only [putAll, Act.put, List.setIfInBounds_toArray, List.set_cons_zero, List.set_cons_succ]) (hCont (gb185) _ ⟨hHeld, (by (with_reducible repeat (first | refine zN ?_ _ | refine zD ?_ | refine zA ?_ _)); exact BK179.out), (by (with_reducible repeat (first | refine zN ?_ _ | refine zD ?_ | refine zA ?_ _)); exact BK185.out), GW185.out, GE185.out, NB179_185.out, NB185_179.out, (by repeat (first | (with_reducible first | exact HB.out | apply zB | apply zP | apply zE | refine zS ?_ GE179.out | refine zS ?_ GE185.out) | exact HB.out))⟩)
                · skip
                  refine box_step ?hg (N := 4) ?hd (cs := #[.int .i64 0, .int .i64 0, .int .i64 0, .int .i64 0, .int .i64 0]) (t := 40) ?hr ?_; (case hd => rfl); (case hg => rfl); (case hr => first | (go_simp; done) | (go_simp; rfl))
                  intro gb185 hg w13 hbox hb
                  have n0_ := Aside0.mk (blk_below (g := gb179) (o := .cells #[.int .i64 0, .int .i64 0, .int .i64 0, .int .i64 0, .int .i64 0] 40 (0, 0)) (by (with_reducible repeat (first | refine zN ?_ _ | refine zD ?_ | refine zA ?_ _)); exact BK179.out) hb)
                  have n1_ := Aside0.mk (below_step (by repeat (first | (with_reducible first | exact HB.out | apply zB | apply zP | apply zE | refine zS ?_ GE179.out) | exact HB.out)) hb)
                  have n2_ := Aside0.mk (hbox)
                  have n3_ := Aside0.mk ((by rw [hg]; exact (below_size (by repeat (first | (with_reducible first | exact HB.out | apply zB | apply zP | apply zE | refine zS ?_ GE179.out) | exact HB.out))) : w.heap.size ≤ gb185))
                  have n4_ := Aside0.mk ((by rw [hg]; exact (below_size (by repeat (first | (with_reducible first | exact HB.out | apply zB | apply zP | apply zE | refine zS ?_ GE179.out) | exact HB.out))) : w.heap.size ≤ gb185))
                  have n5_ := Aside0.mk ((by rw [hg]; exact Nat.ne_of_lt (blk_lt (g := gb179) (o := .cells #[.int .i64 0, .int .i64 0, .int .i64 0, .int .i64 0, .int .i64 0] 40 (0, 0)) (by (with_reducible repeat (first | refine zN ?_ _ | refine zD ?_ | refine zA ?_ _)); exact BK179.out)) : gb179 ≠ gb185))
                  have n6_ := Aside0.mk ((by rw [hg]; exact Nat.ne_of_gt (blk_lt (g := gb179) (o := .cells #[.int .i64 0, .int .i64 0, .int .i64 0, .int .i64 0, .int .i64 0] 40 (0, 0)) (by (with_reducible repeat (first | refine zN ?_ _ | refine zD ?_ | refine zA ?_ _)); exact BK179.out)) : gb185 ≠ gb179))
                  clear BK179
                  clear HB
                  have BK179 := n0_
                  have HB := n1_
                  have BK185 := n2_
                  have GW185 := n3_
                  have GE185 := n4_
                  have NB179_185 := n5_
                  have NB185_179 := n6_
                  clear n0_ n1_ n2_ n3_ n4_ n5_ n6_
                  clear hb hbox hg
                  refine hK.out _ _ ⟨((HB.out.cell (World.block_lt_of_cell? w _ hw181_0)).trans hw181_0), ((HB.out.cell (World.block_lt_of_cell? w _ hw182_0)).trans hw182_0), ((HB.out.cell (World.block_lt_of_cell? w _ hw183_0)).trans hw183_0)⟩ (fun hHeld => ?_)
                  clear hK K
                  refine norm_ (a' := ?_) ?_ ?_
                  rotate_left
                  · show Act.put _ (some 4) _ = _
                    simp only [Act.put, List.setIfInBounds_toArray, List.set_cons_zero, List.set_cons_succ, i64_w, i32_w]
                    rfl
                  refine one_ (i := 1) (N := some 12) #[true, true, true, true, true, true, true, true, true, true, true, true, true, true, true, false, false, true, false] rfl rfl (one_of HT_.out (by kernel_rfl)) (by decide) (fun K hK => ?_)
                  refine goes_ Try.func39 (by kernel_rfl) rfl #[.slice (some ad181) l0.length c0, .int .i64 4, .int .i64 2] (by rfl) rfl rfl (by (try simp only [List.map_toArray, List.map_cons, List.map_nil]); first | done | rfl | (simp only [List.length_drop, List.length_take]; rfl)) ?_
                  with_reducible refine (drydockref04_Num.calls k _ _ l0 4 2 t180 _ ?side1 ?side2 A3.out).mono ?_
                  (case side1 => repeat (first | exact (Kd.C_below HR0.out HB.out) | (with_reducible refine Kd.C_alloc ?_ _) | (with_reducible refine Kd.C_drewN ?_ _) | (with_reducible refine Kd.C_drew ?_)))
                  (case side2 => exact HC0.out)
                  rintro e w' ⟨rfl, ⟨nd, rfl⟩⟩
                  refine ⟨_, rfl, ?_⟩
                  refine hK.out _ _ ⟨((HB.out.cell (World.block_lt_of_cell? w _ hw181_0)).trans hw181_0), ((HB.out.cell (World.block_lt_of_cell? w _ hw182_0)).trans hw182_0), ((HB.out.cell (World.block_lt_of_cell? w _ hw183_0)).trans hw183_0)⟩ (fun hHeld => ?_)
                  clear hK K
                  refine norm_ (a' := ?_) ?_ ?_
                  rotate_left
                  · show Act.put _ (some 12) _ = _
                    simp only [Act.put, List.setIfInBounds_toArray, List.set_cons_zero, List.set_cons_succ, i64_w, i32_w]
                    rfl
                  refine one_ (i := 15) (N := some 26) #[true, true, true, true, true, true, true, true, true, true, true, true, true, true, true, true, false, true, false] rfl rfl (one_of HT_.out (by kernel_rfl)) (by decide) (fun K hK => ?_)
                  refine goes_ Try.func39 (by kernel_rfl) rfl #[.slice (some ad181) l0.length c0, .int .i64 10, .int .i64 2] (by rfl) rfl rfl (by (try simp only [List.map_toArray, List.map_cons, List.map_nil]); first | done | rfl | (simp only [List.length_drop, List.length_take]; rfl)) ?_
                  with_reducible refine (drydockref04_Num.calls k _ _ l0 10 2 t184 _ ?side1 ?side2 A7.out).mono ?_
                  (case side1 => repeat (first | exact (Kd.C_below HR0.out (by repeat (first | (with_reducible first | exact HB.out | apply zB | apply zP | apply zE | refine zS ?_ GE179.out | refine zS ?_ GE185.out) | exact HB.out))) | (with_reducible refine Kd.C_alloc ?_ _) | (with_reducible refine Kd.C_drewN ?_ _) | (with_reducible refine Kd.C_drew ?_)))
                  (case side2 => exact HC0.out)
                  rintro e w' ⟨rfl, ⟨nd, rfl⟩⟩
                  refine ⟨_, rfl, ?_⟩
                  refine hK.out _ _ ⟨((HB.out.cell (World.block_lt_of_cell? w _ hw181_0)).trans hw181_0), ((HB.out.cell (World.block_lt_of_cell? w _ hw182_0)).trans hw182_0), ((HB.out.cell (World.block_lt_of_cell? w _ hw183_0)).trans hw183_0)⟩ (fun hHeld => ?_)
                  clear hK K
                  refine norm_ (a' := ?_) ?_ ?_
                  rotate_left
                  · show Act.put _ (some 26) _ = _
                    simp only [Act.put, List.setIfInBounds_toArray, List.set_cons_zero, List.set_cons_succ, i64_w, i32_w]
                    rfl
                  refine pure_ (i := 16) (N := some 27) (v := ?_) (a' := ?_) #[true, true, true, true, true, true, true, true, true, true, true, true, true, true, true, true, true, true, false] rfl rfl (any_of HT_.out (by kernel_rfl)) (fun _ _ _ h => h) (Or.inl ⟨by rfl, ?_⟩) ?_ ?_
                  rotate_left
                  · intro w'
                    go_simp
                    with_reducible rfl
                  rotate_left
                  · simp only [Act.put, List.setIfInBounds_toArray, List.set_cons_zero, List.set_cons_succ, i64_w, i32_w]
                    rfl
                  exact norm_ (by simp only [putAll, Act.put, List.setIfInBounds_toArray, List.set_cons_zero, List.set_cons_succ]) (hCont (gb185) _ ⟨hHeld, (by (with_reducible repeat (first | refine zN ?_ _ | refine zD ?_ | refine zA ?_ _)); exact BK179.out), (by (with_reducible repeat (first | refine zN ?_ _ | refine zD ?_ | refine zA ?_ _)); exact BK185.out), GW185.out, GE185.out, NB179_185.out, NB185_179.out, (by repeat (first | (with_reducible first | exact HB.out | apply zB | apply zP | apply zE | refine zS ?_ GE179.out | refine zS ?_ GE185.out) | exact HB.out))⟩)
              rintro gb185 w14 ⟨hS_, h0_, h1_, h2_, h3_, h4_, h5_, h6_⟩
              have n0_ : Aside0 (w14.heap[gb179]? = some (.cells #[.int .i64 0, .int .i64 0, .int .i64 0, .int .i64 0, .int .i64 0] 40 (0, 0))) := ⟨h0_⟩
              have n1_ : Aside0 (w14.heap[gb185]? = some (.cells #[.int .i64 0, .int .i64 0, .int .i64 0, .int .i64 0, .int .i64 0] 40 (0, 0))) := ⟨h1_⟩
              have n2_ : Aside0 (w.heap.size ≤ gb185) := ⟨h2_⟩
              have n3_ : Aside0 (w.heap.size ≤ gb185) := ⟨h3_⟩
              have n4_ : Aside0 (gb179 ≠ gb185) := ⟨h4_⟩
              have n5_ : Aside0 (gb185 ≠ gb179) := ⟨h5_⟩
              have n6_ : Aside0 (Below w.heap.size w w14) := ⟨h6_⟩
              clear BK179
              clear HB
              clear h0_ h1_ h2_ h3_ h4_ h5_ h6_
              have BK179 := n0_
              have BK185 := n1_
              have GW185 := n2_
              have GE185 := n3_
              have NB179_185 := n4_
              have NB185_179 := n5_
              have HB := n6_
              clear n0_ n1_ n2_ n3_ n4_ n5_ n6_
              have hHeld : w14.cell? ⟨ad181.block, ad181.off + 6, none⟩ = some (.int .u8 (rd l0 6)) ∧ w14.cell? ⟨ad181.block, ad181.off + 7, none⟩ = some (.int .u8 (rd l0 7)) ∧ w14.cell? ⟨ad181.block, ad181.off + 8, none⟩ = some (.int .u8 (rd l0 8)) := hS_
              refine norm_ (a' := ?_) ?_ ?_
              rotate_left
              · simp only [putAll, Act.put, List.setIfInBounds_toArray, List.set_cons_zero, List.set_cons_succ]
                rfl
              refine one_ (i := 18) (N := none) #[true, true, true, true, true, true, true, true, true, true, true, true, true, true, true, true, true, true, true] rfl rfl (one_of HT_.out (by kernel_rfl)) (by decide) (fun K hK => ?_)
              have hs15 : w14.cell? ⟨gb185, 0, none⟩ = some (.int .i64 0) := (blk_cell BK185.out 0).trans rfl
              have hfs15 := blk_frozen BK185.out 0
              have hns15_0 := NB179_185.out
              have hms15_0 := NB185_179.out
              have hs16 : w14.cell? ⟨gb185, 1, none⟩ = some (.int .i64 0) := (blk_cell BK185.out 1).trans rfl
              have hfs16 := blk_frozen BK185.out 1
              have hns16_0 := NB179_185.out
              have hms16_0 := NB185_179.out
              have hs17 : w14.cell? ⟨gb185, 2, none⟩ = some (.int .i64 0) := (blk_cell BK185.out 2).trans rfl
              have hfs17 := blk_frozen BK185.out 2
              have hns17_0 := NB179_185.out
              have hms17_0 := NB185_179.out
              have hs18 : w14.cell? ⟨gb185, 3, none⟩ = some (.int .i64 0) := (blk_cell BK185.out 3).trans rfl
              have hfs18 := blk_frozen BK185.out 3
              have hns18_0 := NB179_185.out
              have hms18_0 := NB185_179.out
              have hs19 : w14.cell? ⟨gb185, 4, none⟩ = some (.int .i64 0) := (blk_cell BK185.out 4).trans rfl
              have hfs19 := blk_frozen BK185.out 4
              have hns19_0 := NB179_185.out
              have hms19_0 := NB185_179.out
              refine skip_ (w1 := ?_) (by rfl) rfl ?_ ?_
              rotate_left
              · go_simp
                rfl
              refine hK.out _ _ ⟨((cell_far (p := ⟨gb185, _, none⟩) (farB hw181_0 GW185.out) _).trans (((cell_far (p := ⟨gb185, _, none⟩) (farB hw181_0 GW185.out) _).trans (((cell_far (p := ⟨gb185, _, none⟩) (farB hw181_0 GW185.out) _).trans (((cell_far (p := ⟨gb185, _, none⟩) (farB hw181_0 GW185.out) _).trans (((cell_far (p := ⟨gb185, _, none⟩) (farB hw181_0 GW185.out) _).trans (hHeld.1)))))))))), ((cell_far (p := ⟨gb185, _, none⟩) (farB hw182_0 GW185.out) _).trans (((cell_far (p := ⟨gb185, _, none⟩) (farB hw182_0 GW185.out) _).trans (((cell_far (p := ⟨gb185, _, none⟩) (farB hw182_0 GW185.out) _).trans (((cell_far (p := ⟨gb185, _, none⟩) (farB hw182_0 GW185.out) _).trans (((cell_far (p := ⟨gb185, _, none⟩) (farB hw182_0 GW185.out) _).trans (hHeld.2.1)))))))))), ((cell_far (p := ⟨gb185, _, none⟩) (farB hw183_0 GW185.out) _).trans (((cell_far (p := ⟨gb185, _, none⟩) (farB hw183_0 GW185.out) _).trans (((cell_far (p := ⟨gb185, _, none⟩) (farB hw183_0 GW185.out) _).trans (((cell_far (p := ⟨gb185, _, none⟩) (farB hw183_0 GW185.out) _).trans (((cell_far (p := ⟨gb185, _, none⟩) (farB hw183_0 GW185.out) _).trans (hHeld.2.2))))))))))⟩ (fun hHeld => ?_)
              clear hK K
              refine done_ (done_of HT_.out (by kernel_rfl)) ?_
              have hnb20 := NB185_179.out
              have hnc20 := NB179_185.out
              have hcz21_0 : w14.cell? ⟨gb185, 0, none⟩ = some (.int .i64 0) := (blk_cell BK185.out 0).trans rfl
              have hcz21_1 : w14.cell? ⟨gb185, 1, none⟩ = some (.int .i64 0) := (blk_cell BK185.out 1).trans rfl
              have hcz21_2 : w14.cell? ⟨gb185, 2, none⟩ = some (.int .i64 0) := (blk_cell BK185.out 2).trans rfl
              have hcz21_3 : w14.cell? ⟨gb185, 3, none⟩ = some (.int .i64 0) := (blk_cell BK185.out 3).trans rfl
              have hcz21_4 : w14.cell? ⟨gb185, 4, none⟩ = some (.int .i64 0) := (blk_cell BK185.out 4).trans rfl
              have hfz21_0 := blk_frozen BK185.out 0
              have hfz21_1 := blk_frozen BK185.out 1
              have hfz21_2 := blk_frozen BK185.out 2
              have hfz21_3 := blk_frozen BK185.out 3
              have hfz21_4 := blk_frozen BK185.out 4
              try go_wp2_with (first | ((with_reducible refine gate_callee (f := 26) rfl ?_); refine goesL_ (some 30) rfl rfl Try.func26 (by kernel_rfl) rfl #[.agg #[.int .i64 t180, .int .i64 (wrap64 (rd l0 6)), .int .i64 (wrap64 (rd l0 7)), .int .i64 (wrap64 (rd l0 8)), .int .i64 t184]] rfl (by (try simp only [List.map_toArray, List.map_cons, List.map_nil]); first | done | rfl | (simp only [List.length_drop, List.length_take]; rfl)) ?_; (with_reducible refine (drydockref08_Encode.calls k t180 (wrap64 (rd l0 6)) (wrap64 (rd l0 7)) (wrap64 (rd l0 8)) t184 t186 t189 _ A8.out).mono ?_); rintro e w22 ⟨v187, rfl, ho0, hb⟩; refine ⟨_, rfl, ?_⟩; have n0_ := Aside0.mk (Kd.R_lower ho0 (below_size (by repeat (first | (with_reducible first | exact HB.out | apply zB | apply zP | apply zE | refine zS ?_ GE179.out | refine zS ?_ GE185.out) | exact HB.out)))); have n1_ := Aside0.mk (blk_below (g := gb179) (o := .cells #[.int .i64 0, .int .i64 0, .int .i64 0, .int .i64 0, .int .i64 0] 40 (0, 0)) (by (with_reducible repeat (first | refine zN ?_ _ | refine zD ?_ | refine zA ?_ _)); refine blk_far ?_ NB179_185.out _; (with_reducible repeat (first | refine zN ?_ _ | refine zD ?_ | refine zA ?_ _)); refine blk_far ?_ NB179_185.out _; (with_reducible repeat (first | refine zN ?_ _ | refine zD ?_ | refine zA ?_ _)); refine blk_far ?_ NB179_185.out _; (with_reducible repeat (first | refine zN ?_ _ | refine zD ?_ | refine zA ?_ _)); refine blk_far ?_ NB179_185.out _; (with_reducible repeat (first | refine zN ?_ _ | refine zD ?_ | refine zA ?_ _)); refine blk_far ?_ NB179_185.out _; (with_reducible repeat (first | refine zN ?_ _ | refine zD ?_ | refine zA ?_ _)); exact BK179.out) hb); have n2_ := Aside0.mk (blk_below (g := gb185) (o := .cells #[.int .i64 t180, .int .i64 (wrap64 (rd l0 6)), .int .i64 (wrap64 (rd l0 7)), .int .i64 (wrap64 (rd l0 8)), .int .i64 t184] 40 (0, 0)) (by (with_reducible repeat (first | refine zN ?_ _ | refine zD ?_ | refine zA ?_ _)); refine blk_put (cs := #[.int .i64 t180, .int .i64 (wrap64 (rd l0 6)), .int .i64 (wrap64 (rd l0 7)), .int .i64 (wrap64 (rd l0 8)), .int .i64 0]) ?_ 4 _ rfl; (with_reducible repeat (first | refine zN ?_ _ | refine zD ?_ | refine zA ?_ _)); refine blk_put (cs := #[.int .i64 t180, .int .i64 (wrap64 (rd l0 6)), .int .i64 (wrap64 (rd l0 7)), .int .i64 0, .int .i64 0]) ?_ 3 _ rfl; (with_reducible repeat (first | refine zN ?_ _ | refine zD ?_ | refine zA ?_ _)); refine blk_put (cs := #[.int .i64 t180, .int .i64 (wrap64 (rd l0 6)), .int .i64 0, .int .i64 0, .int .i64 0]) ?_ 2 _ rfl; (with_reducible repeat (first | refine zN ?_ _ | refine zD ?_ | refine zA ?_ _)); refine blk_put (cs := #[.int .i64 t180, .int .i64 0, .int .i64 0, .int .i64 0, .int .i64 0]) ?_ 1 _ rfl; (with_reducible repeat (first | refine zN ?_ _ | refine zD ?_ | refine zA ?_ _)); refine blk_put (cs := #[.int .i64 0, .int .i64 0, .int .i64 0, .int .i64 0, .int .i64 0]) ?_ 0 _ rfl; (with_reducible repeat (first | refine zN ?_ _ | refine zD ?_ | refine zA ?_ _)); exact BK185.out) hb); have n3_ := Aside0.mk (below_step (by repeat (first | (with_reducible first | exact HB.out | apply zB | apply zP | apply zE | refine zS ?_ GE179.out | refine zS ?_ GE185.out) | exact HB.out)) hb); clear BK179; clear BK185; clear HB; have HO188 := n0_; have BK179 := n1_; have BK185 := n2_; have HB := n3_; clear n0_ n1_ n2_ n3_; (try clear hb); (try clear hb2); (try clear hk); (try clear hi); (try clear ho0); have hcv23 := own_string (P := Try.prog) Try.underlying22 Try.underlying5 Try.underlying9 (Kd.own_of_R HO188.out); have hcv24 := Kd.C_string (P := Try.prog) (A := (some ad181)) (c := c0) Try.underlying22 Try.underlying5 Try.underlying9 (Kd.C_below HR0.out HB.out); have hcz25_0 : w22.cell? ⟨gb185, 0, none⟩ = some (.int .i64 t180) := (blk_cell BK185.out 0).trans rfl; have hcz25_1 : w22.cell? ⟨gb185, 1, none⟩ = some (.int .i64 (wrap64 (rd l0 6))) := (blk_cell BK185.out 1).trans rfl; have hcz25_2 : w22.cell? ⟨gb185, 2, none⟩ = some (.int .i64 (wrap64 (rd l0 7))) := (blk_cell BK185.out 2).trans rfl; have hcz25_3 : w22.cell? ⟨gb185, 3, none⟩ = some (.int .i64 (wrap64 (rd l0 8))) := (blk_cell BK185.out 3).trans rfl; have hcz25_4 : w22.cell? ⟨gb185, 4, none⟩ = some (.int .i64 t184) := (blk_cell BK185.out 4).trans rfl; have hfz25_0 := blk_frozen BK185.out 0; have hfz25_1 := blk_frozen BK185.out 1; have hfz25_2 := blk_frozen BK185.out 2; have hfz25_3 := blk_frozen BK185.out 3; have hfz25_4 := blk_frozen BK185.out 4; have hcz26_0 : w22.cell? ⟨gb179, 0, none⟩ = some (.int .i64 0) := (blk_cell BK179.out 0).trans rfl; have hcz26_1 : w22.cell? ⟨gb179, 1, none⟩ = some (.int .i64 0) := (blk_cell BK179.out 1).trans rfl; have hcz26_2 : w22.cell? ⟨gb179, 2, none⟩ = some (.int .i64 0) := (blk_cell BK179.out 2).trans rfl; have hcz26_3 : w22.cell? ⟨gb179, 3, none⟩ = some (.int .i64 0) := (blk_cell BK179.out 3).trans rfl; have hcz26_4 : w22.cell? ⟨gb179, 4, none⟩ = some (.int .i64 0) := (blk_cell BK179.out 4).trans rfl; have hfz26_0 := blk_frozen BK179.out 0; have hfz26_1 := blk_frozen BK179.out 1; have hfz26_2 := blk_frozen BK179.out 2; have hfz26_3 := blk_frozen BK179.out 3; have hfz26_4 := blk_frozen BK179.out 4))
              refine bodyPost_ret (results_ct rfl _ _ gb179 40 #[.int .i64 t180, .int .i64 (wrap64 (rd l0 6)), .int .i64 (wrap64 (rd l0 7)), .int .i64 (wrap64 (rd l0 8)), .int .i64 t184] (0, 0) _ rfl (by (with_reducible repeat (first | refine zN ?_ _ | refine zD ?_ | refine zA ?_ _)); refine blk_put (cs := #[.int .i64 t180, .int .i64 (wrap64 (rd l0 6)), .int .i64 (wrap64 (rd l0 7)), .int .i64 (wrap64 (rd l0 8)), .int .i64 0]) ?_ 4 _ rfl; (with_reducible repeat (first | refine zN ?_ _ | refine zD ?_ | refine zA ?_ _)); refine blk_put (cs := #[.int .i64 t180, .int .i64 (wrap64 (rd l0 6)), .int .i64 (wrap64 (rd l0 7)), .int .i64 0, .int .i64 0]) ?_ 3 _ rfl; (with_reducible repeat (first | refine zN ?_ _ | refine zD ?_ | refine zA ?_ _)); refine blk_put (cs := #[.int .i64 t180, .int .i64 (wrap64 (rd l0 6)), .int .i64 0, .int .i64 0, .int .i64 0]) ?_ 2 _ rfl; (with_reducible repeat (first | refine zN ?_ _ | refine zD ?_ | refine zA ?_ _)); refine blk_put (cs := #[.int .i64 t180, .int .i64 0, .int .i64 0, .int .i64 0, .int .i64 0]) ?_ 1 _ rfl; (with_reducible repeat (first | refine zN ?_ _ | refine zD ?_ | refine zA ?_ _)); refine blk_put (cs := #[.int .i64 0, .int .i64 0, .int .i64 0, .int .i64 0, .int .i64 0]) ?_ 0 _ rfl; (with_reducible repeat (first | refine zN ?_ _ | refine zD ?_ | refine zA ?_ _)); exact BK179.out) Try.underlying40 rfl (by kernel_rfl)) rfl ?_
              exact ⟨by first | rfl | (simp [errW_none, errW_some] <;> rfl) | (simp [*, errW_none, errW_some] <;> rfl), by repeat (first | (with_reducible first | exact HB.out | apply zB | apply zP | apply zE | refine zS ?_ GE179.out | refine zS ?_ GE185.out) | exact HB.out)⟩
            · rw [if_neg c10] at H
              have c10b0 : ((strOfNums t186).toList == (strOfNums l0).toList) = false := beq_eq_false_iff_ne.mpr c10
              have c10b1 : ((strOfNums t186).toList != (strOfNums l0).toList) = true := bne_iff_ne.mpr c10
              simp only [Option.some.injEq, Prod.mk.injEq] at H
              obtain ⟨rfl, rfl, rfl, rfl, rfl, rfl⟩ := H
              go_enter Try.func31, Try.ntmps31
              try go_wp2_with (first | ((with_reducible refine gate_dst (N := 2) rfl ?_); refine box_event ?hg (N := 2) ?hd (cs := #[.int .i64 0, .int .i64 0, .int .i64 0, .int .i64 0, .int .i64 0]) (t := 40) ?hr ?_; (case hd => rfl); (case hg => rfl); (case hr => first | (go_simp; done) | (go_simp; rfl)); intro gb179 hg w27 hbox hb; have n0_ := Aside0.mk (below_step (by repeat (first | (with_reducible first | exact HB.out | apply zB | apply zP | apply zE) | exact HB.out)) hb); have n1_ := Aside0.mk (hbox); have n2_ := Aside0.mk ((by rw [hg]; exact (below_size (by repeat (first | (with_reducible first | exact HB.out | apply zB | apply zP | apply zE) | exact HB.out))) : w.heap.size ≤ gb179)); have n3_ := Aside0.mk ((by rw [hg]; exact (below_size (by repeat (first | (with_reducible first | exact HB.out | apply zB | apply zP | apply zE) | exact HB.out))) : w.heap.size ≤ gb179)); clear HB; have HB := n0_; have BK179 := n1_; have GW179 := n2_; have GE179 := n3_; clear n0_ n1_ n2_ n3_; clear hb hbox hg))
              have n0_ := Aside0.mk (zD BK179.out)
              have n1_ := Aside0.mk (zE HB.out)
              clear BK179
              clear HB
              have BK179 := n0_
              have HB := n1_
              clear n0_ n1_
              have p181 : 0 ≤ (6 : Int) := (by omega)
              have q181 : 6 < (l0.length : Int) := of_decide_eq_true (by first | (with_reducible assumption) | assumption)
              obtain ⟨ad181, e181, hx181_0⟩ := Kd.at_int HR0.out 6 p181 q181
              have hw181_0 := hx181_0
              (try rw [show ((6 : Int)).toNat = 6 from rfl] at hw181_0)
              (try rw [show 6 * 1 = 6 from rfl] at hw181_0)
              (try simp only [Nat.reduceMul, Nat.reduceEqDiff, Go.Addr.add, ↓reduceIte] at hw181_0)
              cases e181
              (try simp only [show (6 : Int).toNat = 6 from rfl, Nat.reduceMul, Nat.reduceEqDiff, Go.Addr.add, ↓reduceIte] at hx181_0)
              have qi181 : (6 < l0.length) = True := eq_true (by omega)
              (try rw [show ((6 : Int)).toNat = 6 from rfl] at hx181_0)
              replace hx181_0 := (HB.out.cell (World.block_lt_of_cell? w _ hx181_0)).trans hx181_0
              replace p181 := eq_true p181
              replace q181 := eq_true q181
              have p182 : 0 ≤ (7 : Int) := (by omega)
              have q182 : 7 < (l0.length : Int) := of_decide_eq_true (by first | (with_reducible assumption) | assumption)
              obtain ⟨ad182, e182, hx182_0⟩ := Kd.at_int HR0.out 7 p182 q182
              have hw182_0 := hx182_0
              (try rw [show ((7 : Int)).toNat = 7 from rfl] at hw182_0)
              (try rw [show 7 * 1 = 7 from rfl] at hw182_0)
              (try simp only [Nat.reduceMul, Nat.reduceEqDiff, Go.Addr.add, ↓reduceIte] at hw182_0)
              obtain rfl : ad181 = ad182 := (by injection e182)
              (try simp only [show (7 : Int).toNat = 7 from rfl, Nat.reduceMul, Nat.reduceEqDiff, Go.Addr.add, ↓reduceIte] at hx182_0)
              have qi182 : (7 < l0.length) = True := eq_true (by omega)
              (try rw [show ((7 : Int)).toNat = 7 from rfl] at hx182_0)
              replace hx182_0 := (HB.out.cell (World.block_lt_of_cell? w _ hx182_0)).trans hx182_0
              replace p182 := eq_true p182
              replace q182 := eq_true q182
              have p183 : 0 ≤ (8 : Int) := (by omega)
              have q183 : 8 < (l0.length : Int) := of_decide_eq_true (by first | (with_reducible assumption) | assumption)
              obtain ⟨ad183, e183, hx183_0⟩ := Kd.at_int HR0.out 8 p183 q183
              have hw183_0 := hx183_0
              (try rw [show ((8 : Int)).toNat = 8 from rfl] at hw183_0)
              (try rw [show 8 * 1 = 8 from rfl] at hw183_0)
              (try simp only [Nat.reduceMul, Nat.reduceEqDiff, Go.Addr.add, ↓reduceIte] at hw183_0)
              obtain rfl : ad181 = ad183 := (by injection e183)
              (try simp only [show (8 : Int).toNat = 8 from rfl, Nat.reduceMul, Nat.reduceEqDiff, Go.Addr.add, ↓reduceIte] at hx183_0)
              have qi183 : (8 < l0.length) = True := eq_true (by omega)
              (try rw [show ((8 : Int)).toNat = 8 from rfl] at hx183_0)
              replace hx183_0 := (HB.out.cell (World.block_lt_of_cell? w _ hx183_0)).trans hx183_0
              replace p183 := eq_true p183
              replace q183 := eq_true q183
              refine start_ (n := 19) (S := fun w' => w'.cell? ⟨ad181.block, ad181.off + 6, none⟩ = some (.int .u8 (rd l0 6)) ∧ w'.cell? ⟨ad181.block, ad181.off + 7, none⟩ = some (.int .u8 (rd l0 7)) ∧ w'.cell? ⟨ad181.block, ad181.off + 8, none⟩ = some (.int .u8 (rd l0 8))) (ds := []) #[false, false, false, false, false, false, false, false, false, false, false, false, false, false, false, false, false, false, false] (by kernel_rfl) rfl rfl ⟨((HB.out.cell (World.block_lt_of_cell? w _ hw181_0)).trans hw181_0), ((HB.out.cell (World.block_lt_of_cell? w _ hw182_0)).trans hw182_0), ((HB.out.cell (World.block_lt_of_cell? w _ hw183_0)).trans hw183_0)⟩ (fun hHeld => ?_); refine with_tabW drydockref08_Decode.tab3 drydockref08_Decode.bits3 (fun HT_ HW_ => ?_)
              generalize w27.drew = w28 at BK179 HB hx181_0 hx182_0 hx183_0 hHeld ⊢
              refine pure_ (i := 0) (N := some 11) (v := ?_) (a' := ?_) #[true, false, false, false, false, false, false, false, false, false, false, false, false, false, false, false, false, false, false] rfl rfl (any_of HT_.out (by kernel_rfl)) (fun _ _ _ h => h) (Or.inl ⟨by rfl, ?_⟩) ?_ ?_
              rotate_left
              · intro w'
                go_simp
                with_reducible rfl
              rotate_left
              · simp only [Act.put, List.setIfInBounds_toArray, List.set_cons_zero, List.set_cons_succ, i64_w, i32_w]
                rfl
              refine pure_ (i := 2) (N := some 13) (v := ?_) (a' := ?_) #[true, false, true, false, false, false, false, false, false, false, false, false, false, false, false, false, false, false, false] rfl rfl (any_of HT_.out (by kernel_rfl)) (fun _ _ _ h => h) (Or.inl ⟨by rfl, ?_⟩) ?_ ?_
              rotate_left
              · intro w'
                go_simp
                with_reducible rfl
              rotate_left
              · simp only [Act.put, List.setIfInBounds_toArray, List.set_cons_zero, List.set_cons_succ, i64_w, i32_w]
                rfl
              refine pure_ (i := 3) (N := some 14) (v := ?_) (a' := ?_) #[true, false, true, true, false, false, false, false, false, false, false, false, false, false, false, false, false, false, false] rfl rfl (any_of HT_.out (by kernel_rfl)) (fun _ _ _ h => h) (Or.inl ⟨by rfl, ?_⟩) ?_ ?_
              rotate_left
              · intro w'
                go_simp
                with_reducible rfl
              rotate_left
              · simp only [Act.put, List.setIfInBounds_toArray, List.set_cons_zero, List.set_cons_succ, i64_w, i32_w]
                rfl
              refine pure_ (i := 6) (N := some 17) (v := ?_) (a' := ?_) #[true, false, true, true, false, false, true, false, false, false, false, false, false, false, false, false, false, false, false] rfl rfl (any_of HT_.out (by kernel_rfl)) (fun _ _ _ h => h) (Or.inl ⟨by rfl, ?_⟩) ?_ ?_
              rotate_left
              · intro w'
                go_simp
                with_reducible rfl
              rotate_left
              · simp only [Act.put, List.setIfInBounds_toArray, List.set_cons_zero, List.set_cons_succ, i64_w, i32_w]
                rfl
              refine pure_ (i := 7) (N := some 18) (v := ?_) (a' := ?_) #[true, false, true, true, false, false, true, true, false, false, false, false, false, false, false, false, false, false, false] rfl rfl (any_of HT_.out (by kernel_rfl)) (fun _ _ _ h => h) (Or.inl ⟨by rfl, ?_⟩) ?_ ?_
              rotate_left
              · intro w'
                go_simp
                with_reducible rfl
              rotate_left
              · simp only [Act.put, List.setIfInBounds_toArray, List.set_cons_zero, List.set_cons_succ, i64_w, i32_w]
                rfl
              refine pure_ (i := 10) (N := some 21) (v := ?_) (a' := ?_) #[true, false, true, true, false, false, true, true, false, false, true, false, false, false, false, false, false, false, false] rfl rfl (any_of HT_.out (by kernel_rfl)) (fun _ _ _ h => h) (Or.inl ⟨by rfl, ?_⟩) ?_ ?_
              rotate_left
              · intro w'
                go_simp
                with_reducible rfl
              rotate_left
              · simp only [Act.put, List.setIfInBounds_toArray, List.set_cons_zero, List.set_cons_succ, i64_w, i32_w]
                rfl
              refine pure_ (i := 11) (N := some 22) (v := ?_) (a' := ?_) #[true, false, true, true, false, false, true, true, false, false, true, true, false, false, false, false, false, false, false] rfl rfl (any_of HT_.out (by kernel_rfl)) (fun _ _ _ h => h) (Or.inl ⟨by rfl, ?_⟩) ?_ ?_
              rotate_left
              · intro w'
                go_simp
                with_reducible rfl
              rotate_left
              · simp only [Act.put, List.setIfInBounds_toArray, List.set_cons_zero, List.set_cons_succ, i64_w, i32_w]
                rfl
              refine pure_ (i := 14) (N := some 25) (v := ?_) (a' := ?_) #[true, false, true, true, false, false, true, true, false, false, true, true, false, false, true, false, false, false, false] rfl rfl (any_of HT_.out (by kernel_rfl)) (fun _ _ _ h => h) (Or.inl ⟨by rfl, ?_⟩) ?_ ?_
              rotate_left
              · intro w'
                go_simp
                with_reducible rfl
              rotate_left
              · simp only [Act.put, List.setIfInBounds_toArray, List.set_cons_zero, List.set_cons_succ, i64_w, i32_w]
                rfl
              refine take_ (i := 4) (N := some 15) (v := ?_) (a' := ?_) #[true, false, true, true, true, false, true, true, false, false, true, true, false, false, true, false, false, false, false] rfl rfl (take_ofW HT_.out HW_.out (by kernel_rfl)) (fun _ _ _ h => h) (Or.inl ⟨by rfl, ?_⟩) hHeld ?_ ?_
              rotate_left
              · rintro w' ⟨s0, s1, s2⟩
                go_simp
                with_reducible rfl
              rotate_left
              · simp only [Act.put, List.setIfInBounds_toArray, List.set_cons_zero, List.set_cons_succ, i64_w, i32_w]
                rfl
              refine pure_ (i := 5) (N := some 16) (v := ?_) (a' := ?_) #[true, false, true, true, true, true, true, true, false, false, true, true, false, false, true, false, false, false, false] rfl rfl (any_of HT_.out (by kernel_rfl)) (fun _ _ _ h => h) (Or.inl ⟨by rfl, ?_⟩) ?_ ?_
              rotate_left
              · intro w'
                go_simp
                with_reducible rfl
              rotate_left
              · simp only [Act.put, List.setIfInBounds_toArray, List.set_cons_zero, List.set_cons_succ, i64_w, i32_w]
                rfl
              refine take_ (i := 8) (N := some 19) (v := ?_) (a' := ?_) #[true, false, true, true, true, true, true, true, true, false, true, true, false, false, true, false, false, false, false] rfl rfl (take_ofW HT_.out HW_.out (by kernel_rfl)) (fun _ _ _ h => h) (Or.inl ⟨by rfl, ?_⟩) hHeld ?_ ?_
              rotate_left
              · rintro w' ⟨s0, s1, s2⟩
                go_simp
                with_reducible rfl
              rotate_left
              · simp only [Act.put, List.setIfInBounds_toArray, List.set_cons_zero, List.set_cons_succ, i64_w, i32_w]
                rfl
              refine pure_ (i := 9) (N := some 20) (v := ?_) (a' := ?_) #[true, false, true, true, true, true, true, true, true, true, true, true, false, false, true, false, false, false, false] rfl rfl (any_of HT_.out (by kernel_rfl)) (fun _ _ _ h => h) (Or.inl ⟨by rfl, ?_⟩) ?_ ?_
              rotate_left
              · intro w'
                go_simp
                with_reducible rfl
              rotate_left
              · simp only [Act.put, List.setIfInBounds_toArray, List.set_cons_zero, List.set_cons_succ, i64_w, i32_w]
                rfl
              refine take_ (i := 12) (N := some 23) (v := ?_) (a' := ?_) #[true, false, true, true, true, true, true, true, true, true, true, true, true, false, true, false, false, false, false] rfl rfl (take_ofW HT_.out HW_.out (by kernel_rfl)) (fun _ _ _ h => h) (Or.inl ⟨by rfl, ?_⟩) hHeld ?_ ?_
              rotate_left
              · rintro w' ⟨s0, s1, s2⟩
                go_simp
                with_reducible rfl
              rotate_left
              · simp only [Act.put, List.setIfInBounds_toArray, List.set_cons_zero, List.set_cons_succ, i64_w, i32_w]
                rfl
              refine pure_ (i := 13) (N := some 24) (v := ?_) (a' := ?_) #[true, false, true, true, true, true, true, true, true, true, true, true, true, true, true, false, false, false, false] rfl rfl (any_of HT_.out (by kernel_rfl)) (fun _ _ _ h => h) (Or.inl ⟨by rfl, ?_⟩) ?_ ?_
              rotate_left
              · intro w'
                go_simp
                with_reducible rfl
              rotate_left
              · simp only [Act.put, List.setIfInBounds_toArray, List.set_cons_zero, List.set_cons_succ, i64_w, i32_w]
                rfl
              refine join_ (σ := Nat) 1 #[true, true, true, true, true, true, true, true, true, true, true, true, true, true, true, true, true, true, false] (fun s_ => [(12, .int .i64 t180), (26, .int .i64 t184), (4, .pointer (some ⟨s_, 0, none⟩)), (27, .agg #[.int .i64 t180, .int .i64 (wrap64 (rd l0 6)), .int .i64 (wrap64 (rd l0 7)), .int .i64 (wrap64 (rd l0 8)), .int .i64 t184])]) (fun s_ w' => (w'.cell? ⟨ad181.block, ad181.off + 6, none⟩ = some (.int .u8 (rd l0 6)) ∧ w'.cell? ⟨ad181.block, ad181.off + 7, none⟩ = some (.int .u8 (rd l0 7)) ∧ w'.cell? ⟨ad181.block, ad181.off + 8, none⟩ = some (.int .u8 (rd l0 8))) ∧ (w'.heap[gb179]? = some (.cells #[.int .i64 0, .int .i64 0, .int .i64 0, .int .i64 0, .int .i64 0] 40 (0, 0))) ∧ (w'.heap[s_]? = some (.cells #[.int .i64 0, .int .i64 0, .int .i64 0, .int .i64 0, .int .i64 0] 40 (0, 0))) ∧ (w.heap.size ≤ s_) ∧ (w.heap.size ≤ s_) ∧ (gb179 ≠ s_) ∧ (s_ ≠ gb179) ∧ (Below w.heap.size w w')) ?_ ?_
              rotate_left
              · intro hCont
                refine two_ (i := 1) (j := 17) (Ni := some 12) (Nj := some 4) #[true, true, true, true, true, true, true, true, true, true, true, true, true, true, true, false, false, false, false] #[true, false, true, true, true, true, true, true, true, true, true, true, true, true, true, false, false, true, false] rfl rfl rfl rfl (two_of HT_.out (by kernel_rfl)) (by decide) (by decide) (fun K hK => ?_) (fun K hK => ?_)
                · skip
                  refine goes_ Try.func39 (by kernel_rfl) rfl #[.slice (some ad181) l0.length c0, .int .i64 4, .int .i64 2] (by rfl) rfl rfl (by (try simp only [List.map_toArray, List.map_cons, List.map_nil]); first | done | rfl | (simp only [List.length_drop, List.length_take]; rfl)) ?_
                  with_reducible refine (drydockref04_Num.calls k _ _ l0 4 2 t180 _ ?side1 ?side2 A3.out).mono ?_
                  (case side1 => repeat (first | exact (Kd.C_below HR0.out HB.out) | (with_reducible refine Kd.C_alloc ?_ _) | (with_reducible refine Kd.C_drewN ?_ _) | (with_reducible refine Kd.C_drew ?_)))
                  (case side2 => exact HC0.out)
                  rintro e w' ⟨rfl, ⟨nd, rfl⟩⟩
                  refine ⟨_, rfl, ?_⟩
                  refine hK.out _ _ ⟨((HB.out.cell (World.block_lt_of_cell? w _ hw181_0)).trans hw181_0), ((HB.out.cell (World.block_lt_of_cell? w _ hw182_0)).trans hw182_0), ((HB.out.cell (World.block_lt_of_cell? w _ hw183_0)).trans hw183_0)⟩ (fun hHeld => ?_)
                  clear hK K
                  refine norm_ (a' := ?_) ?_ ?_
                  rotate_left
                  · show Act.put _ (some 12) _ = _
                    simp only [Act.put, List.setIfInBounds_toArray, List.set_cons_zero, List.set_cons_succ, i64_w, i32_w]
                    rfl
                  refine two_ (i := 15) (j := 17) (Ni := some 26) (Nj := some 4) #[true, true, true, true, true, true, true, true, true, true, true, true, true, true, true, true, false, false, false] #[true, true, true, true, true, true, true, true, true, true, true, true, true, true, true, false, false, true, false] rfl rfl rfl rfl (two_of HT_.out (by kernel_rfl)) (by decide) (by decide) (fun K hK => ?_) (fun K hK => ?_)
                  · skip
                    refine goes_ Try.func39 (by kernel_rfl) rfl #[.slice (some ad181) l0.length c0, .int .i64 10, .int .i64 2] (by rfl) rfl rfl (by (try simp only [List.map_toArray, List.map_cons, List.map_nil]); first | done | rfl | (simp only [List.length_drop, List.length_take]; rfl)) ?_
                    with_reducible refine (drydockref04_Num.calls k _ _ l0 10 2 t184 _ ?side1 ?side2 A7.out).mono ?_
                    (case side1 => repeat (first | exact (Kd.C_below HR0.out (by repeat (first | (with_reducible first | exact HB.out | apply zB | apply zP | apply zE | refine zS ?_ GE179.out) | exact HB.out))) | (with_reducible refine Kd.C_alloc ?_ _) | (with_reducible refine Kd.C_drewN ?_ _) | (with_reducible refine Kd.C_drew ?_)))
                    (case side2 => exact HC0.out)
                    rintro e w' ⟨rfl, ⟨nd, rfl⟩⟩
                    refine ⟨_, rfl, ?_⟩
                    refine hK.out _ _ ⟨((HB.out.cell (World.block_lt_of_cell? w _ hw181_0)).trans hw181_0), ((HB.out.cell (World.block_lt_of_cell? w _ hw182_0)).trans hw182_0), ((HB.out.cell (World.block_lt_of_cell? w _ hw183_0)).trans hw183_0)⟩ (fun hHeld => ?_)
                    clear hK K
                    refine norm_ (a' := ?_) ?_ ?_
                    rotate_left
                    · show Act.put _ (some 26) _ = _
                      simp only [Act.put, List.setIfInBounds_toArray, List.set_cons_zero, List.set_cons_succ, i64_w, i32_w]
                      rfl
                    refine pure_ (i := 16) (N := some 27) (v := ?_) (a' := ?_) #[true, true, true, true, true, true, true, true, true, true, true, true, true, true, true, true, true, false, false] rfl rfl (any_of HT_.out (by kernel_rfl)) (fun _ _ _ h => h) (Or.inl ⟨by rfl, ?_⟩) ?_ ?_
                    rotate_left
                    · intro w'
                      go_simp
                      with_reducible rfl
                    rotate_left
                    · simp only [Act.put, List.setIfInBounds_toArray, List.set_cons_zero, List.set_cons_succ, i64_w, i32_w]
                      rfl
                    refine one_ (i := 17) (N := some 4) #[true, true, true, true, true, true, true, true, true, true, true, true, true, true, true, true, true, true, false] rfl rfl (one_of HT_.out (by kernel_rfl)) (by decide) (fun K hK => ?_)
                    refine box_step ?hg (N := 4) ?hd (cs := #[.int .i64 0, .int .i64 0, .int .i64 0, .int .i64 0, .int .i64 0]) (t := 40) ?hr ?_; (case hd => rfl); (case hg => rfl); (case hr => first | (go_simp; done) | (go_simp; rfl))
                    intro gb185 hg w29 hbox hb
                    have n0_ := Aside0.mk (blk_below (g := gb179) (o := .cells #[.int .i64 0, .int .i64 0, .int .i64 0, .int .i64 0, .int .i64 0] 40 (0, 0)) (by (with_reducible repeat (first | refine zN ?_ _ | refine zD ?_ | refine zA ?_ _)); exact BK179.out) hb)
                    have n1_ := Aside0.mk (below_step (by repeat (first | (with_reducible first | exact HB.out | apply zB | apply zP | apply zE | refine zS ?_ GE179.out) | exact HB.out)) hb)
                    have n2_ := Aside0.mk (hbox)
                    have n3_ := Aside0.mk ((by rw [hg]; exact (below_size (by repeat (first | (with_reducible first | exact HB.out | apply zB | apply zP | apply zE | refine zS ?_ GE179.out) | exact HB.out))) : w.heap.size ≤ gb185))
                    have n4_ := Aside0.mk ((by rw [hg]; exact (below_size (by repeat (first | (with_reducible first | exact HB.out | apply zB | apply zP | apply zE | refine zS ?_ GE179.out) | exact HB.out))) : w.heap.size ≤ gb185))
                    have n5_ := Aside0.mk ((by rw [hg]; exact Nat.ne_of_lt (blk_lt (g := gb179) (o := .cells #[.int .i64 0, .int .i64 0, .int .i64 0, .int .i64 0, .int .i64 0] 40 (0, 0)) (by (with_reducible repeat (first | refine zN ?_ _ | refine zD ?_ | refine zA ?_ _)); exact BK179.out)) : gb179 ≠ gb185))
                    have n6_ := Aside0.mk ((by rw [hg]; exact Nat.ne_of_gt (blk_lt (g := gb179) (o := .cells #[.int .i64 0, .int .i64 0, .int .i64 0, .int .i64 0, .int .i64 0] 40 (0, 0)) (by (with_reducible repeat (first | refine zN ?_ _ | refine zD ?_ | refine zA ?_ _)); exact BK179.out)) : gb185 ≠ gb179))
                    clear BK179
                    clear HB
                    have BK179 := n0_
                    have HB := n1_
                    have BK185 := n2_
                    have GW185 := n3_
                    have GE185 := n4_
                    have NB179_185 := n5_
                    have NB185_179 := n6_
                    clear n0_ n1_ n2_ n3_ n4_ n5_ n6_
                    clear hb hbox hg
                    refine hK.out _ _ ⟨((HB.out.cell (World.block_lt_of_cell? w _ hw181_0)).trans hw181_0), ((HB.out.cell (World.block_lt_of_cell? w _ hw182_0)).trans hw182_0), ((HB.out.cell (World.block_lt_of_cell? w _ hw183_0)).trans hw183_0)⟩ (fun hHeld => ?_)
                    clear hK K
                    refine norm_ (a' := ?_) ?_ ?_
                    rotate_left
                    · show Act.put _ (some 4) _ = _
                      simp only [Act.put, List.setIfInBounds_toArray, List.set_cons_zero, List.set_cons_succ, i64_w, i32_w]
                      rfl
                    exact norm_ (by simp only [putAll, Act.put, List.setIfInBounds_toArray, List.set_cons_zero, List.set_cons_succ]) (hCont (gb185) _ ⟨hHeld, (by (with_reducible repeat (first | refine zN ?_ _ | refine zD ?_ | refine zA ?_ _)); exact BK179.out), (by (with_reducible repeat (first | refine zN ?_ _ | refine zD ?_ | refine zA ?_ _)); exact BK185.out), GW185.out, GE185.out, NB179_185.out, NB185_179.out, (by repeat (first | (with_reducible first | exact HB.out | apply zB | apply zP | apply zE | refine zS ?_ GE179.out | refine zS ?_ GE185.out) | exact HB.out))⟩)
                  · skip
                    refine box_step ?hg (N := 4) ?hd (cs := #[.int .i64 0, .int .i64 0, .int .i64 0, .int .i64 0, .int .i64 0]) (t := 40) ?hr ?_; (case hd => rfl); (case hg => rfl); (case hr => first | (go_simp; done) | (go_simp; rfl))
                    intro gb185 hg w29 hbox hb
                    have n0_ := Aside0.mk (blk_below (g := gb179) (o := .cells #[.int .i64 0, .int .i64 0, .int .i64 0, .int .i64 0, .int .i64 0] 40 (0, 0)) (by (with_reducible repeat (first | refine zN ?_ _ | refine zD ?_ | refine zA ?_ _)); exact BK179.out) hb)
                    have n1_ := Aside0.mk (below_step (by repeat (first | (with_reducible first | exact HB.out | apply zB | apply zP | apply zE | refine zS ?_ GE179.out) | exact HB.out)) hb)
                    have n2_ := Aside0.mk (hbox)
                    have n3_ := Aside0.mk ((by rw [hg]; exact (below_size (by repeat (first | (with_reducible first | exact HB.out | apply zB | apply zP | apply zE | refine zS ?_ GE179.out) | exact HB.out))) : w.heap.size ≤ gb185))
                    have n4_ := Aside0.mk ((by rw [hg]; exact (below_size (by repeat (first | (with_reducible first | exact HB.out | apply zB | apply zP | apply zE | refine zS ?_ GE179.out) | exact HB.out))) : w.heap.size ≤ gb185))
                    have n5_ := Aside0.mk ((by rw [hg]; exact Nat.ne_of_lt (blk_lt (g := gb179) (o := .cells #[.int .i64 0, .int .i64 0, .int .i64 0, .int .i64 0, .int .i64 0] 40 (0, 0)) (by (with_reducible repeat (first | refine zN ?_ _ | refine zD ?_ | refine zA ?_ _)); exact BK179.out)) : gb179 ≠ gb185))
                    have n6_ := Aside0.mk ((by rw [hg]; exact Nat.ne_of_gt (blk_lt (g := gb179) (o := .cells #[.int .i64 0, .int .i64 0, .int .i64 0, .int .i64 0, .int .i64 0] 40 (0, 0)) (by (with_reducible repeat (first | refine zN ?_ _ | refine zD ?_ | refine zA ?_ _)); exact BK179.out)) : gb185 ≠ gb179))
                    clear BK179
                    clear HB
                    have BK179 := n0_
                    have HB := n1_
                    have BK185 := n2_
                    have GW185 := n3_
                    have GE185 := n4_
                    have NB179_185 := n5_
                    have NB185_179 := n6_
                    clear n0_ n1_ n2_ n3_ n4_ n5_ n6_
                    clear hb hbox hg
                    refine hK.out _ _ ⟨((HB.out.cell (World.block_lt_of_cell? w _ hw181_0)).trans hw181_0), ((HB.out.cell (World.block_lt_of_cell? w _ hw182_0)).trans hw182_0), ((HB.out.cell (World.block_lt_of_cell? w _ hw183_0)).trans hw183_0)⟩ (fun hHeld => ?_)
                    clear hK K
                    refine norm_ (a' := ?_) ?_ ?_
                    rotate_left
                    · show Act.put _ (some 4) _ = _
                      simp only [Act.put, List.setIfInBounds_toArray, List.set_cons_zero, List.set_cons_succ, i64_w, i32_w]
                      rfl
                    refine one_ (i := 15) (N := some 26) #[true, true, true, true, true, true, true, true, true, true, true, true, true, true, true, true, false, true, false] rfl rfl (one_of HT_.out (by kernel_rfl)) (by decide) (fun K hK => ?_)
                    refine goes_ Try.func39 (by kernel_rfl) rfl #[.slice (some ad181) l0.length c0, .int .i64 10, .int .i64 2] (by rfl) rfl rfl (by (try simp only [List.map_toArray, List.map_cons, List.map_nil]); first | done | rfl | (simp only [List.length_drop, List.length_take]; rfl)) ?_
                    with_reducible refine (drydockref04_Num.calls k _ _ l0 10 2 t184 _ ?side1 ?side2 A7.out).mono ?_
                    (case side1 => repeat (first | exact (Kd.C_below HR0.out HB.out) | (with_reducible refine Kd.C_alloc ?_ _) | (with_reducible refine Kd.C_drewN ?_ _) | (with_reducible refine Kd.C_drew ?_)))
                    (case side2 => exact HC0.out)
                    rintro e w' ⟨rfl, ⟨nd, rfl⟩⟩
                    refine ⟨_, rfl, ?_⟩
                    refine hK.out _ _ ⟨((HB.out.cell (World.block_lt_of_cell? w _ hw181_0)).trans hw181_0), ((HB.out.cell (World.block_lt_of_cell? w _ hw182_0)).trans hw182_0), ((HB.out.cell (World.block_lt_of_cell? w _ hw183_0)).trans hw183_0)⟩ (fun hHeld => ?_)
                    clear hK K
                    refine norm_ (a' := ?_) ?_ ?_
                    rotate_left
                    · show Act.put _ (some 26) _ = _
                      simp only [Act.put, List.setIfInBounds_toArray, List.set_cons_zero, List.set_cons_succ, i64_w, i32_w]
                      rfl
                    refine pure_ (i := 16) (N := some 27) (v := ?_) (a' := ?_) #[true, true, true, true, true, true, true, true, true, true, true, true, true, true, true, true, true, true, false] rfl rfl (any_of HT_.out (by kernel_rfl)) (fun _ _ _ h => h) (Or.inl ⟨by rfl, ?_⟩) ?_ ?_
                    rotate_left
                    · intro w'
                      go_simp
                      with_reducible rfl
                    rotate_left
                    · simp only [Act.put, List.setIfInBounds_toArray, List.set_cons_zero, List.set_cons_succ, i64_w, i32_w]
                      rfl
                    exact norm_ (by simp only [putAll, Act.put, List.setIfInBounds_toArray, List.set_cons_zero, List.set_cons_succ]) (hCont (gb185) _ ⟨hHeld, (by (with_reducible repeat (first | refine zN ?_ _ | refine zD ?_ | refine zA ?_ _)); exact BK179.out), (by (with_reducible repeat (first | refine zN ?_ _ | refine zD ?_ | refine zA ?_ _)); exact BK185.out), GW185.out, GE185.out, NB179_185.out, NB185_179.out, (by repeat (first | (with_reducible first | exact HB.out | apply zB | apply zP | apply zE | refine zS ?_ GE179.out | refine zS ?_ GE185.out) | exact HB.out))⟩)
                · skip
                  refine box_step ?hg (N := 4) ?hd (cs := #[.int .i64 0, .int .i64 0, .int .i64 0, .int .i64 0, .int .i64 0]) (t := 40) ?hr ?_; (case hd => rfl); (case hg => rfl); (case hr => first | (go_simp; done) | (go_simp; rfl))
                  intro gb185 hg w29 hbox hb
                  have n0_ := Aside0.mk (blk_below (g := gb179) (o := .cells #[.int .i64 0, .int .i64 0, .int .i64 0, .int .i64 0, .int .i64 0] 40 (0, 0)) (by (with_reducible repeat (first | refine zN ?_ _ | refine zD ?_ | refine zA ?_ _)); exact BK179.out) hb)
                  have n1_ := Aside0.mk (below_step (by repeat (first | (with_reducible first | exact HB.out | apply zB | apply zP | apply zE | refine zS ?_ GE179.out) | exact HB.out)) hb)
                  have n2_ := Aside0.mk (hbox)
                  have n3_ := Aside0.mk ((by rw [hg]; exact (below_size (by repeat (first | (with_reducible first | exact HB.out | apply zB | apply zP | apply zE | refine zS ?_ GE179.out) | exact HB.out))) : w.heap.size ≤ gb185))
                  have n4_ := Aside0.mk ((by rw [hg]; exact (below_size (by repeat (first | (with_reducible first | exact HB.out | apply zB | apply zP | apply zE | refine zS ?_ GE179.out) | exact HB.out))) : w.heap.size ≤ gb185))
                  have n5_ := Aside0.mk ((by rw [hg]; exact Nat.ne_of_lt (blk_lt (g := gb179) (o := .cells #[.int .i64 0, .int .i64 0, .int .i64 0, .int .i64 0, .int .i64 0] 40 (0, 0)) (by (with_reducible repeat (first | refine zN ?_ _ | refine zD ?_ | refine zA ?_ _)); exact BK179.out)) : gb179 ≠ gb185))
                  have n6_ := Aside0.mk ((by rw [hg]; exact Nat.ne_of_gt (blk_lt (g := gb179) (o := .cells #[.int .i64 0, .int .i64 0, .int .i64 0, .int .i64 0, .int .i64 0] 40 (0, 0)) (by (with_reducible repeat (first | refine zN ?_ _ | refine zD ?_ | refine zA ?_ _)); exact BK179.out)) : gb185 ≠ gb179))
                  clear BK179
                  clear HB
                  have BK179 := n0_
                  have HB := n1_
                  have BK185 := n2_
                  have GW185 := n3_
                  have GE185 := n4_
                  have NB179_185 := n5_
                  have NB185_179 := n6_
                  clear n0_ n1_ n2_ n3_ n4_ n5_ n6_
                  clear hb hbox hg
                  refine hK.out _ _ ⟨((HB.out.cell (World.block_lt_of_cell? w _ hw181_0)).trans hw181_0), ((HB.out.cell (World.block_lt_of_cell? w _ hw182_0)).trans hw182_0), ((HB.out.cell (World.block_lt_of_cell? w _ hw183_0)).trans hw183_0)⟩ (fun hHeld => ?_)
                  clear hK K
                  refine norm_ (a' := ?_) ?_ ?_
                  rotate_left
                  · show Act.put _ (some 4) _ = _
                    simp only [Act.put, List.setIfInBounds_toArray, List.set_cons_zero, List.set_cons_succ, i64_w, i32_w]
                    rfl
                  refine one_ (i := 1) (N := some 12) #[true, true, true, true, true, true, true, true, true, true, true, true, true, true, true, false, false, true, false] rfl rfl (one_of HT_.out (by kernel_rfl)) (by decide) (fun K hK => ?_)
                  refine goes_ Try.func39 (by kernel_rfl) rfl #[.slice (some ad181) l0.length c0, .int .i64 4, .int .i64 2] (by rfl) rfl rfl (by (try simp only [List.map_toArray, List.map_cons, List.map_nil]); first | done | rfl | (simp only [List.length_drop, List.length_take]; rfl)) ?_
                  with_reducible refine (drydockref04_Num.calls k _ _ l0 4 2 t180 _ ?side1 ?side2 A3.out).mono ?_
                  (case side1 => repeat (first | exact (Kd.C_below HR0.out HB.out) | (with_reducible refine Kd.C_alloc ?_ _) | (with_reducible refine Kd.C_drewN ?_ _) | (with_reducible refine Kd.C_drew ?_)))
                  (case side2 => exact HC0.out)
                  rintro e w' ⟨rfl, ⟨nd, rfl⟩⟩
                  refine ⟨_, rfl, ?_⟩
                  refine hK.out _ _ ⟨((HB.out.cell (World.block_lt_of_cell? w _ hw181_0)).trans hw181_0), ((HB.out.cell (World.block_lt_of_cell? w _ hw182_0)).trans hw182_0), ((HB.out.cell (World.block_lt_of_cell? w _ hw183_0)).trans hw183_0)⟩ (fun hHeld => ?_)
                  clear hK K
                  refine norm_ (a' := ?_) ?_ ?_
                  rotate_left
                  · show Act.put _ (some 12) _ = _
                    simp only [Act.put, List.setIfInBounds_toArray, List.set_cons_zero, List.set_cons_succ, i64_w, i32_w]
                    rfl
                  refine one_ (i := 15) (N := some 26) #[true, true, true, true, true, true, true, true, true, true, true, true, true, true, true, true, false, true, false] rfl rfl (one_of HT_.out (by kernel_rfl)) (by decide) (fun K hK => ?_)
                  refine goes_ Try.func39 (by kernel_rfl) rfl #[.slice (some ad181) l0.length c0, .int .i64 10, .int .i64 2] (by rfl) rfl rfl (by (try simp only [List.map_toArray, List.map_cons, List.map_nil]); first | done | rfl | (simp only [List.length_drop, List.length_take]; rfl)) ?_
                  with_reducible refine (drydockref04_Num.calls k _ _ l0 10 2 t184 _ ?side1 ?side2 A7.out).mono ?_
                  (case side1 => repeat (first | exact (Kd.C_below HR0.out (by repeat (first | (with_reducible first | exact HB.out | apply zB | apply zP | apply zE | refine zS ?_ GE179.out | refine zS ?_ GE185.out) | exact HB.out))) | (with_reducible refine Kd.C_alloc ?_ _) | (with_reducible refine Kd.C_drewN ?_ _) | (with_reducible refine Kd.C_drew ?_)))
                  (case side2 => exact HC0.out)
                  rintro e w' ⟨rfl, ⟨nd, rfl⟩⟩
                  refine ⟨_, rfl, ?_⟩
                  refine hK.out _ _ ⟨((HB.out.cell (World.block_lt_of_cell? w _ hw181_0)).trans hw181_0), ((HB.out.cell (World.block_lt_of_cell? w _ hw182_0)).trans hw182_0), ((HB.out.cell (World.block_lt_of_cell? w _ hw183_0)).trans hw183_0)⟩ (fun hHeld => ?_)
                  clear hK K
                  refine norm_ (a' := ?_) ?_ ?_
                  rotate_left
                  · show Act.put _ (some 26) _ = _
                    simp only [Act.put, List.setIfInBounds_toArray, List.set_cons_zero, List.set_cons_succ, i64_w, i32_w]
                    rfl
                  refine pure_ (i := 16) (N := some 27) (v := ?_) (a' := ?_) #[true, true, true, true, true, true, true, true, true, true, true, true, true, true, true, true, true, true, false] rfl rfl (any_of HT_.out (by kernel_rfl)) (fun _ _ _ h => h) (Or.inl ⟨by rfl, ?_⟩) ?_ ?_
                  rotate_left
                  · intro w'
                    go_simp
                    with_reducible rfl
                  rotate_left
                  · simp only [Act.put, List.setIfInBounds_toArray, List.set_cons_zero, List.set_cons_succ, i64_w, i32_w]
                    rfl
                  exact norm_ (by simp only [putAll, Act.put, List.setIfInBounds_toArray, List.set_cons_zero, List.set_cons_succ]) (hCont (gb185) _ ⟨hHeld, (by (with_reducible repeat (first | refine zN ?_ _ | refine zD ?_ | refine zA ?_ _)); exact BK179.out), (by (with_reducible repeat (first | refine zN ?_ _ | refine zD ?_ | refine zA ?_ _)); exact BK185.out), GW185.out, GE185.out, NB179_185.out, NB185_179.out, (by repeat (first | (with_reducible first | exact HB.out | apply zB | apply zP | apply zE | refine zS ?_ GE179.out | refine zS ?_ GE185.out) | exact HB.out))⟩)
              rintro gb185 w30 ⟨hS_, h0_, h1_, h2_, h3_, h4_, h5_, h6_⟩
              have n0_ : Aside0 (w30.heap[gb179]? = some (.cells #[.int .i64 0, .int .i64 0, .int .i64 0, .int .i64 0, .int .i64 0] 40 (0, 0))) := ⟨h0_⟩
              have n1_ : Aside0 (w30.heap[gb185]? = some (.cells #[.int .i64 0, .int .i64 0, .int .i64 0, .int .i64 0, .int .i64 0] 40 (0, 0))) := ⟨h1_⟩
              have n2_ : Aside0 (w.heap.size ≤ gb185) := ⟨h2_⟩
              have n3_ : Aside0 (w.heap.size ≤ gb185) := ⟨h3_⟩
              have n4_ : Aside0 (gb179 ≠ gb185) := ⟨h4_⟩
              have n5_ : Aside0 (gb185 ≠ gb179) := ⟨h5_⟩
              have n6_ : Aside0 (Below w.heap.size w w30) := ⟨h6_⟩
              clear BK179
              clear HB
              clear h0_ h1_ h2_ h3_ h4_ h5_ h6_
              have BK179 := n0_
              have BK185 := n1_
              have GW185 := n2_
              have GE185 := n3_
              have NB179_185 := n4_
              have NB185_179 := n5_
              have HB := n6_
              clear n0_ n1_ n2_ n3_ n4_ n5_ n6_
              have hHeld : w30.cell? ⟨ad181.block, ad181.off + 6, none⟩ = some (.int .u8 (rd l0 6)) ∧ w30.cell? ⟨ad181.block, ad181.off + 7, none⟩ = some (.int .u8 (rd l0 7)) ∧ w30.cell? ⟨ad181.block, ad181.off + 8, none⟩ = some (.int .u8 (rd l0 8)) := hS_
              refine norm_ (a' := ?_) ?_ ?_
              rotate_left
              · simp only [putAll, Act.put, List.setIfInBounds_toArray, List.set_cons_zero, List.set_cons_succ]
                rfl
              refine one_ (i := 18) (N := none) #[true, true, true, true, true, true, true, true, true, true, true, true, true, true, true, true, true, true, true] rfl rfl (one_of HT_.out (by kernel_rfl)) (by decide) (fun K hK => ?_)
              have hs31 : w30.cell? ⟨gb185, 0, none⟩ = some (.int .i64 0) := (blk_cell BK185.out 0).trans rfl
              have hfs31 := blk_frozen BK185.out 0
              have hns31_0 := NB179_185.out
              have hms31_0 := NB185_179.out
              have hs32 : w30.cell? ⟨gb185, 1, none⟩ = some (.int .i64 0) := (blk_cell BK185.out 1).trans rfl
              have hfs32 := blk_frozen BK185.out 1
              have hns32_0 := NB179_185.out
              have hms32_0 := NB185_179.out
              have hs33 : w30.cell? ⟨gb185, 2, none⟩ = some (.int .i64 0) := (blk_cell BK185.out 2).trans rfl
              have hfs33 := blk_frozen BK185.out 2
              have hns33_0 := NB179_185.out
              have hms33_0 := NB185_179.out
              have hs34 : w30.cell? ⟨gb185, 3, none⟩ = some (.int .i64 0) := (blk_cell BK185.out 3).trans rfl
              have hfs34 := blk_frozen BK185.out 3
              have hns34_0 := NB179_185.out
              have hms34_0 := NB185_179.out
              have hs35 : w30.cell? ⟨gb185, 4, none⟩ = some (.int .i64 0) := (blk_cell BK185.out 4).trans rfl
              have hfs35 := blk_frozen BK185.out 4
              have hns35_0 := NB179_185.out
              have hms35_0 := NB185_179.out
              refine skip_ (w1 := ?_) (by rfl) rfl ?_ ?_
              rotate_left
              · go_simp
                rfl
              refine hK.out _ _ ⟨((cell_far (p := ⟨gb185, _, none⟩) (farB hw181_0 GW185.out) _).trans (((cell_far (p := ⟨gb185, _, none⟩) (farB hw181_0 GW185.out) _).trans (((cell_far (p := ⟨gb185, _, none⟩) (farB hw181_0 GW185.out) _).trans (((cell_far (p := ⟨gb185, _, none⟩) (farB hw181_0 GW185.out) _).trans (((cell_far (p := ⟨gb185, _, none⟩) (farB hw181_0 GW185.out) _).trans (hHeld.1)))))))))), ((cell_far (p := ⟨gb185, _, none⟩) (farB hw182_0 GW185.out) _).trans (((cell_far (p := ⟨gb185, _, none⟩) (farB hw182_0 GW185.out) _).trans (((cell_far (p := ⟨gb185, _, none⟩) (farB hw182_0 GW185.out) _).trans (((cell_far (p := ⟨gb185, _, none⟩) (farB hw182_0 GW185.out) _).trans (((cell_far (p := ⟨gb185, _, none⟩) (farB hw182_0 GW185.out) _).trans (hHeld.2.1)))))))))), ((cell_far (p := ⟨gb185, _, none⟩) (farB hw183_0 GW185.out) _).trans (((cell_far (p := ⟨gb185, _, none⟩) (farB hw183_0 GW185.out) _).trans (((cell_far (p := ⟨gb185, _, none⟩) (farB hw183_0 GW185.out) _).trans (((cell_far (p := ⟨gb185, _, none⟩) (farB hw183_0 GW185.out) _).trans (((cell_far (p := ⟨gb185, _, none⟩) (farB hw183_0 GW185.out) _).trans (hHeld.2.2))))))))))⟩ (fun hHeld => ?_)
              clear hK K
              refine done_ (done_of HT_.out (by kernel_rfl)) ?_
              have hnb36 := NB185_179.out
              have hnc36 := NB179_185.out
              have hcz37_0 : w30.cell? ⟨gb185, 0, none⟩ = some (.int .i64 0) := (blk_cell BK185.out 0).trans rfl
              have hcz37_1 : w30.cell? ⟨gb185, 1, none⟩ = some (.int .i64 0) := (blk_cell BK185.out 1).trans rfl
              have hcz37_2 : w30.cell? ⟨gb185, 2, none⟩ = some (.int .i64 0) := (blk_cell BK185.out 2).trans rfl
              have hcz37_3 : w30.cell? ⟨gb185, 3, none⟩ = some (.int .i64 0) := (blk_cell BK185.out 3).trans rfl
              have hcz37_4 : w30.cell? ⟨gb185, 4, none⟩ = some (.int .i64 0) := (blk_cell BK185.out 4).trans rfl
              have hfz37_0 := blk_frozen BK185.out 0
              have hfz37_1 := blk_frozen BK185.out 1
              have hfz37_2 := blk_frozen BK185.out 2
              have hfz37_3 := blk_frozen BK185.out 3
              have hfz37_4 := blk_frozen BK185.out 4
              try go_wp2_with (first | ((with_reducible refine gate_callee (f := 26) rfl ?_); refine goesL_ (some 30) rfl rfl Try.func26 (by kernel_rfl) rfl #[.agg #[.int .i64 t180, .int .i64 (wrap64 (rd l0 6)), .int .i64 (wrap64 (rd l0 7)), .int .i64 (wrap64 (rd l0 8)), .int .i64 t184]] rfl (by (try simp only [List.map_toArray, List.map_cons, List.map_nil]); first | done | rfl | (simp only [List.length_drop, List.length_take]; rfl)) ?_; (with_reducible refine (drydockref08_Encode.calls k t180 (wrap64 (rd l0 6)) (wrap64 (rd l0 7)) (wrap64 (rd l0 8)) t184 t186 t189 _ A8.out).mono ?_); rintro e w38 ⟨v187, rfl, ho0, hb⟩; refine ⟨_, rfl, ?_⟩; have n0_ := Aside0.mk (Kd.R_lower ho0 (below_size (by repeat (first | (with_reducible first | exact HB.out | apply zB | apply zP | apply zE | refine zS ?_ GE179.out | refine zS ?_ GE185.out) | exact HB.out)))); have n1_ := Aside0.mk (blk_below (g := gb179) (o := .cells #[.int .i64 0, .int .i64 0, .int .i64 0, .int .i64 0, .int .i64 0] 40 (0, 0)) (by (with_reducible repeat (first | refine zN ?_ _ | refine zD ?_ | refine zA ?_ _)); refine blk_far ?_ NB179_185.out _; (with_reducible repeat (first | refine zN ?_ _ | refine zD ?_ | refine zA ?_ _)); refine blk_far ?_ NB179_185.out _; (with_reducible repeat (first | refine zN ?_ _ | refine zD ?_ | refine zA ?_ _)); refine blk_far ?_ NB179_185.out _; (with_reducible repeat (first | refine zN ?_ _ | refine zD ?_ | refine zA ?_ _)); refine blk_far ?_ NB179_185.out _; (with_reducible repeat (first | refine zN ?_ _ | refine zD ?_ | refine zA ?_ _)); refine blk_far ?_ NB179_185.out _; (with_reducible repeat (first | refine zN ?_ _ | refine zD ?_ | refine zA ?_ _)); exact BK179.out) hb); have n2_ := Aside0.mk (blk_below (g := gb185) (o := .cells #[.int .i64 t180, .int .i64 (wrap64 (rd l0 6)), .int .i64 (wrap64 (rd l0 7)), .int .i64 (wrap64 (rd l0 8)), .int .i64 t184] 40 (0, 0)) (by (with_reducible repeat (first | refine zN ?_ _ | refine zD ?_ | refine zA ?_ _)); refine blk_put (cs := #[.int .i64 t180, .int .i64 (wrap64 (rd l0 6)), .int .i64 (wrap64 (rd l0 7)), .int .i64 (wrap64 (rd l0 8)), .int .i64 0]) ?_ 4 _ rfl; (with_reducible repeat (first | refine zN ?_ _ | refine zD ?_ | refine zA ?_ _)); refine blk_put (cs := #[.int .i64 t180, .int .i64 (wrap64 (rd l0 6)), .int .i64 (wrap64 (rd l0 7)), .int .i64 0, .int .i64 0]) ?_ 3 _ rfl; (with_reducible repeat (first | refine zN ?_ _ | refine zD ?_ | refine zA ?_ _)); refine blk_put (cs := #[.int .i64 t180, .int .i64 (wrap64 (rd l0 6)), .int .i64 0, .int .i64 0, .int .i64 0]) ?_ 2 _ rfl; (with_reducible repeat (first | refine zN ?_ _ | refine zD ?_ | refine zA ?_ _)); refine blk_put (cs := #[.int .i64 t180, .int .i64 0, .int .i64 0, .int .i64 0, .int .i64 0]) ?_ 1 _ rfl; (with_reducible repeat (first | refine zN ?_ _ | refine zD ?_ | refine zA ?_ _)); refine blk_put (cs := #[.int .i64 0, .int .i64 0, .int .i64 0, .int .i64 0, .int .i64 0]) ?_ 0 _ rfl; (with_reducible repeat (first | refine zN ?_ _ | refine zD ?_ | refine zA ?_ _)); exact BK185.out) hb); have n3_ := Aside0.mk (below_step (by repeat (first | (with_reducible first | exact HB.out | apply zB | apply zP | apply zE | refine zS ?_ GE179.out | refine zS ?_ GE185.out) | exact HB.out)) hb); clear BK179; clear BK185; clear HB; have HO188 := n0_; have BK179 := n1_; have BK185 := n2_; have HB := n3_; clear n0_ n1_ n2_ n3_; (try clear hb); (try clear hb2); (try clear hk); (try clear hi); (try clear ho0); have hcv39 := own_string (P := Try.prog) Try.underlying22 Try.underlying5 Try.underlying9 (Kd.own_of_R HO188.out); have hcv40 := Kd.C_string (P := Try.prog) (A := (some ad181)) (c := c0) Try.underlying22 Try.underlying5 Try.underlying9 (Kd.C_below HR0.out HB.out); have hcz41_0 : w38.cell? ⟨gb179, 0, none⟩ = some (.int .i64 0) := (blk_cell BK179.out 0).trans rfl; have hcz41_1 : w38.cell? ⟨gb179, 1, none⟩ = some (.int .i64 0) := (blk_cell BK179.out 1).trans rfl; have hcz41_2 : w38.cell? ⟨gb179, 2, none⟩ = some (.int .i64 0) := (blk_cell BK179.out 2).trans rfl; have hcz41_3 : w38.cell? ⟨gb179, 3, none⟩ = some (.int .i64 0) := (blk_cell BK179.out 3).trans rfl; have hcz41_4 : w38.cell? ⟨gb179, 4, none⟩ = some (.int .i64 0) := (blk_cell BK179.out 4).trans rfl; have hfz41_0 := blk_frozen BK179.out 0; have hfz41_1 := blk_frozen BK179.out 1; have hfz41_2 := blk_frozen BK179.out 2; have hfz41_3 := blk_frozen BK179.out 3; have hfz41_4 := blk_frozen BK179.out 4))
              refine bodyPost_ret (results_ct rfl _ _ gb179 40 #[.int .i64 0, .int .i64 0, .int .i64 0, .int .i64 0, .int .i64 0] (0, 0) _ rfl (by (with_reducible repeat (first | refine zN ?_ _ | refine zD ?_ | refine zA ?_ _)); refine blk_put (cs := #[.int .i64 0, .int .i64 0, .int .i64 0, .int .i64 0, .int .i64 0]) ?_ 4 _ rfl; (with_reducible repeat (first | refine zN ?_ _ | refine zD ?_ | refine zA ?_ _)); refine blk_put (cs := #[.int .i64 0, .int .i64 0, .int .i64 0, .int .i64 0, .int .i64 0]) ?_ 3 _ rfl; (with_reducible repeat (first | refine zN ?_ _ | refine zD ?_ | refine zA ?_ _)); refine blk_put (cs := #[.int .i64 0, .int .i64 0, .int .i64 0, .int .i64 0, .int .i64 0]) ?_ 2 _ rfl; (with_reducible repeat (first | refine zN ?_ _ | refine zD ?_ | refine zA ?_ _)); refine blk_put (cs := #[.int .i64 0, .int .i64 0, .int .i64 0, .int .i64 0, .int .i64 0]) ?_ 1 _ rfl; (with_reducible repeat (first | refine zN ?_ _ | refine zD ?_ | refine zA ?_ _)); refine blk_put (cs := #[.int .i64 0, .int .i64 0, .int .i64 0, .int .i64 0, .int .i64 0]) ?_ 0 _ rfl; (with_reducible repeat (first | refine zN ?_ _ | refine zD ?_ | refine zA ?_ _)); exact BK179.out) Try.underlying40 rfl (by kernel_rfl)) rfl ?_
              exact ⟨by first | rfl | (simp [errW_none, errW_some] <;> rfl) | (simp [*, errW_none, errW_some] <;> rfl), by repeat (first | (with_reducible first | exact HB.out | apply zB | apply zP | apply zE | refine zS ?_ GE179.out | refine zS ?_ GE185.out) | exact HB.out)⟩
          · rw [if_neg c9] at H
            have c9b0 : (t189 == 0) = false := beq_eq_false_iff_ne.mpr c9
            have c9b1 : (t189 != 0) = true := bne_iff_ne.mpr c9
            simp only [Option.some.injEq, Prod.mk.injEq] at H
            obtain ⟨rfl, rfl, rfl, rfl, rfl, rfl⟩ := H
            go_enter Try.func31, Try.ntmps31
            try go_wp2_with (first | ((with_reducible refine gate_dst (N := 2) rfl ?_); refine box_event ?hg (N := 2) ?hd (cs := #[.int .i64 0, .int .i64 0, .int .i64 0, .int .i64 0, .int .i64 0]) (t := 40) ?hr ?_; (case hd => rfl); (case hg => rfl); (case hr => first | (go_simp; done) | (go_simp; rfl)); intro gb179 hg w42 hbox hb; have n0_ := Aside0.mk (below_step (by repeat (first | (with_reducible first | exact HB.out | apply zB | apply zP | apply zE) | exact HB.out)) hb); have n1_ := Aside0.mk (hbox); have n2_ := Aside0.mk ((by rw [hg]; exact (below_size (by repeat (first | (with_reducible first | exact HB.out | apply zB | apply zP | apply zE) | exact HB.out))) : w.heap.size ≤ gb179)); have n3_ := Aside0.mk ((by rw [hg]; exact (below_size (by repeat (first | (with_reducible first | exact HB.out | apply zB | apply zP | apply zE) | exact HB.out))) : w.heap.size ≤ gb179)); clear HB; have HB := n0_; have BK179 := n1_; have GW179 := n2_; have GE179 := n3_; clear n0_ n1_ n2_ n3_; clear hb hbox hg))
            have n0_ := Aside0.mk (zD BK179.out)
            have n1_ := Aside0.mk (zE HB.out)
            clear BK179
            clear HB
            have BK179 := n0_
            have HB := n1_
            clear n0_ n1_
            have p181 : 0 ≤ (6 : Int) := (by omega)
            have q181 : 6 < (l0.length : Int) := of_decide_eq_true (by first | (with_reducible assumption) | assumption)
            obtain ⟨ad181, e181, hx181_0⟩ := Kd.at_int HR0.out 6 p181 q181
            have hw181_0 := hx181_0
            (try rw [show ((6 : Int)).toNat = 6 from rfl] at hw181_0)
            (try rw [show 6 * 1 = 6 from rfl] at hw181_0)
            (try simp only [Nat.reduceMul, Nat.reduceEqDiff, Go.Addr.add, ↓reduceIte] at hw181_0)
            cases e181
            (try simp only [show (6 : Int).toNat = 6 from rfl, Nat.reduceMul, Nat.reduceEqDiff, Go.Addr.add, ↓reduceIte] at hx181_0)
            have qi181 : (6 < l0.length) = True := eq_true (by omega)
            (try rw [show ((6 : Int)).toNat = 6 from rfl] at hx181_0)
            replace hx181_0 := (HB.out.cell (World.block_lt_of_cell? w _ hx181_0)).trans hx181_0
            replace p181 := eq_true p181
            replace q181 := eq_true q181
            have p182 : 0 ≤ (7 : Int) := (by omega)
            have q182 : 7 < (l0.length : Int) := of_decide_eq_true (by first | (with_reducible assumption) | assumption)
            obtain ⟨ad182, e182, hx182_0⟩ := Kd.at_int HR0.out 7 p182 q182
            have hw182_0 := hx182_0
            (try rw [show ((7 : Int)).toNat = 7 from rfl] at hw182_0)
            (try rw [show 7 * 1 = 7 from rfl] at hw182_0)
            (try simp only [Nat.reduceMul, Nat.reduceEqDiff, Go.Addr.add, ↓reduceIte] at hw182_0)
            obtain rfl : ad181 = ad182 := (by injection e182)
            (try simp only [show (7 : Int).toNat = 7 from rfl, Nat.reduceMul, Nat.reduceEqDiff, Go.Addr.add, ↓reduceIte] at hx182_0)
            have qi182 : (7 < l0.length) = True := eq_true (by omega)
            (try rw [show ((7 : Int)).toNat = 7 from rfl] at hx182_0)
            replace hx182_0 := (HB.out.cell (World.block_lt_of_cell? w _ hx182_0)).trans hx182_0
            replace p182 := eq_true p182
            replace q182 := eq_true q182
            have p183 : 0 ≤ (8 : Int) := (by omega)
            have q183 : 8 < (l0.length : Int) := of_decide_eq_true (by first | (with_reducible assumption) | assumption)
            obtain ⟨ad183, e183, hx183_0⟩ := Kd.at_int HR0.out 8 p183 q183
            have hw183_0 := hx183_0
            (try rw [show ((8 : Int)).toNat = 8 from rfl] at hw183_0)
            (try rw [show 8 * 1 = 8 from rfl] at hw183_0)
            (try simp only [Nat.reduceMul, Nat.reduceEqDiff, Go.Addr.add, ↓reduceIte] at hw183_0)
            obtain rfl : ad181 = ad183 := (by injection e183)
            (try simp only [show (8 : Int).toNat = 8 from rfl, Nat.reduceMul, Nat.reduceEqDiff, Go.Addr.add, ↓reduceIte] at hx183_0)
            have qi183 : (8 < l0.length) = True := eq_true (by omega)
            (try rw [show ((8 : Int)).toNat = 8 from rfl] at hx183_0)
            replace hx183_0 := (HB.out.cell (World.block_lt_of_cell? w _ hx183_0)).trans hx183_0
            replace p183 := eq_true p183
            replace q183 := eq_true q183
            refine start_ (n := 19) (S := fun w' => w'.cell? ⟨ad181.block, ad181.off + 6, none⟩ = some (.int .u8 (rd l0 6)) ∧ w'.cell? ⟨ad181.block, ad181.off + 7, none⟩ = some (.int .u8 (rd l0 7)) ∧ w'.cell? ⟨ad181.block, ad181.off + 8, none⟩ = some (.int .u8 (rd l0 8))) (ds := []) #[false, false, false, false, false, false, false, false, false, false, false, false, false, false, false, false, false, false, false] (by kernel_rfl) rfl rfl ⟨((HB.out.cell (World.block_lt_of_cell? w _ hw181_0)).trans hw181_0), ((HB.out.cell (World.block_lt_of_cell? w _ hw182_0)).trans hw182_0), ((HB.out.cell (World.block_lt_of_cell? w _ hw183_0)).trans hw183_0)⟩ (fun hHeld => ?_); refine with_tabW drydockref08_Decode.tab3 drydockref08_Decode.bits3 (fun HT_ HW_ => ?_)
            generalize w42.drew = w43 at BK179 HB hx181_0 hx182_0 hx183_0 hHeld ⊢
            refine pure_ (i := 0) (N := some 11) (v := ?_) (a' := ?_) #[true, false, false, false, false, false, false, false, false, false, false, false, false, false, false, false, false, false, false] rfl rfl (any_of HT_.out (by kernel_rfl)) (fun _ _ _ h => h) (Or.inl ⟨by rfl, ?_⟩) ?_ ?_
            rotate_left
            · intro w'
              go_simp
              with_reducible rfl
            rotate_left
            · simp only [Act.put, List.setIfInBounds_toArray, List.set_cons_zero, List.set_cons_succ, i64_w, i32_w]
              rfl
            refine pure_ (i := 2) (N := some 13) (v := ?_) (a' := ?_) #[true, false, true, false, false, false, false, false, false, false, false, false, false, false, false, false, false, false, false] rfl rfl (any_of HT_.out (by kernel_rfl)) (fun _ _ _ h => h) (Or.inl ⟨by rfl, ?_⟩) ?_ ?_
            rotate_left
            · intro w'
              go_simp
              with_reducible rfl
            rotate_left
            · simp only [Act.put, List.setIfInBounds_toArray, List.set_cons_zero, List.set_cons_succ, i64_w, i32_w]
              rfl
            refine pure_ (i := 3) (N := some 14) (v := ?_) (a' := ?_) #[true, false, true, true, false, false, false, false, false, false, false, false, false, false, false, false, false, false, false] rfl rfl (any_of HT_.out (by kernel_rfl)) (fun _ _ _ h => h) (Or.inl ⟨by rfl, ?_⟩) ?_ ?_
            rotate_left
            · intro w'
              go_simp
              with_reducible rfl
            rotate_left
            · simp only [Act.put, List.setIfInBounds_toArray, List.set_cons_zero, List.set_cons_succ, i64_w, i32_w]
              rfl
            refine pure_ (i := 6) (N := some 17) (v := ?_) (a' := ?_) #[true, false, true, true, false, false, true, false, false, false, false, false, false, false, false, false, false, false, false] rfl rfl (any_of HT_.out (by kernel_rfl)) (fun _ _ _ h => h) (Or.inl ⟨by rfl, ?_⟩) ?_ ?_
            rotate_left
            · intro w'
              go_simp
              with_reducible rfl
            rotate_left
            · simp only [Act.put, List.setIfInBounds_toArray, List.set_cons_zero, List.set_cons_succ, i64_w, i32_w]
              rfl
            refine pure_ (i := 7) (N := some 18) (v := ?_) (a' := ?_) #[true, false, true, true, false, false, true, true, false, false, false, false, false, false, false, false, false, false, false] rfl rfl (any_of HT_.out (by kernel_rfl)) (fun _ _ _ h => h) (Or.inl ⟨by rfl, ?_⟩) ?_ ?_
            rotate_left
            · intro w'
              go_simp
              with_reducible rfl
            rotate_left
            · simp only [Act.put, List.setIfInBounds_toArray, List.set_cons_zero, List.set_cons_succ, i64_w, i32_w]
              rfl
            refine pure_ (i := 10) (N := some 21) (v := ?_) (a' := ?_) #[true, false, true, true, false, false, true, true, false, false, true, false, false, false, false, false, false, false, false] rfl rfl (any_of HT_.out (by kernel_rfl)) (fun _ _ _ h => h) (Or.inl ⟨by rfl, ?_⟩) ?_ ?_
            rotate_left
            · intro w'
              go_simp
              with_reducible rfl
            rotate_left
            · simp only [Act.put, List.setIfInBounds_toArray, List.set_cons_zero, List.set_cons_succ, i64_w, i32_w]
              rfl
            refine pure_ (i := 11) (N := some 22) (v := ?_) (a' := ?_) #[true, false, true, true, false, false, true, true, false, false, true, true, false, false, false, false, false, false, false] rfl rfl (any_of HT_.out (by kernel_rfl)) (fun _ _ _ h => h) (Or.inl ⟨by rfl, ?_⟩) ?_ ?_
            rotate_left
            · intro w'
              go_simp
              with_reducible rfl
            rotate_left
            · simp only [Act.put, List.setIfInBounds_toArray, List.set_cons_zero, List.set_cons_succ, i64_w, i32_w]
              rfl
            refine pure_ (i := 14) (N := some 25) (v := ?_) (a' := ?_) #[true, false, true, true, false, false, true, true, false, false, true, true, false, false, true, false, false, false, false] rfl rfl (any_of HT_.out (by kernel_rfl)) (fun _ _ _ h => h) (Or.inl ⟨by rfl, ?_⟩) ?_ ?_
            rotate_left
            · intro w'
              go_simp
              with_reducible rfl
            rotate_left
            · simp only [Act.put, List.setIfInBounds_toArray, List.set_cons_zero, List.set_cons_succ, i64_w, i32_w]
              rfl
            refine take_ (i := 4) (N := some 15) (v := ?_) (a' := ?_) #[true, false, true, true, true, false, true, true, false, false, true, true, false, false, true, false, false, false, false] rfl rfl (take_ofW HT_.out HW_.out (by kernel_rfl)) (fun _ _ _ h => h) (Or.inl ⟨by rfl, ?_⟩) hHeld ?_ ?_
            rotate_left
            · rintro w' ⟨s0, s1, s2⟩
              go_simp
              with_reducible rfl
            rotate_left
            · simp only [Act.put, List.setIfInBounds_toArray, List.set_cons_zero, List.set_cons_succ, i64_w, i32_w]
              rfl
            refine pure_ (i := 5) (N := some 16) (v := ?_) (a' := ?_) #[true, false, true, true, true, true, true, true, false, false, true, true, false, false, true, false, false, false, false] rfl rfl (any_of HT_.out (by kernel_rfl)) (fun _ _ _ h => h) (Or.inl ⟨by rfl, ?_⟩) ?_ ?_
            rotate_left
            · intro w'
              go_simp
              with_reducible rfl
            rotate_left
            · simp only [Act.put, List.setIfInBounds_toArray, List.set_cons_zero, List.set_cons_succ, i64_w, i32_w]
              rfl
            refine take_ (i := 8) (N := some 19) (v := ?_) (a' := ?_) #[true, false, true, true, true, true, true, true, true, false, true, true, false, false, true, false, false, false, false] rfl rfl (take_ofW HT_.out HW_.out (by kernel_rfl)) (fun _ _ _ h => h) (Or.inl ⟨by rfl, ?_⟩) hHeld ?_ ?_
            rotate_left
            · rintro w' ⟨s0, s1, s2⟩
              go_simp
              with_reducible rfl
            rotate_left
            · simp only [Act.put, List.setIfInBounds_toArray, List.set_cons_zero, List.set_cons_succ, i64_w, i32_w]
              rfl
            refine pure_ (i := 9) (N := some 20) (v := ?_) (a' := ?_) #[true, false, true, true, true, true, true, true, true, true, true, true, false, false, true, false, false, false, false] rfl rfl (any_of HT_.out (by kernel_rfl)) (fun _ _ _ h => h) (Or.inl ⟨by rfl, ?_⟩) ?_ ?_
            rotate_left
            · intro w'
              go_simp
              with_reducible rfl
            rotate_left
            · simp only [Act.put, List.setIfInBounds_toArray, List.set_cons_zero, List.set_cons_succ, i64_w, i32_w]
              rfl
            refine take_ (i := 12) (N := some 23) (v := ?_) (a' := ?_) #[true, false, true, true, true, true, true, true, true, true, true, true, true, false, true, false, false, false, false] rfl rfl (take_ofW HT_.out HW_.out (by kernel_rfl)) (fun _ _ _ h => h) (Or.inl ⟨by rfl, ?_⟩) hHeld ?_ ?_
            rotate_left
            · rintro w' ⟨s0, s1, s2⟩
              go_simp
              with_reducible rfl
            rotate_left
            · simp only [Act.put, List.setIfInBounds_toArray, List.set_cons_zero, List.set_cons_succ, i64_w, i32_w]
              rfl
            refine pure_ (i := 13) (N := some 24) (v := ?_) (a' := ?_) #[true, false, true, true, true, true, true, true, true, true, true, true, true, true, true, false, false, false, false] rfl rfl (any_of HT_.out (by kernel_rfl)) (fun _ _ _ h => h) (Or.inl ⟨by rfl, ?_⟩) ?_ ?_
            rotate_left
            · intro w'
              go_simp
              with_reducible rfl
            rotate_left
            · simp only [Act.put, List.setIfInBounds_toArray, List.set_cons_zero, List.set_cons_succ, i64_w, i32_w]
              rfl
            refine join_ (σ := Nat) 1 #[true, true, true, true, true, true, true, true, true, true, true, true, true, true, true, true, true, true, false] (fun s_ => [(12, .int .i64 t180), (26, .int .i64 t184), (4, .pointer (some ⟨s_, 0, none⟩)), (27, .agg #[.int .i64 t180, .int .i64 (wrap64 (rd l0 6)), .int .i64 (wrap64 (rd l0 7)), .int .i64 (wrap64 (rd l0 8)), .int .i64 t184])]) (fun s_ w' => (w'.cell? ⟨ad181.block, ad181.off + 6, none⟩ = some (.int .u8 (rd l0 6)) ∧ w'.cell? ⟨ad181.block, ad181.off + 7, none⟩ = some (.int .u8 (rd l0 7)) ∧ w'.cell? ⟨ad181.block, ad181.off + 8, none⟩ = some (.int .u8 (rd l0 8))) ∧ (w'.heap[gb179]? = some (.cells #[.int .i64 0, .int .i64 0, .int .i64 0, .int .i64 0, .int .i64 0] 40 (0, 0))) ∧ (w'.heap[s_]? = some (.cells #[.int .i64 0, .int .i64 0, .int .i64 0, .int .i64 0, .int .i64 0] 40 (0, 0))) ∧ (w.heap.size ≤ s_) ∧ (w.heap.size ≤ s_) ∧ (gb179 ≠ s_) ∧ (s_ ≠ gb179) ∧ (Below w.heap.size w w')) ?_ ?_
            rotate_left
            · intro hCont
              refine two_ (i := 1) (j := 17) (Ni := some 12) (Nj := some 4) #[true, true, true, true, true, true, true, true, true, true, true, true, true, true, true, false, false, false, false] #[true, false, true, true, true, true, true, true, true, true, true, true, true, true, true, false, false, true, false] rfl rfl rfl rfl (two_of HT_.out (by kernel_rfl)) (by decide) (by decide) (fun K hK => ?_) (fun K hK => ?_)
              · skip
                refine goes_ Try.func39 (by kernel_rfl) rfl #[.slice (some ad181) l0.length c0, .int .i64 4, .int .i64 2] (by rfl) rfl rfl (by (try simp only [List.map_toArray, List.map_cons, List.map_nil]); first | done | rfl | (simp only [List.length_drop, List.length_take]; rfl)) ?_
                with_reducible refine (drydockref04_Num.calls k _ _ l0 4 2 t180 _ ?side1 ?side2 A3.out).mono ?_
                (case side1 => repeat (first | exact (Kd.C_below HR0.out HB.out) | (with_reducible refine Kd.C_alloc ?_ _) | (with_reducible refine Kd.C_drewN ?_ _) | (with_reducible refine Kd.C_drew ?_)))
                (case side2 => exact HC0.out)
                rintro e w' ⟨rfl, ⟨nd, rfl⟩⟩
                refine ⟨_, rfl, ?_⟩
                refine hK.out _ _ ⟨((HB.out.cell (World.block_lt_of_cell? w _ hw181_0)).trans hw181_0), ((HB.out.cell (World.block_lt_of_cell? w _ hw182_0)).trans hw182_0), ((HB.out.cell (World.block_lt_of_cell? w _ hw183_0)).trans hw183_0)⟩ (fun hHeld => ?_)
                clear hK K
                refine norm_ (a' := ?_) ?_ ?_
                rotate_left
                · show Act.put _ (some 12) _ = _
                  simp only [Act.put, List.setIfInBounds_toArray, List.set_cons_zero, List.set_cons_succ, i64_w, i32_w]
                  rfl
                refine two_ (i := 15) (j := 17) (Ni := some 26) (Nj := some 4) #[true, true, true, true, true, true, true, true, true, true, true, true, true, true, true, true, false, false, false] #[true, true, true, true, true, true, true, true, true, true, true, true, true, true, true, false, false, true, false] rfl rfl rfl rfl (two_of HT_.out (by kernel_rfl)) (by decide) (by decide) (fun K hK => ?_) (fun K hK => ?_)
                · skip
                  refine goes_ Try.func39 (by kernel_rfl) rfl #[.slice (some ad181) l0.length c0, .int .i64 10, .int .i64 2] (by rfl) rfl rfl (by (try simp only [List.map_toArray, List.map_cons, List.map_nil]); first | done | rfl | (simp only [List.length_drop, List.length_take]; rfl)) ?_
                  with_reducible refine (drydockref04_Num.calls k _ _ l0 10 2 t184 _ ?side1 ?side2 A7.out).mono ?_
                  (case side1 => repeat (first | exact (Kd.C_below HR0.out (by repeat (first | (with_reducible first | exact HB.out | apply zB | apply zP | apply zE | refine zS ?_ GE179.out) | exact HB.out))) | (with_reducible refine Kd.C_alloc ?_ _) | (with_reducible refine Kd.C_drewN ?_ _) | (with_reducible refine Kd.C_drew ?_)))
                  (case side2 => exact HC0.out)
                  rintro e w' ⟨rfl, ⟨nd, rfl⟩⟩
                  refine ⟨_, rfl, ?_⟩
                  refine hK.out _ _ ⟨((HB.out.cell (World.block_lt_of_cell? w _ hw181_0)).trans hw181_0), ((HB.out.cell (World.block_lt_of_cell? w _ hw182_0)).trans hw182_0), ((HB.out.cell (World.block_lt_of_cell? w _ hw183_0)).trans hw183_0)⟩ (fun hHeld => ?_)
                  clear hK K
                  refine norm_ (a' := ?_) ?_ ?_
                  rotate_left
                  · show Act.put _ (some 26) _ = _
                    simp only [Act.put, List.setIfInBounds_toArray, List.set_cons_zero, List.set_cons_succ, i64_w, i32_w]
                    rfl
                  refine pure_ (i := 16) (N := some 27) (v := ?_) (a' := ?_) #[true, true, true, true, true, true, true, true, true, true, true, true, true, true, true, true, true, false, false] rfl rfl (any_of HT_.out (by kernel_rfl)) (fun _ _ _ h => h) (Or.inl ⟨by rfl, ?_⟩) ?_ ?_
                  rotate_left
                  · intro w'
                    go_simp
                    with_reducible rfl
                  rotate_left
                  · simp only [Act.put, List.setIfInBounds_toArray, List.set_cons_zero, List.set_cons_succ, i64_w, i32_w]
                    rfl
                  refine one_ (i := 17) (N := some 4) #[true, true, true, true, true, true, true, true, true, true, true, true, true, true, true, true, true, true, false] rfl rfl (one_of HT_.out (by kernel_rfl)) (by decide) (fun K hK => ?_)
                  refine box_step ?hg (N := 4) ?hd (cs := #[.int .i64 0, .int .i64 0, .int .i64 0, .int .i64 0, .int .i64 0]) (t := 40) ?hr ?_; (case hd => rfl); (case hg => rfl); (case hr => first | (go_simp; done) | (go_simp; rfl))
                  intro gb185 hg w44 hbox hb
                  have n0_ := Aside0.mk (blk_below (g := gb179) (o := .cells #[.int .i64 0, .int .i64 0, .int .i64 0, .int .i64 0, .int .i64 0] 40 (0, 0)) (by (with_reducible repeat (first | refine zN ?_ _ | refine zD ?_ | refine zA ?_ _)); exact BK179.out) hb)
                  have n1_ := Aside0.mk (below_step (by repeat (first | (with_reducible first | exact HB.out | apply zB | apply zP | apply zE | refine zS ?_ GE179.out) | exact HB.out)) hb)
                  have n2_ := Aside0.mk (hbox)
                  have n3_ := Aside0.mk ((by rw [hg]; exact (below_size (by repeat (first | (with_reducible first | exact HB.out | apply zB | apply zP | apply zE | refine zS ?_ GE179.out) | exact HB.out))) : w.heap.size ≤ gb185))
                  have n4_ := Aside0.mk ((by rw [hg]; exact (below_size (by repeat (first | (with_reducible first | exact HB.out | apply zB | apply zP | apply zE | refine zS ?_ GE179.out) | exact HB.out))) : w.heap.size ≤ gb185))
                  have n5_ := Aside0.mk ((by rw [hg]; exact Nat.ne_of_lt (blk_lt (g := gb179) (o := .cells #[.int .i64 0, .int .i64 0, .int .i64 0, .int .i64 0, .int .i64 0] 40 (0, 0)) (by (with_reducible repeat (first | refine zN ?_ _ | refine zD ?_ | refine zA ?_ _)); exact BK179.out)) : gb179 ≠ gb185))
                  have n6_ := Aside0.mk ((by rw [hg]; exact Nat.ne_of_gt (blk_lt (g := gb179) (o := .cells #[.int .i64 0, .int .i64 0, .int .i64 0, .int .i64 0, .int .i64 0] 40 (0, 0)) (by (with_reducible repeat (first | refine zN ?_ _ | refine zD ?_ | refine zA ?_ _)); exact BK179.out)) : gb185 ≠ gb179))
                  clear BK179
                  clear HB
                  have BK179 := n0_
                  have HB := n1_
                  have BK185 := n2_
                  have GW185 := n3_
                  have GE185 := n4_
                  have NB179_185 := n5_
                  have NB185_179 := n6_
                  clear n0_ n1_ n2_ n3_ n4_ n5_ n6_
                  clear hb hbox hg
                  refine hK.out _ _ ⟨((HB.out.cell (World.block_lt_of_cell? w _ hw181_0)).trans hw181_0), ((HB.out.cell (World.block_lt_of_cell? w _ hw182_0)).trans hw182_0), ((HB.out.cell (World.block_lt_of_cell? w _ hw183_0)).trans hw183_0)⟩ (fun hHeld => ?_)
                  clear hK K
                  refine norm_ (a' := ?_) ?_ ?_
                  rotate_left
                  · show Act.put _ (some 4) _ = _
                    simp only [Act.put, List.setIfInBounds_toArray, List.set_cons_zero, List.set_cons_succ, i64_w, i32_w]
                    rfl
                  exact norm_ (by simp only [putAll, Act.put, List.setIfInBounds_toArray, List.set_cons_zero, List.set_cons_succ]) (hCont (gb185) _ ⟨hHeld, (by (with_reducible repeat (first | refine zN ?_ _ | refine zD ?_ | refine zA ?_ _)); exact BK179.out), (by (with_reducible repeat (first | refine zN ?_ _ | refine zD ?_ | refine zA ?_ _)); exact BK185.out), GW185.out, GE185.out, NB179_185.out, NB185_179.out, (by repeat (first | (with_reducible first | exact HB.out | apply zB | apply zP | apply zE | refine zS ?_ GE179.out | refine zS ?_ GE185.out) | exact HB.out))⟩)
                · skip
                  refine box_step ?hg (N := 4) ?hd (cs := #[.int .i64 0, .int .i64 0, .int .i64 0, .int .i64 0, .int .i64 0]) (t := 40) ?hr ?_; (case hd => rfl); (case hg => rfl); (case hr => first | (go_simp; done) | (go_simp; rfl))
                  intro gb185 hg w44 hbox hb
                  have n0_ := Aside0.mk (blk_below (g := gb179) (o := .cells #[.int .i64 0, .int .i64 0, .int .i64 0, .int .i64 0, .int .i64 0] 40 (0, 0)) (by (with_reducible repeat (first | refine zN ?_ _ | refine zD ?_ | refine zA ?_ _)); exact BK179.out) hb)
                  have n1_ := Aside0.mk (below_step (by repeat (first | (with_reducible first | exact HB.out | apply zB | apply zP | apply zE | refine zS ?_ GE179.out) | exact HB.out)) hb)
                  have n2_ := Aside0.mk (hbox)
                  have n3_ := Aside0.mk ((by rw [hg]; exact (below_size (by repeat (first | (with_reducible first | exact HB.out | apply zB | apply zP | apply zE | refine zS ?_ GE179.out) | exact HB.out))) : w.heap.size ≤ gb185))
                  have n4_ := Aside0.mk ((by rw [hg]; exact (below_size (by repeat (first | (with_reducible first | exact HB.out | apply zB | apply zP | apply zE | refine zS ?_ GE179.out) | exact HB.out))) : w.heap.size ≤ gb185))
                  have n5_ := Aside0.mk ((by rw [hg]; exact Nat.ne_of_lt (blk_lt (g := gb179) (o := .cells #[.int .i64 0, .int .i64 0, .int .i64 0, .int .i64 0, .int .i64 0] 40 (0, 0)) (by (with_reducible repeat (first | refine zN ?_ _ | refine zD ?_ | refine zA ?_ _)); exact BK179.out)) : gb179 ≠ gb185))
                  have n6_ := Aside0.mk ((by rw [hg]; exact Nat.ne_of_gt (blk_lt (g := gb179) (o := .cells #[.int .i64 0, .int .i64 0, .int .i64 0, .int .i64 0, .int .i64 0] 40 (0, 0)) (by (with_reducible repeat (first | refine zN ?_ _ | refine zD ?_ | refine zA ?_ _)); exact BK179.out)) : gb185 ≠ gb179))
                  clear BK179
                  clear HB
                  have BK179 := n0_
                  have HB := n1_
                  have BK185 := n2_
                  have GW185 := n3_
                  have GE185 := n4_
                  have NB179_185 := n5_
                  have NB185_179 := n6_
                  clear n0_ n1_ n2_ n3_ n4_ n5_ n6_
                  clear hb hbox hg
                  refine hK.out _ _ ⟨((HB.out.cell (World.block_lt_of_cell? w _ hw181_0)).trans hw181_0), ((HB.out.cell (World.block_lt_of_cell? w _ hw182_0)).trans hw182_0), ((HB.out.cell (World.block_lt_of_cell? w _ hw183_0)).trans hw183_0)⟩ (fun hHeld => ?_)
                  clear hK K
                  refine norm_ (a' := ?_) ?_ ?_
                  rotate_left
                  · show Act.put _ (some 4) _ = _
                    simp only [Act.put, List.setIfInBounds_toArray, List.set_cons_zero, List.set_cons_succ, i64_w, i32_w]
                    rfl
                  refine one_ (i := 15) (N := some 26) #[true, true, true, true, true, true, true, true, true, true, true, true, true, true, true, true, false, true, false] rfl rfl (one_of HT_.out (by kernel_rfl)) (by decide) (fun K hK => ?_)
                  refine goes_ Try.func39 (by kernel_rfl) rfl #[.slice (some ad181) l0.length c0, .int .i64 10, .int .i64 2] (by rfl) rfl rfl (by (try simp only [List.map_toArray, List.map_cons, List.map_nil]); first | done | rfl | (simp only [List.length_drop, List.length_take]; rfl)) ?_
                  with_reducible refine (drydockref04_Num.calls k _ _ l0 10 2 t184 _ ?side1 ?side2 A7.out).mono ?_
                  (case side1 => repeat (first | exact (Kd.C_below HR0.out HB.out) | (with_reducible refine Kd.C_alloc ?_ _) | (with_reducible refine Kd.C_drewN ?_ _) | (with_reducible refine Kd.C_drew ?_)))
                  (case side2 => exact HC0.out)
                  rintro e w' ⟨rfl, ⟨nd, rfl⟩⟩
                  refine ⟨_, rfl, ?_⟩
                  refine hK.out _ _ ⟨((HB.out.cell (World.block_lt_of_cell? w _ hw181_0)).trans hw181_0), ((HB.out.cell (World.block_lt_of_cell? w _ hw182_0)).trans hw182_0), ((HB.out.cell (World.block_lt_of_cell? w _ hw183_0)).trans hw183_0)⟩ (fun hHeld => ?_)
                  clear hK K
                  refine norm_ (a' := ?_) ?_ ?_
                  rotate_left
                  · show Act.put _ (some 26) _ = _
                    simp only [Act.put, List.setIfInBounds_toArray, List.set_cons_zero, List.set_cons_succ, i64_w, i32_w]
                    rfl
                  refine pure_ (i := 16) (N := some 27) (v := ?_) (a' := ?_) #[true, true, true, true, true, true, true, true, true, true, true, true, true, true, true, true, true, true, false] rfl rfl (any_of HT_.out (by kernel_rfl)) (fun _ _ _ h => h) (Or.inl ⟨by rfl, ?_⟩) ?_ ?_
                  rotate_left
                  · intro w'
                    go_simp
                    with_reducible rfl
                  rotate_left
                  · simp only [Act.put, List.setIfInBounds_toArray, List.set_cons_zero, List.set_cons_succ, i64_w, i32_w]
                    rfl
                  exact norm_ (by simp only [putAll, Act.put, List.setIfInBounds_toArray, List.set_cons_zero, List.set_cons_succ]) (hCont (gb185) _ ⟨hHeld, (by (with_reducible repeat (first | refine zN ?_ _ | refine zD ?_ | refine zA ?_ _)); exact BK179.out), (by (with_reducible repeat (first | refine zN ?_ _ | refine zD ?_ | refine zA ?_ _)); exact BK185.out), GW185.out, GE185.out, NB179_185.out, NB185_179.out, (by repeat (first | (with_reducible first | exact HB.out | apply zB | apply zP | apply zE | refine zS ?_ GE179.out | refine zS ?_ GE185.out) | exact HB.out))⟩)
              · skip
                refine box_step ?hg (N := 4) ?hd (cs := #[.int .i64 0, .int .i64 0, .int .i64 0, .int .i64 0, .int .i64 0]) (t := 40) ?hr ?_; (case hd => rfl); (case hg => rfl); (case hr => first | (go_simp; done) | (go_simp; rfl))
                intro gb185 hg w44 hbox hb
                have n0_ := Aside0.mk (blk_below (g := gb179) (o := .cells #[.int .i64 0, .int .i64 0, .int .i64 0, .int .i64 0, .int .i64 0] 40 (0, 0)) (by (with_reducible repeat (first | refine zN ?_ _ | refine zD ?_ | refine zA ?_ _)); exact BK179.out) hb)
                have n1_ := Aside0.mk (below_step (by repeat (first | (with_reducible first | exact HB.out | apply zB | apply zP | apply zE | refine zS ?_ GE179.out) | exact HB.out)) hb)
                have n2_ := Aside0.mk (hbox)
                have n3_ := Aside0.mk ((by rw [hg]; exact (below_size (by repeat (first | (with_reducible first | exact HB.out | apply zB | apply zP | apply zE | refine zS ?_ GE179.out) | exact HB.out))) : w.heap.size ≤ gb185))
                have n4_ := Aside0.mk ((by rw [hg]; exact (below_size (by repeat (first | (with_reducible first | exact HB.out | apply zB | apply zP | apply zE | refine zS ?_ GE179.out) | exact HB.out))) : w.heap.size ≤ gb185))
                have n5_ := Aside0.mk ((by rw [hg]; exact Nat.ne_of_lt (blk_lt (g := gb179) (o := .cells #[.int .i64 0, .int .i64 0, .int .i64 0, .int .i64 0, .int .i64 0] 40 (0, 0)) (by (with_reducible repeat (first | refine zN ?_ _ | refine zD ?_ | refine zA ?_ _)); exact BK179.out)) : gb179 ≠ gb185))
                have n6_ := Aside0.mk ((by rw [hg]; exact Nat.ne_of_gt (blk_lt (g := gb179) (o := .cells #[.int .i64 0, .int .i64 0, .int .i64 0, .int .i64 0, .int .i64 0] 40 (0, 0)) (by (with_reducible repeat (first | refine zN ?_ _ | refine zD ?_ | refine zA ?_ _)); exact BK179.out)) : gb185 ≠ gb179))
                clear BK179
                clear HB
                have BK179 := n0_
                have HB := n1_
                have BK185 := n2_
                have GW185 := n3_
                have GE185 := n4_
                have NB179_185 := n5_
                have NB185_179 := n6_
                clear n0_ n1_ n2_ n3_ n4_ n5_ n6_
                clear hb hbox hg
                refine hK.out _ _ ⟨((HB.out.cell (World.block_lt_of_cell? w _ hw181_0)).trans hw181_0), ((HB.out.cell (World.block_lt_of_cell? w _ hw182_0)).trans hw182_0), ((HB.out.cell (World.block_lt_of_cell? w _ hw183_0)).trans hw183_0)⟩ (fun hHeld => ?_)
                clear hK K
                refine norm_ (a' := ?_) ?_ ?_
                rotate_left
                · show Act.put _ (some 4) _ = _
                  simp only [Act.put, List.setIfInBounds_toArray, List.set_cons_zero, List.set_cons_succ, i64_w, i32_w]
                  rfl
                refine one_ (i := 1) (N := some 12) #[true, true, true, true, true, true, true, true, true, true, true, true, true, true, true, false, false, true, false] rfl rfl (one_of HT_.out (by kernel_rfl)) (by decide) (fun K hK => ?_)
                refine goes_ Try.func39 (by kernel_rfl) rfl #[.slice (some ad181) l0.length c0, .int .i64 4, .int .i64 2] (by rfl) rfl rfl (by (try simp only [List.map_toArray, List.map_cons, List.map_nil]); first | done | rfl | (simp only [List.length_drop, List.length_take]; rfl)) ?_
                with_reducible refine (drydockref04_Num.calls k _ _ l0 4 2 t180 _ ?side1 ?side2 A3.out).mono ?_
                (case side1 => repeat (first | exact (Kd.C_below HR0.out HB.out) | (with_reducible refine Kd.C_alloc ?_ _) | (with_reducible refine Kd.C_drewN ?_ _) | (with_reducible refine Kd.C_drew ?_)))
                (case side2 => exact HC0.out)
                rintro e w' ⟨rfl, ⟨nd, rfl⟩⟩
                refine ⟨_, rfl, ?_⟩
                refine hK.out _ _ ⟨((HB.out.cell (World.block_lt_of_cell? w _ hw181_0)).trans hw181_0), ((HB.out.cell (World.block_lt_of_cell? w _ hw182_0)).trans hw182_0), ((HB.out.cell (World.block_lt_of_cell? w _ hw183_0)).trans hw183_0)⟩ (fun hHeld => ?_)
                clear hK K
                refine norm_ (a' := ?_) ?_ ?_
                rotate_left
                · show Act.put _ (some 12) _ = _
                  simp only [Act.put, List.setIfInBounds_toArray, List.set_cons_zero, List.set_cons_succ, i64_w, i32_w]
                  rfl
                refine one_ (i := 15) (N := some 26) #[true, true, true, true, true, true, true, true, true, true, true, true, true, true, true, true, false, true, false] rfl rfl (one_of HT_.out (by kernel_rfl)) (by decide) (fun K hK => ?_)
                refine goes_ Try.func39 (by kernel_rfl) rfl #[.slice (some ad181) l0.length c0, .int .i64 10, .int .i64 2] (by rfl) rfl rfl (by (try simp only [List.map_toArray, List.map_cons, List.map_nil]); first | done | rfl | (simp only [List.length_drop, List.length_take]; rfl)) ?_
                with_reducible refine (drydockref04_Num.calls k _ _ l0 10 2 t184 _ ?side1 ?side2 A7.out).mono ?_
                (case side1 => repeat (first | exact (Kd.C_below HR0.out (by repeat (first | (with_reducible first | exact HB.out | apply zB | apply zP | apply zE | refine zS ?_ GE179.out | refine zS ?_ GE185.out) | exact HB.out))) | (with_reducible refine Kd.C_alloc ?_ _) | (with_reducible refine Kd.C_drewN ?_ _) | (with_reducible refine Kd.C_drew ?_)))
                (case side2 => exact HC0.out)
                rintro e w' ⟨rfl, ⟨nd, rfl⟩⟩
                refine ⟨_, rfl, ?_⟩
                refine hK.out _ _ ⟨((HB.out.cell (World.block_lt_of_cell? w _ hw181_0)).trans hw181_0), ((HB.out.cell (World.block_lt_of_cell? w _ hw182_0)).trans hw182_0), ((HB.out.cell (World.block_lt_of_cell? w _ hw183_0)).trans hw183_0)⟩ (fun hHeld => ?_)
                clear hK K
                refine norm_ (a' := ?_) ?_ ?_
                rotate_left
                · show Act.put _ (some 26) _ = _
                  simp only [Act.put, List.setIfInBounds_toArray, List.set_cons_zero, List.set_cons_succ, i64_w, i32_w]
                  rfl
                refine pure_ (i := 16) (N := some 27) (v := ?_) (a' := ?_) #[true, true, true, true, true, true, true, true, true, true, true, true, true, true, true, true, true, true, false] rfl rfl (any_of HT_.out (by kernel_rfl)) (fun _ _ _ h => h) (Or.inl ⟨by rfl, ?_⟩) ?_ ?_
                rotate_left
                · intro w'
                  go_simp
                  with_reducible rfl
                rotate_left
                · simp only [Act.put, List.setIfInBounds_toArray, List.set_cons_zero, List.set_cons_succ, i64_w, i32_w]
                  rfl
                exact norm_ (by simp only [putAll, Act.put, List.setIfInBounds_toArray, List.set_cons_zero, List.set_cons_succ]) (hCont (gb185) _ ⟨hHeld, (by (with_reducible repeat (first | refine zN ?_ _ | refine zD ?_ | refine zA ?_ _)); exact BK179.out), (by (with_reducible repeat (first | refine zN ?_ _ | refine zD ?_ | refine zA ?_ _)); exact BK185.out), GW185.out, GE185.out, NB179_185.out, NB185_179.out, (by repeat (first | (with_reducible first | exact HB.out | apply zB | apply zP | apply zE | refine zS ?_ GE179.out | refine zS ?_ GE185.out) | exact HB.out))⟩)
            rintro gb185 w45 ⟨hS_, h0_, h1_, h2_, h3_, h4_, h5_, h6_⟩
            have n0_ : Aside0 (w45.heap[gb179]? = some (.cells #[.int .i64 0, .int .i64 0, .int .i64 0, .int .i64 0, .int .i64 0] 40 (0, 0))) := ⟨h0_⟩
            have n1_ : Aside0 (w45.heap[gb185]? = some (.cells #[.int .i64 0, .int .i64 0, .int .i64 0, .int .i64 0, .int .i64 0] 40 (0, 0))) := ⟨h1_⟩
            have n2_ : Aside0 (w.heap.size ≤ gb185) := ⟨h2_⟩
            have n3_ : Aside0 (w.heap.size ≤ gb185) := ⟨h3_⟩
            have n4_ : Aside0 (gb179 ≠ gb185) := ⟨h4_⟩
            have n5_ : Aside0 (gb185 ≠ gb179) := ⟨h5_⟩
            have n6_ : Aside0 (Below w.heap.size w w45) := ⟨h6_⟩
            clear BK179
            clear HB
            clear h0_ h1_ h2_ h3_ h4_ h5_ h6_
            have BK179 := n0_
            have BK185 := n1_
            have GW185 := n2_
            have GE185 := n3_
            have NB179_185 := n4_
            have NB185_179 := n5_
            have HB := n6_
            clear n0_ n1_ n2_ n3_ n4_ n5_ n6_
            have hHeld : w45.cell? ⟨ad181.block, ad181.off + 6, none⟩ = some (.int .u8 (rd l0 6)) ∧ w45.cell? ⟨ad181.block, ad181.off + 7, none⟩ = some (.int .u8 (rd l0 7)) ∧ w45.cell? ⟨ad181.block, ad181.off + 8, none⟩ = some (.int .u8 (rd l0 8)) := hS_
            refine norm_ (a' := ?_) ?_ ?_
            rotate_left
            · simp only [putAll, Act.put, List.setIfInBounds_toArray, List.set_cons_zero, List.set_cons_succ]
              rfl
            refine one_ (i := 18) (N := none) #[true, true, true, true, true, true, true, true, true, true, true, true, true, true, true, true, true, true, true] rfl rfl (one_of HT_.out (by kernel_rfl)) (by decide) (fun K hK => ?_)
            have hs46 : w45.cell? ⟨gb185, 0, none⟩ = some (.int .i64 0) := (blk_cell BK185.out 0).trans rfl
            have hfs46 := blk_frozen BK185.out 0
            have hns46_0 := NB179_185.out
            have hms46_0 := NB185_179.out
            have hs47 : w45.cell? ⟨gb185, 1, none⟩ = some (.int .i64 0) := (blk_cell BK185.out 1).trans rfl
            have hfs47 := blk_frozen BK185.out 1
            have hns47_0 := NB179_185.out
            have hms47_0 := NB185_179.out
            have hs48 : w45.cell? ⟨gb185, 2, none⟩ = some (.int .i64 0) := (blk_cell BK185.out 2).trans rfl
            have hfs48 := blk_frozen BK185.out 2
            have hns48_0 := NB179_185.out
            have hms48_0 := NB185_179.out
            have hs49 : w45.cell? ⟨gb185, 3, none⟩ = some (.int .i64 0) := (blk_cell BK185.out 3).trans rfl
            have hfs49 := blk_frozen BK185.out 3
            have hns49_0 := NB179_185.out
            have hms49_0 := NB185_179.out
            have hs50 : w45.cell? ⟨gb185, 4, none⟩ = some (.int .i64 0) := (blk_cell BK185.out 4).trans rfl
            have hfs50 := blk_frozen BK185.out 4
            have hns50_0 := NB179_185.out
            have hms50_0 := NB185_179.out
            refine skip_ (w1 := ?_) (by rfl) rfl ?_ ?_
            rotate_left
            · go_simp
              rfl
            refine hK.out _ _ ⟨((cell_far (p := ⟨gb185, _, none⟩) (farB hw181_0 GW185.out) _).trans (((cell_far (p := ⟨gb185, _, none⟩) (farB hw181_0 GW185.out) _).trans (((cell_far (p := ⟨gb185, _, none⟩) (farB hw181_0 GW185.out) _).trans (((cell_far (p := ⟨gb185, _, none⟩) (farB hw181_0 GW185.out) _).trans (((cell_far (p := ⟨gb185, _, none⟩) (farB hw181_0 GW185.out) _).trans (hHeld.1)))))))))), ((cell_far (p := ⟨gb185, _, none⟩) (farB hw182_0 GW185.out) _).trans (((cell_far (p := ⟨gb185, _, none⟩) (farB hw182_0 GW185.out) _).trans (((cell_far (p := ⟨gb185, _, none⟩) (farB hw182_0 GW185.out) _).trans (((cell_far (p := ⟨gb185, _, none⟩) (farB hw182_0 GW185.out) _).trans (((cell_far (p := ⟨gb185, _, none⟩) (farB hw182_0 GW185.out) _).trans (hHeld.2.1)))))))))), ((cell_far (p := ⟨gb185, _, none⟩) (farB hw183_0 GW185.out) _).trans (((cell_far (p := ⟨gb185, _, none⟩) (farB hw183_0 GW185.out) _).trans (((cell_far (p := ⟨gb185, _, none⟩) (farB hw183_0 GW185.out) _).trans (((cell_far (p := ⟨gb185, _, none⟩) (farB hw183_0 GW185.out) _).trans (((cell_far (p := ⟨gb185, _, none⟩) (farB hw183_0 GW185.out) _).trans (hHeld.2.2))))))))))⟩ (fun hHeld => ?_)
            clear hK K
            refine done_ (done_of HT_.out (by kernel_rfl)) ?_
            have hnb51 := NB185_179.out
            have hnc51 := NB179_185.out
            have hcz52_0 : w45.cell? ⟨gb185, 0, none⟩ = some (.int .i64 0) := (blk_cell BK185.out 0).trans rfl
            have hcz52_1 : w45.cell? ⟨gb185, 1, none⟩ = some (.int .i64 0) := (blk_cell BK185.out 1).trans rfl
            have hcz52_2 : w45.cell? ⟨gb185, 2, none⟩ = some (.int .i64 0) := (blk_cell BK185.out 2).trans rfl
            have hcz52_3 : w45.cell? ⟨gb185, 3, none⟩ = some (.int .i64 0) := (blk_cell BK185.out 3).trans rfl
            have hcz52_4 : w45.cell? ⟨gb185, 4, none⟩ = some (.int .i64 0) := (blk_cell BK185.out 4).trans rfl
            have hfz52_0 := blk_frozen BK185.out 0
            have hfz52_1 := blk_frozen BK185.out 1
            have hfz52_2 := blk_frozen BK185.out 2
            have hfz52_3 := blk_frozen BK185.out 3
            have hfz52_4 := blk_frozen BK185.out 4
            try go_wp2_with (first | ((with_reducible refine gate_callee (f := 26) rfl ?_); refine goesL_ (some 30) rfl rfl Try.func26 (by kernel_rfl) rfl #[.agg #[.int .i64 t180, .int .i64 (wrap64 (rd l0 6)), .int .i64 (wrap64 (rd l0 7)), .int .i64 (wrap64 (rd l0 8)), .int .i64 t184]] rfl (by (try simp only [List.map_toArray, List.map_cons, List.map_nil]); first | done | rfl | (simp only [List.length_drop, List.length_take]; rfl)) ?_; (with_reducible refine (drydockref08_Encode.calls k t180 (wrap64 (rd l0 6)) (wrap64 (rd l0 7)) (wrap64 (rd l0 8)) t184 t186 t189 _ A8.out).mono ?_); rintro e w53 ⟨v187, rfl, ho0, hb⟩; refine ⟨_, rfl, ?_⟩; have n0_ := Aside0.mk (Kd.R_lower ho0 (below_size (by repeat (first | (with_reducible first | exact HB.out | apply zB | apply zP | apply zE | refine zS ?_ GE179.out | refine zS ?_ GE185.out) | exact HB.out)))); have n1_ := Aside0.mk (blk_below (g := gb179) (o := .cells #[.int .i64 0, .int .i64 0, .int .i64 0, .int .i64 0, .int .i64 0] 40 (0, 0)) (by (with_reducible repeat (first | refine zN ?_ _ | refine zD ?_ | refine zA ?_ _)); refine blk_far ?_ NB179_185.out _; (with_reducible repeat (first | refine zN ?_ _ | refine zD ?_ | refine zA ?_ _)); refine blk_far ?_ NB179_185.out _; (with_reducible repeat (first | refine zN ?_ _ | refine zD ?_ | refine zA ?_ _)); refine blk_far ?_ NB179_185.out _; (with_reducible repeat (first | refine zN ?_ _ | refine zD ?_ | refine zA ?_ _)); refine blk_far ?_ NB179_185.out _; (with_reducible repeat (first | refine zN ?_ _ | refine zD ?_ | refine zA ?_ _)); refine blk_far ?_ NB179_185.out _; (with_reducible repeat (first | refine zN ?_ _ | refine zD ?_ | refine zA ?_ _)); exact BK179.out) hb); have n2_ := Aside0.mk (blk_below (g := gb185) (o := .cells #[.int .i64 t180, .int .i64 (wrap64 (rd l0 6)), .int .i64 (wrap64 (rd l0 7)), .int .i64 (wrap64 (rd l0 8)), .int .i64 t184] 40 (0, 0)) (by (with_reducible repeat (first | refine zN ?_ _ | refine zD ?_ | refine zA ?_ _)); refine blk_put (cs := #[.int .i64 t180, .int .i64 (wrap64 (rd l0 6)), .int .i64 (wrap64 (rd l0 7)), .int .i64 (wrap64 (rd l0 8)), .int .i64 0]) ?_ 4 _ rfl; (with_reducible repeat (first | refine zN ?_ _ | refine zD ?_ | refine zA ?_ _)); refine blk_put (cs := #[.int .i64 t180, .int .i64 (wrap64 (rd l0 6)), .int .i64 (wrap64 (rd l0 7)), .int .i64 0, .int .i64 0]) ?_ 3 _ rfl; (with_reducible repeat (first | refine zN ?_ _ | refine zD ?_ | refine zA ?_ _)); refine blk_put (cs := #[.int .i64 t180, .int .i64 (wrap64 (rd l0 6)), .int .i64 0, .int .i64 0, .int .i64 0]) ?_ 2 _ rfl; (with_reducible repeat (first | refine zN ?_ _ | refine zD ?_ | refine zA ?_ _)); refine blk_put (cs := #[.int .i64 t180, .int .i64 0, .int .i64 0, .int .i64 0, .int .i64 0]) ?_ 1 _ rfl; (with_reducible repeat (first | refine zN ?_ _ | refine zD ?_ | refine zA ?_ _)); refine blk_put (cs := #[.int .i64 0, .int .i64 0, .int .i64 0, .int .i64 0, .int .i64 0]) ?_ 0 _ rfl; (with_reducible repeat (first | refine zN ?_ _ | refine zD ?_ | refine zA ?_ _)); exact BK185.out) hb); have n3_ := Aside0.mk (below_step (by repeat (first | (with_reducible first | exact HB.out | apply zB | apply zP | apply zE | refine zS ?_ GE179.out | refine zS ?_ GE185.out) | exact HB.out)) hb); clear BK179; clear BK185; clear HB; have HO188 := n0_; have BK179 := n1_; have BK185 := n2_; have HB := n3_; clear n0_ n1_ n2_ n3_; (try clear hb); (try clear hb2); (try clear hk); (try clear hi); (try clear ho0); have hcz54_0 : w53.cell? ⟨gb179, 0, none⟩ = some (.int .i64 0) := (blk_cell BK179.out 0).trans rfl; have hcz54_1 : w53.cell? ⟨gb179, 1, none⟩ = some (.int .i64 0) := (blk_cell BK179.out 1).trans rfl; have hcz54_2 : w53.cell? ⟨gb179, 2, none⟩ = some (.int .i64 0) := (blk_cell BK179.out 2).trans rfl; have hcz54_3 : w53.cell? ⟨gb179, 3, none⟩ = some (.int .i64 0) := (blk_cell BK179.out 3).trans rfl; have hcz54_4 : w53.cell? ⟨gb179, 4, none⟩ = some (.int .i64 0) := (blk_cell BK179.out 4).trans rfl; have hfz54_0 := blk_frozen BK179.out 0; have hfz54_1 := blk_frozen BK179.out 1; have hfz54_2 := blk_frozen BK179.out 2; have hfz54_3 := blk_frozen BK179.out 3; have hfz54_4 := blk_frozen BK179.out 4))
            refine bodyPost_ret (results_ct rfl _ _ gb179 40 #[.int .i64 0, .int .i64 0, .int .i64 0, .int .i64 0, .int .i64 0] (0, 0) _ rfl (by (with_reducible repeat (first | refine zN ?_ _ | refine zD ?_ | refine zA ?_ _)); refine blk_put (cs := #[.int .i64 0, .int .i64 0, .int .i64 0, .int .i64 0, .int .i64 0]) ?_ 4 _ rfl; (with_reducible repeat (first | refine zN ?_ _ | refine zD ?_ | refine zA ?_ _)); refine blk_put (cs := #[.int .i64 0, .int .i64 0, .int .i64 0, .int .i64 0, .int .i64 0]) ?_ 3 _ rfl; (with_reducible repeat (first | refine zN ?_ _ | refine zD ?_ | refine zA ?_ _)); refine blk_put (cs := #[.int .i64 0, .int .i64 0, .int .i64 0, .int .i64 0, .int .i64 0]) ?_ 2 _ rfl; (with_reducible repeat (first | refine zN ?_ _ | refine zD ?_ | refine zA ?_ _)); refine blk_put (cs := #[.int .i64 0, .int .i64 0, .int .i64 0, .int .i64 0, .int .i64 0]) ?_ 1 _ rfl; (with_reducible repeat (first | refine zN ?_ _ | refine zD ?_ | refine zA ?_ _)); refine blk_put (cs := #[.int .i64 0, .int .i64 0, .int .i64 0, .int .i64 0, .int .i64 0]) ?_ 0 _ rfl; (with_reducible repeat (first | refine zN ?_ _ | refine zD ?_ | refine zA ?_ _)); exact BK179.out) Try.underlying40 rfl (by kernel_rfl)) rfl ?_
            exact ⟨by first | rfl | (simp [errW_none, errW_some] <;> rfl) | (simp [*, errW_none, errW_some] <;> rfl), by repeat (first | (with_reducible first | exact HB.out | apply zB | apply zP | apply zE | refine zS ?_ GE179.out | refine zS ?_ GE185.out) | exact HB.out)⟩
        · rw [if_neg c6] at H
          exact absurd H (by simp)
      · rw [if_neg c5] at H
        exact absurd H (by simp)
    · rw [if_neg c4] at H
      exact absurd H (by simp)
  · rw [if_neg c2] at H
    have c2b0 : ((l0.length : Int) == 64) = false := beq_eq_false_iff_ne.mpr c2
    have c2b1 : ((l0.length : Int) != 64) = true := bne_iff_ne.mpr c2
    simp only [Option.some.injEq, Prod.mk.injEq] at H
    obtain ⟨rfl, rfl, rfl, rfl, rfl, rfl⟩ := H
    go_enter Try.func31, Try.ntmps31
    go_wp2_with (first | ((with_reducible refine gate_dst (N := 2) rfl ?_); refine box_event ?hg (N := 2) ?hd (cs := #[.int .i64 0, .int .i64 0, .int .i64 0, .int .i64 0, .int .i64 0]) (t := 40) ?hr ?_; (case hd => rfl); (case hg => rfl); (case hr => first | (go_simp; done) | (go_simp; rfl)); intro gb179 hg w55 hbox hb; have n0_ := Aside0.mk (below_step (by repeat (first | (with_reducible first | exact HB.out | apply zB | apply zP | apply zE) | exact HB.out)) hb); have n1_ := Aside0.mk (hbox); have n2_ := Aside0.mk ((by rw [hg]; exact (below_size (by repeat (first | (with_reducible first | exact HB.out | apply zB | apply zP | apply zE) | exact HB.out))) : w.heap.size ≤ gb179)); have n3_ := Aside0.mk ((by rw [hg]; exact (below_size (by repeat (first | (with_reducible first | exact HB.out | apply zB | apply zP | apply zE) | exact HB.out))) : w.heap.size ≤ gb179)); clear HB; have HB := n0_; have BK179 := n1_; have GW179 := n2_; have GE179 := n3_; clear n0_ n1_ n2_ n3_; clear hb hbox hg; have hcz56_0 : w55.cell? ⟨gb179, 0, none⟩ = some (.int .i64 0) := (blk_cell BK179.out 0).trans rfl; have hcz56_1 : w55.cell? ⟨gb179, 1, none⟩ = some (.int .i64 0) := (blk_cell BK179.out 1).trans rfl; have hcz56_2 : w55.cell? ⟨gb179, 2, none⟩ = some (.int .i64 0) := (blk_cell BK179.out 2).trans rfl; have hcz56_3 : w55.cell? ⟨gb179, 3, none⟩ = some (.int .i64 0) := (blk_cell BK179.out 3).trans rfl; have hcz56_4 : w55.cell? ⟨gb179, 4, none⟩ = some (.int .i64 0) := (blk_cell BK179.out 4).trans rfl; have hfz56_0 := blk_frozen BK179.out 0; have hfz56_1 := blk_frozen BK179.out 1; have hfz56_2 := blk_frozen BK179.out 2; have hfz56_3 := blk_frozen BK179.out 3; have hfz56_4 := blk_frozen BK179.out 4))
    refine bodyPost_ret (results_ct rfl _ _ gb179 40 #[.int .i64 0, .int .i64 0, .int .i64 0, .int .i64 0, .int .i64 0] (0, 0) _ rfl (by (with_reducible repeat (first | refine zN ?_ _ | refine zD ?_ | refine zA ?_ _)); refine blk_put (cs := #[.int .i64 0, .int .i64 0, .int .i64 0, .int .i64 0, .int .i64 0]) ?_ 4 _ rfl; (with_reducible repeat (first | refine zN ?_ _ | refine zD ?_ | refine zA ?_ _)); refine blk_put (cs := #[.int .i64 0, .int .i64 0, .int .i64 0, .int .i64 0, .int .i64 0]) ?_ 3 _ rfl; (with_reducible repeat (first | refine zN ?_ _ | refine zD ?_ | refine zA ?_ _)); refine blk_put (cs := #[.int .i64 0, .int .i64 0, .int .i64 0, .int .i64 0, .int .i64 0]) ?_ 2 _ rfl; (with_reducible repeat (first | refine zN ?_ _ | refine zD ?_ | refine zA ?_ _)); refine blk_put (cs := #[.int .i64 0, .int .i64 0, .int .i64 0, .int .i64 0, .int .i64 0]) ?_ 1 _ rfl; (with_reducible repeat (first | refine zN ?_ _ | refine zD ?_ | refine zA ?_ _)); refine blk_put (cs := #[.int .i64 0, .int .i64 0, .int .i64 0, .int .i64 0, .int .i64 0]) ?_ 0 _ rfl; (with_reducible repeat (first | refine zN ?_ _ | refine zD ?_ | refine zA ?_ _)); exact BK179.out) Try.underlying40 rfl (by kernel_rfl)) rfl ?_
    exact ⟨by first | rfl | (simp [errW_none, errW_some] <;> rfl) | (simp [*, errW_none, errW_some] <;> rfl), by repeat (first | (with_reducible first | exact HB.out | apply zB | apply zP | apply zE | refine zS ?_ GE179.out) | exact HB.out)⟩

end Go.Proofs.Ytbgnmiicbaecfaa.PAll
