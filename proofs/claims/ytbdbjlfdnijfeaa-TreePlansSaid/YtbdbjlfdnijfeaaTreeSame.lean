/- For all worlds: the law's ints and writes, the reference's Same, at values that are the same. Conditions: the rows can be read. -/
import Derived.Test.YtbdbjlfdnijfeaaTree20
import Derived.Laws.StructEq
namespace Go.Proofs.Ytbdbjlfdnijfeaa.Tree
open Go Go.RowKit Go.Maps Go.Proofs.YtbdbjlfdnijfeaaW.PrintWords Go.Proofs.YtbdbjlfdnijfeaaW.PrintLast Go.Proofs.YtbdbjlfdnijfeaaW.PrintMore
set_option linter.unusedVariables false
set_option linter.unusedSimpArgs false
set_option maxRecDepth 100000
theorem sz3 (W : World) : (sizeOf 3).run Try.prog W = .ok 1 W := by kernel_rfl
theorem ag3 (W : World) : (isAgg 3).run Try.prog W = .ok false W := by kernel_rfl
theorem part3 (W : World) (xs : Array Value) (j : Nat) (v : Value) (h : xs[j]? = some v) : (part 3 xs j).run Try.prog W = .ok v W := by
  unfold part
  rw [Sem.run_bind, ag3, Result.andThen_ok, if_neg (by decide), h]
  rfl
theorem eq3 (W : World) (a : Int) : (Op.equalIn 9999 3 (.int .i64 a) (.int .i64 a)).run Try.prog W = .ok true W := by
  have h := run_equalIn_int (P := Try.prog) W 9998 3 .i64 .i64 a a Try.underlying3
  rw [beq_self_eq_true] at h
  exact h
theorem eq4 (W : World) (d0 d1 d2 d3 : Int) : (Op.equalIn 10000 29 (.agg #[.int .i64 d0, .int .i64 d1, .int .i64 d2, .int .i64 d3]) (.agg #[.int .i64 d0, .int .i64 d1, .int .i64 d2, .int .i64 d3])).run Try.prog W = .ok true W := by
  show (Op.equalIn (9999 + 1) _ _ _).run _ _ = _
  have p0 := part3 W #[.int .i64 d0, .int .i64 d1, .int .i64 d2, .int .i64 d3] 0 (.int .i64 d0) rfl
  have p1 := part3 W #[.int .i64 d0, .int .i64 d1, .int .i64 d2, .int .i64 d3] 1 (.int .i64 d1) rfl
  have p2 := part3 W #[.int .i64 d0, .int .i64 d1, .int .i64 d2, .int .i64 d3] 2 (.int .i64 d2) rfl
  have p3 := part3 W #[.int .i64 d0, .int .i64 d1, .int .i64 d2, .int .i64 d3] 3 (.int .i64 d3) rfl
  rw [Op.equalIn]
  simp only [Sem.run_bind, run_underlying Try.underlying29, Result.andThen_ok, sz3, Std.Legacy.Range.forIn_eq_forIn_range', Std.Legacy.Range.size]
  simp only [show List.range' 0 ((4 - 0 + 1 - 1) / 1) 1 = [0, 1, 2, 3] from rfl, List.forIn_cons, List.forIn_nil, Sem.run_bind, Nat.mul_one, p0, p1, p2, p3, Result.andThen_ok, eq3, Bool.not_true, Bool.false_eq_true, if_false, Sem.run_pure]
theorem ext_nil (w : World) : Calls Try.prog 30 #[.slice none 0 0, .slice none 0 0] w fun e w' => e = .returned (.bool true) ∧ Below w.heap.size w w' := by
  go_enter Try.func30, Try.ntmps30
  go_wp2_with fail
  go_loopg [5] 0 (fun gg i wr => i = .int .i64 0 ∧ wr = w)
  case atStart => exact ⟨rfl, rfl⟩
  case round =>
    obtain ⟨rfl, e⟩ := hrel
    obtain rfl : w = wr := e.symm
    go_wp2_with fail
    go_ret
    exact ⟨rfl, Below.refl _ _⟩
def ndC (f d0 d1 d2 d3 s g : Int) : Array Value := #[.int .i64 0, .int .i64 f, .int .i64 0, .int .i64 0, .int .i64 d0, .int .i64 d1, .int .i64 d2, .int .i64 d3, .int .i64 s, .int .i64 g, .slice none 0 0, .int .i64 0]
theorem same_calls (f d0 d1 d2 d3 s g : Int) (w : World) : Calls Try.prog 13 #[.agg (ndC f d0 d1 d2 d3 s g), .agg (ndC f d0 d1 d2 d3 s g)] w fun e w' => e = .returned (.bool true) ∧ Below w.heap.size w w' := by
  have g2 : ((w.alloc (.cells (ndC f d0 d1 d2 d3 s g) 32)).alloc (.cells (ndC f d0 d1 d2 d3 s g) 32)).heap[w.heap.size]? = some (.cells (ndC f d0 d1 d2 d3 s g) 32 (0, 0)) := heap_alloc2_old _ _ _
  have g3 : ((w.alloc (.cells (ndC f d0 d1 d2 d3 s g) 32)).alloc (.cells (ndC f d0 d1 d2 d3 s g) 32)).heap[w.heap.size + 1]? = some (.cells (ndC f d0 d1 d2 d3 s g) 32 (0, 0)) := heap_alloc2_new _ _ _
  have HB : Aside0 (Below w.heap.size w ((w.alloc (.cells (ndC f d0 d1 d2 d3 s g) 32)).alloc (.cells (ndC f d0 d1 d2 d3 s g) 32))) := ⟨below_alloc (below_alloc (Below.refl _ _) _) _⟩
  have G2 := Aside0.mk g2
  have G3 := Aside0.mk g3
  obtain ⟨W, hW⟩ : ∃ q, (w.alloc (.cells (ndC f d0 d1 d2 d3 s g) 32)).alloc (.cells (ndC f d0 d1 d2 d3 s g) 32) = q := ⟨_, rfl⟩
  rw [hW] at g2 g3 HB G2 G3
  have a0 : W.cell? ⟨w.heap.size, 0, none⟩ = some (.int .i64 0) := blk_cell g2 0
  have a1 : W.cell? ⟨w.heap.size, 1, none⟩ = some (.int .i64 f) := blk_cell g2 1
  have a2 : W.cell? ⟨w.heap.size, 2, none⟩ = some (.int .i64 0) := blk_cell g2 2
  have a3 : W.cell? ⟨w.heap.size, 3, none⟩ = some (.int .i64 0) := blk_cell g2 3
  have a4 : W.cell? ⟨w.heap.size, 4, none⟩ = some (.int .i64 d0) := blk_cell g2 4
  have a5 : W.cell? ⟨w.heap.size, 5, none⟩ = some (.int .i64 d1) := blk_cell g2 5
  have a6 : W.cell? ⟨w.heap.size, 6, none⟩ = some (.int .i64 d2) := blk_cell g2 6
  have a7 : W.cell? ⟨w.heap.size, 7, none⟩ = some (.int .i64 d3) := blk_cell g2 7
  have a8 : W.cell? ⟨w.heap.size, 8, none⟩ = some (.int .i64 s) := blk_cell g2 8
  have a9 : W.cell? ⟨w.heap.size, 9, none⟩ = some (.int .i64 g) := blk_cell g2 9
  have a10 : W.cell? ⟨w.heap.size, 10, none⟩ = some (.slice none 0 0) := blk_cell g2 10
  have a11 : W.cell? ⟨w.heap.size, 11, none⟩ = some (.int .i64 0) := blk_cell g2 11
  have b0 : W.cell? ⟨w.heap.size + 1, 0, none⟩ = some (.int .i64 0) := blk_cell g3 0
  have b1 : W.cell? ⟨w.heap.size + 1, 1, none⟩ = some (.int .i64 f) := blk_cell g3 1
  have b2 : W.cell? ⟨w.heap.size + 1, 2, none⟩ = some (.int .i64 0) := blk_cell g3 2
  have b3 : W.cell? ⟨w.heap.size + 1, 3, none⟩ = some (.int .i64 0) := blk_cell g3 3
  have b4 : W.cell? ⟨w.heap.size + 1, 4, none⟩ = some (.int .i64 d0) := blk_cell g3 4
  have b5 : W.cell? ⟨w.heap.size + 1, 5, none⟩ = some (.int .i64 d1) := blk_cell g3 5
  have b6 : W.cell? ⟨w.heap.size + 1, 6, none⟩ = some (.int .i64 d2) := blk_cell g3 6
  have b7 : W.cell? ⟨w.heap.size + 1, 7, none⟩ = some (.int .i64 d3) := blk_cell g3 7
  have b8 : W.cell? ⟨w.heap.size + 1, 8, none⟩ = some (.int .i64 s) := blk_cell g3 8
  have b9 : W.cell? ⟨w.heap.size + 1, 9, none⟩ = some (.int .i64 g) := blk_cell g3 9
  have b10 : W.cell? ⟨w.heap.size + 1, 10, none⟩ = some (.slice none 0 0) := blk_cell g3 10
  have b11 : W.cell? ⟨w.heap.size + 1, 11, none⟩ = some (.int .i64 0) := blk_cell g3 11
  have ed0 : (d0 == d0) = true := beq_self_eq_true d0
  have ed1 : (d1 == d1) = true := beq_self_eq_true d1
  have ed2 : (d2 == d2) = true := beq_self_eq_true d2
  have ed3 : (d3 == d3) = true := beq_self_eq_true d3
  have he4 := fun W => eq4 W d0 d1 d2 d3
  have e1 : (f == f) = true := beq_self_eq_true f
  have e2 : (s == s) = true := beq_self_eq_true s
  have e3 : (g == g) = true := beq_self_eq_true g
  clear g2 g3
  go_enter Try.func13, Try.ntmps13
  go_wp2_with (go_at_call 30; (with_reducible refine (ext_nil _).mono ?_); rintro e w4 ⟨rfl, hb⟩; have HB4 := Aside0.mk (below_step HB.out hb); clear hb)
  go_ret
  exact ⟨rfl, HB4.out⟩
theorem ints_same (A0 : Option Addr) (c0 : Nat) (A1 : Option Addr) (c1 n : Nat) (l : List Int) (hn : l.length = n) (w : World) (hr0 : I.C w A0 n l) (hr1 : I.C w A1 n l) :
    Calls Try.prog 16 #[.slice A0 n c0, .slice A1 n c1] w fun e w' => e = .returned (.bool true) ∧ Below w.heap.size w w' := by
  have HN := Aside0.mk hn
  have hn63 := hr0.2.1
  have HR0 := Aside0.mk hr0
  have HR1 := Aside0.mk hr1
  clear hr0 hr1 hn
  go_enter Try.func16, Try.ntmps16
  go_wp2_with fail
  go_loopg [5] n (fun gg i wr => ∃ k : Nat, k ≤ n ∧ n - k ≤ gg ∧ i = .int .i64 k ∧ Aside0 (Below w.heap.size w wr))
  case atStart => exact ⟨0, Nat.zero_le _, Nat.le_refl _, rfl, ⟨Below.refl _ _⟩⟩
  case round =>
    obtain ⟨k, hk, hgk, rfl, HB⟩ := hrel
    by_cases hlt : k < n
    · have b1 : decide (k < n) = true := decide_eq_true hlt
      obtain ⟨p, hp⟩ : ∃ p, l[k]? = some p := ⟨_, List.getElem?_eq_getElem (by have := HN.out; omega)⟩
      obtain ⟨ad, e, hc⟩ := at_i (Kd.C_below HR0.out HB.out) hp
      subst e
      obtain ⟨ad1, e, hc1⟩ := at_i (Kd.C_below HR1.out HB.out) hp
      subst e
      have HS1 : Aside0 (∀ W, Below wr.heap.size wr W → W.cell? (ad.add k) = some (.int .i64 p)) := ⟨fun W hW => pw_cell_below hW hc⟩
      have HS2 : Aside0 (∀ W, Below wr.heap.size wr W → W.cell? (ad1.add k) = some (.int .i64 p)) := ⟨fun W hW => pw_cell_below hW hc1⟩
      have hkz : (0 : Int) ≤ (k : Int) := by omega
      have hkn : (k : Int) < (n : Int) := by omega
      have hpp : (p != p) = false := bne_self_eq_false p
      clear hp hc hc1
      go_wp2_with fail
      refine start_ (n := 9) (S := fun w' => w'.cell? (ad.add k) = some (.int .i64 p) ∧ w'.cell? (ad1.add k) = some (.int .i64 p)) (ds := []) #[false, false, false, false, false, false, false, false, false] (by kernel_rfl) rfl rfl ⟨HS1.out _ (below_drew (Below.refl _ _)), HS2.out _ (below_drew (Below.refl _ _))⟩ (fun hHeld => ?_)
      refine pure_ (i := 0) (N := some 17) (v := ?_) (a' := ?_) #[true, false, false, false, false, false, false, false, false] rfl rfl (by kernel_rfl) (fun _ _ _ h => h) (Or.inl ⟨by rfl, ?_⟩) ?_ ?_
      rotate_left
      · intro w'
        go_simp
        with_reducible rfl
      rotate_left
      · simp only [Act.put, List.setIfInBounds_toArray, List.set_cons_zero, List.set_cons_succ, i64_w, i32_w]
        rfl
      refine pure_ (i := 1) (N := some 18) (v := ?_) (a' := ?_) #[true, true, false, false, false, false, false, false, false] rfl rfl (by kernel_rfl) (fun _ _ _ h => h) (Or.inl ⟨by rfl, ?_⟩) ?_ ?_
      rotate_left
      · intro w'
        go_simp
        with_reducible rfl
      rotate_left
      · simp only [Act.put, List.setIfInBounds_toArray, List.set_cons_zero, List.set_cons_succ, i64_w, i32_w]
        rfl
      refine pure_ (i := 2) (N := some 19) (v := ?_) (a' := ?_) #[true, true, true, false, false, false, false, false, false] rfl rfl (by kernel_rfl) (fun _ _ _ h => h) (Or.inl ⟨by rfl, ?_⟩) ?_ ?_
      rotate_left
      · intro w'
        go_simp
        with_reducible rfl
      rotate_left
      · simp only [Act.put, List.setIfInBounds_toArray, List.set_cons_zero, List.set_cons_succ, i64_w, i32_w]
        rfl
      refine pure_ (i := 4) (N := some 21) (v := ?_) (a' := ?_) #[true, true, true, false, true, false, false, false, false] rfl rfl (by kernel_rfl) (fun _ _ _ h => h) (Or.inl ⟨by rfl, ?_⟩) ?_ ?_
      rotate_left
      · intro w'
        go_simp
        with_reducible rfl
      rotate_left
      · simp only [Act.put, List.setIfInBounds_toArray, List.set_cons_zero, List.set_cons_succ, i64_w, i32_w]
        rfl
      refine pure_ (i := 5) (N := some 22) (v := ?_) (a' := ?_) #[true, true, true, false, true, true, false, false, false] rfl rfl (by kernel_rfl) (fun _ _ _ h => h) (Or.inl ⟨by rfl, ?_⟩) ?_ ?_
      rotate_left
      · intro w'
        go_simp
        with_reducible rfl
      rotate_left
      · simp only [Act.put, List.setIfInBounds_toArray, List.set_cons_zero, List.set_cons_succ, i64_w, i32_w]
        rfl
      refine pure_ (i := 6) (N := some 23) (v := ?_) (a' := ?_) #[true, true, true, false, true, true, true, false, false] rfl rfl (by kernel_rfl) (fun _ _ _ h => h) (Or.inl ⟨by rfl, ?_⟩) ?_ ?_
      rotate_left
      · intro w'
        go_simp
        with_reducible rfl
      rotate_left
      · simp only [Act.put, List.setIfInBounds_toArray, List.set_cons_zero, List.set_cons_succ, i64_w, i32_w]
        rfl
      refine take_ (i := 3) (N := some 20) (v := ?_) (a' := ?_) #[true, true, true, true, true, true, true, false, false] rfl rfl (by kernel_rfl) (fun _ _ _ h => h) (Or.inl ⟨by rfl, ?_⟩) hHeld ?_ ?_
      rotate_left
      · rintro w' ⟨s0, s1⟩
        go_simp
        with_reducible rfl
      rotate_left
      · simp only [Act.put, List.setIfInBounds_toArray, List.set_cons_zero, List.set_cons_succ, i64_w, i32_w]
        rfl
      refine take_ (i := 7) (N := some 24) (v := ?_) (a' := ?_) #[true, true, true, true, true, true, true, true, false] rfl rfl (by kernel_rfl) (fun _ _ _ h => h) (Or.inl ⟨by rfl, ?_⟩) hHeld ?_ ?_
      rotate_left
      · rintro w' ⟨s0, s1⟩
        go_simp
        with_reducible rfl
      rotate_left
      · simp only [Act.put, List.setIfInBounds_toArray, List.set_cons_zero, List.set_cons_succ, i64_w, i32_w]
        rfl
      refine pure_ (i := 8) (N := some 25) (v := ?_) (a' := ?_) #[true, true, true, true, true, true, true, true, true] rfl rfl (by kernel_rfl) (fun _ _ _ h => h) (Or.inl ⟨by rfl, ?_⟩) ?_ ?_
      rotate_left
      · intro w'
        go_simp
        with_reducible rfl
      rotate_left
      · simp only [Act.put, List.setIfInBounds_toArray, List.set_cons_zero, List.set_cons_succ, i64_w, i32_w]
        rfl
      refine done_ (by kernel_rfl) ?_

      go_wp2_with fail
      go_roundg (n - (k + 1))
      case measure => omega
      case rel => exact ⟨k + 1, by omega, Nat.le_refl _, by go_num, ⟨below_drew HB.out⟩⟩
    · have b1 : decide (k < n) = false := decide_eq_false hlt
      clear hlt
      go_wp2_with fail
      go_ret
      exact ⟨rfl, HB.out⟩
theorem writes_same (A0 : Option Addr) (c0 : Nat) (A1 : Option Addr) (c1 n : Nat) (l : List Wr) (hn : l.length = n) (w : World) (hr0 : kW.C w A0 n l) (hr1 : kW.C w A1 n l) :
    Calls Try.prog 14 #[.slice A0 n c0, .slice A1 n c1] w fun e w' => e = .returned (.bool true) ∧ Below w.heap.size w w' := by
  have HN := Aside0.mk hn
  have hn63 := hr0.2.1
  have HR0 := Aside0.mk hr0
  have HR1 := Aside0.mk hr1
  clear hr0 hr1 hn
  go_enter Try.func14, Try.ntmps14
  go_wp2_with fail
  go_loopg [5] n (fun gg i wr => ∃ k : Nat, k ≤ n ∧ n - k ≤ gg ∧ i = .int .i64 k ∧ Aside0 (Below w.heap.size w wr))
  case atStart => exact ⟨0, Nat.zero_le _, Nat.le_refl _, rfl, ⟨Below.refl _ _⟩⟩
  case round =>
    obtain ⟨k, hk, hgk, rfl, HB⟩ := hrel
    by_cases hlt : k < n
    · have b1 : decide (k < n) = true := decide_eq_true hlt
      obtain ⟨x, hx⟩ : ∃ x, l[k]? = some x := ⟨_, List.getElem?_eq_getElem (by have := HN.out; omega)⟩
      obtain ⟨ad, A2, c2, e, hc, hd, hcl, hcc⟩ := at_w (Kd.C_below HR0.out HB.out) hx
      subst e
      obtain ⟨ad1, A3, c3, e, hc1, hd1, hcl1, hcc1⟩ := at_w (Kd.C_below HR1.out HB.out) hx
      subst e
      obtain ⟨m, hm⟩ : ∃ m, x.data.length = m := ⟨_, rfl⟩
      obtain ⟨p, hp⟩ : ∃ p, x.tgt = p := ⟨_, rfl⟩
      obtain ⟨s, hs⟩ : ∃ s, strOfNums x.data = s := ⟨_, rfl⟩
      rw [hm] at hd hd1 hcc hcc1
      rw [hp] at hc hc1
      have HS1 : Aside0 (∀ W, Below wr.heap.size wr W → W.cell? (ad.add (k * 2)) = some (.int .i64 p)) := ⟨fun W hW => pw_cell_below hW hc⟩
      have HS2 : Aside0 (∀ W, Below wr.heap.size wr W → W.cell? ⟨(ad.add (k * 2)).block, (ad.add (k * 2)).off + 1, none⟩ = some (.slice A2 m c2)) := ⟨fun W hW => pw_cell_below hW hd⟩
      have HS3 : Aside0 (∀ W, Below wr.heap.size wr W → W.cell? (ad1.add (k * 2)) = some (.int .i64 p)) := ⟨fun W hW => pw_cell_below hW hc1⟩
      have HS4 : Aside0 (∀ W, Below wr.heap.size wr W → W.cell? ⟨(ad1.add (k * 2)).block, (ad1.add (k * 2)).off + 1, none⟩ = some (.slice A3 m c3)) := ⟨fun W hW => pw_cell_below hW hd1⟩
      have HS5 : Aside0 (∀ W, Below wr.heap.size wr W → (convert 56 9 (.slice A2 m c2)).run Try.prog W = .ok (.string s) W) := ⟨fun W hW => by rw [← hs]; exact Kd.C_string Try.underlying56 Try.underlying5 Try.underlying9 (Kd.C_below hcc hW)⟩
      have HS6 : Aside0 (∀ W, Below wr.heap.size wr W → (convert 56 9 (.slice A3 m c3)).run Try.prog W = .ok (.string s) W) := ⟨fun W hW => by rw [← hs]; exact Kd.C_string Try.underlying56 Try.underlying5 Try.underlying9 (Kd.C_below hcc1 hW)⟩
      have hkz : (0 : Int) ≤ (k : Int) := by omega
      have hkn : (k : Int) < (n : Int) := by omega
      have hpp : (p != p) = false := bne_self_eq_false p
      have hss : (s.toList != s.toList) = false := bne_self_eq_false _
      clear hx hc hc1 hd hd1 hm hp hs hcl hcl1 hcc hcc1
      go_wp2_with fail
      refine start_ (n := 26) (S := fun w' => w'.cell? (ad.add (k * 2)) = some (.int .i64 p) ∧ w'.cell? ⟨(ad.add (k * 2)).block, (ad.add (k * 2)).off + 1, none⟩ = some (.slice A2 m c2) ∧ w'.cell? (ad1.add (k * 2)) = some (.int .i64 p) ∧ w'.cell? ⟨(ad1.add (k * 2)).block, (ad1.add (k * 2)).off + 1, none⟩ = some (.slice A3 m c3) ∧ (convert 56 9 (.slice A2 m c2)).run Try.prog w' = .ok (.string s) w' ∧ (convert 56 9 (.slice A3 m c3)).run Try.prog w' = .ok (.string s) w') (ds := []) #[false, false, false, false, false, false, false, false, false, false, false, false, false, false, false, false, false, false, false, false, false, false, false, false, false, false] (by kernel_rfl) rfl rfl ⟨HS1.out _ (below_drew (Below.refl _ _)), HS2.out _ (below_drew (Below.refl _ _)), HS3.out _ (below_drew (Below.refl _ _)), HS4.out _ (below_drew (Below.refl _ _)), HS5.out _ (below_drew (Below.refl _ _)), HS6.out _ (below_drew (Below.refl _ _))⟩ (fun hHeld => ?_)
      refine pure_ (i := 0) (N := some 17) (v := ?_) (a' := ?_) #[true, false, false, false, false, false, false, false, false, false, false, false, false, false, false, false, false, false, false, false, false, false, false, false, false, false] rfl rfl (by kernel_rfl) (fun _ _ _ h => h) (Or.inl ⟨by rfl, ?_⟩) ?_ ?_
      rotate_left
      · intro w'
        go_simp
        with_reducible rfl
      rotate_left
      · simp only [Act.put, List.setIfInBounds_toArray, List.set_cons_zero, List.set_cons_succ, i64_w, i32_w]
        rfl
      refine pure_ (i := 1) (N := some 18) (v := ?_) (a' := ?_) #[true, true, false, false, false, false, false, false, false, false, false, false, false, false, false, false, false, false, false, false, false, false, false, false, false, false] rfl rfl (by kernel_rfl) (fun _ _ _ h => h) (Or.inl ⟨by rfl, ?_⟩) ?_ ?_
      rotate_left
      · intro w'
        go_simp
        with_reducible rfl
      rotate_left
      · simp only [Act.put, List.setIfInBounds_toArray, List.set_cons_zero, List.set_cons_succ, i64_w, i32_w]
        rfl
      refine pure_ (i := 2) (N := some 19) (v := ?_) (a' := ?_) #[true, true, true, false, false, false, false, false, false, false, false, false, false, false, false, false, false, false, false, false, false, false, false, false, false, false] rfl rfl (by kernel_rfl) (fun _ _ _ h => h) (Or.inl ⟨by rfl, ?_⟩) ?_ ?_
      rotate_left
      · intro w'
        go_simp
        with_reducible rfl
      rotate_left
      · simp only [Act.put, List.setIfInBounds_toArray, List.set_cons_zero, List.set_cons_succ, i64_w, i32_w]
        rfl
      refine pure_ (i := 3) (N := some 20) (v := ?_) (a' := ?_) #[true, true, true, true, false, false, false, false, false, false, false, false, false, false, false, false, false, false, false, false, false, false, false, false, false, false] rfl rfl (by kernel_rfl) (fun _ _ _ h => h) (Or.inl ⟨by rfl, ?_⟩) ?_ ?_
      rotate_left
      · intro w'
        go_simp
        with_reducible rfl
      rotate_left
      · simp only [Act.put, List.setIfInBounds_toArray, List.set_cons_zero, List.set_cons_succ, i64_w, i32_w]
        rfl
      refine pure_ (i := 5) (N := some 22) (v := ?_) (a' := ?_) #[true, true, true, true, false, true, false, false, false, false, false, false, false, false, false, false, false, false, false, false, false, false, false, false, false, false] rfl rfl (by kernel_rfl) (fun _ _ _ h => h) (Or.inl ⟨by rfl, ?_⟩) ?_ ?_
      rotate_left
      · intro w'
        go_simp
        with_reducible rfl
      rotate_left
      · simp only [Act.put, List.setIfInBounds_toArray, List.set_cons_zero, List.set_cons_succ, i64_w, i32_w]
        rfl
      refine pure_ (i := 6) (N := some 23) (v := ?_) (a' := ?_) #[true, true, true, true, false, true, true, false, false, false, false, false, false, false, false, false, false, false, false, false, false, false, false, false, false, false] rfl rfl (by kernel_rfl) (fun _ _ _ h => h) (Or.inl ⟨by rfl, ?_⟩) ?_ ?_
      rotate_left
      · intro w'
        go_simp
        with_reducible rfl
      rotate_left
      · simp only [Act.put, List.setIfInBounds_toArray, List.set_cons_zero, List.set_cons_succ, i64_w, i32_w]
        rfl
      refine pure_ (i := 7) (N := some 24) (v := ?_) (a' := ?_) #[true, true, true, true, false, true, true, true, false, false, false, false, false, false, false, false, false, false, false, false, false, false, false, false, false, false] rfl rfl (by kernel_rfl) (fun _ _ _ h => h) (Or.inl ⟨by rfl, ?_⟩) ?_ ?_
      rotate_left
      · intro w'
        go_simp
        with_reducible rfl
      rotate_left
      · simp only [Act.put, List.setIfInBounds_toArray, List.set_cons_zero, List.set_cons_succ, i64_w, i32_w]
        rfl
      refine pure_ (i := 8) (N := some 25) (v := ?_) (a' := ?_) #[true, true, true, true, false, true, true, true, true, false, false, false, false, false, false, false, false, false, false, false, false, false, false, false, false, false] rfl rfl (by kernel_rfl) (fun _ _ _ h => h) (Or.inl ⟨by rfl, ?_⟩) ?_ ?_
      rotate_left
      · intro w'
        go_simp
        with_reducible rfl
      rotate_left
      · simp only [Act.put, List.setIfInBounds_toArray, List.set_cons_zero, List.set_cons_succ, i64_w, i32_w]
        rfl
      refine take_ (i := 4) (N := some 21) (v := ?_) (a' := ?_) #[true, true, true, true, true, true, true, true, true, false, false, false, false, false, false, false, false, false, false, false, false, false, false, false, false, false] rfl rfl (by kernel_rfl) (fun _ _ _ h => h) (Or.inl ⟨by rfl, ?_⟩) hHeld ?_ ?_
      rotate_left
      · rintro w' ⟨s0, s1, s2, s3, s4, s5⟩
        go_simp
        with_reducible rfl
      rotate_left
      · simp only [Act.put, List.setIfInBounds_toArray, List.set_cons_zero, List.set_cons_succ, i64_w, i32_w]
        rfl
      refine take_ (i := 9) (N := some 26) (v := ?_) (a' := ?_) #[true, true, true, true, true, true, true, true, true, true, false, false, false, false, false, false, false, false, false, false, false, false, false, false, false, false] rfl rfl (by kernel_rfl) (fun _ _ _ h => h) (Or.inl ⟨by rfl, ?_⟩) hHeld ?_ ?_
      rotate_left
      · rintro w' ⟨s0, s1, s2, s3, s4, s5⟩
        go_simp
        with_reducible rfl
      rotate_left
      · simp only [Act.put, List.setIfInBounds_toArray, List.set_cons_zero, List.set_cons_succ, i64_w, i32_w]
        rfl
      refine pure_ (i := 10) (N := some 27) (v := ?_) (a' := ?_) #[true, true, true, true, true, true, true, true, true, true, true, false, false, false, false, false, false, false, false, false, false, false, false, false, false, false] rfl rfl (by kernel_rfl) (fun _ _ _ h => h) (Or.inl ⟨by rfl, ?_⟩) ?_ ?_
      rotate_left
      · intro w'
        go_simp
        with_reducible rfl
      rotate_left
      · simp only [Act.put, List.setIfInBounds_toArray, List.set_cons_zero, List.set_cons_succ, i64_w, i32_w]
        rfl
      refine pure_ (i := 11) (N := some 28) (v := ?_) (a' := ?_) #[true, true, true, true, true, true, true, true, true, true, true, true, false, false, false, false, false, false, false, false, false, false, false, false, false, false] rfl rfl (by kernel_rfl) (fun _ _ _ h => h) (Or.inl ⟨by rfl, ?_⟩) ?_ ?_
      rotate_left
      · intro w'
        go_simp
        with_reducible rfl
      rotate_left
      · simp only [Act.put, List.setIfInBounds_toArray, List.set_cons_zero, List.set_cons_succ, i64_w, i32_w]
        rfl
      refine pure_ (i := 12) (N := some 29) (v := ?_) (a' := ?_) #[true, true, true, true, true, true, true, true, true, true, true, true, true, false, false, false, false, false, false, false, false, false, false, false, false, false] rfl rfl (by kernel_rfl) (fun _ _ _ h => h) (Or.inl ⟨by rfl, ?_⟩) ?_ ?_
      rotate_left
      · intro w'
        go_simp
        with_reducible rfl
      rotate_left
      · simp only [Act.put, List.setIfInBounds_toArray, List.set_cons_zero, List.set_cons_succ, i64_w, i32_w]
        rfl
      refine pure_ (i := 13) (N := some 30) (v := ?_) (a' := ?_) #[true, true, true, true, true, true, true, true, true, true, true, true, true, true, false, false, false, false, false, false, false, false, false, false, false, false] rfl rfl (by kernel_rfl) (fun _ _ _ h => h) (Or.inl ⟨by rfl, ?_⟩) ?_ ?_
      rotate_left
      · intro w'
        go_simp
        with_reducible rfl
      rotate_left
      · simp only [Act.put, List.setIfInBounds_toArray, List.set_cons_zero, List.set_cons_succ, i64_w, i32_w]
        rfl
      refine pure_ (i := 14) (N := some 31) (v := ?_) (a' := ?_) #[true, true, true, true, true, true, true, true, true, true, true, true, true, true, true, false, false, false, false, false, false, false, false, false, false, false] rfl rfl (by kernel_rfl) (fun _ _ _ h => h) (Or.inl ⟨by rfl, ?_⟩) ?_ ?_
      rotate_left
      · intro w'
        go_simp
        with_reducible rfl
      rotate_left
      · simp only [Act.put, List.setIfInBounds_toArray, List.set_cons_zero, List.set_cons_succ, i64_w, i32_w]
        rfl
      refine pure_ (i := 15) (N := some 32) (v := ?_) (a' := ?_) #[true, true, true, true, true, true, true, true, true, true, true, true, true, true, true, true, false, false, false, false, false, false, false, false, false, false] rfl rfl (by kernel_rfl) (fun _ _ _ h => h) (Or.inl ⟨by rfl, ?_⟩) ?_ ?_
      rotate_left
      · intro w'
        go_simp
        with_reducible rfl
      rotate_left
      · simp only [Act.put, List.setIfInBounds_toArray, List.set_cons_zero, List.set_cons_succ, i64_w, i32_w]
        rfl
      refine pure_ (i := 18) (N := some 35) (v := ?_) (a' := ?_) #[true, true, true, true, true, true, true, true, true, true, true, true, true, true, true, true, false, false, true, false, false, false, false, false, false, false] rfl rfl (by kernel_rfl) (fun _ _ _ h => h) (Or.inl ⟨by rfl, ?_⟩) ?_ ?_
      rotate_left
      · intro w'
        go_simp
        with_reducible rfl
      rotate_left
      · simp only [Act.put, List.setIfInBounds_toArray, List.set_cons_zero, List.set_cons_succ, i64_w, i32_w]
        rfl
      refine pure_ (i := 19) (N := some 36) (v := ?_) (a' := ?_) #[true, true, true, true, true, true, true, true, true, true, true, true, true, true, true, true, false, false, true, true, false, false, false, false, false, false] rfl rfl (by kernel_rfl) (fun _ _ _ h => h) (Or.inl ⟨by rfl, ?_⟩) ?_ ?_
      rotate_left
      · intro w'
        go_simp
        with_reducible rfl
      rotate_left
      · simp only [Act.put, List.setIfInBounds_toArray, List.set_cons_zero, List.set_cons_succ, i64_w, i32_w]
        rfl
      refine pure_ (i := 20) (N := some 37) (v := ?_) (a' := ?_) #[true, true, true, true, true, true, true, true, true, true, true, true, true, true, true, true, false, false, true, true, true, false, false, false, false, false] rfl rfl (by kernel_rfl) (fun _ _ _ h => h) (Or.inl ⟨by rfl, ?_⟩) ?_ ?_
      rotate_left
      · intro w'
        go_simp
        with_reducible rfl
      rotate_left
      · simp only [Act.put, List.setIfInBounds_toArray, List.set_cons_zero, List.set_cons_succ, i64_w, i32_w]
        rfl
      refine pure_ (i := 21) (N := some 38) (v := ?_) (a' := ?_) #[true, true, true, true, true, true, true, true, true, true, true, true, true, true, true, true, false, false, true, true, true, true, false, false, false, false] rfl rfl (by kernel_rfl) (fun _ _ _ h => h) (Or.inl ⟨by rfl, ?_⟩) ?_ ?_
      rotate_left
      · intro w'
        go_simp
        with_reducible rfl
      rotate_left
      · simp only [Act.put, List.setIfInBounds_toArray, List.set_cons_zero, List.set_cons_succ, i64_w, i32_w]
        rfl
      refine take_ (i := 16) (N := some 33) (v := ?_) (a' := ?_) #[true, true, true, true, true, true, true, true, true, true, true, true, true, true, true, true, true, false, true, true, true, true, false, false, false, false] rfl rfl (by kernel_rfl) (fun _ _ _ h => h) (Or.inl ⟨by rfl, ?_⟩) hHeld ?_ ?_
      rotate_left
      · rintro w' ⟨s0, s1, s2, s3, s4, s5⟩
        go_simp
        with_reducible rfl
      rotate_left
      · simp only [Act.put, List.setIfInBounds_toArray, List.set_cons_zero, List.set_cons_succ, i64_w, i32_w]
        rfl
      refine take_ (i := 17) (N := some 34) (v := ?_) (a' := ?_) #[true, true, true, true, true, true, true, true, true, true, true, true, true, true, true, true, true, true, true, true, true, true, false, false, false, false] rfl rfl (by kernel_rfl) (fun _ _ _ h => h) (Or.inl ⟨by rfl, ?_⟩) hHeld ?_ ?_
      rotate_left
      · rintro w' ⟨s0, s1, s2, s3, s4, s5⟩
        go_simp
        with_reducible rfl
      rotate_left
      · simp only [Act.put, List.setIfInBounds_toArray, List.set_cons_zero, List.set_cons_succ, i64_w, i32_w]
        rfl
      refine take_ (i := 22) (N := some 39) (v := ?_) (a' := ?_) #[true, true, true, true, true, true, true, true, true, true, true, true, true, true, true, true, true, true, true, true, true, true, true, false, false, false] rfl rfl (by kernel_rfl) (fun _ _ _ h => h) (Or.inl ⟨by rfl, ?_⟩) hHeld ?_ ?_
      rotate_left
      · rintro w' ⟨s0, s1, s2, s3, s4, s5⟩
        go_simp
        with_reducible rfl
      rotate_left
      · simp only [Act.put, List.setIfInBounds_toArray, List.set_cons_zero, List.set_cons_succ, i64_w, i32_w]
        rfl
      refine take_ (i := 23) (N := some 40) (v := ?_) (a' := ?_) #[true, true, true, true, true, true, true, true, true, true, true, true, true, true, true, true, true, true, true, true, true, true, true, true, false, false] rfl rfl (by kernel_rfl) (fun _ _ _ h => h) (Or.inl ⟨by rfl, ?_⟩) hHeld ?_ ?_
      rotate_left
      · rintro w' ⟨s0, s1, s2, s3, s4, s5⟩
        go_simp
        with_reducible rfl
      rotate_left
      · simp only [Act.put, List.setIfInBounds_toArray, List.set_cons_zero, List.set_cons_succ, i64_w, i32_w]
        rfl
      refine pure_ (i := 24) (N := some 41) (v := ?_) (a' := ?_) #[true, true, true, true, true, true, true, true, true, true, true, true, true, true, true, true, true, true, true, true, true, true, true, true, true, false] rfl rfl (by kernel_rfl) (fun _ _ _ h => h) (Or.inl ⟨by rfl, ?_⟩) ?_ ?_
      rotate_left
      · intro w'
        go_simp
        with_reducible rfl
      rotate_left
      · simp only [Act.put, List.setIfInBounds_toArray, List.set_cons_zero, List.set_cons_succ, i64_w, i32_w]
        rfl
      refine pure_ (i := 25) (N := some 42) (v := ?_) (a' := ?_) #[true, true, true, true, true, true, true, true, true, true, true, true, true, true, true, true, true, true, true, true, true, true, true, true, true, true] rfl rfl (by kernel_rfl) (fun _ _ _ h => h) (Or.inl ⟨by rfl, ?_⟩) ?_ ?_
      rotate_left
      · intro w'
        go_simp
        with_reducible rfl
      rotate_left
      · simp only [Act.put, List.setIfInBounds_toArray, List.set_cons_zero, List.set_cons_succ, i64_w, i32_w]
        rfl
      refine done_ (by kernel_rfl) ?_

      go_wp2_with fail
      go_roundg (n - (k + 1))
      case measure => omega
      case rel => exact ⟨k + 1, by omega, Nat.le_refl _, by go_num, ⟨below_drew HB.out⟩⟩
    · have b1 : decide (k < n) = false := decide_eq_false hlt
      clear hlt
      go_wp2_with fail
      go_ret
      exact ⟨rfl, HB.out⟩
end Go.Proofs.Ytbdbjlfdnijfeaa.Tree
