/- Walks of field.Text and of the reference's Text. -/
import Derived.Test.YtbgnmiicbaecfaaField
import Derived.Test.YtbgnmiicbaecfaaRef
import Derived.Test.YtbgnmiicbaecfaaWLast
import Derived.Laws.CopyRow
import Derived.Lib.AppendStr
import Derived.IntWalk
namespace Go.Proofs.Ytbgnmiicbaecfaa.Text
open Go Go.RowKit Go.Proofs.YtbgnmiicbaecfaaW.PrintWords Go.Proofs.YtbgnmiicbaecfaaW.PrintLast Go.Proofs.YtbgnmiicbaecfaaW.PrintMore Go.Proofs.Ytbgnmiicbaecfaa.Field Go.Proofs.Ytbgnmiicbaecfaa.Spin
set_option linter.unusedVariables false
set_option linter.unusedSimpArgs false

/-- copy of a text into a row. -/
theorem run_copy_str {P : Program} (w : World) (dT sT ty elem : TypeId) (g o dLen dCap : Nat) (s : ByteArray) (cur : Array Value) (t : TypeId)
    (hu : P.underlying dT = some (.slice elem)) (hs : (P.info? elem).map (·.size) = some 1)
    (hg : w.heap[g]? = some (.cells cur t (0, 0))) (hn : s.size ≤ dLen) (hfit : o + s.size ≤ cur.size) :
    (Builtin.copy_ #[dT, sT] ty #[.slice (some ⟨g, o, none⟩) dLen dCap, .string s]).run P w =
      .ok (goInt s.size) (w.setRow g (cur.toList.take o ++ Lib.strCells s ++ cur.toList.drop (o + s.size)).toArray) := by
  have hst := run_storeCells_at P g o t (Lib.strCells s) 0 cur w hg (by simpa [Lib.strCells_length] using hfit) (Lib.strCells_oneCell s)
  simp only [Nat.add_zero, Lib.strCells_length] at hst
  have hf := Lib.run_firstCells_string (P := P) w 1 s
  have hmin : Nat.min s.size dLen = s.size := Nat.min_eq_left hn
  cases hq : P.info? elem with
  | none => simp [hq] at hs
  | some i =>
    have hi : i.size = 1 := by simpa [hq] using hs
    simp [Builtin.copy_, run_underlying hu, Builtin.lenOf, sizeOf, typeInfo, hq, hi, hmin, hf, hst]

theorem Wrote.setRow {g : Nat} {cs : Array Value} {w w' : World} (h : Wrote g cs w w') (cs' : Array Value) : Wrote g cs' w (w'.setRow g cs') :=
  ⟨setRow_heap w' g cs cs' _ _ h.blk, by simp only [World.setRow, Array.size_modify]; exact h.size, fun j hj => (by rw [← h.far j hj]; exact setRow_other w' g j cs' hj), h.os, h.tape, h.output⟩

/-- A block with a text at a place. -/
def textL (l : List Int) (o : Nat) (s : ByteArray) : List Int := l.take o ++ bytesOf s ++ l.drop (o + s.size)
theorem textL_length (l : List Int) (o : Nat) (s : ByteArray) (h : o + s.size ≤ l.length) : (textL l o s).length = l.length := by
  unfold textL
  rw [List.length_append, List.length_append, List.length_take, List.length_drop, bytesOf_length]
  omega

/-- What Text gives. -/
def textF (l : List Int) (a1 : Int) (s : ByteArray) : Option (List Int × Int) :=
  if s.size ≤ 140737488351232 then (if l.length = 64 then (if 0 ≤ a1 ∧ a1 ≤ 60 - s.size then some (textL l a1.toNat s, 0) else some ([], 1)) else some ([], 2)) else none

theorem str_nums (s : ByteArray) : nums .u8 (bytesOf s) = Lib.strCells s := by simp [nums, bytesOf, Lib.strCells]

theorem text_no (A0 : Option Addr) (c0 n : Nat) (a1 : Int) (s : ByteArray) (hn : n ≠ 64) (w : World) :
    Calls Try.prog 23 #[.slice A0 n c0, .int .i64 a1, .string s] w fun e w' => e = .returned (.tuple #[.slice none 0 0, .int .i64 2]) ∧ w = w' := by
  have d5 : ((n : Int) != 64) = true := by simp; omega
  go_enter Try.func23, Try.ntmps23
  go_wp2
  go_ret2
  exact ⟨rfl, rfl⟩

theorem text_arg (A0 : Option Addr) (c0 : Nat) (a1 : Int) (s : ByteArray) (hs : s.size ≤ 140737488351232) (h : ¬ (0 ≤ a1 ∧ a1 ≤ 60 - s.size)) (w : World) :
    Calls Try.prog 23 #[.slice A0 64 c0, .int .i64 a1, .string s] w fun e w' => e = .returned (.tuple #[.slice none 0 0, .int .i64 1]) ∧ w = w' := by
  by_cases h0 : a1 < 0
  · have d0 : decide (a1 < 0) = true := by simpa using h0
    clear h
    go_enter Try.func23, Try.ntmps23
    go_wp2
    go_ret2
    exact ⟨rfl, rfl⟩
  · have d0 : decide (a1 < 0) = false := by simpa using h0
    have d1 : decide (60 - (s.size : Int) < a1) = true := by simp; omega
    clear h
    go_enter Try.func23, Try.ntmps23
    go_wp2
    go_ret2
    exact ⟨rfl, rfl⟩

theorem text_yes (A0 : Option Addr) (c0 : Nat) (l0 : List Int) (a1 : Nat) (s : ByteArray) (h64 : l0.length = 64) (h : a1 + s.size ≤ 60) (w : World) (hr0 : Kd.C B w A0 l0.length l0) (hc0 : l0.length ≤ c0) :
    Calls Try.prog 23 #[.slice A0 l0.length c0, .int .i64 a1, .string s] w fun e w' => ∃ v0_ : Value, e = .returned (.tuple #[v0_, .int .i64 0]) ∧ Kd.R B 5 w' w.heap.size (fun _ => True) v0_ (textL l0 a1 s) ∧ Below w.heap.size w w' := by
  have d5 : ((l0.length : Int) != 64) = false := by rw [h64]; rfl
  have d0 : decide ((a1 : Int) < 0) = false := by simp
  have d1 : decide (60 - (s.size : Int) < (a1 : Int)) = false := by simp; omega
  have HR0 := Aside0.mk hr0
  have HC0 := Aside0.mk hc0
  have HL := Aside0.mk h64
  clear hr0 hc0 h64
  go_enter Try.func23, Try.ntmps23
  go_wp2_with fail
  ((with_reducible refine (clone_calls _ _ _ l0 _ HR0.out HC0.out (by unfold cloneF; rw [if_pos (by have := HL.out; omega)])).mono ?_); rintro e w1 ⟨v1, rfl, hR, hB⟩)
  obtain ⟨g, cap, cs, rfl, hg, hh, hn, hcap, hsz, ht, _⟩ := R_open hR (by have := HL.out; omega)
  have HT := Aside0.mk ht
  have HS := Aside0.mk hsz
  have HB1 := Aside0.mk hB
  have h64c : 64 ≤ cap := by have := HL.out; omega
  have h64l : 64 ≤ l0.length := by have := HL.out; omega
  have hmax : cap ≤ 9223372036854775807 := hcap
  have hcopy : (Builtin.copy_ #[22, 9] 3 #[.slice (some ⟨g, a1, none⟩) (l0.length - a1) (cap - a1), .string s]).run Try.prog w1 = .ok (.int .i64 s.size) (w1.setRow g (cs.toList.take a1 ++ Lib.strCells s ++ cs.toList.drop (a1 + s.size)).toArray) :=
    run_copy_str w1 _ _ _ 5 g a1 _ _ s cs 5 Try.underlying22 (by kernel_rfl) hh (by omega) (by omega)
  have HW := Aside0.mk (Wrote.setRow (Wrote.refl hh) (cs.toList.take a1 ++ Lib.strCells s ++ cs.toList.drop (a1 + s.size)).toArray)
  generalize hW2 : w1.setRow g (cs.toList.take a1 ++ Lib.strCells s ++ cs.toList.drop (a1 + s.size)).toArray = w2 at hcopy HW
  clear ht hh hR hsz hB hW2
  go_wp2_with fail
  go_ret2
  have HH := HW.out.blk
  have hL : (textL l0 a1 s).length = l0.length := textL_length l0 a1 s (by omega)
  have hN : (Lib.strCells s).length = s.size := Lib.strCells_length s
  have hcl : cs.toList.length = cap := by have := HS.out; simpa using this
  have hRS := R_shut (base := w.heap.size) (cap := cap) (ok := fun _ => True) (l := textL l0 a1 s) hg HH (by rw [hL]; exact hn) hcap (by
    rw [List.size_toArray, List.length_append, List.length_append, List.length_take, List.length_drop, hN, hcl]; omega) (by
    rw [hL]
    show List.take l0.length (cs.toList.take a1 ++ Lib.strCells s ++ cs.toList.drop (a1 + s.size)) = nums .u8 (l0.take a1 ++ bytesOf s ++ l0.drop (a1 + s.size))
    have e : nums .u8 (l0.take a1 ++ bytesOf s ++ l0.drop (a1 + s.size)) = (nums .u8 l0).take a1 ++ Lib.strCells s ++ (nums .u8 l0).drop (a1 + s.size) := by
      rw [← str_nums]; simp [nums, List.map_take, List.map_drop]
    rw [e, ← HT.out, List.take_append, List.take_of_length_le (by rw [List.length_append, List.length_take, hN, hcl]; omega), List.take_take, Nat.min_eq_left (by omega), List.length_append, List.length_take, hN, hcl, Nat.min_eq_left (by omega), List.drop_take]) trivial
  rw [hL] at hRS
  exact ⟨_, rfl, hRS, HB1.out.trans (HW.out.below hg)⟩

theorem R_append_str_step {P : Program} {ops : Array Oper} {o : Oper} {a : Act} {Q : Exit → Act → World → Prop} {Kc : Act → World → Prop} {w0 W : World} (base : Nat) (hw : Region.wanted o (yielded ops a.tmps) = true) (s x : Operand) (t u e : TypeId)
    (ho : o.op = .call { callee := .builtin .append, args := #[s, x], argTypes := #[t, u] })
    (ht : P.underlying t = some (.slice e)) (hu : P.underlying u = some .string) (hinfo : (P.info? e).map (fun i => (i.zero, i.size, i.bytes)) = some (some (.int .u8 0), 1, 1))
    (v : Value) (xs : List Int) (y : ByteArray) (hs : a.eval s = v) (hx : a.eval x = .string y)
    (HO : Kd.R B e W base (fun _ => True) v xs) (HB : Below base w0 W) (hbase : base ≤ W.heap.size) (hl : xs.length + y.size ≤ 140737488355328)
    (h : ∀ v1 w1, Kd.R B e w1 base (fun _ => True) v1 (xs ++ bytesOf y) → Below base w0 w1 → Kc (a.put o.dst v1) w1) :
    if Region.wanted o (yielded ops a.tmps) = true then Oper.wp P o a W Kc Q else Kc (a.put o.dst undef) W := by
  obtain ⟨i0, hi, hzz⟩ := Option.map_eq_some_iff.1 hinfo
  simp only [Prod.mk.injEq] at hzz
  obtain ⟨hz0, hz1, hz2⟩ := hzz
  have hown := Kd.own_of_R HO
  obtain ⟨v1, w1, hr, h2, h3, _⟩ := Lib.run_append_own_string (P := P) W base t u o.type e i0 ht hu hi hz0 hz1 hz2 v xs.length _ hown y (by simp only [maxLen]; omega) hl hbase
  have hl2 : (xs ++ bytesOf y).length = xs.length + y.size := by rw [List.length_append, bytesOf_length]
  have hc : encs (Value.int .u8) (xs ++ bytesOf y) = encs (Value.int .u8) xs ++ Lib.strCells y := by
    simp [encs, bytesOf, Lib.strCells]
  refine event_step hw (v := v1) (w1 := w1) ?_ (h v1 w1 (Kd.R_of_own (by rw [hl2, hc]; exact h2) (fun _ _ => trivial)) (HB.grown h3 hbase (own_base hown)))
  unfold execOp
  simp only [ho, resolve, invoke, builtin, Sem.run_bind, Sem.run_pure, Result.andThen_ok, List.map_toArray, List.map_cons, List.map_nil, hs, hx, hr]

theorem rtext_no (A0 : Option Addr) (c0 n : Nat) (a1 : Int) (s : ByteArray) (hn : n ≠ 64) (w : World) :
    Calls Try.prog 24 #[.slice A0 n c0, .int .i64 a1, .string s] w fun e w' => e = .returned (.tuple #[.slice none 0 0, .int .i64 2]) ∧ w = w' := by
  have d5 : ((n : Int) != 64) = true := by simp; omega
  go_enter Try.func24, Try.ntmps24
  go_wp2
  go_ret2
  exact ⟨rfl, rfl⟩

theorem rtext_arg (A0 : Option Addr) (c0 : Nat) (a1 : Int) (s : ByteArray) (hs : s.size ≤ 140737488351232) (h : ¬ (0 ≤ a1 ∧ a1 ≤ 60 - s.size)) (w : World) :
    Calls Try.prog 24 #[.slice A0 64 c0, .int .i64 a1, .string s] w fun e w' => e = .returned (.tuple #[.slice none 0 0, .int .i64 1]) ∧ w = w' := by
  by_cases h0 : a1 < 0
  · have d0 : decide (a1 < 0) = true := by simpa using h0
    clear h
    go_enter Try.func24, Try.ntmps24
    go_wp2
    go_ret2
    exact ⟨rfl, rfl⟩
  · have d0 : decide (a1 < 0) = false := by simpa using h0
    by_cases h6 : 60 < a1
    · have d1 : decide (60 < a1) = true := by simpa using h6
      clear h
      go_enter Try.func24, Try.ntmps24
      go_wp2
      go_ret2
      exact ⟨rfl, rfl⟩
    · have d1 : decide (60 < a1) = false := by simpa using h6
      have d2 : decide (60 - a1 < (s.size : Int)) = true := by simp; omega
      clear h
      go_enter Try.func24, Try.ntmps24
      go_wp2
      go_ret2
      exact ⟨rfl, rfl⟩

set_option maxHeartbeats 1000000 in
theorem rtext_yes (A0 : Option Addr) (c0 : Nat) (l0 : List Int) (a1 : Nat) (s : ByteArray) (h64 : l0.length = 64) (h : a1 + s.size ≤ 60) (w : World) (hr0 : Kd.C B w A0 l0.length l0) (hc0 : l0.length ≤ c0) :
    Calls Try.prog 24 #[.slice A0 l0.length c0, .int .i64 a1, .string s] w fun e w' => ∃ v0_ : Value, e = .returned (.tuple #[v0_, .int .i64 0]) ∧ Kd.R B 5 w' w.heap.size (fun _ => True) v0_ (textL l0 a1 s) ∧ Below w.heap.size w w' := by
  obtain ⟨ad, rfl⟩ : ∃ ad, A0 = some ad := by
    obtain ⟨ad, h, _⟩ := hr0.2.2 (by omega)
    exact ⟨ad, h⟩
  have d5 : ((l0.length : Int) != 64) = false := by rw [h64]; rfl
  have d0 : decide ((a1 : Int) < 0) = false := by simp
  have d1 : decide (60 < (a1 : Int)) = false := by simp; omega
  have d2 : decide (60 - (a1 : Int) < (s.size : Int)) = false := by simp; omega
  have k1 : ((a1 : Int) ≤ (c0 : Int)) = True := eq_true (by omega)
  have k2 : (((a1 : Int) + (s.size : Int)) ≤ (l0.length : Int)) = True := eq_true (by omega)
  have k3 : (c0 = a1 + s.size) = False := eq_false (by omega)
  have hcc : 64 ≤ c0 := by omega
  have hll : 64 ≤ l0.length := by omega
  have htk := Kd.C_take hr0 (show a1 ≤ l0.length from by omega)
  have hdr := Kd.C_drop (c := c0) hr0 (show a1 + s.size ≤ l0.length from by omega) hc0
  rw [if_neg (by omega), show (a1 + s.size) * B.sz = a1 + s.size from Nat.mul_one _] at hdr
  rw [List.length_take, Nat.min_eq_left (by omega)] at htk
  rw [List.length_drop, Option.map_some] at hdr
  have HRT := Aside0.mk htk
  have HRD := Aside0.mk hdr
  have HLT := Aside0.mk (show (l0.take a1).length ≤ 64 by rw [List.length_take]; omega)
  have HL3 := Aside0.mk (show (l0.take a1 ++ bytesOf s).length ≤ 128 ∧ l0.length ≤ 64 from ⟨by rw [List.length_append, List.length_take, bytesOf_length]; omega, by omega⟩)
  have e1 : wrap64 ((a1 : Int) + (s.size : Int)) = (a1 : Int) + (s.size : Int) := by unfold wrap64; omega
  have k4 : (0 ≤ (a1 : Int) + (s.size : Int)) = True := eq_true (by omega)
  have e2 : ((a1 : Int) + (s.size : Int)).toNat = a1 + s.size := by omega
  clear hr0 hc0 h64 htk hdr
  go_enter Try.func24, Try.ntmps24
  go_wp2
  refine start_ (n := 16) (S := fun w' => True) (ds := []) #[false, false, false, false, false, false, false, false, false, false, false, false, false, false, false, false] (by kernel_rfl) rfl rfl trivial (fun hHeld => ?_)
  refine pure_ (i := 1) (N := some 25) (v := ?_) (a' := ?_) #[false, true, false, false, false, false, false, false, false, false, false, false, false, false, false, false] rfl rfl (by kernel_rfl) (fun _ _ _ h => h) (Or.inl ⟨by rfl, ?_⟩) ?_ ?_
  rotate_left
  · intro w'
    go_simp
    with_reducible rfl
  rotate_left
  · simp only [Act.put, List.setIfInBounds_toArray, List.set_cons_zero, List.set_cons_succ, i64_w, i32_w]
    rfl
  refine pure_ (i := 2) (N := some 26) (v := ?_) (a' := ?_) #[false, true, true, false, false, false, false, false, false, false, false, false, false, false, false, false] rfl rfl (by kernel_rfl) (fun _ _ _ h => h) (Or.inl ⟨by rfl, ?_⟩) ?_ ?_
  rotate_left
  · intro w'
    go_simp
    with_reducible rfl
  rotate_left
  · simp only [Act.put, List.setIfInBounds_toArray, List.set_cons_zero, List.set_cons_succ, i64_w, i32_w]
    rfl
  refine pure_ (i := 3) (N := some 27) (v := ?_) (a' := ?_) #[false, true, true, true, false, false, false, false, false, false, false, false, false, false, false, false] rfl rfl (by kernel_rfl) (fun _ _ _ h => h) (Or.inl ⟨by rfl, ?_⟩) ?_ ?_
  rotate_left
  · intro w'
    go_simp
    with_reducible rfl
  rotate_left
  · simp only [Act.put, List.setIfInBounds_toArray, List.set_cons_zero, List.set_cons_succ, i64_w, i32_w]
    rfl
  refine pure_ (i := 5) (N := some 29) (v := ?_) (a' := ?_) #[false, true, true, true, false, true, false, false, false, false, false, false, false, false, false, false] rfl rfl (by kernel_rfl) (fun _ _ _ h => h) (Or.inl ⟨by rfl, ?_⟩) ?_ ?_
  rotate_left
  · intro w'
    go_simp
    with_reducible rfl
  rotate_left
  · simp only [Act.put, List.setIfInBounds_toArray, List.set_cons_zero, List.set_cons_succ, i64_w, i32_w]
    rfl
  refine pure_ (i := 7) (N := some 31) (v := ?_) (a' := ?_) #[false, true, true, true, false, true, false, true, false, false, false, false, false, false, false, false] rfl rfl (by kernel_rfl) (fun _ _ _ h => h) (Or.inl ⟨by rfl, ?_⟩) ?_ ?_
  rotate_left
  · intro w'
    go_simp
    with_reducible rfl
  rotate_left
  · simp only [Act.put, List.setIfInBounds_toArray, List.set_cons_zero, List.set_cons_succ, i64_w, i32_w]
    rfl
  refine pure_ (i := 8) (N := some 32) (v := ?_) (a' := ?_) #[false, true, true, true, false, true, false, true, true, false, false, false, false, false, false, false] rfl rfl (by kernel_rfl) (fun _ _ _ h => h) (Or.inl ⟨by rfl, ?_⟩) ?_ ?_
  rotate_left
  · intro w'
    go_simp
    with_reducible rfl
  rotate_left
  · simp only [Act.put, List.setIfInBounds_toArray, List.set_cons_zero, List.set_cons_succ, i64_w, i32_w]
    rfl
  refine pure_ (i := 9) (N := some 33) (v := ?_) (a' := ?_) #[false, true, true, true, false, true, false, true, true, true, false, false, false, false, false, false] rfl rfl (by kernel_rfl) (fun _ _ _ h => h) (Or.inl ⟨by rfl, ?_⟩) ?_ ?_
  rotate_left
  · intro w'
    go_simp
    with_reducible rfl
  rotate_left
  · simp only [Act.put, List.setIfInBounds_toArray, List.set_cons_zero, List.set_cons_succ, i64_w, i32_w]
    rfl
  refine pure_ (i := 10) (N := some 34) (v := ?_) (a' := ?_) #[false, true, true, true, false, true, false, true, true, true, true, false, false, false, false, false] rfl rfl (by kernel_rfl) (fun _ _ _ h => h) (Or.inl ⟨by rfl, ?_⟩) ?_ ?_
  rotate_left
  · intro w'
    go_simp
    with_reducible rfl
  rotate_left
  · simp only [Act.put, List.setIfInBounds_toArray, List.set_cons_zero, List.set_cons_succ, i64_w, i32_w]
    rfl
  refine pure_ (i := 11) (N := some 35) (v := ?_) (a' := ?_) #[false, true, true, true, false, true, false, true, true, true, true, true, false, false, false, false] rfl rfl (by kernel_rfl) (fun _ _ _ h => h) (Or.inl ⟨by rfl, ?_⟩) ?_ ?_
  rotate_left
  · intro w'
    go_simp
    with_reducible rfl
  rotate_left
  · simp only [Act.put, List.setIfInBounds_toArray, List.set_cons_zero, List.set_cons_succ, i64_w, i32_w]
    rfl
  refine pure_ (i := 12) (N := some 36) (v := ?_) (a' := ?_) #[false, true, true, true, false, true, false, true, true, true, true, true, true, false, false, false] rfl rfl (by kernel_rfl) (fun _ _ _ h => h) (Or.inl ⟨by rfl, ?_⟩) ?_ ?_
  rotate_left
  · intro w'
    go_simp
    with_reducible rfl
  rotate_left
  · simp only [Act.put, List.setIfInBounds_toArray, List.set_cons_zero, List.set_cons_succ, i64_w, i32_w]
    rfl
  refine one_ (i := 0) (N := some 24) #[true, true, true, true, false, true, false, true, true, true, true, true, true, false, false, false] rfl rfl (by kernel_rfl) (by decide) (fun K hK => ?_)
  refine Kd.R_lit_step B (w0 := w) w.heap.size 5 (by rfl) (N := 24) rfl (xs := ([] : List Int)) (inner := []) (ok := fun _ => True) (okp := fun _ => True) (by first | (go_simp; done) | (go_simp; rfl)) (Reps.none _ _) (fun _ hk => hk) trivial (below_drew (Below.refl _ _)) (Nat.le_refl _) (by simp) ?_
  intro v1 w1 ho1 hb1 _ _
  have HO1 := Aside0.mk ho1
  have HB1 := Aside0.mk hb1
  clear ho1 hb1
  refine hK.out _ _ trivial (fun hHeld => ?_)
  clear hK K
  refine norm_ (a' := ?_) ?_ ?_
  rotate_left
  · show Act.put _ (some 24) _ = _
    simp only [Act.put, List.setIfInBounds_toArray, List.set_cons_zero, List.set_cons_succ, i64_w, i32_w]
    rfl
  refine one_ (i := 4) (N := some 28) #[true, true, true, true, true, true, false, true, true, true, true, true, true, false, false, false] rfl rfl (by kernel_rfl) (by decide) (fun K hK => ?_)
  refine Kd.R_append_rows_step B (w0 := w) w.heap.size (by rfl) (.tmp 24) (.tmp 27) 22 5 (.int .u8 0) 1 rfl Try.underlying22 infob rfl (by decide) (by omega) v1 [] (l0.take a1) _ _ _ (fun _ => True) (fun _ => False) rfl rfl HO1.out (Kd.C_below HRT.out HB1.out) (fun _ _ h => h) (fun _ h => h.elim) (fun _ _ => trivial) HB1.out (below_size HB1.out) (by simp only [List.length_nil]; omega) ?_
  intro v2 w2 ho2 hb2 _ _
  rw [List.nil_append] at ho2
  have HO2 := Aside0.mk ho2
  have HB2 := Aside0.mk hb2
  clear ho2 hb2
  refine hK.out _ _ trivial (fun hHeld => ?_)
  clear hK K
  refine norm_ (a' := ?_) ?_ ?_
  rotate_left
  · show Act.put _ (some 28) _ = _
    simp only [Act.put, List.setIfInBounds_toArray, List.set_cons_zero, List.set_cons_succ, i64_w, i32_w]
    rfl
  refine one_ (i := 6) (N := some 30) #[true, true, true, true, true, true, true, true, true, true, true, true, true, false, false, false] rfl rfl (by kernel_rfl) (by decide) (fun K hK => ?_)
  refine R_append_str_step (w0 := w) w.heap.size (by rfl) (.tmp 28) (.tmp 29) 22 9 5 rfl Try.underlying22 Try.underlying9 infob v2 (l0.take a1) s rfl rfl HO2.out HB2.out (below_size HB2.out) (by have := HLT.out; omega) ?_
  intro v3 w3 ho3 hb3
  have HO3 := Aside0.mk ho3
  have HB3 := Aside0.mk hb3
  clear ho3 hb3
  refine hK.out _ _ trivial (fun hHeld => ?_)
  clear hK K
  refine norm_ (a' := ?_) ?_ ?_
  rotate_left
  · show Act.put _ (some 30) _ = _
    simp only [Act.put, List.setIfInBounds_toArray, List.set_cons_zero, List.set_cons_succ, i64_w, i32_w]
    rfl
  refine one_ (i := 13) (N := some 37) #[true, true, true, true, true, true, true, true, true, true, true, true, true, true, false, false] rfl rfl (by kernel_rfl) (by decide) (fun K hK => ?_)
  refine Kd.R_append_rows_step B (w0 := w) w.heap.size (by rfl) (.tmp 30) (.tmp 36) 22 5 (.int .u8 0) 1 rfl Try.underlying22 infob rfl (by decide) (by omega) v3 (l0.take a1 ++ bytesOf s) (l0.drop (a1 + s.size)) _ _ _ (fun _ => True) (fun _ => False) rfl rfl HO3.out (Kd.C_below HRD.out HB3.out) (fun _ _ h => h) (fun _ h => h.elim) (fun _ _ => trivial) HB3.out (below_size HB3.out) (by have h3 := HL3.out; have := h3.1; have := h3.2; omega) ?_
  intro v4 w4 ho4 hb4 _ _
  have HO4 := Aside0.mk ho4
  have HB4 := Aside0.mk hb4
  clear ho4 hb4
  refine hK.out _ _ trivial (fun hHeld => ?_)
  clear hK K
  refine norm_ (a' := ?_) ?_ ?_
  rotate_left
  · show Act.put _ (some 37) _ = _
    simp only [Act.put, List.setIfInBounds_toArray, List.set_cons_zero, List.set_cons_succ, i64_w, i32_w]
    rfl
  refine pure_ (i := 14) (N := some 6) (v := ?_) (a' := ?_) #[true, true, true, true, true, true, true, true, true, true, true, true, true, true, true, false] rfl rfl (by kernel_rfl) (fun _ _ _ h => h) (Or.inl ⟨by rfl, ?_⟩) ?_ ?_
  rotate_left
  · intro w'
    go_simp
    with_reducible rfl
  rotate_left
  · simp only [Act.put, List.setIfInBounds_toArray, List.set_cons_zero, List.set_cons_succ, i64_w, i32_w]
    rfl
  refine pure_ (i := 15) (N := some 7) (v := ?_) (a' := ?_) #[true, true, true, true, true, true, true, true, true, true, true, true, true, true, true, true] rfl rfl (by kernel_rfl) (fun _ _ _ h => h) (Or.inl ⟨by rfl, ?_⟩) ?_ ?_
  rotate_left
  · intro w'
    go_simp
    with_reducible rfl
  rotate_left
  · simp only [Act.put, List.setIfInBounds_toArray, List.set_cons_zero, List.set_cons_succ, i64_w, i32_w]
    rfl
  refine done_ (by kernel_rfl) ?_
  try go_wp2
  go_ret2
  exact ⟨_, rfl, HO4.out, HB4.out⟩

theorem text_of_calls (A0 : Option Addr) (c0 : Nat) (l0 : List Int) (a1 : Int) (s : ByteArray) (r1 : List Int) (r2 : Int) (w : World) (hr0 : Kd.C B w A0 l0.length l0) (hc0 : l0.length ≤ c0) (h : textF l0 a1 s = some (r1, r2)) :
    Calls Try.prog 23 #[.slice A0 l0.length c0, .int .i64 a1, .string s] w fun e w' => ∃ v0_ : Value, e = .returned (.tuple #[v0_, .int .i64 r2]) ∧ Kd.R B 5 w' w.heap.size (fun _ => True) v0_ r1 ∧ Below w.heap.size w w' := by
  unfold textF at h
  split at h
  · rename_i hs
    split at h
    · rename_i hz
      split at h
      · rename_i hr
        obtain ⟨rfl, rfl⟩ := Prod.mk.inj (Option.some.inj h)
        obtain ⟨k, rfl⟩ : ∃ k : Nat, a1 = k := ⟨a1.toNat, by omega⟩
        rw [Int.toNat_natCast]
        exact text_yes A0 c0 l0 k s hz (by omega) w hr0 hc0
      · rename_i hr
        obtain ⟨rfl, rfl⟩ := Prod.mk.inj (Option.some.inj h)
        rw [hz]
        exact (text_arg A0 c0 a1 s hs hr w).mono fun e w' ⟨he, hw⟩ => ⟨_, he, hw ▸ Kd.R_nil _ _ _ _ _, hw ▸ Below.refl _ _⟩
    · rename_i hz
      obtain ⟨rfl, rfl⟩ := Prod.mk.inj (Option.some.inj h)
      exact (text_no A0 c0 _ a1 s hz w).mono fun e w' ⟨he, hw⟩ => ⟨_, he, hw ▸ Kd.R_nil _ _ _ _ _, hw ▸ Below.refl _ _⟩
  · cases h

theorem rtext_of_calls (A0 : Option Addr) (c0 : Nat) (l0 : List Int) (a1 : Int) (s : ByteArray) (r1 : List Int) (r2 : Int) (w : World) (hr0 : Kd.C B w A0 l0.length l0) (hc0 : l0.length ≤ c0) (h : textF l0 a1 s = some (r1, r2)) :
    Calls Try.prog 24 #[.slice A0 l0.length c0, .int .i64 a1, .string s] w fun e w' => ∃ v0_ : Value, e = .returned (.tuple #[v0_, .int .i64 r2]) ∧ Kd.R B 5 w' w.heap.size (fun _ => True) v0_ r1 ∧ Below w.heap.size w w' := by
  unfold textF at h
  split at h
  · rename_i hs
    split at h
    · rename_i hz
      split at h
      · rename_i hr
        obtain ⟨rfl, rfl⟩ := Prod.mk.inj (Option.some.inj h)
        obtain ⟨k, rfl⟩ : ∃ k : Nat, a1 = k := ⟨a1.toNat, by omega⟩
        rw [Int.toNat_natCast]
        exact rtext_yes A0 c0 l0 k s hz (by omega) w hr0 hc0
      · rename_i hr
        obtain ⟨rfl, rfl⟩ := Prod.mk.inj (Option.some.inj h)
        rw [hz]
        exact (rtext_arg A0 c0 a1 s hs hr w).mono fun e w' ⟨he, hw⟩ => ⟨_, he, hw ▸ Kd.R_nil _ _ _ _ _, hw ▸ Below.refl _ _⟩
    · rename_i hz
      obtain ⟨rfl, rfl⟩ := Prod.mk.inj (Option.some.inj h)
      exact (rtext_no A0 c0 _ a1 s hz w).mono fun e w' ⟨he, hw⟩ => ⟨_, he, hw ▸ Kd.R_nil _ _ _ _ _, hw ▸ Below.refl _ _⟩
  · cases h
end Go.Proofs.Ytbgnmiicbaecfaa.Text
