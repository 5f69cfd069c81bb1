/- Walks of field.NewPage, (*field.Page).Set, .Seal. -/
import Derived.Test.YtnccbebjligpdaaText
namespace Go.Proofs.Ytnccbebjligpdaa.Page
open Go Go.RowKit Go.Proofs.YtnccbebjligpdaaW.PrintWords Go.Proofs.YtnccbebjligpdaaW.PrintLast Go.Proofs.YtnccbebjligpdaaW.PrintMore Go.Proofs.Ytnccbebjligpdaa.Field Go.Proofs.Ytnccbebjligpdaa.Text Go.Proofs.Ytnccbebjligpdaa.Spin
set_option linter.unusedVariables false
set_option linter.unusedSimpArgs false

/-- A page: its struct at block p, its bytes at block g. -/
structure Pg (w : World) (p g : Nat) (l : List Int) : Prop where
  at_p : w.heap[p]? = some (.cells #[.slice (some ⟨g, 0, none⟩) 64 64] 68 (0, 0))
  at_g : w.heap[g]? = some (.cells (nums .u8 l).toArray 5 (0, 0))
  len : l.length = 64
theorem Pg.ne {w : World} {p g : Nat} {l : List Int} (h : Pg w p g l) : p ≠ g := by
  intro e
  have h1 := h.at_p
  rw [e, h.at_g] at h1
  simp only [Option.some.injEq, Obj.cells.injEq] at h1
  exact absurd h1.2.1 (by decide)
theorem Pg.lt {w : World} {p g : Nat} {l : List Int} (h : Pg w p g l) : p < w.heap.size ∧ g < w.heap.size :=
  ⟨(Array.getElem?_eq_some_iff.1 h.at_p).1, (Array.getElem?_eq_some_iff.1 h.at_g).1⟩
theorem Pg.wrote {w w' : World} {p g : Nat} {l l' : List Int} (h : Pg w p g l) (hl : l'.length = l.length) (hw : Wrote g (nums .u8 l').toArray w w') : Pg w' p g l' :=
  ⟨(hw.far p h.ne).trans h.at_p, hw.blk, hl.trans h.len⟩
theorem Pg.below {w w' : World} {p g B : Nat} {l : List Int} (h : Pg w p g l) (hb : Below B w w') (hp : p < B) (hg : g < B) : Pg w' p g l :=
  ⟨(hb.block p hp).trans h.at_p, (hb.block g hg).trans h.at_g, h.len⟩
/-- A row of numbers at a block. -/
def Ns (w : World) (s : Nat) (xs : List Int) : Prop := w.heap[s]? = some (.cells (nums .i64 xs).toArray 3 (0, 0))
theorem Ns.lt {w : World} {s : Nat} {xs : List Int} (h : Ns w s xs) : s < w.heap.size := (Array.getElem?_eq_some_iff.1 h).1
theorem Ns.ne {w : World} {s p g : Nat} {xs l : List Int} (h : Ns w s xs) (hp : Pg w p g l) : s ≠ g := by
  intro e
  have h1 : w.heap[s]? = _ := h
  rw [e, hp.at_g] at h1
  simp only [Option.some.injEq, Obj.cells.injEq] at h1
  exact absurd h1.2.1 (by decide)
theorem Ns.wrote {w w' : World} {s g : Nat} {xs : List Int} {cs : Array Value} (h : Ns w s xs) (hn : s ≠ g) (hw : Wrote g cs w w') : Ns w' s xs := (hw.far s hn).trans h
theorem Ns.below {w w' : World} {s B : Nat} {xs : List Int} (h : Ns w s xs) (hb : Below B w w') (hs : s < B) : Ns w' s xs := (hb.block s hs).trans h

theorem wsmall {n : Int} (h0 : 0 ≤ n) (h1 : n < 9223372036854775808) : wrap64 n = n := by unfold wrap64; omega
theorem set_facts (o q m : Nat) (h : o + q + m ≤ 64) : wrap64 (q : Int) = (q : Int) ∧ wrap64 ((o : Int) + (q : Int)) = (o : Int) + (q : Int) ∧ wrap64 ((o : Int) + (q : Int) + (m : Int)) = (o : Int) + (q : Int) + (m : Int)
    ∧ (0 ≤ (o : Int) + (q : Int) + (m : Int)) = True ∧ ((o : Int) + (q : Int) + (m : Int) ≤ 64) = True ∧ (0 ≤ (o : Int) + (q : Int)) = True ∧ (((o : Int) + (q : Int)) ≤ (o : Int) + (q : Int) + (m : Int)) = True
    ∧ ((o : Int) + (q : Int)).toNat = o + q ∧ ((o : Int) + (q : Int) + (m : Int)).toNat = o + q + m :=
  ⟨wsmall (by omega) (by omega), wsmall (by omega) (by omega), wsmall (by omega) (by omega), eq_true (by omega), eq_true (by omega), eq_true (by omega), eq_true (by omega), by omega, by omega⟩
theorem nums_length (k : IntKind) (l : List Int) : (nums k l).length = l.length := by simp [nums]
theorem putC_nums (l : List Int) (o : Nat) (n : Int) (m : Nat) : putC (nums .u8 l).toArray o n m = (nums .u8 (putL l o n m)).toArray := by
  have h := putC_take (nums .u8 l).toArray l o l.length n (by rw [← nums_length .u8 l]; exact List.take_length) m
  have hs : (putC (nums .u8 l).toArray o n m).toList.length = l.length := by
    rw [Array.length_toList, putC_size, List.size_toArray, nums_length]
  rw [← hs, List.take_length] at h
  rw [← h, Array.toArray_toList]

/-- k numbers, one behind the other, each of m bytes. -/
def setsK (l : List Int) (o m : Nat) (xs : List Int) : Nat → List Int
  | 0 => l
  | k + 1 => putL (setsK l o m xs k) (o + k * m) (xs.getD k 0) m
def setsL (l : List Int) (o m : Nat) (xs : List Int) : List Int := setsK l o m xs xs.length
theorem setsK_length (l : List Int) (o m : Nat) (xs : List Int) : ∀ k, (setsK l o m xs k).length = l.length
  | 0 => rfl
  | k + 1 => by rw [setsK, putL_length, setsK_length l o m xs k]
theorem setsL_length (l : List Int) (o m : Nat) (xs : List Int) : (setsL l o m xs).length = l.length := setsK_length _ _ _ _ _

theorem mk64 (w : World) : (Instr.makeSlice 23 (.int .i64 64) (.int .i64 64)).run Try.prog w = .ok (.slice (some ⟨w.heap.size, 0, none⟩) 64 64) (w.alloc (.cells (Array.replicate 64 (.int .u8 0)) 5)) := by kernel_rfl

theorem newPage_calls (s : ByteArray) (hs : s.size ≤ 64) (w : World) :
    Calls Try.prog 27 #[.string s] w fun e w' => ∃ p g, e = .returned (.pointer (some ⟨p, 0, none⟩)) ∧ w.heap.size ≤ p ∧ w.heap.size ≤ g ∧ Pg w' p g (textL (List.replicate 64 0) 0 s) ∧ Below w.heap.size w w' := by
  have hmk := mk64 w
  generalize hZ : Array.replicate 64 (Value.int .u8 0) = Z at hmk
  have hr : Z.toList = nums .u8 (List.replicate 64 0) := by subst hZ; rw [Array.toList_replicate]; rfl
  have hzs : Z.size = 64 := by subst hZ; rfl
  clear hZ
  have h1 : ((w.alloc (.cells Z 5)).alloc (.cells #[.slice (some ⟨w.heap.size, 0, none⟩) 64 64] 68)).heap[w.heap.size]? = some (.cells Z 5 (0, 0)) := by
    rw [Below.heap_alloc _ _ _ (by simp [-World.alloc_eq, World.alloc])]
    simp [-World.alloc_eq, World.alloc]
  have h2 : ((w.alloc (.cells Z 5)).alloc (.cells #[.slice (some ⟨w.heap.size, 0, none⟩) 64 64] 68)).heap[w.heap.size + 1]? = some (.cells #[.slice (some ⟨w.heap.size, 0, none⟩) 64 64] 68 (0, 0)) := by
    have e : (w.alloc (.cells Z 5)).heap.size = w.heap.size + 1 := Array.size_push _
    rw [← e]
    exact Array.getElem?_push_size
  have hcopy : (Builtin.copy_ #[23, 9] 3 #[.slice (some ⟨w.heap.size, 0, none⟩) 64 64, .string s]).run Try.prog _ = .ok (.int .i64 s.size) _ :=
    run_copy_str ((w.alloc (.cells Z 5)).alloc (.cells #[.slice (some ⟨w.heap.size, 0, none⟩) 64 64] 68)) _ _ _ 5 w.heap.size 0 64 64 s _ 5 Try.underlying23 (by kernel_rfl) h1 hs (by omega)
  have HW := Aside0.mk (Wrote.setRow (Wrote.refl h1) (Z.toList.take 0 ++ Lib.strCells s ++ Z.toList.drop (0 + s.size)).toArray)
  have hcs : Z.toList.take 0 ++ Lib.strCells s ++ Z.toList.drop (0 + s.size) = nums .u8 (textL (List.replicate 64 0) 0 s) := by
    rw [hr, ← str_nums, textL]
    simp only [nums, List.map_append, List.map_take, List.map_drop]
  rw [hcs] at hcopy HW
  clear hcs
  generalize hW2 : ((w.alloc (.cells Z 5)).alloc (.cells #[.slice (some ⟨w.heap.size, 0, none⟩) 64 64] 68)).setRow w.heap.size (nums .u8 (textL (List.replicate 64 0) 0 s)).toArray = w2 at hcopy HW
  have HP := Aside0.mk h2
  have hB0 : Below w.heap.size w ((w.alloc (.cells Z 5)).alloc (.cells #[.slice (some ⟨w.heap.size, 0, none⟩) 64 64] 68)) := ((Below.refl _ _).alloc (Nat.le_refl _) _).alloc (by simp [-World.alloc_eq, World.alloc]) _
  have HB := Aside0.mk hB0
  clear h1 h2 hr hB0 hW2
  go_enter Try.func27, Try.ntmps27
  go_wp2_with fail
  go_ret
  exact ⟨_, _, rfl, Nat.le_succ _, Nat.le_refl _, ⟨(HW.out.far _ (by omega)).trans HP.out, HW.out.blk, textL_length _ _ _ (by simp; omega)⟩, HB.out.trans (HW.out.below (Nat.le_refl _))⟩

theorem set_calls (p g s o m c : Nat) (l xs : List Int) (w : World) (hp : Pg w p g l) (hs : Ns w s xs) (hx : ∀ x ∈ xs, 0 ≤ x ∧ x < 4294967296) (hm0 : 1 ≤ m) (hm : m ≤ 4) (ho : o + xs.length * m ≤ 64) (hc : xs.length ≤ c) (hl : xs.length ≤ 64) :
    Calls Try.prog 28 #[.pointer (some ⟨p, 0, none⟩), .int .i64 o, .int .i64 m, .slice (some ⟨s, 0, none⟩) xs.length c] w fun e w' => e = .returned (.pointer (some ⟨p, 0, none⟩)) ∧ Wrote g (nums .u8 (setsL l o m xs)).toArray w w' := by
  have HP := Aside0.mk hp
  have HS := Aside0.mk hs
  have HX := Aside0.mk hx
  have HM0 := Aside0.mk hm0
  clear hp hs hx hm0
  go_enter Try.func28, Try.ntmps28
  go_wp2_with fail
  go_loopw [13] (fun i wr => ∃ k : Nat, k ≤ xs.length ∧ i = .int .i64 k ∧ Aside0 (Wrote g (nums .u8 (setsK l o m xs k)).toArray w wr)) (fun i _ => xs.length - (intOf i).toNat)
  case atStart => exact ⟨0, Nat.zero_le _, rfl, ⟨Wrote.refl HP.out.at_g⟩⟩
  case round =>
    obtain ⟨k, hk, rfl, HR⟩ := hrel
    by_cases hlt : k < xs.length
    · obtain ⟨x, hxk⟩ : ∃ x, xs[k]? = some x := ⟨_, List.getElem?_eq_getElem hlt⟩
      obtain ⟨hx0, hx1⟩ := HX.out x (List.mem_of_getElem? hxk)
      have hgd : xs.getD k 0 = x := by simp [hxk]
      have hsb : wr.heap[s]? = some (.cells (nums .i64 xs).toArray 3 (0, 0)) := (HR.out.far s (HS.out.ne HP.out)).trans HS.out
      have hc1 : wr.cell? ⟨s, k, none⟩ = some (.int .i64 x) := (blk_cell hsb k).trans (by simp [nums, hxk])
      have hpb : wr.heap[p]? = some (.cells #[.slice (some ⟨g, 0, none⟩) 64 64] 68 (0, 0)) := (HR.out.far p HP.out.ne).trans HP.out.at_p
      have hc2 : wr.cell? ⟨p, 0, none⟩ = some (.slice (some ⟨g, 0, none⟩) 64 64) := blk_cell hpb 0
      have hkm : k * m + m ≤ xs.length * m := by
        rw [← Nat.succ_mul]; exact Nat.mul_le_mul_right m hlt
      obtain ⟨q, hq⟩ : ∃ q : Nat, q = k * m := ⟨_, rfl⟩
      rw [← hq] at hkm
      have e0 : (k : Int) * (m : Int) = (q : Int) := by rw [← Int.natCast_mul, hq]
      have hq64 : o + q + m ≤ 64 := by omega
      obtain ⟨e1, e2, e3, k1, k2, k3, k4, t1, t2⟩ := set_facts o q m hq64
      have e4 : IntKind.u32.wrap x = x := by simp [IntKind.wrap, IntKind.signed, IntKind.bits]; omega
      have HSB := Aside0.mk hsb
      have HPB := Aside0.mk hpb
      have HKM := Aside0.mk hkm
      have HXK := Aside0.mk hgd
      have HQ := Aside0.mk hq
      have HQ64 := Aside0.mk hq64
      clear hsb hpb hxk hkm hgd hq hq64
      go_wp2_with fail
      · have := HM0.out; have := HQ64.out; clear e1 e2 e3 e4; omega
      clear e1 e2 e3 e4
      ((with_reducible refine (put_calls g (o + q) m _ x (nums .u8 (setsK l o m xs k)).toArray hx0 hx1 hm (by have h0 := HQ64.out; clear t1 t2; have h1 := HP.out.len; have h2 := setsK_length l o m xs k; rw [List.size_toArray, nums_length]; omega) (by clear t1 t2; have h1 := HP.out.len; have h2 := setsK_length l o m xs k; rw [List.size_toArray, nums_length]; omega) _ HR.out.blk).mono ?_); rintro e w2 ⟨rfl, hwr⟩)
      rw [putC_nums] at hwr
      have HWR := Aside0.mk hwr
      clear hwr
      go_wp2_with fail
      go_roundw
      case rel =>
        refine ⟨k + 1, by omega, by go_num, ⟨?_⟩⟩
        show Wrote g (nums .u8 (putL (setsK l o m xs k) (o + k * m) (xs.getD k 0) m)).toArray w _
        rw [HXK.out, ← HQ.out]
        exact HR.out.trans HWR.out
      case measure => simp [intOf]; omega
    · go_wp2_with fail
      go_ret
      obtain rfl : k = xs.length := by omega
      exact ⟨rfl, HR.out⟩

theorem set_at (oI mI : Int) (n p g s o m c : Nat) (l xs : List Int) (w : World) (h1 : (o : Int) = oI) (h2 : (m : Int) = mI) (h3 : xs.length = n) (hp : Pg w p g l) (hs : Ns w s xs) (hx : ∀ x ∈ xs, 0 ≤ x ∧ x < 4294967296) (hm0 : 1 ≤ m) (hm : m ≤ 4) (ho : o + xs.length * m ≤ 64) (hc : xs.length ≤ c) (hl : xs.length ≤ 64) :
    Calls Try.prog 28 #[.pointer (some ⟨p, 0, none⟩), .int .i64 oI, .int .i64 mI, .slice (some ⟨s, 0, none⟩) n c] w fun e w' => e = .returned (.pointer (some ⟨p, 0, none⟩)) ∧ Wrote g (nums .u8 (setsL l o m xs)).toArray w w' := by
  subst h1 h2 h3
  exact set_calls p g s o m c l xs w hp hs hx hm0 hm ho hc hl

theorem Pg.C {w : World} {p g : Nat} {l : List Int} (h : Pg w p g l) : Kd.C B w (some ⟨g, 0, none⟩) l.length l := by
  refine Kd.C_of_reads (d := (0 : Int)) ⟨rfl, by have := h.len; omega, fun _ => ⟨_, rfl, fun j hj => ?_⟩⟩
  have h1 : w.cell? ⟨g, 0 + j, none⟩ = (nums .u8 l).toArray[0 + j]? := blk_cell h.at_g (0 + j)
  have h2 : (⟨g, 0, none⟩ : Addr).add j = ⟨g, 0 + j, none⟩ := by simp [Addr.add]; omega
  rw [h2, h1, Nat.zero_add]
  simp [nums, List.getElem?_eq_getElem hj]

theorem pageSeal_calls (p g : Nat) (l r1 : List Int) (r2 : Int) (w : World) (hp : Pg w p g l) (h : sealF l = some (r1, r2)) :
    Calls Try.prog 30 #[.pointer (some ⟨p, 0, none⟩)] w fun e w' => ∃ v0_ : Value, e = .returned v0_ ∧ Kd.R B 5 w' w.heap.size (fun _ => True) v0_ r1 ∧ Below w.heap.size w w' := by
  have hc2 : w.cell? ⟨p, 0, none⟩ = some (.slice (some ⟨g, 0, none⟩) 64 64) := blk_cell hp.at_p 0
  have HP := Aside0.mk hp
  have HS := Aside0.mk h
  have hs := seal_of_calls (some ⟨g, 0, none⟩) 64 l r1 r2 w hp.C (by have := hp.len; omega) h
  rw [hp.len] at hs
  have HC := Aside0.mk hs
  clear hp h hs
  go_enter Try.func30, Try.ntmps30
  go_wp2_with fail
  (with_reducible refine HC.out.mono ?_); rintro e w1 ⟨v1, rfl, hR, hB⟩
  have HR := Aside0.mk hR
  have HB := Aside0.mk hB
  clear hR hB
  go_wp2_with fail
  go_ret
  exact ⟨_, rfl, HR.out, HB.out⟩

theorem grown_below (w : World) (o : Obj) : Below w.heap.size w (w.alloc o) := (Below.refl _ _).alloc (Nat.le_refl _) o
theorem grown_ns (w : World) (xs : List Int) : Ns (w.alloc (.cells (nums .i64 xs).toArray 3)) w.heap.size xs := by
  show (w.heap.push (.cells (nums .i64 xs).toArray 3 (0, 0)))[w.heap.size]? = _
  exact Array.getElem?_push_size
end Go.Proofs.Ytnccbebjligpdaa.Page
