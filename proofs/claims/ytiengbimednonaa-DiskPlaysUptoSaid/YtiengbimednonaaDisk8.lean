/- Package disk: the contracts together; the law's awake. -/
import Derived.Test.YtiengbimednonaaDisk7
namespace Go.Proofs.Ytiengbimednonaa.Disk
open Go Go.RowKit Go.Proofs.YtiengbimednonaaW.PrintWords Go.Proofs.YtiengbimednonaaW.PrintLast Go.Proofs.YtiengbimednonaaW.PrintMore
attribute [local go_sem] max2_int min2_int max_two min_two
set_option linter.unusedVariables false
set_option linter.unusedSimpArgs false

theorem mk64 (w : World) : (Instr.makeSlice 23 (.int .i64 64) (.int .i64 64)).run Try.prog w = .ok (.slice (some ⟨w.heap.size, 0, none⟩) 64 64) (w.alloc (.cells (Array.replicate 64 (.int .u8 0)) 5)) := by kernel_rfl
theorem new_at (n : Nat) (nI : Int) (h : (n : Int) = nI) (h1 : 1 ≤ n) (h2 : n ≤ 480) (w : World) :
    Calls Try.prog 8 #[.int .i64 nI] w fun e w' => ∃ g F, e = .returned (.tuple #[.pointer (some ⟨g, 0, none⟩), .int .i64 0]) ∧ DW w' F g (newS n) ∧ (∀ k, F k → w.heap.size ≤ k) ∧ Below w.heap.size w w' := by
  subst h; exact new_ok n h1 h2 w
theorem get_at {w : World} {F : Nat → Prop} {g : Nat} {s : DS} (h : DW w F g s) (ho : s.off = false) {i : Nat} {b : Blk} (iI : Int) (hI : (i : Int) = iI) (hi : s.bs[i]? = some b) : Calls Try.prog 12 #[.pointer (some ⟨g, 0, none⟩), .int .i64 iI] w fun e w' => ∃ v0_ : Value, e = .returned (.tuple #[v0_, .int .i64 0]) ∧ Kd.R B 5 w' w.heap.size (fun _ => True) v0_ (curB b) ∧ Below w.heap.size w w' := by
  subst hI; obtain ⟨_, _, _, _, h⟩ := h; exact get_yes h ho hi
theorem open_at {w : World} {F : Nat → Prop} {g : Nat} {s : DS} (h : DW w F g s) {i : Nat} {b : Blk} (iI : Int) (hI : (i : Int) = iI) (hi : s.bs[i]? = some b) (n : Int) (hn : (b.opn.length : Int) = n) : Calls Try.prog 13 #[.pointer (some ⟨g, 0, none⟩), .int .i64 iI] w fun e w' => e = .returned (.int .i64 n) ∧ w = w' := by
  subst hI hn; obtain ⟨_, _, _, _, h⟩ := h; exact open_yes h i b hi
theorem blocks_at {w : World} {F : Nat → Prop} {g : Nat} {s : DS} (h : DW w F g s) (n : Int) (hn : (s.bs.length : Int) = n) : Calls Try.prog 21 #[.pointer (some ⟨g, 0, none⟩)] w fun e w' => e = .returned (.int .i64 n) ∧ w = w' := by
  subst hn; obtain ⟨_, _, _, _, h⟩ := h; exact blocks_calls h
theorem put_at {w : World} {F : Nat → Prop} {g : Nat} {s : DS} (h : DW w F g s) (ho : s.off = false) (hlo : s.left ≤ 9223372036854775807) (A : Option Addr) (c n : Nat) (ws : List Wr) (hn : ws.length = n) (hC : RW w F A ws) (hn63 : n ≤ 9223372036854775807)
    (hcap : ∀ (i : Nat) (b : Blk), s.bs[i]? = some b → b.opn.length + n ≤ 2199023255551) :
    Calls Try.prog 10 #[.pointer (some ⟨g, 0, none⟩), .slice A n c] w fun e w' => e = .returned (.int .i64 (putF s ws).2) ∧ PutP w w' F g (putF s ws).1 := by
  subst hn; exact put_on h ho hlo A c ws hC hn63 hcap
theorem DW.below {w w1 : World} {F : Nat → Prop} {g : Nat} {s : DS} (h : DW w F g s) (hb : Below w.heap.size w w1) : DW w1 F g s := by
  obtain ⟨gb, C, v, f, h⟩ := h; exact ⟨gb, C, v, f, h.below hb⟩
theorem DW.lt {w : World} {F : Nat → Prop} {g : Nat} {s : DS} (h : DW w F g s) : ∀ k, F k → k < w.heap.size := by
  obtain ⟨gb, C, v, f, h⟩ := h; exact h.lt
theorem RW.one {w : World} {F : Nat → Prop} {b1 gz c : Nat} {t : Int} {data : List Int} (hb : w.heap[b1]? = some (.cells #[.int .i64 t, .slice (some ⟨gz, 0, none⟩) 64 c] 34 (0, 0))) (h64 : data.length = 64) (hc : 64 ≤ c) (hC : B.C w (some ⟨gz, 0, none⟩) 64 data)
    (hz : gz < w.heap.size) (n1 : ¬ F b1) (n2 : ¬ F gz) : RW w F (some ⟨b1, 0, none⟩) [⟨t, data⟩] := fun i x hi => by
  cases i with
  | succ i => simp at hi
  | zero =>
    obtain rfl := Option.some.inj hi
    refine ⟨_, _, c, rfl, blk_lt hb, n1, blk_cell hb 0, ?_, by show data.length ≤ c; omega, by show B.C w _ data.length data; rw [h64]; exact hC, fun _ ad1 e => by obtain rfl := Option.some.inj e; exact ⟨hz, n2⟩⟩
    show w.cell? ⟨b1, 0 + 1, none⟩ = some (.slice _ data.length c)
    rw [h64]
    exact blk_cell hb 1
theorem C_blk {w : World} {gz : Nat} {cs : Array Value} {l : List Int} {n : Nat} (hb : w.heap[gz]? = some (.cells cs 5 (0, 0))) (hl : cs.toList = nums .u8 l) (hn : l.length = n) (h63 : n ≤ 9223372036854775807) : B.C w (some ⟨gz, 0, none⟩) n l := by
  subst hn
  refine c_of_cells (o := 0) h63 (fun j x hj => ?_)
  rw [blk_cell hb, ← Array.getElem?_toList, hl]
  simp [nums, hj]
def b7 : List Int := 7 :: List.replicate 63 0
def aw1 : DS := ⟨false, -1, [⟨List.replicate 64 0, []⟩, ⟨List.replicate 64 0, [b7]⟩]⟩
theorem put_awake : putF (newS 2) [⟨1, b7⟩] = (aw1, 0) := by rfl
theorem awake_get {w : World} {F : Nat → Prop} {g : Nat} (h : DW w F g aw1) : Calls Try.prog 12 #[.pointer (some ⟨g, 0, none⟩), .int .i64 1] w fun e w' => ∃ ad c, e = .returned (.tuple #[.slice (some ad) 64 c, .int .i64 0]) ∧ w'.cell? ad = some (.int .u8 7) ∧ Below w.heap.size w w' := by
  refine (get_at h rfl (i := 1) (b := ⟨List.replicate 64 0, [b7]⟩) 1 rfl rfl).mono ?_
  rintro e w' ⟨v, rfl, hr, hb⟩
  obtain ⟨A, c, rfl⟩ := Kd.R_slice hr
  obtain ⟨ad, rfl, hx⟩ := Kd.at_int (Kd.R_reads' hr).2.2 0 (by decide) (by decide)
  exact ⟨ad, c, rfl, by rw [show (0 : Int).toNat = 0 from rfl, Addr.add_zero'] at hx; exact hx, hb⟩
theorem awake_calls (w : World) : Calls Try.prog 9 #[] w fun e w' => e = .returned (.bool true) ∧ Below w.heap.size w w' := by
  have hmk := mk64
  generalize hZ : Array.replicate 64 (Value.int .u8 0) = Z at hmk
  have hZ1 : (Z.setIfInBounds 0 (.int .u8 7)).toList = nums .u8 b7 := by subst hZ; rfl
  have hZs : Z.size = 64 := by subst hZ; rfl
  have hZ0 : Z[0]? = some (.int .u8 0) := by subst hZ; rfl
  have HZ1 := Aside0.mk hZ1
  have HZS := Aside0.mk hZs
  clear hZ1 hZs hZ
  go_enter Try.func9, Try.ntmps9
  have hnew : ∀ (w1 : World) (F : Nat → Prop) (g : Nat), DW w1 F g (newS 2) → Below w.heap.size w w1 → (∀ k, F k → w.heap.size ≤ k) →
      Calls Try.prog 10 #[.pointer (some ⟨g, 0, none⟩), .slice (some ⟨w1.heap.size + 1, 0, none⟩) 1 1] ((w1.alloc (.cells (Z.setIfInBounds 0 (.int .u8 7)) 5)).alloc (.cells #[.int .i64 1, .slice (some ⟨w1.heap.size, 0, none⟩) 64 64] 34))
        fun e w' => e = .returned (.int .i64 0) ∧ Aside0 (∃ F', DW w' F' g aw1 ∧ Below w.heap.size w w') := by
    intro w1 F g hd hb hF
    have hbl : Below w1.heap.size w1 ((w1.alloc (.cells (Z.setIfInBounds 0 (.int .u8 7)) 5)).alloc (.cells #[.int .i64 1, .slice (some ⟨w1.heap.size, 0, none⟩) 64 64] 34)) := below_alloc (below_alloc (Below.refl _ _) _) _
    have s1 : (w1.alloc (.cells (Z.setIfInBounds 0 (.int .u8 7)) 5)).heap.size = w1.heap.size + 1 := Array.size_push _
    have h1 := blk_new (w1.alloc (.cells (Z.setIfInBounds 0 (.int .u8 7)) 5)) (.cells #[.int .i64 1, .slice (some ⟨w1.heap.size, 0, none⟩) 64 64] 34)
    rw [s1] at h1
    have h0 := blk_alloc (blk_new w1 (.cells (Z.setIfInBounds 0 (.int .u8 7)) 5)) (.cells #[.int .i64 1, .slice (some ⟨w1.heap.size, 0, none⟩) 64 64] 34)
    refine (put_at (hd.below hbl) rfl (by decide) _ 1 1 [⟨1, b7⟩] rfl (RW.one h1 rfl (Nat.le_refl _) (C_blk h0 HZ1.out rfl (by omega)) (blk_lt h0) (fun h => by have := hd.lt _ h; omega) (fun h => by have := hd.lt _ h; omega)) (by omega) (fun i b hi => by have := (newS_at hi).2; subst this; show 0 + 1 ≤ _; omega)).mono ?_
    rintro e w' ⟨rfl, F', hd', hc'⟩
    rw [put_awake] at hd' ⊢
    exact ⟨rfl, ⟨F', hd', (hb.trans (hbl.mono hb.size)).trans (hc'.below hF (Nat.le_trans hb.size hbl.size))⟩⟩
  have HNEW := Aside0.mk hnew
  clear hnew
  go_wp2_with (first | (go_at_call 8; (with_reducible refine (new_at 2 2 rfl (by omega) (by omega) _).mono ?_); rintro e w1 ⟨g, F, rfl, hd, hF, hb⟩; have HP := Aside0.mk (HNEW.out w1 F g hd hb hF); clear hd hF hb) | (go_at_call 10; (with_reducible refine HP.out.mono ?_); rintro e w2 ⟨rfl, hs⟩; obtain ⟨F', hd2, hb2⟩ := hs.out; have HD2 := Aside0.mk hd2; have HB2 := Aside0.mk hb2; clear hs hd2 hb2) | (go_at_call 12; (with_reducible refine (awake_get HD2.out).mono ?_); rintro e w3 ⟨ad3, c3, rfl, hx3, hb3⟩; have HD3 := Aside0.mk (HD2.out.below hb3); have HB3 := Aside0.mk (HB2.out.trans (hb3.mono HB2.out.size)); clear hb3) | (go_at_call 13; (with_reducible refine (open_at HD3.out (i := 1) (b := ⟨List.replicate 64 0, [b7]⟩) 1 rfl rfl 1 rfl).mono ?_); rintro e w4 ⟨rfl, rfl⟩) | (go_at_call 21; (with_reducible refine (blocks_at HD3.out 2 rfl).mono ?_); rintro e w4 ⟨rfl, rfl⟩))
  go_ret
  exact ⟨rfl, HB3.out⟩
end Go.Proofs.Ytiengbimednonaa.Disk
