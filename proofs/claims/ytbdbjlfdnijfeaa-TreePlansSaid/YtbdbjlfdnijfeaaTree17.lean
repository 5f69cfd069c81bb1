/- For all worlds: the pages that a reader reads. Conditions: the blocks can be read, their bytes are bytes; the reader's rows lie apart. -/
import Derived.Test.YtbdbjlfdnijfeaaTree16
namespace Go.Proofs.Ytbdbjlfdnijfeaa.Tree
open Go Go.RowKit Go.Maps Go.Proofs.YtbdbjlfdnijfeaaW.PrintWords Go.Proofs.YtbdbjlfdnijfeaaW.PrintLast Go.Proofs.YtbdbjlfdnijfeaaW.PrintMore
set_option linter.unusedVariables false
set_option linter.unusedSimpArgs false
set_option maxRecDepth 100000
/-- What reads blocks of pointers: its struct at block r, the blocks, the pointers so far, the own blocks so far. -/
structure Rd (w0 w : World) (r : Nat) (A : Option Addr) (n c : Nat) (ws : List Wr) (vp vo : Value) (pl ol : List Int) (bad : Bool) : Prop where
  hr : w.heap[r]? = some (.cells #[.slice A n c, vp, vo, .bool bad] 63 (0, 0))
  hp : I.R 3 w w0.heap.size (fun k => some k ≠ vo.ownBlock) vp pl
  ho : I.R 3 w w0.heap.size (fun k => some k ≠ vp.ownBlock) vo ol
  hw : kW.C w0 A n ws
  bl : Below w0.heap.size w0 w
  br : w0.heap.size ≤ r
section
variable {w0 w w1 : World} {r : Nat} {A : Option Addr} {n c : Nat} {ws : List Wr} {vp vo v1 : Value} {pl ol : List Int} {bad : Bool}
theorem Rd.moved (h : Rd w0 w r A n c ws vp vo pl ol bad) (hb : Below w.heap.size w w1) : Rd w0 w1 r A n c ws vp vo pl ol bad :=
  ⟨blk_below h.hr hb, Kd.R_below h.hp hb, Kd.R_below h.ho hb, h.hw, below_step h.bl hb, h.br⟩
theorem Rd.fresh (h : Rd w0 w r A n c ws vp vo pl ol bad) : ∀ k, w.heap.size ≤ k → some k ≠ vp.ownBlock := fun k hk e => by
  have := Kd.R_lt h.hp k e.symm
  omega
theorem Rd.push {p : Int} (h : Rd w0 w r A n c ws vp vo pl ol bad) (ho : I.R 3 w1 w0.heap.size (fun k => some k ≠ vp.ownBlock) v1 (ol ++ [p])) (hb : Below w0.heap.size w0 w1) (hg : w.grownBy w1 vo.ownBlock) (hat : v1.ownBlock = vo.ownBlock ∨ ∃ b, v1.ownBlock = some b ∧ w.heap.size ≤ b) :
    Rd w0 (w1.setCell ⟨r, 2, none⟩ v1) r A n c ws vp v1 pl (ol ++ [p]) bad ∧ Fr w (w1.setCell ⟨r, 2, none⟩ v1) r vo.ownBlock := by
  have hm1 := blk_grown h.hr hg (Kd.R_ne h.ho h.hr (by decide))
  refine ⟨⟨blk_set hm1 2 v1, ?_, Kd.R_set ho hm1 (by decide) 2 v1, h.hw, hb.setCell (p := ⟨r, 2, none⟩) h.br _, h.br⟩, ⟨hg.os, hg.tape, hg.output, by rw [World.size_setCell]; exact hg.size, fun j hj hjm hjo => (heap_setCell_other _ _ _ _ hjm).trans (hg.block j hj hjo)⟩⟩
  have h1 := Kd.R_after (ok := fun _ => True) (Kd.R_mono h.hp (fun k hk => ⟨trivial, hk⟩)) hg hat
  exact Kd.R_set (Kd.R_mono h1 (fun k hk => hk.2)) hm1 (by decide) 2 v1
theorem Rd.spoil (h : Rd w0 w r A n c ws vp vo pl ol bad) (o : Option Nat) : Rd w0 (w.setCell ⟨r, 3, none⟩ (.bool true)) r A n c ws vp vo pl ol true ∧ Fr w (w.setCell ⟨r, 3, none⟩ (.bool true)) r o :=
  ⟨⟨blk_set h.hr 3 _, Kd.R_set h.hp h.hr (by decide) 3 _, Kd.R_set h.ho h.hr (by decide) 3 _, h.hw, h.bl.setCell (p := ⟨r, 3, none⟩) h.br _, h.br⟩, ⟨rfl, rfl, rfl, by rw [World.size_setCell]; exact Nat.le_refl _, fun j hj hjm hjo => heap_setCell_other _ _ _ _ hjm⟩⟩
end
theorem drawn_below {w w' : World} (h : Drawn0 w w') : Below w.heap.size w w' := h.below
theorem R30 {w : World} {b c : Nat} {ok : Nat → Prop} {A : Option Addr} {l : List Int} (h : I.R 3 w b ok (.slice A 30 c) (numsT l 30)) : I.C w A 30 (numsT l 30) := by
  have := (Kd.R_reads' h).2.2
  rw [numsT_length] at this
  exact this
theorem pointers_n (A0 : Option Addr) (c0 n : Nat) (l0 : List Int) (hn : l0.length = n) (w : World) (hr0 : I.C w A0 n l0) (hw : wide l0 = true) :
    Calls Try.prog 18 #[.slice A0 n c0] w fun e w' => e = .returned (.bool (ptsB l0)) ∧ Below w.heap.size w w' := by
  subst hn
  exact pointers_calls A0 c0 l0 w hr0 hw
def zer : List Int := List.replicate 30 0
/-- A block of zeros of the call's own. -/
theorem R_zer {W : World} {b : Nat} {ok : Nat → Prop} (hb : b ≤ W.heap.size) (hok : ok W.heap.size) : I.R 3 (W.alloc (.cells (Array.replicate 30 (.int .i64 0)) 3)) b ok (.slice (some ⟨W.heap.size, 0, none⟩) 30 30) zer :=
  R_ivs (blk_new _ _) (by rw [Array.toList_replicate]; unfold zer ivs; rw [List.map_replicate]) (by unfold zer; rw [List.length_replicate]) hb hok (by decide)
theorem numsT_wide {l : List Int} (h : Spin.Bytes l) : wide (numsT l 30) = true := by
  unfold wide
  rw [List.all_eq_true]
  intro x hx
  obtain ⟨i, _, rfl⟩ := List.mem_map.1 hx
  have := numT_range h i
  simp only [Lit.wf, IntKind.min, IntKind.max, IntKind.signed, IntKind.bits, Bool.and_eq_true, decide_eq_true_eq, if_true]
  omega
/-- The numbers of a block that can be read. -/
def goodB (l : List Wr) (p : Int) : Option (List Int) := match blkF l p with
  | some x => if sealB x.data && dataB p then some (numsT x.data 30) else none
  | none => none
def pgL (l : List Wr) (p : Int) : List Int := if p = 0 then zer else (goodB l p).getD zer
def pgOk (l : List Wr) (p : Int) : Bool := if p = 0 then true else match goodB l p with
  | some ns => someB ns && ptsB ns
  | none => false
/-- The end where the reader is spoilt and zeros are given. -/
theorem Rd.bad_end {w0 w W : World} {r : Nat} {A : Option Addr} {n c : Nat} {ws : List Wr} {vp vo vo' : Value} {pl ol : List Int} {bad : Bool} {g : Nat} (h : Rd w0 W r A n c ws vp vo' pl ol bad) (f : Fr w W r vo.ownBlock) (hat : vo'.ownBlock = vo.ownBlock ∨ ∃ b, vo'.ownBlock = some b ∧ w.heap.size ≤ b) (hg : g = W.heap.size) :
    I.R 3 ((W.setCell ⟨r, 3, none⟩ (.bool true)).alloc (.cells (Array.replicate 30 (.int .i64 0)) 3)) w.heap.size (fun k => some k ≠ vo'.ownBlock) (.slice (some ⟨g, 0, none⟩) 30 30) zer ∧ Rd w0 ((W.setCell ⟨r, 3, none⟩ (.bool true)).alloc (.cells (Array.replicate 30 (.int .i64 0)) 3)) r A n c ws vp vo' pl ol true ∧ Fr w ((W.setCell ⟨r, 3, none⟩ (.bool true)).alloc (.cells (Array.replicate 30 (.int .i64 0)) 3)) r vo.ownBlock ∧ (vo'.ownBlock = vo.ownBlock ∨ ∃ b, vo'.ownBlock = some b ∧ w.heap.size ≤ b) := by
  subst hg
  obtain ⟨h1, f1⟩ := h.spoil vo.ownBlock
  have hs : (W.setCell ⟨r, 3, none⟩ (.bool true)).heap.size = W.heap.size := World.size_setCell _ _ _
  rw [← hs]
  refine ⟨R_zer (by rw [hs]; exact f.size) (fun e => ?_), h1.moved (below_alloc (Below.refl _ _) _), (f.trans f1).trans (Fr.of_below (below_alloc (Below.refl _ _) _)), hat⟩
  have := Kd.R_lt h1.ho _ e.symm
  omega
structure Hat (w : World) (o o' : Option Nat) : Prop where
  mk ::
  out : o' = o ∨ ∃ b, o' = some b ∧ w.heap.size ≤ b
theorem Hat.up {w W : World} {o o' : Option Nat} (h : Hat W o o') (hb : Below w.heap.size w W) : o' = o ∨ ∃ b, o' = some b ∧ w.heap.size ≤ b := by
  rcases h.out with h | ⟨b, h, hl⟩
  · exact .inl h
  · exact .inr ⟨b, h, Nat.le_trans hb.size hl⟩
/-- The end where a block's numbers are given. -/
theorem Rd.list_end {w0 w W W6 W8 : World} {r : Nat} {A : Option Addr} {n c : Nat} {ws : List Wr} {vp vo vo' v6 : Value} {pl ol l6 : List Int} {bad : Bool} (h : Rd w0 W6 r A n c ws vp vo' pl ol bad) (h6 : I.R 3 W6 W.heap.size (fun _ => True) v6 l6) (hb6 : Below W.heap.size W W6) (f : Fr w W r vo.ownBlock) (hat : vo'.ownBlock = vo.ownBlock ∨ ∃ b, vo'.ownBlock = some b ∧ w.heap.size ≤ b) (hb8 : Below W6.heap.size W6 W8) (h4 : Rd w0 W r A n c ws vp vo' pl ol bad) :
    (I.R 3 W8 w.heap.size (fun k => some k ≠ vo'.ownBlock) v6 l6 ∧ Rd w0 W8 r A n c ws vp vo' pl ol bad ∧ Fr w W8 r vo.ownBlock ∧ (vo'.ownBlock = vo.ownBlock ∨ ∃ b, vo'.ownBlock = some b ∧ w.heap.size ≤ b)) ∧
    (I.R 3 (W8.setCell ⟨r, 3, none⟩ (.bool true)) w.heap.size (fun k => some k ≠ vo'.ownBlock) v6 l6 ∧ Rd w0 (W8.setCell ⟨r, 3, none⟩ (.bool true)) r A n c ws vp vo' pl ol true ∧ Fr w (W8.setCell ⟨r, 3, none⟩ (.bool true)) r vo.ownBlock ∧ (vo'.ownBlock = vo.ownBlock ∨ ∃ b, vo'.ownBlock = some b ∧ w.heap.size ≤ b)) := by
  have h8 := h.moved hb8
  have r8 : I.R 3 W8 w.heap.size (fun k => some k ≠ vo'.ownBlock) v6 l6 := Kd.R_below (Kd.R_lower (Kd.R_mono (Kd.R_bound h6) (fun k hk e => by
    have h1 := Kd.R_lt h4.ho k e.symm
    have h2 := hk.2.1
    omega)) f.size) hb8
  have f8 : Fr w W8 r vo.ownBlock := (f.trans (Fr.of_below hb6)).trans (Fr.of_below hb8)
  obtain ⟨h9, f9⟩ := h8.spoil vo.ownBlock
  exact ⟨⟨r8, h8, f8, hat⟩, ⟨Kd.R_set r8 h8.hr (by decide) 3 _, h9, f8.trans f9, hat⟩⟩
def pgOwn (p : Int) : List Int := if p = 0 then [] else [p]
section
variable {w0 w : World} {r : Nat} {A : Option Addr} {n c : Nat} {ws : List Wr} {vp vo : Value} {pl ol : List Int} {bad : Bool}
set_option maxHeartbeats 1000000 in
theorem rpage_calls (h : Rd w0 w r A n c ws vp vo pl ol bad) (hby : ∀ x ∈ ws, Spin.Bytes x.data) (p : Int) (hol : ol.length ≤ 1000) :
    Calls Try.prog 32 #[.pointer (some ⟨r, 0, none⟩), .int .i64 p] w fun e w' => ∃ v vo', e = .returned v ∧ I.R 3 w' w.heap.size (fun k => some k ≠ vo'.ownBlock) v (pgL ws p) ∧ Rd w0 w' r A n c ws vp vo' pl (ol ++ pgOwn p) (bad || !pgOk ws p) ∧ Fr w w' r vo.ownBlock ∧ (vo'.ownBlock = vo.ownBlock ∨ ∃ b, vo'.ownBlock = some b ∧ w.heap.size ≤ b) := by
  have hmk : ∀ W : World, (Instr.makeSlice 22 (.int .i64 30) (.int .i64 30)).run Try.prog W = .ok (.slice (some ⟨W.heap.size, 0, none⟩) 30 30) (W.alloc (.cells (Array.replicate 30 (.int .i64 0)) 3)) := fun W => mkI 30 (by decide) W
  have H := Aside0.mk h
  by_cases hp0 : p = 0
  · subst hp0
    clear h hby hol
    go_enter Try.func32, Try.ntmps32
    go_wp2_with fail
    go_ret
    refine ⟨_, vo, rfl, R_zer (Nat.le_refl _) (fun e => ?_), ?_, Fr.of_below (below_alloc (Below.refl _ _) _), .inl rfl⟩
    · have := Kd.R_lt H.out.ho _ e.symm
      omega
    · have h1 := H.out.moved (below_alloc (Below.refl w.heap.size w) (.cells (Array.replicate 30 (.int .i64 0)) 3))
      rw [show pgOwn 0 = [] from rfl, List.append_nil, show pgOk ws 0 = true from rfl, Bool.not_true, Bool.or_false]
      exact h1
  have bp : (p == 0) = false := beq_eq_false_iff_ne.2 hp0
  have HOW : Aside0 (pgOwn p = [p]) := ⟨if_neg hp0⟩
  obtain ⟨Ao, co, e⟩ := Kd.R_slice h.ho
  subst e
  obtain ⟨k, hk⟩ : ∃ k, ol.length = k := ⟨_, rfl⟩
  rw [hk] at h H hol
  rw [hk]
  have HK := Aside0.mk hk
  have HL := Aside0.mk hol
  have HLN : Aside0 ((ol ++ [p]).length = k + 1) := ⟨by rw [List.length_append, hk]; rfl⟩
  have c0 := blk_cell h.hr 0
  have hblk := fun W hW => block_calls p A c n ws h.hw.1 w0 W h.hw hW
  cases hf : blkF ws p with
  | none =>
    rw [hf] at hblk
    have HBLK : Aside0 (∀ W, Below w0.heap.size w0 W → Calls Try.prog 43 #[.slice A n c, .int .i64 p] W fun e w' => e = .returned (.tuple #[.slice none 0 0, .bool false]) ∧ Below W.heap.size W w') := ⟨fun W hW => (hblk W hW).mono fun e w' h => by obtain ⟨⟨v, e1, e2⟩, hb⟩ := h; exact ⟨by rw [e1, show v = _ from e2], hb⟩⟩
    have HG : Aside0 (pgL ws p = zer ∧ pgOk ws p = false) := ⟨by unfold pgL pgOk goodB; rw [if_neg hp0, if_neg hp0, hf]; exact ⟨rfl, rfl⟩⟩
    clear h hby hol hk hblk hf hp0
    go_enter Try.func32, Try.ntmps32
    go_wp2_with (first | (go_at_call 43; (with_reducible refine (HBLK.out _ ?c0).mono ?_); (case c0 => exact H.out.bl); rintro e w2 ⟨rfl, hb⟩; have hp2 := H.out.moved hb; have d2 := blk_cell hp2.hr 2; have HP2 := Aside0.mk hp2; have HB2 := Aside0.mk hb; clear hb hp2) | ((with_reducible refine gate_builtin (b := .append) (xs := #[.tmp 24, .tmp 26]) rfl ?_); at_builtin; refine Kd.R_append I (w0 := w0) (W := w2) w0.heap.size rfl (.tmp 24) (.tmp 26) 22 3 (.int .i64 0) 8 rfl Try.underlying22 infoI rfl (by decide) (by omega) (.slice Ao k co) ol p [.int .i64 p] (fun k => some k ≠ vp.ownBlock) (fun _ => False) rfl ?aX ?aP ?aK ?aF ?aO ?aB ?aS ?aL ?_; (case aX => with_unfolding_all rfl); (case aP => rfl); (case aK => exact fun k hk => hk.elim); (case aF => exact HP2.out.fresh); (case aO => exact HP2.out.ho); (case aB => exact HP2.out.bl); (case aS => exact HP2.out.bl.size); (case aL => have h1_ := HK.out; have h2_ := HL.out; omega); intro v3 w3 ho hb hg hat; have hp3 := HP2.out.push ho hb hg hat; have hm3 := blk_grown HP2.out.hr hg (Kd.R_ne HP2.out.ho HP2.out.hr (by decide)); obtain ⟨A3, c3, e3⟩ := Kd.R_slice ho; rw [HLN.out] at e3; subst e3; have d3 := blk_cell hm3 2; have f3 := blk_frozen hm3 2; have d4 := blk_cell (blk_set hm3 2 (.slice A3 (k + 1) c3)) 3; have f4 := blk_frozen (blk_set hm3 2 (.slice A3 (k + 1) c3)) 3; have HAT := Hat.mk hat; have HP3 := Aside0.mk hp3; clear ho hb hg hat hp3 hm3))
    go_ret
    have hE := HP3.out.1.bad_end (w := w) (vo := .slice Ao k co) ((Fr.of_below HB2.out).trans HP3.out.2) (HAT.up HB2.out) (World.size_setCell _ _ _).symm
    rw [HG.out.1, HG.out.2, HOW.out, Bool.not_false, Bool.or_true]
    exact ⟨_, _, rfl, hE⟩
  | some x =>
    have hxm : x ∈ ws := List.mem_of_find?_eq_some hf
    have hbx := hby x hxm
    obtain ⟨m, hm⟩ : ∃ m, x.data.length = m := ⟨_, rfl⟩
    have HBX := Aside0.mk hbx
    rw [hf] at hblk
    have HBLK : Aside0 (∀ W, Below w0.heap.size w0 W → Calls Try.prog 43 #[.slice A n c, .int .i64 p] W fun e w' => (∃ A1 c1, e = .returned (.tuple #[.slice A1 m c1, .bool true]) ∧ m ≤ c1 ∧ U.C w0 A1 m x.data) ∧ Below W.heap.size W w') := ⟨fun W hW => (hblk W hW).mono fun e w' h => by
      obtain ⟨⟨v, e1, A1, c1, e2, h3, h4⟩, hb⟩ := h
      rw [hm] at e2 h3 h4
      exact ⟨⟨A1, c1, by rw [e1, e2], h3, h4⟩, hb⟩⟩
    have HSEAL : Aside0 (∀ A1 c1 W, U.C w0 A1 m x.data → m ≤ c1 → Below w0.heap.size w0 W → Calls Try.prog 44 #[.slice A1 m c1] W fun e w' => e = .returned (.bool (sealB x.data)) ∧ Drawn0 W w') := ⟨fun A1 c1 W hc hl hW => sealB_calls A1 c1 m x.data hm hbx W (Kd.C_below hc hW) hl⟩
    cases hq1 : sealB x.data with
    | false =>
      rw [hq1] at HSEAL
      have HG : Aside0 (pgL ws p = zer ∧ pgOk ws p = false) := ⟨by unfold pgL pgOk goodB; rw [if_neg hp0, if_neg hp0, hf]; simp [hq1]⟩
      clear h hby hol hk hblk hf hp0 hxm hbx hm hq1
      go_enter Try.func32, Try.ntmps32
      go_wp2_with (first | (go_at_call 43; (with_reducible refine (HBLK.out _ ?c0).mono ?_); (case c0 => exact H.out.bl); rintro e w2 ⟨⟨A1, c1, rfl, hc1, hc2⟩, hb⟩; have HC1 := Aside0.mk hc1; have HC2 := Aside0.mk hc2; clear hc1 hc2; have hp2 := H.out.moved hb; have d2 := blk_cell hp2.hr 2; have HP2 := Aside0.mk hp2; have HB2 := Aside0.mk hb; clear hb hp2) | ((with_reducible refine gate_builtin (b := .append) (xs := #[.tmp 24, .tmp 26]) rfl ?_); at_builtin; refine Kd.R_append I (w0 := w0) (W := w2) w0.heap.size rfl (.tmp 24) (.tmp 26) 22 3 (.int .i64 0) 8 rfl Try.underlying22 infoI rfl (by decide) (by omega) (.slice Ao k co) ol p [.int .i64 p] (fun k => some k ≠ vp.ownBlock) (fun _ => False) rfl ?aX ?aP ?aK ?aF ?aO ?aB ?aS ?aL ?_; (case aX => with_unfolding_all rfl); (case aP => rfl); (case aK => exact fun k hk => hk.elim); (case aF => exact HP2.out.fresh); (case aO => exact HP2.out.ho); (case aB => exact HP2.out.bl); (case aS => exact HP2.out.bl.size); (case aL => have h1_ := HK.out; have h2_ := HL.out; omega); intro v3 w3 ho hb hg hat; have hp3 := HP2.out.push ho hb hg hat; have hm3 := blk_grown HP2.out.hr hg (Kd.R_ne HP2.out.ho HP2.out.hr (by decide)); obtain ⟨A3, c3, e3⟩ := Kd.R_slice ho; rw [HLN.out] at e3; subst e3; have d3 := blk_cell hm3 2; have f3 := blk_frozen hm3 2; have d4 := blk_cell (blk_set hm3 2 (.slice A3 (k + 1) c3)) 3; have f4 := blk_frozen (blk_set hm3 2 (.slice A3 (k + 1) c3)) 3; have HAT := Hat.mk hat; have HP3 := Aside0.mk hp3; clear ho hb hg hat hp3 hm3) | (go_at_call 44; (with_reducible refine (HSEAL.out _ _ _ HC2.out HC1.out ?c0).mono ?_); (case c0 => exact HP3.out.1.bl); rintro e w4 ⟨rfl, hd⟩; have hp4 := HP3.out.1.moved (drawn_below hd); have HD4 := Aside0.mk (drawn_below hd); have HP4 := Aside0.mk hp4; have d5 := blk_cell hp4.hr 3; have f5 := blk_frozen hp4.hr 3; clear hd hp4))
      go_ret
      have hE := HP4.out.bad_end (w := w) (vo := .slice Ao k co) (((Fr.of_below HB2.out).trans HP3.out.2).trans (Fr.of_below HD4.out)) (HAT.up HB2.out) rfl
      rw [HG.out.1, HG.out.2, HOW.out, Bool.not_false, Bool.or_true]
      exact ⟨_, _, rfl, hE⟩
    | true =>
      rw [hq1] at HSEAL
      cases hq2 : dataB p with
      | false =>
        have HG : Aside0 (pgL ws p = zer ∧ pgOk ws p = false) := ⟨by unfold pgL pgOk goodB; rw [if_neg hp0, if_neg hp0, hf]; simp [hq2]⟩
        clear h hby hol hk hblk hf hp0 hxm hbx hm hq1
        go_enter Try.func32, Try.ntmps32
        go_wp2_with (first | (go_at_call 43; (with_reducible refine (HBLK.out _ ?c0).mono ?_); (case c0 => exact H.out.bl); rintro e w2 ⟨⟨A1, c1, rfl, hc1, hc2⟩, hb⟩; have HC1 := Aside0.mk hc1; have HC2 := Aside0.mk hc2; clear hc1 hc2; have hp2 := H.out.moved hb; have d2 := blk_cell hp2.hr 2; have HP2 := Aside0.mk hp2; have HB2 := Aside0.mk hb; clear hb hp2) | ((with_reducible refine gate_builtin (b := .append) (xs := #[.tmp 24, .tmp 26]) rfl ?_); at_builtin; refine Kd.R_append I (w0 := w0) (W := w2) w0.heap.size rfl (.tmp 24) (.tmp 26) 22 3 (.int .i64 0) 8 rfl Try.underlying22 infoI rfl (by decide) (by omega) (.slice Ao k co) ol p [.int .i64 p] (fun k => some k ≠ vp.ownBlock) (fun _ => False) rfl ?aX ?aP ?aK ?aF ?aO ?aB ?aS ?aL ?_; (case aX => with_unfolding_all rfl); (case aP => rfl); (case aK => exact fun k hk => hk.elim); (case aF => exact HP2.out.fresh); (case aO => exact HP2.out.ho); (case aB => exact HP2.out.bl); (case aS => exact HP2.out.bl.size); (case aL => have h1_ := HK.out; have h2_ := HL.out; omega); intro v3 w3 ho hb hg hat; have hp3 := HP2.out.push ho hb hg hat; have hm3 := blk_grown HP2.out.hr hg (Kd.R_ne HP2.out.ho HP2.out.hr (by decide)); obtain ⟨A3, c3, e3⟩ := Kd.R_slice ho; rw [HLN.out] at e3; subst e3; have d3 := blk_cell hm3 2; have f3 := blk_frozen hm3 2; have d4 := blk_cell (blk_set hm3 2 (.slice A3 (k + 1) c3)) 3; have f4 := blk_frozen (blk_set hm3 2 (.slice A3 (k + 1) c3)) 3; have HAT := Hat.mk hat; have HP3 := Aside0.mk hp3; clear ho hb hg hat hp3 hm3) | (go_at_call 44; (with_reducible refine (HSEAL.out _ _ _ HC2.out HC1.out ?c0).mono ?_); (case c0 => exact HP3.out.1.bl); rintro e w4 ⟨rfl, hd⟩; have hp4 := HP3.out.1.moved (drawn_below hd); have HD4 := Aside0.mk (drawn_below hd); have HP4 := Aside0.mk hp4; have d5 := blk_cell hp4.hr 3; have f5 := blk_frozen hp4.hr 3; clear hd hp4) | (go_at_call 35; (with_reducible refine (data_calls p _).mono ?_); rintro e w5 ⟨rfl, rfl⟩; rw [hq2]))
        go_ret
        have hE := HP4.out.bad_end (w := w) (vo := .slice Ao k co) (((Fr.of_below HB2.out).trans HP3.out.2).trans (Fr.of_below HD4.out)) (HAT.up HB2.out) rfl
        rw [HG.out.1, HG.out.2, HOW.out, Bool.not_false, Bool.or_true]
        exact ⟨_, _, rfl, hE⟩
      | true =>
        have h64 : m = 64 := by
          unfold sealB at hq1
          rw [Bool.and_eq_true] at hq1
          rw [← hm]
          exact of_decide_eq_true hq1.1
        subst h64
        have HNUM : Aside0 (∀ A1 c1 W, U.C w0 A1 64 x.data → 64 ≤ c1 → Below w0.heap.size w0 W → Calls Try.prog 45 #[.slice A1 64 c1, .int .i64 0, .int .i64 2, .int .i64 30] W fun e w' => ∃ v0_ : Value, e = .returned (v0_) ∧ I.R 3 w' W.heap.size (fun _ => True) v0_ (numsT x.data 30) ∧ Below W.heap.size W w') := ⟨fun A1 c1 W hc hl hW => numsT_calls A1 c1 x.data hm hbx W (Kd.C_below hc hW) hl⟩
        have HWID := Aside0.mk (numsT_wide hbx)
        have HGL : Aside0 (pgL ws p = numsT x.data 30) := ⟨by unfold pgL goodB; rw [if_neg hp0, hf]; simp [hq1, hq2]⟩
        have hpo : pgOk ws p = (someB (numsT x.data 30) && ptsB (numsT x.data 30)) := by unfold pgOk goodB; rw [if_neg hp0, hf]; simp [hq1, hq2]
        cases hq3 : someB (numsT x.data 30) with
        | false =>
          have HPO : Aside0 (pgOk ws p = false) := ⟨by rw [hpo, hq3]; rfl⟩
          clear h hby hol hk hblk hf hp0 hxm hbx hm hq1 hpo
          go_enter Try.func32, Try.ntmps32
          go_wp2_with (first | (go_at_call 43; (with_reducible refine (HBLK.out _ ?c0).mono ?_); (case c0 => exact H.out.bl); rintro e w2 ⟨⟨A1, c1, rfl, hc1, hc2⟩, hb⟩; have HC1 := Aside0.mk hc1; have HC2 := Aside0.mk hc2; clear hc1 hc2; have hp2 := H.out.moved hb; have d2 := blk_cell hp2.hr 2; have HP2 := Aside0.mk hp2; have HB2 := Aside0.mk hb; clear hb hp2) | ((with_reducible refine gate_builtin (b := .append) (xs := #[.tmp 24, .tmp 26]) rfl ?_); at_builtin; refine Kd.R_append I (w0 := w0) (W := w2) w0.heap.size rfl (.tmp 24) (.tmp 26) 22 3 (.int .i64 0) 8 rfl Try.underlying22 infoI rfl (by decide) (by omega) (.slice Ao k co) ol p [.int .i64 p] (fun k => some k ≠ vp.ownBlock) (fun _ => False) rfl ?aX ?aP ?aK ?aF ?aO ?aB ?aS ?aL ?_; (case aX => with_unfolding_all rfl); (case aP => rfl); (case aK => exact fun k hk => hk.elim); (case aF => exact HP2.out.fresh); (case aO => exact HP2.out.ho); (case aB => exact HP2.out.bl); (case aS => exact HP2.out.bl.size); (case aL => have h1_ := HK.out; have h2_ := HL.out; omega); intro v3 w3 ho hb hg hat; have hp3 := HP2.out.push ho hb hg hat; have hm3 := blk_grown HP2.out.hr hg (Kd.R_ne HP2.out.ho HP2.out.hr (by decide)); obtain ⟨A3, c3, e3⟩ := Kd.R_slice ho; rw [HLN.out] at e3; subst e3; have d3 := blk_cell hm3 2; have f3 := blk_frozen hm3 2; have d4 := blk_cell (blk_set hm3 2 (.slice A3 (k + 1) c3)) 3; have f4 := blk_frozen (blk_set hm3 2 (.slice A3 (k + 1) c3)) 3; have HAT := Hat.mk hat; have HP3 := Aside0.mk hp3; clear ho hb hg hat hp3 hm3) | (go_at_call 44; (with_reducible refine (HSEAL.out _ _ _ HC2.out HC1.out ?c0).mono ?_); (case c0 => exact HP3.out.1.bl); rintro e w4 ⟨rfl, hd⟩; have hp4 := HP3.out.1.moved (drawn_below hd); have HD4 := Aside0.mk (drawn_below hd); have HP4 := Aside0.mk hp4; have d5 := blk_cell hp4.hr 3; have f5 := blk_frozen hp4.hr 3; clear hd hp4) | (go_at_call 35; (with_reducible refine (data_calls p _).mono ?_); rintro e w5 ⟨rfl, rfl⟩; rw [hq2]) | (go_at_call 45; (with_reducible refine (HNUM.out _ _ _ HC2.out HC1.out ?c0).mono ?_); (case c0 => exact HP4.out.bl); rintro e w6 ⟨v6, rfl, ho, hb⟩; obtain ⟨A6, c6, e6⟩ := Kd.R_slice ho; rw [numsT_length] at e6; subst e6; have hp6 := HP4.out.moved hb; have HO6 := Aside0.mk ho; have HB6 := Aside0.mk hb; have HP6 := Aside0.mk hp6; have d7 := blk_cell hp6.hr 3; have f7 := blk_frozen hp6.hr 3; clear ho hb hp6) | (go_at_call 36; (with_reducible refine (nzr_cont_n A6 c6 30 (numsT x.data 30) (numsT_length x.data 30) _ ?c0).mono ?_); (case c0 => exact R30 HO6.out); rintro e w7 ⟨rfl, rfl⟩; rw [hq3]) | (go_at_call 18; (with_reducible refine (pointers_n A6 c6 30 (numsT x.data 30) (numsT_length x.data 30) _ ?c0 HWID.out).mono ?_); (case c0 => exact R30 HO6.out); rintro e w8 ⟨rfl, hb⟩; rw [hq4]; have hp8 := HP6.out.moved hb; have HP8 := Aside0.mk hp8; have HB8 := Aside0.mk hb; have d9 := blk_cell hp8.hr 3; have f9 := blk_frozen hp8.hr 3; clear hb hp8))
          go_ret
          have hE := HP6.out.list_end (w := w) (vo := .slice Ao k co) HO6.out HB6.out (((Fr.of_below HB2.out).trans HP3.out.2).trans (Fr.of_below HD4.out)) (HAT.up HB2.out) (Below.refl _ _) HP4.out
          rw [HGL.out, HPO.out, HOW.out, Bool.not_false, Bool.or_true]
          exact ⟨_, _, rfl, hE.2⟩
        | true =>
          cases hq4 : ptsB (numsT x.data 30) with
          | false =>
            have HPO : Aside0 (pgOk ws p = false) := ⟨by rw [hpo, hq3, hq4]; rfl⟩
            clear h hby hol hk hblk hf hp0 hxm hbx hm hq1 hpo
            go_enter Try.func32, Try.ntmps32
            go_wp2_with (first | (go_at_call 43; (with_reducible refine (HBLK.out _ ?c0).mono ?_); (case c0 => exact H.out.bl); rintro e w2 ⟨⟨A1, c1, rfl, hc1, hc2⟩, hb⟩; have HC1 := Aside0.mk hc1; have HC2 := Aside0.mk hc2; clear hc1 hc2; have hp2 := H.out.moved hb; have d2 := blk_cell hp2.hr 2; have HP2 := Aside0.mk hp2; have HB2 := Aside0.mk hb; clear hb hp2) | ((with_reducible refine gate_builtin (b := .append) (xs := #[.tmp 24, .tmp 26]) rfl ?_); at_builtin; refine Kd.R_append I (w0 := w0) (W := w2) w0.heap.size rfl (.tmp 24) (.tmp 26) 22 3 (.int .i64 0) 8 rfl Try.underlying22 infoI rfl (by decide) (by omega) (.slice Ao k co) ol p [.int .i64 p] (fun k => some k ≠ vp.ownBlock) (fun _ => False) rfl ?aX ?aP ?aK ?aF ?aO ?aB ?aS ?aL ?_; (case aX => with_unfolding_all rfl); (case aP => rfl); (case aK => exact fun k hk => hk.elim); (case aF => exact HP2.out.fresh); (case aO => exact HP2.out.ho); (case aB => exact HP2.out.bl); (case aS => exact HP2.out.bl.size); (case aL => have h1_ := HK.out; have h2_ := HL.out; omega); intro v3 w3 ho hb hg hat; have hp3 := HP2.out.push ho hb hg hat; have hm3 := blk_grown HP2.out.hr hg (Kd.R_ne HP2.out.ho HP2.out.hr (by decide)); obtain ⟨A3, c3, e3⟩ := Kd.R_slice ho; rw [HLN.out] at e3; subst e3; have d3 := blk_cell hm3 2; have f3 := blk_frozen hm3 2; have d4 := blk_cell (blk_set hm3 2 (.slice A3 (k + 1) c3)) 3; have f4 := blk_frozen (blk_set hm3 2 (.slice A3 (k + 1) c3)) 3; have HAT := Hat.mk hat; have HP3 := Aside0.mk hp3; clear ho hb hg hat hp3 hm3) | (go_at_call 44; (with_reducible refine (HSEAL.out _ _ _ HC2.out HC1.out ?c0).mono ?_); (case c0 => exact HP3.out.1.bl); rintro e w4 ⟨rfl, hd⟩; have hp4 := HP3.out.1.moved (drawn_below hd); have HD4 := Aside0.mk (drawn_below hd); have HP4 := Aside0.mk hp4; have d5 := blk_cell hp4.hr 3; have f5 := blk_frozen hp4.hr 3; clear hd hp4) | (go_at_call 35; (with_reducible refine (data_calls p _).mono ?_); rintro e w5 ⟨rfl, rfl⟩; rw [hq2]) | (go_at_call 45; (with_reducible refine (HNUM.out _ _ _ HC2.out HC1.out ?c0).mono ?_); (case c0 => exact HP4.out.bl); rintro e w6 ⟨v6, rfl, ho, hb⟩; obtain ⟨A6, c6, e6⟩ := Kd.R_slice ho; rw [numsT_length] at e6; subst e6; have hp6 := HP4.out.moved hb; have HO6 := Aside0.mk ho; have HB6 := Aside0.mk hb; have HP6 := Aside0.mk hp6; have d7 := blk_cell hp6.hr 3; have f7 := blk_frozen hp6.hr 3; clear ho hb hp6) | (go_at_call 36; (with_reducible refine (nzr_cont_n A6 c6 30 (numsT x.data 30) (numsT_length x.data 30) _ ?c0).mono ?_); (case c0 => exact R30 HO6.out); rintro e w7 ⟨rfl, rfl⟩; rw [hq3]) | (go_at_call 18; (with_reducible refine (pointers_n A6 c6 30 (numsT x.data 30) (numsT_length x.data 30) _ ?c0 HWID.out).mono ?_); (case c0 => exact R30 HO6.out); rintro e w8 ⟨rfl, hb⟩; rw [hq4]; have hp8 := HP6.out.moved hb; have HP8 := Aside0.mk hp8; have HB8 := Aside0.mk hb; have d9 := blk_cell hp8.hr 3; have f9 := blk_frozen hp8.hr 3; clear hb hp8))
            go_ret
            have hE := HP6.out.list_end (w := w) (vo := .slice Ao k co) HO6.out HB6.out (((Fr.of_below HB2.out).trans HP3.out.2).trans (Fr.of_below HD4.out)) (HAT.up HB2.out) HB8.out HP4.out
            rw [HGL.out, HPO.out, HOW.out, Bool.not_false, Bool.or_true]
            exact ⟨_, _, rfl, hE.2⟩
          | true =>
            have HPO : Aside0 (pgOk ws p = true) := ⟨by rw [hpo, hq3, hq4]; rfl⟩
            clear h hby hol hk hblk hf hp0 hxm hbx hm hq1 hpo
            go_enter Try.func32, Try.ntmps32
            go_wp2_with (first | (go_at_call 43; (with_reducible refine (HBLK.out _ ?c0).mono ?_); (case c0 => exact H.out.bl); rintro e w2 ⟨⟨A1, c1, rfl, hc1, hc2⟩, hb⟩; have HC1 := Aside0.mk hc1; have HC2 := Aside0.mk hc2; clear hc1 hc2; have hp2 := H.out.moved hb; have d2 := blk_cell hp2.hr 2; have HP2 := Aside0.mk hp2; have HB2 := Aside0.mk hb; clear hb hp2) | ((with_reducible refine gate_builtin (b := .append) (xs := #[.tmp 24, .tmp 26]) rfl ?_); at_builtin; refine Kd.R_append I (w0 := w0) (W := w2) w0.heap.size rfl (.tmp 24) (.tmp 26) 22 3 (.int .i64 0) 8 rfl Try.underlying22 infoI rfl (by decide) (by omega) (.slice Ao k co) ol p [.int .i64 p] (fun k => some k ≠ vp.ownBlock) (fun _ => False) rfl ?aX ?aP ?aK ?aF ?aO ?aB ?aS ?aL ?_; (case aX => with_unfolding_all rfl); (case aP => rfl); (case aK => exact fun k hk => hk.elim); (case aF => exact HP2.out.fresh); (case aO => exact HP2.out.ho); (case aB => exact HP2.out.bl); (case aS => exact HP2.out.bl.size); (case aL => have h1_ := HK.out; have h2_ := HL.out; omega); intro v3 w3 ho hb hg hat; have hp3 := HP2.out.push ho hb hg hat; have hm3 := blk_grown HP2.out.hr hg (Kd.R_ne HP2.out.ho HP2.out.hr (by decide)); obtain ⟨A3, c3, e3⟩ := Kd.R_slice ho; rw [HLN.out] at e3; subst e3; have d3 := blk_cell hm3 2; have f3 := blk_frozen hm3 2; have d4 := blk_cell (blk_set hm3 2 (.slice A3 (k + 1) c3)) 3; have f4 := blk_frozen (blk_set hm3 2 (.slice A3 (k + 1) c3)) 3; have HAT := Hat.mk hat; have HP3 := Aside0.mk hp3; clear ho hb hg hat hp3 hm3) | (go_at_call 44; (with_reducible refine (HSEAL.out _ _ _ HC2.out HC1.out ?c0).mono ?_); (case c0 => exact HP3.out.1.bl); rintro e w4 ⟨rfl, hd⟩; have hp4 := HP3.out.1.moved (drawn_below hd); have HD4 := Aside0.mk (drawn_below hd); have HP4 := Aside0.mk hp4; have d5 := blk_cell hp4.hr 3; have f5 := blk_frozen hp4.hr 3; clear hd hp4) | (go_at_call 35; (with_reducible refine (data_calls p _).mono ?_); rintro e w5 ⟨rfl, rfl⟩; rw [hq2]) | (go_at_call 45; (with_reducible refine (HNUM.out _ _ _ HC2.out HC1.out ?c0).mono ?_); (case c0 => exact HP4.out.bl); rintro e w6 ⟨v6, rfl, ho, hb⟩; obtain ⟨A6, c6, e6⟩ := Kd.R_slice ho; rw [numsT_length] at e6; subst e6; have hp6 := HP4.out.moved hb; have HO6 := Aside0.mk ho; have HB6 := Aside0.mk hb; have HP6 := Aside0.mk hp6; have d7 := blk_cell hp6.hr 3; have f7 := blk_frozen hp6.hr 3; clear ho hb hp6) | (go_at_call 36; (with_reducible refine (nzr_cont_n A6 c6 30 (numsT x.data 30) (numsT_length x.data 30) _ ?c0).mono ?_); (case c0 => exact R30 HO6.out); rintro e w7 ⟨rfl, rfl⟩; rw [hq3]) | (go_at_call 18; (with_reducible refine (pointers_n A6 c6 30 (numsT x.data 30) (numsT_length x.data 30) _ ?c0 HWID.out).mono ?_); (case c0 => exact R30 HO6.out); rintro e w8 ⟨rfl, hb⟩; rw [hq4]; have hp8 := HP6.out.moved hb; have HP8 := Aside0.mk hp8; have HB8 := Aside0.mk hb; have d9 := blk_cell hp8.hr 3; have f9 := blk_frozen hp8.hr 3; clear hb hp8))
            go_ret
            have hE := HP6.out.list_end (w := w) (vo := .slice Ao k co) HO6.out HB6.out (((Fr.of_below HB2.out).trans HP3.out.2).trans (Fr.of_below HD4.out)) (HAT.up HB2.out) HB8.out HP4.out
            rw [HGL.out, HPO.out, HOW.out, Bool.not_true, Bool.or_false]
            exact ⟨_, _, rfl, hE.1⟩
end
end Go.Proofs.Ytbdbjlfdnijfeaa.Tree
