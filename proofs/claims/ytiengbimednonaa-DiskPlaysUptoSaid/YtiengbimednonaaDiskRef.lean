/- For all worlds: the reference disk (drydockref07), one function after another, over the same state as package disk's. Conditions: the blocks are as the state says. -/
import Derived.Test.YtiengbimednonaaDiskStates
import Derived.StillTailTactics
namespace Go.Proofs.Ytiengbimednonaa.Disk
open Go Go.RowKit Go.Proofs.YtiengbimednonaaW.PrintWords Go.Proofs.YtiengbimednonaaW.PrintLast Go.Proofs.YtiengbimednonaaW.PrintMore
set_option linter.unusedVariables false
set_option linter.unusedSimpArgs false
theorem goes_block (g : Nat) (off : Bool) (left : Int) (a b : Value) (hlo : left ≤ 9223372036854775807) (w : World) (hg : w.heap[g]? = some (.cells #[a, b, .int .i64 left, .bool off] 52 (0, 0))) :
    Calls Try.prog 26 #[.pointer (some ⟨g, 0, none⟩)] w fun e w' => e = .returned (.bool (decide (left = 0))) ∧ w.grownBy w' (some g) ∧ w'.heap[g]? = some (.cells #[a, b, .int .i64 (spendS off left).2.1, .bool (spendS off left).1] 52 (0, 0)) := by
  have c2 := blk_cell hg 2
  have c3 := blk_cell hg 3
  have f2 := blk_frozen hg 2
  have f3 := blk_frozen hg 3
  have HG := Aside0.mk hg
  clear hg
  unfold spendS
  by_cases h0 : left = 0
  · subst h0
    go_enter Try.func26, Try.ntmps26
    go_wp2_with fail
    go_ret
    exact ⟨rfl, ⟨rfl, rfl, rfl, by simp [World.setCell], fun k _ hn => heap_setCell_other _ _ _ _ (fun e => hn (by rw [e]))⟩, blk_set HG.out 3 _⟩
  · rw [if_neg h0]
    have h0b : (left == 0) = false := beq_eq_false_iff_ne.2 h0
    have H0 := Aside0.mk h0
    by_cases h1 : 0 < left
    · rw [if_pos h1]
      have h1b : decide (0 < left) = true := decide_eq_true h1
      clear h0
      go_enter Try.func26, Try.ntmps26
      go_wp2_with fail
      go_ret
      exact ⟨by rw [decide_eq_false H0.out]; rfl, ⟨rfl, rfl, rfl, by simp [World.setCell], fun k _ hn => heap_setCell_other _ _ _ _ (fun e => hn (by rw [e]))⟩, blk_set HG.out 2 _⟩
    · rw [if_neg h1]
      have h1b : decide (0 < left) = false := decide_eq_false h1
      clear h0
      go_enter Try.func26, Try.ntmps26
      go_wp2_with fail
      go_ret
      exact ⟨by rw [decide_eq_false H0.out]; rfl, World.grownBy.refl w _, HG.out⟩
/-- The reference disk, its blocks named: g the struct, gL the row of what lasts, gO the row of the rows that are open. G are all its blocks. -/
structure RDx (w : World) (G : Nat → Prop) (g gL gO cL cO : Nat) (CL CO : Array Value) (s : DS) : Prop where
  hg : w.heap[g]? = some (.cells #[.slice (some ⟨gL, 0, none⟩) s.bs.length cL, .slice (some ⟨gO, 0, none⟩) s.bs.length cO, .int .i64 s.left, .bool s.off] 52 (0, 0))
  hL : w.heap[gL]? = some (.cells CL 9 (0, 0))
  vL : ∀ (i : Nat) (b : Blk), s.bs[i]? = some b → CL[i]? = some (.string (str b.last))
  hO : w.heap[gO]? = some (.cells CO 31 (0, 0))
  vO : ∀ (i : Nat) (b : Blk), s.bs[i]? = some b → ∃ v, CO[i]? = some v ∧ Kd.string.R 9 w 0 (fun k => G k ∧ k ≠ gL) v (b.opn.map str)
  ne : ∀ (i j : Nat) (vi vj : Value), i ≠ j → i < s.bs.length → j < s.bs.length → CO[i]? = some vi → CO[j]? = some vj → ∀ k, vi.ownBlock = some k → vj.ownBlock ≠ some k
  fg : G g
  fL : G gL
  fO : G gO
  lt : ∀ k, G k → k < w.heap.size
  lo : s.left ≤ 9223372036854775807
  n480 : s.bs.length ≤ 480
section
variable {w w1 : World} {G : Nat → Prop} {g gL gO cL cO : Nat} {CL CO : Array Value} {s : DS}
theorem RDx.kept (h : RDx w G g gL gO cL cO CL CO s) (hk : ∀ k, G k → w1.heap[k]? = w.heap[k]?) (hs : w.heap.size ≤ w1.heap.size) : RDx w1 G g gL gO cL cO CL CO s :=
  ⟨(hk g h.fg).trans h.hg, (hk gL h.fL).trans h.hL, h.vL, (hk gO h.fO).trans h.hO, fun i b hi => by
    obtain ⟨v, hv, hr⟩ := h.vO i b hi
    exact ⟨v, hv, Kd.R_move hr (fun k hk' => hk k hk'.1)⟩, h.ne, h.fg, h.fL, h.fO, fun k hG => Nat.lt_of_lt_of_le (h.lt k hG) hs, h.lo, h.n480⟩
theorem RDx.below (h : RDx w G g gL gO cL cO CL CO s) (hb : Below w.heap.size w w1) : RDx w1 G g gL gO cL cO CL CO s := h.kept (fun k hk => hb.block k (h.lt k hk)) hb.size
theorem RDx.gO_ne (h : RDx w G g gL gO cL cO CL CO s) : g ≠ gO := blk_ne h.hg h.hO (by decide)
theorem RDx.gL_ne (h : RDx w G g gL gO cL cO CL CO s) : g ≠ gL := blk_ne h.hg h.hL (by decide)
theorem RDx.LO_ne (h : RDx w G g gL gO cL cO CL CO s) : gL ≠ gO := blk_ne h.hL h.hO (by decide)
/-- The struct's own block is written: only what it holds of left and off is another. -/
theorem RDx.turned (h : RDx w G g gL gO cL cO CL CO s) {off : Bool} {left : Int} (hgw : w.grownBy w1 (some g)) (hlo : left ≤ 9223372036854775807)
    (hg1 : w1.heap[g]? = some (.cells #[.slice (some ⟨gL, 0, none⟩) s.bs.length cL, .slice (some ⟨gO, 0, none⟩) s.bs.length cO, .int .i64 left, .bool off] 52 (0, 0))) :
    RDx w1 G g gL gO cL cO CL CO ⟨off, left, s.bs⟩ :=
  ⟨hg1, blk_grown h.hL hgw (fun e => h.gL_ne (Option.some.inj e).symm), h.vL, blk_grown h.hO hgw (fun e => h.gO_ne (Option.some.inj e).symm), fun i b hi => by
    obtain ⟨v, hv, hr⟩ := h.vO i b hi
    exact ⟨v, hv, strR_reok (Kd.R_step (strR_reok hr (ok' := fun k => some k ≠ some g) (fun k hk e => Kd.R_ne hr h.hg (by decide) (e.symm.trans hk.symm))) (fun k ho hk => hgw.block k hk ho)) hr.1⟩, h.ne, h.fg, h.fL, h.fO, fun k hG => Nat.lt_of_lt_of_le (h.lt k hG) hgw.size, hlo, h.n480⟩
theorem goes_calls (h : RDx w G g gL gO cL cO CL CO s) : Calls Try.prog 26 #[.pointer (some ⟨g, 0, none⟩)] w fun e w' => e = .returned (.bool (decide (s.left = 0))) ∧ RDx w' G g gL gO cL cO CL CO ⟨(spendS s.off s.left).1, (spendS s.off s.left).2.1, s.bs⟩ ∧ w.grownBy w' (some g) := by
  refine (goes_block g s.off s.left _ _ h.lo w h.hg).mono fun e w' ⟨he, hgw, hb⟩ => ⟨he, h.turned hgw ?_ hb, hgw⟩
  have := h.lo
  unfold spendS
  split
  · show (0 : Int) ≤ _; omega
  · split
    · show s.left - 1 ≤ _; omega
    · exact h.lo
/-- A row of open texts is given up. -/
theorem RDx.nilled (h : RDx w G g gL gO cL cO CL CO s) {i : Nat} {b : Blk} (hi : s.bs[i]? = some b) : RDx (w.setCell ⟨gO, i, none⟩ (.slice none 0 0)) G g gL gO cL cO CL (CO.setIfInBounds i (.slice none 0 0)) ⟨s.off, s.left, s.bs.set i ⟨b.last, []⟩⟩ := by
  have far : ∀ k, k ≠ gO → (w.setCell ⟨gO, i, none⟩ (.slice none 0 0)).heap[k]? = w.heap[k]? := fun k hk => heap_setCell_other _ _ k _ hk
  have hil : i < s.bs.length := (List.getElem?_eq_some_iff.1 hi).1
  obtain ⟨v0, hv0, _⟩ := h.vO i b hi
  have hiC : i < CO.size := (Array.getElem?_eq_some_iff.1 hv0).1
  refine ⟨by rw [far g h.gO_ne]; simpa using h.hg, (far gL h.LO_ne).trans h.hL, fun j b' hj => ?_, blk_set h.hO i _, fun j b' hj => ?_, fun j k vj vk hjk hj hk hvj hvk m hm => ?_, h.fg, h.fL, h.fO, fun k hG => by rw [World.size_setCell]; exact h.lt k hG, h.lo, by simpa using h.n480⟩
  · by_cases e : i = j
    · subst e
      rw [List.getElem?_set_self hil] at hj
      obtain rfl := Option.some.inj hj
      exact h.vL i b hi
    · rw [List.getElem?_set_ne e] at hj
      exact h.vL j b' hj
  · by_cases e : i = j
    · subst e
      rw [List.getElem?_set_self hil] at hj
      obtain rfl := Option.some.inj hj
      exact ⟨_, Array.getElem?_setIfInBounds_self_of_lt hiC, Kd.R_nil _ _ _ _ _⟩
    · rw [List.getElem?_set_ne e] at hj
      obtain ⟨v, hv, hr⟩ := h.vO j b' hj
      refine ⟨v, by rw [Array.getElem?_setIfInBounds_ne e]; exact hv, strR_reok (Kd.R_step (strR_reok hr (ok' := fun k => k ≠ gO) (fun k hk e2 => Kd.R_ne hr h.hO (by decide) (by rw [hk, e2]))) (fun k ho hk => far k ho)) hr.1⟩
  · have hj' : j < s.bs.length := by simpa using hj
    have hk' : k < s.bs.length := by simpa using hk
    by_cases e : i = j
    · subst e
      rw [Array.getElem?_setIfInBounds_self_of_lt hiC] at hvj
      obtain rfl := Option.some.inj hvj
      simp [Value.ownBlock] at hm
    · rw [Array.getElem?_setIfInBounds_ne e] at hvj
      by_cases e2 : i = k
      · subst e2
        rw [Array.getElem?_setIfInBounds_self_of_lt hiC] at hvk
        obtain rfl := Option.some.inj hvk
        simp [Value.ownBlock]
      · rw [Array.getElem?_setIfInBounds_ne e2] at hvk
        exact h.ne j k vj vk hjk hj' hk' hvj hvk m hm
/-- A text is made to last. -/
theorem RDx.lasts (h : RDx w G g gL gO cL cO CL CO s) {i : Nat} {b : Blk} (hi : s.bs[i]? = some b) (x : List Int) : RDx (w.setCell ⟨gL, i, none⟩ (.string (str x))) G g gL gO cL cO (CL.setIfInBounds i (.string (str x))) CO ⟨s.off, s.left, s.bs.set i ⟨x, b.opn⟩⟩ := by
  have far : ∀ k, k ≠ gL → (w.setCell ⟨gL, i, none⟩ (.string (str x))).heap[k]? = w.heap[k]? := fun k hk => heap_setCell_other _ _ k _ hk
  have hil : i < s.bs.length := (List.getElem?_eq_some_iff.1 hi).1
  have hiC : i < CL.size := (Array.getElem?_eq_some_iff.1 (h.vL i b hi)).1
  refine ⟨by rw [far g h.gL_ne]; simpa using h.hg, blk_set h.hL i _, fun j b' hj => ?_, (far gO (fun e => h.LO_ne e.symm)).trans h.hO, fun j b' hj => ?_, fun j k vj vk hjk hj hk => h.ne j k vj vk hjk (by simpa using hj) (by simpa using hk), h.fg, h.fL, h.fO, fun k hG => by rw [World.size_setCell]; exact h.lt k hG, h.lo, by simpa using h.n480⟩
  · by_cases e : i = j
    · subst e
      rw [List.getElem?_set_self hil] at hj
      obtain rfl := Option.some.inj hj
      exact Array.getElem?_setIfInBounds_self_of_lt hiC
    · rw [List.getElem?_set_ne e] at hj
      rw [Array.getElem?_setIfInBounds_ne e]
      exact h.vL j b' hj
  · have key : ∃ b0, s.bs[j]? = some b0 ∧ b0.opn = b'.opn := by
      by_cases e : i = j
      · subst e
        rw [List.getElem?_set_self hil] at hj
        obtain rfl := Option.some.inj hj
        exact ⟨b, hi, rfl⟩
      · rw [List.getElem?_set_ne e] at hj
        exact ⟨b', hj, rfl⟩
    obtain ⟨b0, hb0, e0⟩ := key
    obtain ⟨v, hv, hr⟩ := h.vO j b0 hb0
    rw [e0] at hr
    exact ⟨v, hv, strR_reok (Kd.R_step hr (fun k ho hk => far k ho.2)) hr.1⟩
/-- The state behind a step, its blocks left unsaid. -/
def RD (w : World) (G : Nat → Prop) (g : Nat) (s : DS) : Prop := ∃ gL gO cL cO CL CO, RDx w G g gL gO cL cO CL CO s
set_option maxHeartbeats 1000000 in
theorem rkeep_calls (h : RDx w G g gL gO cL cO CL CO s) {i : Nat} {b : Blk} (hi : s.bs[i]? = some b) (n : Int) (hn : b.opn.length ≤ 2199023255551) : Calls Try.prog 27 #[.pointer (some ⟨g, 0, none⟩), .int .i64 (i : Int), .int .i64 n] w fun e w' => e = .returned (.tuple #[]) ∧ (∃ CL' CO', RDx w' G g gL gO cL cO CL' CO' ⟨s.off, s.left, s.bs.set i (keepB b n)⟩) ∧ Ch w w' G G := by
  have hil : i < s.bs.length := (List.getElem?_eq_some_iff.1 hi).1
  have c0 := blk_cell h.hg 0
  have c1 := blk_cell h.hg 1
  obtain ⟨v, hv, hr⟩ := h.vO i b hi
  obtain ⟨Av, cv, rfl⟩ := Kd.R_slice hr
  have hC := (Kd.R_reads' hr).2.2
  have hLen : (b.opn.map str).length = b.opn.length := List.length_map ..
  obtain ⟨q, hq⟩ : ∃ q, b.opn.length = q := ⟨_, rfl⟩
  rw [hLen, hq] at hv
  have n480 := h.n480
  obtain ⟨N, hN⟩ : ∃ N, s.bs.length = N := ⟨_, rfl⟩
  rw [hN] at c0 c1 hil n480
  have cO_ := (blk_cell h.hO i).trans hv
  have cL_ := (blk_cell h.hL i).trans (h.vL i b hi)
  have fO_ := blk_frozen h.hO i
  have fL_ := blk_frozen h.hL i
  have lO_ := blk_lt h.hO
  have lL_ := blk_lt h.hL
  have hi0 : (0 : Int) ≤ (i : Int) := by omega
  have ne1 := h.gL_ne
  have ne2 := h.gO_ne
  have ne3 := h.LO_ne
  have ne4 := h.gL_ne.symm
  have ne5 := h.gO_ne.symm
  have ne6 := h.LO_ne.symm
  have hiN : (i : Int) < (N : Int) := by omega
  have H := Aside0.mk h
  have HI := Aside0.mk hi
  have HC := Aside0.mk hC
  have HQ := Aside0.mk hq
  rw [hq] at hn
  clear h hi hr hC hLen hv hq hN
  have hno : ∀ {W : World}, keepN b n = 0 → w = W → (∃ CL' CO', RDx (W.setCell ⟨gO, i, none⟩ (.slice none 0 0)) G g gL gO cL cO CL' CO' ⟨s.off, s.left, s.bs.set i (keepB b n)⟩) ∧ Ch w (W.setCell ⟨gO, i, none⟩ (.slice none 0 0)) G G := by
    intro W h0 hW
    subst hW
    have e : keepB b n = ⟨b.last, []⟩ := by unfold keepB; rw [if_pos h0]
    rw [e]
    exact ⟨⟨_, _, H.out.nilled HI.out⟩, ⟨rfl, rfl, rfl, by rw [World.size_setCell]; exact Nat.le_refl _, fun k _ hG => heap_setCell_other _ _ k _ (fun e => hG (by have e2 : k = gO := e; exact e2 ▸ H.out.fO)), fun k hk => .inl hk⟩⟩
  have HNO := Aside0.mk @hno
  clear hno
  have hyes : ∀ {p : Nat}, keepN b n = p + 1 → (∃ CL' CO', RDx ((w.drew.setCell ⟨gL, i, none⟩ (.string (str (b.opn.getD p [])))).setCell ⟨gO, i, none⟩ (.slice none 0 0)) G g gL gO cL cO CL' CO' ⟨s.off, s.left, s.bs.set i (keepB b n)⟩) ∧ Ch w ((w.drew.setCell ⟨gL, i, none⟩ (.string (str (b.opn.getD p [])))).setCell ⟨gO, i, none⟩ (.slice none 0 0)) G G := by
    intro p h0
    have e : keepB b n = ⟨b.opn.getD p [], []⟩ := by unfold keepB; rw [if_neg (by omega), h0]; rfl
    have hil2 : i < s.bs.length := (List.getElem?_eq_some_iff.1 HI.out).1
    have h1 := (H.out.kept (w1 := w.drew) (fun _ _ => rfl) (Nat.le_refl _)).lasts HI.out (b.opn.getD p [])
    have h2 := h1.nilled (i := i) (b := ⟨b.opn.getD p [], b.opn⟩) (List.getElem?_set_self hil2)
    rw [e]
    refine ⟨⟨_, _, by simpa only [List.set_set] using h2⟩, ⟨rfl, rfl, rfl, by rw [World.size_setCell, World.size_setCell]; exact Nat.le_refl _, fun k _ hG => ?_, fun k hk => .inl hk⟩⟩
    rw [heap_setCell_other _ _ k _ (fun e => hG (by have e2 : k = gO := e; exact e2 ▸ H.out.fO)), heap_setCell_other _ _ k _ (fun e => hG (by have e2 : k = gL := e; exact e2 ▸ H.out.fL))]
    rfl
  have HYES := Aside0.mk @hyes
  have htx : ∀ p : Nat, p < b.opn.length → ∃ ad, Av = some ad ∧ w.cell? (ad.add p) = some (.string (str (b.opn.getD p []))) := fun p hp => at_text HC.out (by
    rw [List.getElem?_map, List.getElem?_eq_getElem hp, List.getD_eq_getElem?_getD, List.getElem?_eq_getElem hp]; rfl)
  have HTX := Aside0.mk htx
  clear hyes htx
  by_cases h1 : (q : Int) < n
  · have b1 : decide ((q : Int) < n) = true := decide_eq_true h1
    by_cases h2 : 0 < q
    · obtain ⟨ad, e, hc⟩ := HTX.out (q - 1) (by rw [HQ.out]; omega)
      subst e
      have hk : keepN b n = (q - 1) + 1 := by unfold keepN; rw [HQ.out]; omega
      have HK := Aside0.mk hk
      obtain ⟨sx, hsx⟩ : ∃ sx, str (b.opn.getD (q - 1) []) = sx := ⟨_, rfl⟩
      have HSX := Aside0.mk hsx
      rw [hsx] at hc
      have hcI : w.cell? (ad.add ((q : Int) - 1).toNat) = some (.string sx) := by rw [show ((q : Int) - 1).toNat = q - 1 by omega]; exact hc
      have b2 : decide (0 < q) = true := decide_eq_true h2
      have b3 : decide (0 < (q : Int)) = true := decide_eq_true (by omega)
      have hq0 : 0 ≤ (q : Int) - 1 := by omega
      have hq1 : (1 : Int) ≤ (q : Int) := by omega
      have hqL : (q : Int) - 1 < (q : Int) := by omega
      have hwr : IntKind.i64.wrap ((q : Int) - 1) = (q : Int) - 1 := (i64_w _).trans (by unfold wrap64; omega)
      clear hk hsx
      go_enter Try.func27, Try.ntmps27
      go_wp2_with fail
      go_still_tail 17, (by kernel_rfl)
      go_wp2_with fail
      go_end0
      have hf := HYES.out HK.out
      rw [HSX.out] at hf
      exact ⟨rfl, hf⟩
    · obtain rfl : q = 0 := by omega
      have hk : keepN b n = 0 := by unfold keepN; rw [HQ.out]; omega
      have HK := Aside0.mk hk
      clear hk
      go_enter Try.func27, Try.ntmps27
      go_wp2_with fail
      go_end0
      exact ⟨rfl, HNO.out HK.out rfl⟩
  · have b1 : decide ((q : Int) < n) = false := decide_eq_false h1
    by_cases h2 : 0 < n
    · have b2 : decide (0 < n) = true := decide_eq_true h2
      obtain ⟨ad, e, hc⟩ := HTX.out (n - 1).toNat (by rw [HQ.out]; omega)
      subst e
      have hk : keepN b n = (n - 1).toNat + 1 := by unfold keepN; rw [HQ.out]; omega
      have HK := Aside0.mk hk
      obtain ⟨sx, hsx⟩ : ∃ sx, str (b.opn.getD (n - 1).toNat []) = sx := ⟨_, rfl⟩
      have HSX := Aside0.mk hsx
      rw [hsx] at hc
      have hq0 : 0 ≤ n - 1 := by omega
      have hq1 : 1 ≤ n := by omega
      have hqL : n - 1 < (q : Int) := by omega
      have hqM : n ≤ (q : Int) := by omega
      have hcJ : w.cell? (ad.add (n.toNat - 1)) = some (.string sx) := by rw [show n.toNat - 1 = (n - 1).toNat by omega]; exact hc
      have hwr : IntKind.i64.wrap (n - 1) = n - 1 := (i64_w _).trans (by unfold wrap64; omega)
      clear hk hsx
      go_enter Try.func27, Try.ntmps27
      go_wp2_with fail
      go_still_tail 17, (by kernel_rfl)
      go_wp2_with fail
      go_end0
      have hf := HYES.out HK.out
      rw [HSX.out] at hf
      exact ⟨rfl, hf⟩
    · have b2 : decide (0 < n) = false := decide_eq_false h2
      have hk : keepN b n = 0 := by unfold keepN; omega
      have HK := Aside0.mk hk
      clear hk
      go_enter Try.func27, Try.ntmps27
      go_wp2_with fail
      go_end0
      exact ⟨rfl, HNO.out HK.out rfl⟩
end
end Go.Proofs.Ytiengbimednonaa.Disk
