/- For all worlds: what gives blocks out: reserve. Conditions: the blocks lie as the state says. -/
import Derived.Test.YtbdbjlfdnijfeaaTree6
namespace Go.Proofs.Ytbdbjlfdnijfeaa.Tree
open Go Go.RowKit Go.Maps Go.Proofs.YtbdbjlfdnijfeaaW.PrintWords Go.Proofs.YtbdbjlfdnijfeaaW.PrintLast Go.Proofs.YtbdbjlfdnijfeaaW.PrintMore
set_option linter.unusedVariables false
set_option linter.unusedSimpArgs false
/-- A block that is to lie somewhere. -/
structure Wr where
  tgt : Int
  data : List Int
def zW : Wr := ⟨0, []⟩
def kW : Kd Wr := Kd.iso (Kd.pair I (Kd.slice 5 U)) (fun x : Wr => (x.tgt, x.data))
theorem kW_open {w : World} {x : Wr} {cs : List Value} (h : kW.K w x cs) : ∃ A1 c1, cs = [.int .i64 x.tgt, .slice A1 x.data.length c1] ∧ x.data.length ≤ c1 ∧ U.C w A1 x.data.length x.data := by
  obtain ⟨_, _, rfl, rfl, ⟨A1, c1, rfl, l1, g1⟩⟩ := h
  exact ⟨A1, c1, rfl, l1, g1⟩
theorem kW_openM {w : World} {base : Nat} {ok : Nat → Prop} {x : Wr} {cs : List Value} (h : kW.M w base ok x cs) : ∃ v1, cs = [.int .i64 x.tgt, v1] ∧ U.R 5 w base ok v1 x.data := by
  obtain ⟨_, _, rfl, rfl, ⟨v1, rfl, g1⟩⟩ := h
  exact ⟨v1, rfl, g1⟩
theorem kW_mkM (w : World) (base : Nat) (ok : Nat → Prop) (x : Wr) {v1 : Value} (g1 : U.R 5 w base ok v1 x.data) : kW.M w base ok x [.int .i64 x.tgt, v1] := ⟨[.int .i64 x.tgt], [v1], rfl, rfl, ⟨v1, rfl, g1⟩⟩
theorem infoW : (Try.prog.info? 59).map (fun i => (i.zero, i.size, i.bytes)) = some (some (.agg #[.int .i64 0, .slice none 0 0]), 2, 32) := by kernel_rfl
/-- What gives blocks out: its struct at block m, the fresh blocks' list, the row of what was given out. -/
structure Mk (w0 w : World) (m : Nat) (A0 : Option Addr) (c0 : Nat) (fr : List Int) (vw : Value) (ws : List Wr) : Prop where
  hm : w.heap[m]? = some (.cells #[.slice A0 fr.length c0, vw] 51 (0, 0))
  hw : kW.R 59 w w0.heap.size (fun _ => True) vw ws
  hf : I.C w0 A0 fr.length fr
  bl : Below w0.heap.size w0 w
  bm : w0.heap.size ≤ m
/-- The frame of a step: blocks m and o alone are turned. -/
structure Fr (w w' : World) (m : Nat) (o : Option Nat) : Prop where
  os : w'.os = w.os
  tape : w'.tape = w.tape
  output : w'.output = w.output
  size : w.heap.size ≤ w'.heap.size
  far : ∀ k, k < w.heap.size → k ≠ m → some k ≠ o → w'.heap[k]? = w.heap[k]?
theorem Fr.refl (w : World) (m : Nat) (o : Option Nat) : Fr w w m o := ⟨rfl, rfl, rfl, Nat.le_refl _, fun _ _ _ _ => rfl⟩
/-- A block of another type stays. -/
theorem Fr.blk {w0 w w' : World} {m k : Nat} {A0 : Option Addr} {c0 : Nat} {fr : List Int} {vw : Value} {ws : List Wr} {cs : Array Value} {t : TypeId} (h : Mk w0 w m A0 c0 fr vw ws) (f : Fr w w' m vw.ownBlock) (hk : w.heap[k]? = some (.cells cs t (0, 0))) (h1 : t ≠ 51) (h2 : t ≠ 59) : w'.heap[k]? = some (.cells cs t (0, 0)) :=
  (f.far k (blk_lt hk) (blk_ne hk h.hm h1) (Kd.R_ne h.hw hk (Ne.symm h2))).trans hk
/-- A row of numbers of the call's own stays. -/
theorem Fr.row {w0 w w' : World} {m : Nat} {A0 : Option Addr} {c0 : Nat} {fr : List Int} {vw : Value} {ws : List Wr} {base : Nat} {ok : Nat → Prop} {v : Value} {l : List Int} (h : Mk w0 w m A0 c0 fr vw ws) (f : Fr w w' m vw.ownBlock) (hr : I.R 3 w base ok v l) : I.R 3 w' base ok v l := by
  have h1 := Kd.R_types hr h.hm (by decide)
  refine Kd.R_mono (Kd.R_step (ok := fun k => (ok k ∧ k ≠ m) ∧ some k ≠ vw.ownBlock) ?_ (fun k ho hk => f.far k hk ho.1.2 ho.2)) (fun k hk => hk.1.1)
  refine Kd.R_mono (Kd.R_bound h1) (fun k hk => ⟨hk.1, fun e => ?_⟩)
  obtain ⟨_, _, _, q, hq, cells, hc⟩ := hk
  have h2 := Kd.R_ne h.hw hc (by
    intro e2
    have : q = 3 := by simpa [I, Kd.int, Kd.scalar] using hq
    rw [this] at e2
    exact absurd e2 (by decide))
  exact h2 e
theorem wr_M (w : World) (base : Nat) (ok : Nat → Prop) (p : Int) : kW.M w base ok ⟨p, []⟩ [.int .i64 p, .slice none 0 0] := kW_mkM w base ok ⟨p, []⟩ (Kd.R_nil _ _ _ _ _)
section
variable {w0 w : World} {m : Nat} {A0 : Option Addr} {c0 : Nat} {fr : List Int} {vw : Value} {ws : List Wr}
theorem reserve_no (w : World) (p : Value) (h : ∃ a, p = .pointer a) : Calls Try.prog 25 #[p, .bool false] w fun e w' => e = .returned (.int .i64 0) ∧ w = w' := by
  obtain ⟨a, rfl⟩ := h
  go_enter Try.func25, Try.ntmps25
  go_wp2_with fail
  go_ret
  exact ⟨rfl, rfl⟩
set_option maxHeartbeats 1000000 in
theorem reserve_yes (h : Mk w0 w m A0 c0 fr vw ws) {p : Int} (hp : fr[ws.length]? = some p) (hl : ws.length ≤ 1000) : Calls Try.prog 25 #[.pointer (some ⟨m, 0, none⟩), .bool true] w fun e w' => e = .returned (.int .i64 p) ∧ ∃ vw', Mk w0 w' m A0 c0 fr vw' (ws ++ [⟨p, []⟩]) ∧ Fr w w' m vw.ownBlock := by
  obtain ⟨Aw, cw, rfl⟩ := Kd.R_slice h.hw
  obtain ⟨k, hk⟩ : ∃ k, ws.length = k := ⟨_, rfl⟩
  obtain ⟨n, hn⟩ : ∃ n, fr.length = n := ⟨_, rfl⟩
  have hkn : k < n := by rw [← hk, ← hn]; exact (List.getElem?_eq_some_iff.1 hp).1
  obtain ⟨ad, e, hc⟩ := at_i h.hf hp
  subst e
  have hc := pw_cell_below h.bl hc
  have q0 := blk_cell h.hm 0
  have q1 := blk_cell h.hm 1
  have H := Aside0.mk h
  have HK := Aside0.mk hk
  have HN := Aside0.mk hn
  rw [hk] at hc hl q1
  rw [hn] at q0
  have hO := h.hw
  have hB := h.bl
  rw [hk] at hO
  have HO := Aside0.mk hO
  have HB := Aside0.mk hB
  have hkz : (0 : Int) ≤ (k : Int) := by omega
  have hkni : (k : Int) < (n : Int) := by omega
  have HL := Aside0.mk hl
  have HLEN : Aside0 ((ws ++ [(⟨p, []⟩ : Wr)]).length = ws.length + 1) := ⟨List.length_append⟩
  rw [hk]
  clear h hk hn hp hO hB hl
  go_enter Try.func25, Try.ntmps25
  go_wp2_with fail
  go_quiet (fail)
  go_wp2_with ((with_reducible refine gate_builtin (b := .append) (xs := #[.tmp 23, .tmp 26]) rfl ?_); at_builtin; refine Kd.R_append kW (w0 := w0) (W := w.drewN nq) w0.heap.size rfl (.tmp 23) (.tmp 26) 33 59 (.agg #[(.int .i64 0), (.slice none 0 0)]) 32 rfl Try.underlying33 infoW rfl (by decide) (by omega) (.slice Aw k cw) ws ⟨p, []⟩ [.int .i64 p, .slice none 0 0] (fun _ => True) (fun _ => False) rfl ?aX ?aP ?aK ?aF ?aO ?aB ?aS ?aL ?_; (case aX => with_unfolding_all rfl); (case aP => exact wr_M _ _ _ p); (case aK => exact fun k hk => hk.elim); (case aF => exact fun _ _ => trivial); (case aO => exact Kd.R_below HO.out (pw_below_drewN (Below.refl _ _) _)); (case aB => exact pw_below_drewN HB.out _); (case aS => exact HB.out.size); (case aL => have h1_ := HK.out; have h2_ := HL.out; omega); intro v1 w1 ho hb hg hat; obtain ⟨A1, c1, rfl⟩ := Kd.R_slice ho; rw [HLEN.out] at ho; have HO1 := Aside0.mk ho; have HB1 := Aside0.mk hb; have HG1 := Aside0.mk hg; have hm1 := blk_grown (w := w.drewN nq) H.out.hm hg (by rw [← HK.out]; exact Kd.R_ne H.out.hw H.out.hm (by decide)); have HM1 := Aside0.mk hm1; have cm1 := blk_cell hm1 1; have fm1 := blk_frozen hm1 1; clear ho hb hg hat hm1)
  go_ret
  refine ⟨rfl, Value.slice A1 (ws.length + 1) c1, ⟨?_, ?_, H.out.hf, HB1.out.setCell (p := ⟨m, 1, none⟩) H.out.bm _, H.out.bm⟩, ⟨HG1.out.os, HG1.out.tape, HG1.out.output, by rw [World.size_setCell]; exact HG1.out.size, fun j hj hjm hjo => (heap_setCell_other _ _ _ _ hjm).trans (HG1.out.block j hj hjo)⟩⟩
  · exact blk_set HM1.out 1 _
  · have h2 := Kd.R_set HO1.out HM1.out (by decide) 1 (Value.slice A1 (ws.length + 1) c1)
    exact h2
end
end Go.Proofs.Ytbdbjlfdnijfeaa.Tree
