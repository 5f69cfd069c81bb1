/- Package journal: rows that look copies into others: what lies in an elder world, apart from one block. -/
import Derived.Test.YtcihfmehbmficaaJrn14
import Derived.Test.YtcihfmehbmficaaDiskTexts
import Derived.Test.YtcihfmehbmficaaLogRing
namespace Go.Proofs.Ytcihfmehbmficaa.Jrn
open Go Go.RowKit Go.Maps Go.Proofs.YtcihfmehbmficaaW.PrintWords Go.Proofs.YtcihfmehbmficaaW.PrintLast Go.Proofs.YtcihfmehbmficaaW.PrintMore Go.Proofs.Ytcihfmehbmficaa.Disk
set_option linter.unusedVariables false
set_option linter.unusedSimpArgs false
set_option maxRecDepth 100000
abbrev SW := Go.Proofs.Ytcihfmehbmficaa.PAll.S35
abbrev kS : Kd SW := Go.Proofs.Ytcihfmehbmficaa.PAll.k35
/-- Nothing but block gB is other than in w0. -/
structure Kp (w0 W : World) (gB : Nat) : Prop where
  os : W.os = w0.os
  tape : W.tape = w0.tape
  output : W.output = w0.output
  size : w0.heap.size ≤ W.heap.size
  far : ∀ k, k < w0.heap.size → k ≠ gB → W.heap[k]? = w0.heap[k]?
theorem Kp.refl (w : World) (g : Nat) : Kp w w g := ⟨rfl, rfl, rfl, Nat.le_refl _, fun _ _ _ => rfl⟩
theorem Kp.trans {w0 w1 w2 : World} {g : Nat} (h : Kp w0 w1 g) (k : Kp w1 w2 g) : Kp w0 w2 g :=
  ⟨k.os.trans h.os, k.tape.trans h.tape, k.output.trans h.output, Nat.le_trans h.size k.size, fun i hi hn => (k.far i (Nat.lt_of_lt_of_le hi h.size) hn).trans (h.far i hi hn)⟩
theorem Kp.of_below {w w1 : World} (g : Nat) (h : Below w.heap.size w w1) : Kp w w1 g := ⟨h.os, h.tape, h.output, h.size, fun k hk _ => h.block k hk⟩
theorem Kp.of_grown {w w1 : World} {g : Nat} (h : w.grownBy w1 (some g)) : Kp w w1 g := ⟨h.os, h.tape, h.output, h.size, fun k hk hn => h.block k hk (fun e => hn (Option.some.inj e))⟩
theorem Kp.below {w0 w1 : World} {g n : Nat} (h : Kp w0 w1 g) (hg : n ≤ g) (hn : n ≤ w0.heap.size) : Below n w0 w1 := ⟨h.os, h.tape, h.output, h.size, fun k hk => h.far k (Nat.lt_of_lt_of_le hk hn) (fun e => by omega)⟩
theorem Kp.blk {w0 w1 : World} {g k : Nat} {o : Obj} (h : Kp w0 w1 g) (hk : w0.heap[k]? = some o) (hn : k ≠ g) : w1.heap[k]? = some o := (h.far k (by
  have := Array.getElem?_eq_some_iff.1 hk
  exact this.1) hn).trans hk
theorem Kp.cell {w0 w1 : World} {g : Nat} (h : Kp w0 w1 g) {p : Addr} {u : Value} (hc : w0.cell? p = some u) (hl : p.block < w0.heap.size) (hn : p.block ≠ g) : w1.cell? p = some u := by
  rw [← hc]; exact World.cell?_of_block (h.far _ hl hn)
/-- The cells of a row of bytes that can be read at w0, at blocks from lo on, none of them gB. -/
def KZ (w0 : World) (lo gB : Nat) (x : List Int) (cs : List Value) : Prop := ∃ A1 c1, cs = [.slice A1 x.length c1] ∧ x.length ≤ c1 ∧ B.C w0 A1 x.length x ∧ (0 < x.length → ∀ ad1, A1 = some ad1 → lo ≤ ad1.block ∧ ad1.block < w0.heap.size ∧ ad1.block ≠ gB)
def kZ (w0 : World) (lo gB : Nat) : Kd (List Int) where
  sz := 1
  E := []
  K := fun _ x cs => KZ w0 lo gB x cs
  M := fun _ _ _ x cs => KZ w0 lo gB x cs
  K_len := fun h => by obtain ⟨_, _, rfl, _⟩ := h; rfl
  K_one := fun h => by
    obtain ⟨_, _, rfl, _⟩ := h
    intro u hu
    rw [List.mem_singleton.1 hu]; rfl
  K_below := fun _ h => h
  K_of_M := fun h => h
  M_mono := fun _ h => h
  M_bound := fun h => h
  M_move := fun _ h => h
  M_lower := fun _ h => h
theorem KZ_of_R {w : World} {base gB : Nat} {ok : Nat → Prop} {v : Value} {x : List Int} (h : B.R 5 w base (fun k => ok k ∧ k ≠ gB) v x) : KZ w base gB x [v] := by
  obtain ⟨A, c, rfl⟩ := Kd.R_slice h
  have hr := Kd.R_reads' h
  refine ⟨A, c, rfl, hr.2.1, hr.2.2, fun h0 ad e => ?_⟩
  subst e
  have ho : (Value.slice (some ad) x.length c).ownBlock = some ad.block := by
    obtain ⟨g, cap, e2, _⟩ := Kd.R_form h h0
    injection e2 with e3 _ _
    obtain rfl := Option.some.inj e3
    simp [Value.ownBlock]
  exact ⟨Kd.R_base h _ ho, Kd.R_lt h _ ho, (h.1 _ ho).2⟩
theorem kZ_of_kY {w : World} {base gB n c : Nat} {L : List (List Int)} (h : kY.R 23 w base (fun _ => True) (.slice (some ⟨gB, 0, none⟩) n c) L) (h0 : 0 < n) : (kZ w base gB).R 23 w base (fun _ => True) (.slice (some ⟨gB, 0, none⟩) n c) L := by
  obtain ⟨h1, inner, ho, hr⟩ := h
  refine ⟨fun _ _ => trivial, inner, ho, hr.imp_ (fun x cs hp => ?_)⟩
  obtain ⟨v, rfl, hv⟩ := hp
  exact KZ_of_R (ok := fun _ => True) (Kd.R_mono hv (fun k hk => ⟨trivial, fun e => hk.2 (by rw [e]; simp [Value.ownBlock])⟩))
/-- Transactions, as Find hands them back, read where they lie. -/
theorem tx_at {w : World} {base gB n c : Nat} {cells : Array Value} {A : Option Addr} {r1 : List (List SW)} (h : (Kd.slice 35 kS).R 42 w base (fun _ => True) (.slice A n c) r1) (hgB : w.heap[gB]? = some (.cells cells 23 (0, 0))) {i : Nat} {tx : List SW} (hi : r1[i]? = some tx) :
    ∃ g13 Ai ci, A = some ⟨g13, 0, none⟩ ∧ g13 ≠ gB ∧ g13 < w.heap.size ∧ w.cell? ⟨g13, i, none⟩ = some (.slice Ai tx.length ci) ∧ ∀ (j : Nat) (x : SW), tx[j]? = some x → ∃ gi A1 c1, Ai = some ⟨gi, 0, none⟩ ∧ gi ≠ gB ∧ gi < w.heap.size ∧ w.cell? ⟨gi, j * 2, none⟩ = some (.int .i64 x.f0) ∧ w.cell? ⟨gi, j * 2 + 1, none⟩ = some (.slice A1 x.f1.length c1) ∧ KZ w base gB x.f1 [.slice A1 x.f1.length c1] := by
  have h := Kd.R_types h hgB (by decide)
  have hn := (Kd.R_reads' h).1
  have hil : i < r1.length := (List.getElem?_eq_some_iff.1 hi).1
  obtain ⟨g13, cap, e, hb, hg, _⟩ := Kd.R_form h (by omega)
  injection e with e1 _ e3
  subst e1; subst e3
  obtain ⟨cs, _, hM, hc⟩ := Kd.R_get h [] (i : Int) (by omega) (by omega)
  have hx : r1.getD ((i : Int)).toNat [] = tx := by rw [Int.toNat_natCast, List.getD_eq_getElem?_getD, hi]; rfl
  rw [hx] at hM
  obtain ⟨v, rfl, hv⟩ := hM
  obtain ⟨Ai, ci, rfl⟩ := Kd.R_slice hv
  have hc0 := hc 0 _ rfl
  rw [Int.toNat_natCast, Addr.add_mid] at hc0
  have hc1 : w.cell? ⟨g13, i, none⟩ = some (.slice Ai tx.length ci) := by
    rw [show i = 0 + (i * (Kd.slice 35 kS).sz + 0) by show i = 0 + (i * 1 + 0); omega]; exact hc0
  refine ⟨g13, Ai, ci, rfl, (h.1 g13 (by simp [Value.ownBlock])).2, hg, hc1, fun j x hj => ?_⟩
  have hn2 := (Kd.R_reads' hv).1
  have hjl : j < tx.length := (List.getElem?_eq_some_iff.1 hj).1
  obtain ⟨gi, cap2, e4, hbi, hgi, _⟩ := Kd.R_form hv (by omega)
  injection e4 with e5 _ e6
  subst e5; subst e6
  obtain ⟨cs2, _, hM2, hcc⟩ := Kd.R_get hv Go.Proofs.Ytcihfmehbmficaa.PAll.z35 (j : Int) (by omega) (by omega)
  have hx2 : tx.getD ((j : Int)).toNat Go.Proofs.Ytcihfmehbmficaa.PAll.z35 = x := by rw [Int.toNat_natCast, List.getD_eq_getElem?_getD, hj]; rfl
  rw [hx2] at hM2
  obtain ⟨v1, rfl, hR1⟩ := Go.Proofs.Ytcihfmehbmficaa.PAll.k35_openM hM2
  obtain ⟨A1, c1, rfl⟩ := Kd.R_slice hR1
  have ca := hcc 0 _ rfl
  have cb := hcc 1 _ rfl
  rw [Int.toNat_natCast, Addr.add_mid] at ca cb
  have ca2 : w.cell? ⟨gi, j * 2, none⟩ = some (.int .i64 x.f0) := by rw [show j * 2 = 0 + (j * kS.sz + 0) by show j * 2 = 0 + (j * 2 + 0); omega]; exact ca
  have cb2 : w.cell? ⟨gi, j * 2 + 1, none⟩ = some (.slice A1 x.f1.length c1) := by rw [show j * 2 + 1 = 0 + (j * kS.sz + 1) by show j * 2 + 1 = 0 + (j * 2 + 1); omega]; exact cb
  exact ⟨gi, A1, c1, rfl, (hv.1 gi (by simp [Value.ownBlock])).1.2, hgi, ca2, cb2, KZ_of_R (ok := fun _ => True) (Kd.R_mono hR1 (fun k hk => ⟨trivial, hk.1.1.2⟩))⟩
/-- What writes make of blocks of bytes. -/
def setAll : List (List Int) → List SW → List (List Int)
  | L, [] => L
  | L, x :: xs => setAll (L.set x.f0.toNat x.f1) xs
theorem setAll_append : ∀ (a b : List SW) (L : List (List Int)), setAll L (a ++ b) = setAll (setAll L a) b
  | [], _, _ => rfl
  | x :: xs, b, L => setAll_append xs b (L.set x.f0.toNat x.f1)
theorem setAll_length : ∀ (a : List SW) (L : List (List Int)), (setAll L a).length = L.length
  | [], _ => rfl
  | x :: xs, L => by show (setAll (L.set x.f0.toNat x.f1) xs).length = _; rw [setAll_length xs, List.length_set]
def cv (x : SW) : Wr := ⟨x.f0, x.f1⟩
theorem head_put (W : World) (b4 : Nat) (a q a2 q2 : Int) (hb : W.heap[b4]? = some (.cells #[.int .i64 a, .int .i64 q] 46 (0, 0))) : ∃ w1, (Instr.storeAt 46 (.pointer (some ⟨b4, 0, none⟩)) (.agg #[.int .i64 a2, .int .i64 q2])).run Try.prog W = .ok () w1 ∧ w1.heap[b4]? = some (.cells #[.int .i64 a2, .int .i64 q2] 46 (0, 0)) ∧ W.grownBy w1 (some b4) := by
  obtain ⟨w1, h1, h2, h3, _⟩ := Whole.run_store (P := Try.prog) (w := W) 46 b4 0 46 #[.int .i64 a, .int .i64 q] #[.int .i64 a2, .int .i64 q2] #[.int .i64 a2, .int .i64 q2] hb (Nat.le_refl _) infoH (fun v hv => by simp only [List.mem_cons, List.not_mem_nil, or_false] at hv; rcases hv with rfl | rfl <;> rfl) rfl
  exact ⟨w1, h1, h2, h3⟩
/-- look under way: what its blocks hold behind the writes D, and the writes told so far. -/
structure Lk (w w14 W : World) (gB k cB : Nat) (L : List (List Int)) (vw : Value) (D : List SW) : Prop where
  kp : Kp w14 W gB
  row : (kZ w14 w.heap.size gB).R 23 W w.heap.size (fun _ => True) (.slice (some ⟨gB, 0, none⟩) k cB) (setAll L D)
  wr : (kV w14 (fun x => x = gB ∨ x < w.heap.size)).R 35 W w14.heap.size (fun _ => True) vw (D.map cv)
theorem R_ne' {α : Type} {d : Kd α} {e : Nat} {w : World} {base : Nat} {ok : Nat → Prop} {v : Value} {xs : List α} {g t : Nat} {cells : Array Value} (h : d.R e w base ok v xs) (hb : w.heap[g]? = some (.cells cells t (0, 0))) (ht : e ≠ t) : some g ≠ v.ownBlock := Kd.R_ne h hb ht
section
variable {w w14 W W1 : World} {gB k cB : Nat} {L : List (List Int)} {vw : Value} {D : List SW}
theorem Lk.below (h : Lk w w14 W gB k cB L vw D) (hb : Below W.heap.size W W1) : Lk w w14 W1 gB k cB L vw D := ⟨h.kp.trans (Kp.of_below gB hb), Kd.R_below h.row hb, Kd.R_below h.wr hb⟩
theorem Lk.cells (h : Lk w w14 W gB k cB L vw D) (hk : 0 < k) : ∃ C, W.heap[gB]? = some (.cells C 23 (0, 0)) := by
  have hn := (Kd.R_reads' h.row).1
  obtain ⟨g, c, e, _, _, C, hC⟩ := Kd.R_form h.row (by omega)
  injection e with e1 _ _
  obtain rfl := (Addr.mk.inj (Option.some.inj e1)).1
  exact ⟨C, hC⟩
/-- A block's bytes are others. -/
theorem Lk.store (h : Lk w w14 W gB k cB L vw D) {x : SW} {p : Nat} {v : Value} (hp : x.f0 = (p : Int)) (hpk : p < k) (hz : KZ w14 w.heap.size gB x.f1 [v]) (hgB : w14.heap.size ≤ w14.heap.size) :
    (∃ u, W.cell? ⟨gB, p, none⟩ = some u) ∧ W.frozen? ⟨gB, p, none⟩ = false ∧ Kp w14 (W.setCell ⟨gB, p, none⟩ v) gB ∧ (kZ w14 w.heap.size gB).R 23 (W.setCell ⟨gB, p, none⟩ v) w.heap.size (fun _ => True) (.slice (some ⟨gB, 0, none⟩) k cB) (setAll L (D ++ [x])) ∧ (kV w14 (fun x => x = gB ∨ x < w.heap.size)).R 35 (W.setCell ⟨gB, p, none⟩ v) w14.heap.size (fun _ => True) vw (D.map cv) := by
  obtain ⟨C, hC⟩ := h.cells (by omega)
  obtain ⟨c, hcl, hM, hcc, hfz⟩ := Kd.R_elem h.row [] (p : Int) (by omega) (by omega)
  obtain ⟨A1, c1, rfl, _⟩ := hM
  rw [Int.toNat_natCast] at hcc hfz
  have h0 := hcc 0 _ rfl
  have f0 := hfz 0
  have e1 : p * (kZ w14 w.heap.size gB).sz + 0 = p := by show p * 1 + 0 = p; omega
  rw [e1] at h0 f0
  obtain ⟨r1, r2⟩ := Kd.R_seg h.row (p : Int) (by omega) (by omega) hcl (by rw [Int.toNat_natCast]; exact hcc) (j := 0) (seg := [v]) (Nat.le_refl 1) (x' := x.f1) (okp := fun j => j ≠ gB) hz (fun j hj => ⟨trivial, hj⟩)
  rw [Int.toNat_natCast] at r1 r2
  have e2 : W.setCells gB (p * (kZ w14 w.heap.size gB).sz + 0) [v] = W.setCell ⟨gB, p, none⟩ v := by
    rw [e1]; rfl
  rw [e2] at r1 r2
  have e3 : setAll L (D ++ [x]) = (setAll L D).set p x.f1 := by
    rw [setAll_append]
    show (setAll L D).set x.f0.toNat x.f1 = _
    rw [hp, Int.toNat_natCast]
  refine ⟨⟨_, h0⟩, f0, h.kp.trans (Kp.of_grown r2), by rw [e3]; exact r1, ?_⟩
  refine Kd.R_step (Kd.R_mono (Kd.R_types h.wr hC (fun q hq => by
    have hq' : q ∈ [35] := hq
    obtain rfl := List.mem_singleton.1 hq'
    decide)) (fun _ hk => hk)) (fun k ho hk => r2.block k hk (fun e => ho.2 (Option.some.inj e))) |> fun h => Kd.R_mono h (fun _ _ => trivial)
end
/-- What was appended to the writes. -/
theorem Lk.app {w w14 W2 w8 : World} {gB k cB : Nat} {L : List (List Int)} {v8 : Value} {D : List SW} {x : SW} (hk : Kp w14 W2 gB) (hr : (kZ w14 w.heap.size gB).R 23 W2 w.heap.size (fun _ => True) (.slice (some ⟨gB, 0, none⟩) k cB) (setAll L (D ++ [x]))) (hgl : gB < w14.heap.size) (hb : Below w14.heap.size W2 w8) (ho : (kV w14 (fun x => x = gB ∨ x < w.heap.size)).R 35 w8 w14.heap.size (fun _ => True) v8 (D.map cv ++ [cv x])) : Lk w w14 w8 gB k cB L v8 (D ++ [x]) := by
  refine ⟨⟨hb.os.trans hk.os, hb.tape.trans hk.tape, hb.output.trans hk.output, Nat.le_trans hk.size hb.size, fun i hi hn => (hb.block i hi).trans (hk.far i hi hn)⟩, ?_, by rw [List.map_append]; exact ho⟩
  have h1 : (kZ w14 w.heap.size gB).R 23 W2 w.heap.size (fun q => q = gB) (.slice (some ⟨gB, 0, none⟩) k cB) (setAll L (D ++ [x])) := ⟨fun q hq => by
    simp only [Value.ownBlock] at hq
    exact (Option.some.inj hq).symm, hr.2⟩
  exact Kd.R_mono (Kd.R_step h1 (fun q hq _ => by rw [hq]; exact hb.block gB hgl)) (fun _ _ => trivial)
theorem KZ.toV {w0 : World} {lo gB : Nat} {x : SW} {A1 : Option Addr} {c1 : Nat} (h : KZ w0 lo gB x.f1 [.slice A1 x.f1.length c1]) : KV w0 (fun y => y = gB ∨ y < lo) (cv x) [.int .i64 x.f0, .slice A1 x.f1.length c1] := by
  obtain ⟨A2, c2, e, hl, hC, hA⟩ := h
  injection e with e1 _
  injection e1 with e2 _ e3
  subst e2; subst e3
  exact ⟨A1, c1, rfl, hl, hC, fun h0 ad1 e4 => ⟨(hA h0 ad1 e4).2.1, fun hN => by
    have := hA h0 ad1 e4
    rcases hN with h | h <;> omega⟩⟩
/-- The head is written again as it is. -/
theorem Lk.again {w w14 W W1 : World} {gB k cB b4 : Nat} {L : List (List Int)} {vw : Value} {D : List SW} {cs : Array Value} (h : Lk w w14 W gB k cB L vw D) (hb0 : w14.heap[b4]? = some (.cells cs 46 (0, 0))) (hb : W.heap[b4]? = some (.cells cs 46 (0, 0))) (hb1 : W1.heap[b4]? = some (.cells cs 46 (0, 0))) (hg : W.grownBy W1 (some b4)) : Lk w w14 W1 gB k cB L vw D := by
  refine ⟨⟨hg.os.trans h.kp.os, hg.tape.trans h.kp.tape, hg.output.trans h.kp.output, Nat.le_trans h.kp.size hg.size, fun i hi hn => ?_⟩, ?_, ?_⟩
  · by_cases e : i = b4
    · subst e; exact hb1.trans hb0.symm
    · exact (hg.block i (Nat.lt_of_lt_of_le hi h.kp.size) (fun e1 => e (Option.some.inj e1))).trans (h.kp.far i hi hn)
  · exact Kd.R_mono (Kd.R_step (Kd.R_types h.row hb (fun q hq => by
      have hq' : q ∈ [23] := hq
      obtain rfl := List.mem_singleton.1 hq'
      decide)) (fun k ho hk => hg.block k hk (fun e => ho.2 (Option.some.inj e)))) (fun _ _ => trivial)
  · exact R_own h.wr hb (by decide) hg
theorem meas {n p g : Nat} (h1 : p < n) (h2 : n - p ≤ g) : n - (p + 1) < g := by omega
theorem flat_len {α : Type} (l : List (List α)) (m : Nat) {tx : List α} (h : l[m]? = some tx) (p : Nat) : ((l.take m).flatten ++ tx.take p).length ≤ l.flatten.length := by
  have h1 : l.flatten = (l.take (m + 1)).flatten ++ (l.drop (m + 1)).flatten := by rw [← List.flatten_append, List.take_append_drop]
  have h2 : (l.take (m + 1)).flatten = (l.take m).flatten ++ tx := by rw [List.take_add_one, h]; simp
  rw [h1, h2, List.length_append, List.length_append, List.length_append, List.length_take]
  omega
theorem kY_of_kZ {w14 W : World} {lo gB n c base : Nat} {L : List (List Int)} (h : (kZ w14 lo gB).R 23 W base (fun _ => True) (.slice (some ⟨gB, 0, none⟩) n c) L) (hk : Kp w14 W gB) : kY.C W (some ⟨gB, 0, none⟩) n L := by
  have hr := Kd.R_reads' h
  rw [hr.1]
  exact ReadsRow.imp_ hr.2.2 (Below.refl _ _) (fun x cs hp => by
    obtain ⟨A1, c1, rfl, hl, hC, hA⟩ := hp
    exact ⟨A1, c1, rfl, hl, C_far0 hC (fun h0 ad e => hk.far _ (hA h0 ad e).2.1 (hA h0 ad e).2.2)⟩)
theorem RW.of_Vk {w0 W : World} {gB lo : Nat} {ok : Nat → Prop} {n c : Nat} {A : Option Addr} {ws : List Wr} (h : (kV w0 (fun x => x = gB ∨ x < lo)).R 35 W w0.heap.size ok (.slice A n c) ws) (hk : Kp w0 W gB) (hl : lo ≤ w0.heap.size) (F : Nat → Prop) (hF : ∀ k, F k → k < lo) : RW W F A ws := fun i x hi => by
  have hil : i < ws.length := (List.getElem?_eq_some_iff.1 hi).1
  have hn := (Kd.R_reads' h).1
  obtain ⟨g, cap, e, hbg, hg, _⟩ := Kd.R_form h (by omega)
  injection e with e1 _ e3
  subst e1; subst e3
  obtain ⟨cs, _, hM, hc⟩ := Kd.R_get h zW (i : Int) (by omega) (by omega)
  have hx : ws.getD ((i : Int)).toNat zW = x := by rw [Int.toNat_natCast, List.getD_eq_getElem?_getD, hi]; rfl
  rw [hx] at hM
  obtain ⟨A1, c1, rfl, hl1, hC, hA⟩ := hM
  refine ⟨⟨g, 0, Option.none⟩, A1, c1, rfl, hg, fun a => by have := hF g a; omega, hc 0 _ rfl, by rw [← add_field _ _ 1 (by omega)]; exact hc 1 _ rfl, hl1, C_far0 hC (fun h0 ad1 e1 => hk.far _ (hA h0 ad1 e1).1 (fun e => (hA h0 ad1 e1).2 (Or.inl e))), fun h0 ad1 e1 => ⟨Nat.lt_of_lt_of_le (hA h0 ad1 e1).1 hk.size, fun a => (hA h0 ad1 e1).2 (Or.inr (hF _ a))⟩⟩
theorem R_ownS {ba : Nat} {w w1 : World} {base : Nat} {v : Value} {xs : List (List SW)} {cs : Array Value} (h : (Kd.slice 35 kS).R 42 w base (fun _ => True) v xs) (hb : w.heap[ba]? = some (.cells cs 46 (0, 0))) (hg : w.grownBy w1 (some ba)) : (Kd.slice 35 kS).R 42 w1 base (fun _ => True) v xs :=
  Kd.R_mono (Kd.R_step (Kd.R_types h hb (by decide)) (fun k ho hk => hg.block k hk (fun e => ho.2 (Option.some.inj e)))) (fun _ _ => trivial)
/-- What look hands back: the blocks (read wherever what it allotted is as it was), the writes, the head. -/
def LkP (w : World) (n : Nat) (L : List (List Int)) (ws : List Wr) (a2 q2 : Int) (e : Ending) (w' : World) : Prop := ∃ gB cB Aw cw, e = .returned (.tuple #[.slice (some ⟨gB, 0, none⟩) n cB, .slice Aw ws.length cw, .agg #[.int .i64 a2, .int .i64 q2], .int .i64 0]) ∧ n ≤ cB ∧ (∀ W1 : World, (∀ k, w.heap.size ≤ k → k < w'.heap.size → W1.heap[k]? = w'.heap[k]?) → kY.C W1 (some ⟨gB, 0, none⟩) n L) ∧ (∀ F : Nat → Prop, (∀ k, F k → k < w.heap.size) → RW w' F Aw ws) ∧ Below w.heap.size w w'
theorem Lk.far {w w14 W W1 : World} {gB k cB : Nat} {L : List (List Int)} {vw : Value} {D : List SW} (h : Lk w w14 W gB k cB L vw D) (hk : 0 < k) (hf : ∀ k, w.heap.size ≤ k → k < W.heap.size → W1.heap[k]? = W.heap[k]?) : kY.C W1 (some ⟨gB, 0, none⟩) k (setAll L D) := by
  have h1 : (kZ w14 w.heap.size gB).R 23 W w.heap.size (fun q => q = gB) (.slice (some ⟨gB, 0, none⟩) k cB) (setAll L D) := ⟨fun q hq => by
    simp only [Value.ownBlock] at hq
    exact (Option.some.inj hq).symm, h.row.2⟩
  have h2 := Kd.R_step h1 (w1 := W1) (fun q hq hl => by rw [hq]; exact hf gB (Kd.R_base h.row _ rfl) (by rw [← hq]; exact hl))
  have hr := Kd.R_reads' h2
  rw [hr.1]
  exact ReadsRow.imp_ hr.2.2 (Below.refl _ _) (fun x cs hp => by
    obtain ⟨A1, c1, rfl, hl, hC, hA⟩ := hp
    exact ⟨A1, c1, rfl, hl, C_far0 hC (fun h0 ad e => by
      obtain ⟨g1, g2, g3⟩ := hA h0 ad e
      exact (hf _ g1 (Nat.lt_of_lt_of_le g2 h.kp.size)).trans (h.kp.far _ g2 g3))⟩)
theorem Lk.done {w w14 W : World} {gB k cB n cw : Nat} {a2 q2 : Int} {L : List (List Int)} {Aw : Option Addr} {D : List SW} (h : Lk w w14 W gB k cB L (.slice Aw n cw) D) (hk : 0 < k) (hc : k ≤ cB) (hn : n = D.length) (hb : Below w.heap.size w w14) : LkP w k (setAll L D) (D.map cv) a2 q2 (.returned (.tuple #[.slice (some ⟨gB, 0, none⟩) k cB, .slice Aw n cw, .agg #[.int .i64 a2, .int .i64 q2], .int .i64 0])) W :=
  ⟨gB, cB, Aw, cw, by rw [List.length_map, hn], hc, fun W1 hf => h.far hk hf, fun F hF => RW.of_Vk h.wr h.kp hb.size F hF, hb.trans (h.kp.below (Kd.R_base h.row _ rfl) hb.size)⟩
end Go.Proofs.Ytcihfmehbmficaa.Jrn
/- Package journal: look, where the log holds transactions. -/
namespace Go.Proofs.Ytcihfmehbmficaa.Jrn
open Go Go.RowKit Go.Maps Go.Proofs.YtcihfmehbmficaaW.PrintWords Go.Proofs.YtcihfmehbmficaaW.PrintLast Go.Proofs.YtcihfmehbmficaaW.PrintMore Go.Proofs.Ytcihfmehbmficaa.Disk
set_option linter.unusedVariables false
set_option linter.unusedSimpArgs false
set_option maxRecDepth 100000
set_option maxHeartbeats 4000000 in
theorem look_some {w : World} {F : Nat → Prop} {g : Nat} {bs : List Blk} (h : DW w F g ⟨false, -1, bs⟩) (hl : 64 ≤ bs.length) (hby : ∀ b ∈ bs, Go.Proofs.Ytcihfmehbmficaa.Spin.Bytes (curB b)) {a q a2 q2 : Int} {r1 : List (List SW)} (hh : Go.Proofs.Ytcihfmehbmficaa.Pure.headI ((bs.map curB).getD 1 []) = (a, q, 0)) (hf : Go.Proofs.Ytcihfmehbmficaa.Pure.findI (((bs.map curB).drop 19).take 40) a q = (r1, a2, q2, 0)) (hx : ∀ x ∈ r1.flatten, 0 ≤ x.f0 ∧ x.f0 < bs.length ∧ x.f1.length = 64) (hr : r1.flatten.length ≤ 1000) (hr1 : r1.length ≤ 1000) :
    Calls Try.prog 27 #[.pointer (some ⟨g, 0, none⟩)] w (LkP w bs.length (setAll (bs.map curB) r1.flatten) (r1.flatten.map cv) a2 q2) := by
  have hn480 : bs.length ≤ 480 := by obtain ⟨_, _, _, _, h⟩ := h; exact h.n480
  obtain ⟨n, hn⟩ : ∃ q, bs.length = q := ⟨_, rfl⟩
  obtain ⟨L, hL⟩ : ∃ q, bs.map curB = q := ⟨_, rfl⟩
  have HLN : Aside0 (L.length = n) := ⟨by rw [← hL, List.length_map]; exact hn⟩
  have hnl : n ≤ 480 := by omega
  have hn64 : 64 ≤ n := by omega
  have HD := Aside0.mk h
  have HN := Aside0.mk hn
  have HG : Aside0 (∀ (k : Nat) (x : List Int) (W : World), L[k]? = some x → Below w.heap.size w W → Calls Try.prog 28 #[.pointer (some ⟨g, 0, none⟩), .int .i64 (k : Int)] W fun e w' => ∃ v0_ : Value, e = .returned (.tuple #[v0_, .int .i64 0]) ∧ B.R 5 w' W.heap.size (fun _ => True) v0_ x ∧ Below W.heap.size W w') := ⟨fun k x W hx hW => by
    rw [← hL, List.getElem?_map] at hx
    obtain ⟨b, hb, rfl⟩ := Option.map_eq_some_iff.1 hx
    exact Disk.get_at (h.below hW) rfl (k : Int) rfl hb⟩
  have HBL : Aside0 ((DS.bs ⟨false, -1, bs⟩).length = n) := ⟨hn⟩
  have HL64 : Aside0 (∀ (k : Nat) (x : List Int), L[k]? = some x → x.length = 64 ∧ Go.Proofs.Ytcihfmehbmficaa.Spin.Bytes x) := ⟨fun k x hx => by
    rw [← hL, List.getElem?_map] at hx
    obtain ⟨b, hb, rfl⟩ := Option.map_eq_some_iff.1 hx
    exact ⟨cur64 h hb, hby b (List.mem_of_getElem? hb)⟩⟩
  rw [hL] at hf hh
  have HF := Aside0.mk hf
  have HX1 : Aside0 (∀ x ∈ r1.flatten, 0 ≤ x.f0 ∧ x.f0 < (n : Int) ∧ x.f1.length = 64) := ⟨by rw [← hn]; exact hx⟩
  have HRL := Aside0.mk hr
  rw [hn]
  have HH := Aside0.mk hh
  rw [hL]
  clear h hl hn480 hf hh hby hn hL hx hr
  have HR1 := Aside0.mk hr1
  clear hr1
  go_enter Try.func27, Try.ntmps27
  have bn1 : decide ((n : Int) < 64) = false := decide_eq_false (by omega)
  have bn2 : decide (n < 64) = false := decide_eq_false (by omega)
  go_wp2_with (go_at_call 20; (with_reducible refine (Disk.blocks_at (HD.out.below (below_alloc (Below.refl _ _) _)) (n : Int) (by rw [HBL.out])).mono ?_); rintro e w2 ⟨rfl, rfl⟩)
  have hb4 := blk_new w (.cells #[.int .i64 0, .int .i64 0] 46)
  have HBW := Aside0.mk (below_alloc (Below.refl w.heap.size w) (.cells #[.int .i64 0, .int .i64 0] 46))
  obtain ⟨b4, hb4e⟩ : ∃ q, w.heap.size = q := ⟨_, rfl⟩
  have HLE : Aside0 (w.heap.size ≤ b4) := ⟨by omega⟩
  rw [hb4e] at hb4
  rw [hb4e]
  have HB4 := Aside0.mk hb4
  have HNL := Aside0.mk hnl
  have HN64 := Aside0.mk hn64
  clear hb4 hb4e bn1 bn2 hnl hn64
  go_loopg [2, 3, 24] n (fun gg vb v3 i wr => ∃ k : Nat, k ≤ n ∧ n - k ≤ gg ∧ i = .int .i64 k ∧ v3 = .slice none 0 0 ∧ Aside0 (Below w.heap.size w wr) ∧ Aside0 (wr.heap[b4]? = some (.cells #[.int .i64 0, .int .i64 0] 46 (0, 0))) ∧ Aside0 (kY.R 23 wr w.heap.size (fun _ => True) vb (L.take k)))
  case atStart => exact ⟨0, Nat.zero_le _, Nat.le_refl _, rfl, rfl, HBW, HB4, ⟨Kd.R_nil _ _ _ _ _⟩⟩
  case round =>
    clear HBW HB4
    obtain ⟨k, hk, hgk, rfl, rfl, HB, HB4, HR⟩ := hrel
    by_cases hlt : k < n
    · have b1 : decide ((k : Int) < (n : Int)) = true := decide_eq_true (by omega)
      have b2 : decide (k < n) = true := decide_eq_true hlt
      obtain ⟨x, hx⟩ : ∃ x, L[k]? = some x := ⟨_, List.getElem?_eq_getElem (by have := HLN.out; omega)⟩
      have HX := Aside0.mk hx
      have HX64 := Aside0.mk (HL64.out k x hx).1
      have HTK : Aside0 (L.take (k + 1) = L.take k ++ [x]) := ⟨by rw [List.take_add_one, hx]; rfl⟩
      have HKL : Aside0 ((L.take k).length = k) := ⟨by rw [List.length_take, HLN.out]; omega⟩
      have ewk : wrap64 ((k : Int) + 1) = ((k + 1 : Nat) : Int) := by have h1 := HNL.out; unfold wrap64; omega
      obtain ⟨Ab, cb, rfl⟩ := Kd.R_slice HR.out
      rw [HKL.out] at HR
      rw [HKL.out]
      have HLT := Aside0.mk hlt
      have HGK := Aside0.mk hgk
      clear hx hk hlt hgk
      go_wp2_with (first | (go_at_call 28; (with_reducible refine (HG.out k x _ HX.out HB.out).mono ?_); rintro e w5 ⟨v5, rfl, hr5, hb5⟩; obtain ⟨A5, c5, e5⟩ := Kd.R_slice hr5; rw [HX64.out] at e5; subst e5; have HB5 := Aside0.mk (below_step HB.out hb5); have HR5 := Aside0.mk hr5; have HRB5 := Aside0.mk (Kd.R_below HR.out hb5); have H45 := Aside0.mk (blk_below HB4.out hb5); clear hr5 hb5) | ((with_reducible refine gate_builtin (b := .append) (xs := #[.tmp 37, .tmp 39]) rfl ?_); at_builtin; refine Kd.R_append kY (w0 := w) (W := w5) w.heap.size rfl (.tmp 37) (.tmp 39) 22 23 (.slice none 0 0) 24 rfl Try.underlying22 infoY (by rfl) (show 0 < 1 from by decide) (by omega) (.slice Ab k cb) (L.take k) x [.slice A5 64 c5] (fun _ => True) (fun j => some j ≠ (Value.slice Ab k cb).ownBlock) rfl ?aX ?aP ?aK ?aF ?aO ?aB ?aS ?aL ?_; (case aX => with_unfolding_all rfl); (case aP => exact row_M HB.out HR.out HR5.out); (case aK => exact fun k hk => ⟨trivial, hk⟩); (case aF => exact fun _ _ => trivial); (case aO => exact HRB5.out); (case aB => exact HB5.out); (case aS => exact HB5.out.size); (case aL => have h1 := HKL.out; have h2 := HNL.out; have h3 := HLT.out; omega); intro v8 w8 ho hb hg hat; have HO8 := Aside0.mk ho; have HB8 := Aside0.mk hb; have H48 := Aside0.mk (blk_grown H45.out hg (Kd.R_ne HRB5.out H45.out (by decide))); clear ho hb hg hat))
      go_roundg (n - (k + 1))
      case measure => have h1 := HLT.out; have h2 := HGK.out; omega
      case rel => exact ⟨k + 1, HLT.out, Nat.le_refl _, by rw [ewk], rfl, HB8, H48, ⟨by rw [HTK.out]; exact HO8.out⟩⟩
    · obtain rfl : k = n := by omega
      have b1 : decide ((k : Int) < (k : Int)) = false := decide_eq_false (by omega)
      have hR : kY.R 23 wr w.heap.size (fun _ => True) u2 L := by have h := HR.out; rw [List.take_of_length_le (by have := HLN.out; omega)] at h; exact h
      obtain ⟨gB, cB, e2, hbB, hgB, cellsB, hhB⟩ := Kd.R_form hR (by have h1 := HLN.out; have h2 := HN64.out; omega)
      rw [HLN.out] at e2
      subst e2
      have hrr := Kd.R_reads' hR
      have HCB : Aside0 (k ≤ cB) := ⟨hrr.2.1⟩
      have hC : Kd.C kY wr (some ⟨gB, 0, none⟩) k L := by have h := hrr.2.2; rw [HLN.out] at h; exact h
      obtain ⟨ad1, A1, c1, ea, hcell, hl1, hC1⟩ := Go.Proofs.Ytcihfmehbmficaa.PAll.at_L2 hC 1 (by decide) (by have := HN64.out; omega)
      obtain rfl := Option.some.inj ea
      have hx1 : L[1]? = some (Go.Proofs.Ytcihfmehbmficaa.PAll.rd_L2 L 1) := by
        show L[1]? = some (L.getD 1 [])
        rw [List.getD_eq_getElem?_getD, List.getElem?_eq_getElem (by have h1 := HLN.out; have h2 := HN64.out; omega)]; rfl
      have h164 := HL64.out 1 _ hx1
      have cB1 : wr.cell? ⟨gB, 1, none⟩ = some (.slice A1 64 c1) := by rw [← h164.1]; exact hcell
      have HGH : Aside0 (Calls Try.prog 42 #[.slice A1 64 c1] wr fun e w' => e = .returned (.tuple #[.agg #[.int .i64 a, .int .i64 q], .int .i64 0]) ∧ Below wr.heap.size wr w') := ⟨by
        have h := Go.Proofs.Ytcihfmehbmficaa.PAll.super_GetHead.calls A1 c1 (Go.Proofs.Ytcihfmehbmficaa.PAll.rd_L2 L 1) a q 0 wr hC1 hl1 (by rw [Go.Proofs.Ytcihfmehbmficaa.Pure.GetHead_eq h164.2]; exact congrArg some HH.out)
        rw [h164.1] at h
        exact h⟩
      have HRW := Aside0.mk hR
      have hb0 : (0 : Int) < 64 := by decide
      have hk1 : (1 : Int) < (k : Int) := by have := HN64.out; omega
      have hk2 : 1 < k := by have := HN64.out; omega
      clear hR hrr hC hcell hl1 hC1 hx1 h164 hhB HR hk hgk hlt
      go_wp2_with (go_at_call 42; (with_reducible refine HGH.out.mono ?_); rintro e w12 ⟨rfl, hb12⟩; have HB12 := Aside0.mk (below_step HB.out hb12); have H412 := Aside0.mk (blk_below HB4.out hb12); have HR12 := Aside0.mk (Kd.R_below HRW.out hb12); have c40 : w12.cell? ⟨b4, 0, none⟩ = some (.int .i64 0) := blk_cell H412.out 0; have c41 : w12.cell? ⟨b4, 1, none⟩ = some (.int .i64 0) := blk_cell H412.out 1; have f40 : w12.frozen? ⟨b4, 0, none⟩ = false := blk_frozen H412.out 0; have f41 : w12.frozen? ⟨b4, 1, none⟩ = false := blk_frozen H412.out 1; clear hb12)
      have HB14 : Aside0 (Below w.heap.size w ((w12.setCell ⟨b4, 0, none⟩ (.int .i64 a)).setCell ⟨b4, 1, none⟩ (.int .i64 q))) := ⟨(HB12.out.setCell (p := ⟨b4, 0, none⟩) HLE.out _).setCell (p := ⟨b4, 1, none⟩) HLE.out _⟩
      have hbk1 := blk_set H412.out 0 (.int .i64 a)
      have HBK : Aside0 (((w12.setCell ⟨b4, 0, none⟩ (.int .i64 a)).setCell ⟨b4, 1, none⟩ (.int .i64 q)).heap[b4]? = some (.cells #[.int .i64 a, .int .i64 q] 46 (0, 0))) := ⟨blk_set hbk1 1 (.int .i64 q)⟩
      have HR14 : Aside0 (kY.R 23 ((w12.setCell ⟨b4, 0, none⟩ (.int .i64 a)).setCell ⟨b4, 1, none⟩ (.int .i64 q)) w.heap.size (fun _ => True) (.slice (some ⟨gB, 0, none⟩) k cB) L) := ⟨Kd.R_set (Kd.R_set HR12.out H412.out (by decide) 0 (.int .i64 a)) hbk1 (by decide) 1 (.int .i64 q)⟩
      clear hbk1 c40 c41 f40 f41 H412 HR12 HB12 cB1 hb0 hk1 hk2
      obtain ⟨W14, hW14⟩ : ∃ q_, (w12.setCell ⟨b4, 0, none⟩ (.int .i64 a)).setCell ⟨b4, 1, none⟩ (.int .i64 q) = q_ := ⟨_, rfl⟩
      rw [hW14] at HB14 HBK HR14
      rw [hW14]
      clear hW14
      have HSH : Aside0 (∀ X : World, Below W14.heap.size W14 X → X.cell? ⟨b4, 0, none⟩ = some (.int .i64 a) ∧ X.cell? ⟨b4, 1, none⟩ = some (.int .i64 q)) := ⟨fun X hX => ⟨pw_cell_below hX (blk_cell HBK.out 0), pw_cell_below hX (blk_cell HBK.out 1)⟩⟩
      have HFI : Aside0 (∀ X : World, Below W14.heap.size W14 X → Calls Try.prog 43 #[.slice (some ⟨gB, 19, none⟩) 40 (cB - 19), .agg #[.int .i64 a, .int .i64 q]] X fun e w' => ∃ v0_ : Value, e = .returned (.tuple #[v0_, .agg #[.int .i64 a2, .int .i64 q2], .int .i64 0]) ∧ Kd.R (Kd.slice 35 Go.Proofs.Ytcihfmehbmficaa.PAll.k35) 42 w' X.heap.size (fun _ => True) v0_ r1 ∧ Below X.heap.size X w') := ⟨fun X hX => by
        have hC := (Kd.R_reads' (Kd.R_below HR14.out hX)).2.2
        rw [HLN.out] at hC
        have h40 : ((L.drop 19).take 40).length = 40 := by rw [List.length_take, List.length_drop, HLN.out]; have := HN64.out; omega
        have hM := C_mid (m := 19) (len := 40) rfl hC (by have := HN64.out; omega)
        have hbb : ∀ b ∈ (L.drop 19).take 40, Go.Proofs.Ytcihfmehbmficaa.Spin.Bytes b := fun b hb => by
          obtain ⟨j, hj, e⟩ := List.getElem_of_mem (List.mem_of_mem_drop (List.mem_of_mem_take hb))
          rw [← e]
          exact (HL64.out j _ (List.getElem?_eq_getElem hj)).2
        have hfe : Go.Proofs.Ytcihfmehbmficaa.PAll.log_Find.f 1073742001 ((L.drop 19).take 40) a q = some (r1, a2, q2, 0) := by
          rw [Go.Proofs.Ytcihfmehbmficaa.Pure.find_eq hbb a q 1073742001 (by omega)]
          exact congrArg some HF.out
        have h := Go.Proofs.Ytcihfmehbmficaa.PAll.log_Find.calls 1073742001 (some ⟨gB, 19, none⟩) (cB - 19) ((L.drop 19).take 40) a q r1 a2 q2 0 X (by rw [h40]; exact hM) (by rw [h40]; have h1 := HCB.out; have h2 := HN64.out; omega) hfe
        rw [h40] at h
        exact h⟩
      have hc19 : 59 ≤ cB := by have h1 := HCB.out; have h2 := HN64.out; omega
      have hk59 : 59 ≤ k := by have h2 := HN64.out; omega
      have hc19i : (59 : Int) ≤ (cB : Int) := by omega
      have hcne : ¬ cB = 19 := by omega
      refine start_ (n := 11) (S := fun w' => w'.cell? ⟨b4, 0, none⟩ = some (.int .i64 a) ∧ w'.cell? ⟨b4, 1, none⟩ = some (.int .i64 q)) (ds := [9]) #[false, false, false, false, false, false, false, false, false, false, false] (by kernel_rfl) rfl rfl ⟨(HSH.out _ (below_drew (Below.refl _ _))).1, (HSH.out _ (below_drew (Below.refl _ _))).2⟩ (fun hHeld => ?_)
      refine pure_ (i := 0) (N := some 54) (v := ?_) (a' := ?_) #[true, false, false, false, false, false, false, false, false, false, false] rfl rfl (by kernel_rfl) (fun _ _ _ h => h) (Or.inl ⟨by rfl, ?_⟩) ?_ ?_
      rotate_left
      · intro w'
        go_simp
        with_reducible rfl
      rotate_left
      · simp only [Act.put, List.setIfInBounds_toArray, List.set_cons_zero, List.set_cons_succ, i64_w, i32_w]
        rfl
      refine pure_ (i := 1) (N := some 55) (v := ?_) (a' := ?_) #[true, true, false, false, false, false, false, false, false, false, false] rfl rfl (by kernel_rfl) (fun _ _ _ h => h) (Or.inl ⟨by rfl, ?_⟩) ?_ ?_
      rotate_left
      · intro w'
        go_simp
        with_reducible rfl
      rotate_left
      · simp only [Act.put, List.setIfInBounds_toArray, List.set_cons_zero, List.set_cons_succ, i64_w, i32_w]
        rfl
      refine take_ (i := 2) (N := some 56) (v := ?_) (a' := ?_) #[true, true, true, false, false, false, false, false, false, false, false] rfl rfl (by kernel_rfl) (fun _ _ _ h => h) (Or.inl ⟨by rfl, ?_⟩) hHeld ?_ ?_
      rotate_left
      · rintro w' ⟨s0, s1⟩
        go_simp
        with_reducible rfl
      rotate_left
      · simp only [Act.put, List.setIfInBounds_toArray, List.set_cons_zero, List.set_cons_succ, i64_w, i32_w]
        rfl
      refine one_ (i := 3) (N := some 57) #[true, true, true, true, false, false, false, false, false, false, false] rfl rfl (by kernel_rfl) (by decide) (fun K hK => ?_)
      refine goes_ Try.func43 (by kernel_rfl) rfl #[.slice (some ⟨gB, 19, none⟩) 40 (cB - 19), .agg #[.int .i64 a, .int .i64 q]] (by rfl) rfl rfl (by (try simp only [List.map_toArray, List.map_cons, List.map_nil]); first | done | rfl) ?_
      with_reducible refine (HFI.out _ (below_drew (Below.refl _ _))).mono ?_
      rintro e w13 ⟨v13, rfl, hr13, hb13⟩
      refine ⟨_, rfl, ?_⟩
      obtain ⟨A13, c13, e13⟩ := Kd.R_slice hr13
      subst e13
      have HB13 := Aside0.mk ((below_drew (Below.refl _ _)).trans hb13)
      have HR13 := Aside0.mk hr13
      obtain ⟨w14, hst14, hz14, hg14⟩ := head_put w13 b4 a q a2 q2 (blk_below HBK.out HB13.out)
      have HST14 := Aside0.mk hst14
      have HZ14 := Aside0.mk hz14
      have HG14 := Aside0.mk hg14
      clear hr13 hb13 hst14 hz14 hg14
      refine hK.out _ _ ⟨(HSH.out _ HB13.out).1, (HSH.out _ HB13.out).2⟩ (fun hHeld => ?_)
      clear hK K
      refine norm_ (a' := ?_) ?_ ?_
      rotate_left
      · show Act.put _ (some 57) _ = _
        simp only [Act.put, List.setIfInBounds_toArray, List.set_cons_zero, List.set_cons_succ, i64_w, i32_w]
        rfl
      refine pure_ (i := 4) (N := some 53) (v := ?_) (a' := ?_) #[true, true, true, true, true, false, false, false, false, false, false] rfl rfl (by kernel_rfl) (fun _ _ _ h => h) (Or.inl ⟨by rfl, ?_⟩) ?_ ?_
      rotate_left
      · intro w'
        go_simp
        with_reducible rfl
      rotate_left
      · simp only [Act.put, List.setIfInBounds_toArray, List.set_cons_zero, List.set_cons_succ, i64_w, i32_w]
        rfl
      refine pure_ (i := 5) (N := some 58) (v := ?_) (a' := ?_) #[true, true, true, true, true, true, false, false, false, false, false] rfl rfl (by kernel_rfl) (fun _ _ _ h => h) (Or.inl ⟨by rfl, ?_⟩) ?_ ?_
      rotate_left
      · intro w'
        go_simp
        with_reducible rfl
      rotate_left
      · simp only [Act.put, List.setIfInBounds_toArray, List.set_cons_zero, List.set_cons_succ, i64_w, i32_w]
        rfl
      refine pure_ (i := 6) (N := some 59) (v := ?_) (a' := ?_) #[true, true, true, true, true, true, true, false, false, false, false] rfl rfl (by kernel_rfl) (fun _ _ _ h => h) (Or.inl ⟨by rfl, ?_⟩) ?_ ?_
      rotate_left
      · intro w'
        go_simp
        with_reducible rfl
      rotate_left
      · simp only [Act.put, List.setIfInBounds_toArray, List.set_cons_zero, List.set_cons_succ, i64_w, i32_w]
        rfl
      refine pure_ (i := 7) (N := some 60) (v := ?_) (a' := ?_) #[true, true, true, true, true, true, true, true, false, false, false] rfl rfl (by kernel_rfl) (fun _ _ _ h => h) (Or.inl ⟨by rfl, ?_⟩) ?_ ?_
      rotate_left
      · intro w'
        go_simp
        with_reducible rfl
      rotate_left
      · simp only [Act.put, List.setIfInBounds_toArray, List.set_cons_zero, List.set_cons_succ, i64_w, i32_w]
        rfl
      refine pure_ (i := 8) (N := some 9) (v := ?_) (a' := ?_) #[true, true, true, true, true, true, true, true, true, false, false] rfl rfl (by kernel_rfl) (fun _ _ _ h => h) (Or.inl ⟨by rfl, ?_⟩) ?_ ?_
      rotate_left
      · intro w'
        go_simp
        with_reducible rfl
      rotate_left
      · simp only [Act.put, List.setIfInBounds_toArray, List.set_cons_zero, List.set_cons_succ, i64_w, i32_w]
        rfl
      refine last_ (i := 9) (N := none) #[true, true, true, true, true, true, true, true, true, true, false] rfl rfl (by kernel_rfl) (by decide) (fun K hK => ?_)
      refine skip_ (w1 := w14) (by rfl) rfl ?_ ?_
      · exact Whole.exec_store _ (.tmp 4) (.tmp 59) rfl _ _ (by rfl) (by rfl) HST14.out
      refine hK.out _ _ ?_
      clear hK K
      refine pure_ (i := 10) (N := some 5) (v := ?_) (a' := ?_) #[true, true, true, true, true, true, true, true, true, true, true] rfl rfl (by kernel_rfl) (fun _ _ _ h => h) (Or.inl ⟨by rfl, ?_⟩) ?_ ?_
      rotate_left
      · intro w'
        go_simp
        with_reducible rfl
      rotate_left
      · simp only [Act.put, List.setIfInBounds_toArray, List.set_cons_zero, List.set_cons_succ, i64_w, i32_w]
        rfl
      refine done_ (by kernel_rfl) ?_

      have HB15 := Aside0.mk (below_own (below_step HB14.out HB13.out) HG14.out HLE.out)
      have hR15 : kY.R 23 w14 w.heap.size (fun _ => True) (.slice (some ⟨gB, 0, none⟩) k cB) L := R_ownY (Kd.R_below HR14.out HB13.out) (blk_below HBK.out HB13.out) HG14.out
      obtain ⟨hgB, cellsB, hhB⟩ : gB < w14.heap.size ∧ ∃ C, w14.heap[gB]? = some (.cells C 23 (0, 0)) := by
        obtain ⟨g9, c9, eq0, _, hg9, C, hC⟩ := Kd.R_form hR15 (by rw [HLN.out]; omega)
        injection eq0 with eq1 _ _
        obtain rfl := (Addr.mk.inj (Option.some.inj eq1)).1
        exact ⟨hg9, C, hC⟩
      have hR14 : (Kd.slice 35 kS).R 42 w14 w.heap.size (fun _ => True) (.slice A13 r1.length c13) r1 := Kd.R_lower (R_ownS HR13.out (blk_below HBK.out HB13.out) HG14.out) (by have := HB14.out.size; exact this)
      have HR14 := Aside0.mk hR14
      have HLK : Aside0 (Lk w w14 w14 gB k cB L (.slice none 0 0) []) := ⟨⟨Kp.refl _ _, kZ_of_kY hR15 (by omega), Kd.R_nil _ _ _ _ _⟩⟩
      have HGB := Aside0.mk hgB
      have HHB := Aside0.mk hhB
      have HNLX : Aside0 (r1.length < 4611686018427387904) := ⟨by have h1 := HR1.out; omega⟩
      clear hR14 hR15 hhB hgB
      go_wp2_with fail
      go_loopg [3, 63] r1.length (fun gg v3 i wr => ∃ m : Nat, m ≤ r1.length ∧ r1.length - m ≤ gg ∧ i = .int .i64 m ∧ Aside0 (Lk w w14 wr gB k cB L v3 (r1.take m).flatten))
      case atStart => exact ⟨0, Nat.zero_le _, Nat.le_refl _, rfl, HLK⟩
      case round =>
        clear HLK
        obtain ⟨m, hm, hgm, rfl, HLK⟩ := hrel
        by_cases hlt : m < r1.length
        · have b1 : decide ((m : Int) < (r1.length : Int)) = true := decide_eq_true (by omega)
          have b2 : decide (m < r1.length) = true := decide_eq_true hlt
          obtain ⟨tx, htx⟩ : ∃ x, r1[m]? = some x := ⟨_, List.getElem?_eq_getElem hlt⟩
          have HFL : Aside0 ((r1.take (m + 1)).flatten = (r1.take m).flatten ++ tx) := ⟨by rw [List.take_add_one, htx]; simp⟩
          have HFN : Aside0 (∀ p : Nat, ((r1.take m).flatten ++ tx.take p).length ≤ r1.flatten.length) := ⟨fun p => flat_len r1 m htx p⟩
          have HTXF : Aside0 (∀ x ∈ tx, 0 ≤ x.f0 ∧ x.f0 < (k : Int) ∧ x.f1.length = 64) := ⟨fun x hx => HX1.out x (List.mem_flatten.2 ⟨tx, List.mem_of_getElem? htx, hx⟩)⟩
          obtain ⟨g13, Ai, ci, rfl, hn13, hl13, hc13, hin⟩ := tx_at HR14.out HHB.out htx
          have cW : wr.cell? ⟨g13, m, none⟩ = some (.slice Ai tx.length ci) := HLK.out.kp.cell hc13 hl13 hn13
          have HIN := Aside0.mk hin
          have HLT := Aside0.mk hlt
          have HGM := Aside0.mk hgm
          have ewm : wrap64 ((m : Int) + 1) = ((m + 1 : Nat) : Int) := by have h1 := HNLX.out; unfold wrap64; omega
          clear hin htx hm hgm hn13 hl13 hc13
          go_wp2_with fail
          go_loopg [3, 69] tx.length (fun gg v3 i wr => ∃ p : Nat, p ≤ tx.length ∧ tx.length - p ≤ gg ∧ i = .int .i64 p ∧ Aside0 (Lk w w14 wr gB k cB L v3 ((r1.take m).flatten ++ tx.take p)))
          case atStart => exact ⟨0, Nat.zero_le _, Nat.le_refl _, rfl, ⟨by rw [List.take_zero, List.append_nil]; exact HLK.out⟩⟩
          case round =>
            clear HLK cW
            obtain ⟨p, hp, hgp, rfl, HLK⟩ := hrel
            by_cases hlp : p < tx.length
            · have b3 : decide ((p : Int) < (tx.length : Int)) = true := decide_eq_true (by omega)
              have b4' : decide (p < tx.length) = true := decide_eq_true hlp
              obtain ⟨x, hx⟩ : ∃ x, tx[p]? = some x := ⟨_, List.getElem?_eq_getElem hlp⟩
              have HXT : Aside0 (tx.take (p + 1) = tx.take p ++ [x]) := ⟨by rw [List.take_add_one, hx]; rfl⟩
              obtain ⟨gi, A1, c1, rfl, hni, hli, hc0, hc1, hz⟩ := HIN.out p x hx
              obtain ⟨hx0, hxk, hx64⟩ := HTXF.out x (List.mem_of_getElem? hx)
              obtain ⟨t, ht⟩ : ∃ t : Nat, x.f0 = (t : Int) := ⟨x.f0.toNat, by omega⟩
              rw [ht] at hc0
              rw [hx64] at hc1 hz
              have c0W : wr.cell? ⟨gi, p * 2, none⟩ = some (.int .i64 (t : Int)) := HLK.out.kp.cell hc0 hli hni
              have c1W : wr.cell? ⟨gi, p * 2 + 1, none⟩ = some (.slice A1 64 c1) := HLK.out.kp.cell hc1 hli hni
              have htk : t < k := by omega
              have htk1 : decide ((t : Int) < (k : Int)) = true := decide_eq_true (by omega)
              have htk2 : decide (t < k) = true := decide_eq_true htk
              have HLA := Aside0.mk (HLK.out.below (below_alloc (Below.refl _ _) (.cells #[.int .i64 (t : Int), .slice A1 64 c1] 35)))
              obtain ⟨⟨u0, cS⟩, fS, hkp2, hrow2, hwr2⟩ := HLA.out.store (x := x) ht htk hz (Nat.le_refl _)
              obtain ⟨D, hD⟩ : ∃ q_, (r1.take m).flatten ++ tx.take p = q_ := ⟨_, rfl⟩
              rw [hD] at hrow2 hwr2
              obtain ⟨Av, cv3, hev⟩ := Kd.R_slice hwr2
              obtain ⟨dn, hdn⟩ : ∃ q_, (D.map cv).length = q_ := ⟨_, rfl⟩
              rw [hdn] at hev
              subst hev
              have HD := Aside0.mk hD
              have HDN : Aside0 (dn = D.length) := ⟨by rw [← hdn, List.length_map]⟩
              have HKP2 := Aside0.mk hkp2
              have HROW2 := Aside0.mk hrow2
              have HWR2 := Aside0.mk hwr2
              have HZ := Aside0.mk hz
              have HX64 := Aside0.mk hx64
              have HT := Aside0.mk ht
              have HGP := Aside0.mk hgp
              have HLP := Aside0.mk hlp
              have ewp : wrap64 ((p : Int) + 1) = ((p + 1 : Nat) : Int) := by have h1 := HFN.out (p + 1); have h2 := HRL.out; rw [List.length_append, List.length_take] at h1; unfold wrap64; omega
              have hszk : gB < wr.heap.size := Nat.lt_of_lt_of_le HGB.out HLK.out.kp.size
              have hb7 : ((wr.alloc (.cells #[.int .i64 (t : Int), .slice A1 64 c1] 35)).setCell ⟨gB, t, none⟩ (.slice A1 64 c1)).heap[wr.heap.size]? = some (.cells #[.int .i64 (t : Int), .slice A1 64 c1] 35 (0, 0)) := (heap_setCell_other _ _ _ _ (by show wr.heap.size ≠ gB; omega)).trans (blk_new wr _)
              have c70 : ((wr.alloc (.cells #[.int .i64 (t : Int), .slice A1 64 c1] 35)).setCell ⟨gB, t, none⟩ (.slice A1 64 c1)).cell? ⟨wr.heap.size, 0, none⟩ = some (.int .i64 (t : Int)) := blk_cell hb7 0
              have c71 : ((wr.alloc (.cells #[.int .i64 (t : Int), .slice A1 64 c1] 35)).setCell ⟨gB, t, none⟩ (.slice A1 64 c1)).cell? ⟨wr.heap.size, 1, none⟩ = some (.slice A1 64 c1) := blk_cell hb7 1
              have HDL : Aside0 (D.length ≤ 1000) := ⟨by rw [← hD]; exact Nat.le_trans (HFN.out p) HRL.out⟩
              clear hx hx0 hxk hx64 ht hz hc0 hc1 hli hni hkp2 hrow2 hwr2 hgp hp hb7 hszk HLA HLK hD hdn
              go_wp2_with (((with_reducible refine gate_builtin (b := .append) (xs := #[.tmp 84, .tmp 86]) rfl ?_); at_builtin; (refine Kd.R_append (kV w14 (fun x => x = gB ∨ x < w.heap.size)) (w0 := (wr.alloc (.cells #[.int .i64 (t : Int), .slice A1 64 c1] 35)).setCell ⟨gB, t, none⟩ (.slice A1 64 c1)) (W := (wr.alloc (.cells #[.int .i64 (t : Int), .slice A1 64 c1] 35)).setCell ⟨gB, t, none⟩ (.slice A1 64 c1)) w14.heap.size rfl (.tmp 84) (.tmp 86) 42 35 (.agg #[(.int .i64 0), (.slice none 0 0)]) 32 rfl Try.underlying42 infoW (by rfl) (show 0 < 2 from by decide) (by omega) (.slice Av dn cv3) (D.map cv) (cv x) [.int .i64 (t : Int), .slice A1 64 c1] (fun _ => True) (fun _ => False) rfl ?aX ?aP ?aK ?aF ?aO ?aB ?aS ?aL ?_); (case aX => go_loud (rw [World.size_setCell, World.size_alloc]; with_unfolding_all rfl)); (case aP => go_loud (have h := HZ.out; rw [← HX64.out] at h; have h2 := h.toV; rw [HX64.out, HT.out] at h2; exact h2)); (case aK => exact fun k hk => hk.elim); (case aF => exact fun _ _ => trivial); (case aO => go_loud (exact HWR2.out)); (case aB => go_loud (exact Below.refl _ _)); (case aS => go_loud (exact HKP2.out.size)); (case aL => go_loud (have h1 := HDL.out; rw [List.length_map]; omega)); intro v8 w8 ho hb hg hat; have HL8 := Aside0.mk (Lk.app HKP2.out HROW2.out HGB.out hb ho); clear ho hb hg hat))
              go_roundg (tx.length - (p + 1))
              case measure => exact meas HLP.out HGP.out
              case rel => exact ⟨p + 1, HLP.out, Nat.le_refl _, by rw [ewp], ⟨by rw [HXT.out, ← List.append_assoc, HD.out]; exact HL8.out⟩⟩
            · obtain rfl : p = tx.length := by omega
              have b3 : decide ((tx.length : Int) < (tx.length : Int)) = false := decide_eq_false (by omega)
              have HLK2 : Aside0 (Lk w w14 wr gB k cB L u3 (r1.take (m + 1)).flatten) := ⟨by
                have h := HLK.out
                rw [List.take_length] at h
                rw [HFL.out]
                exact h⟩
              clear HLK hlp hp hgp
              go_wp2_with fail
              go_roundg (r1.length - (m + 1))
              case measure => exact meas HLT.out HGM.out
              case rel => exact ⟨m + 1, HLT.out, Nat.le_refl _, by rw [ewm], HLK2⟩
        · obtain rfl : m = r1.length := by omega
          have b1 : decide ((r1.length : Int) < (r1.length : Int)) = false := decide_eq_false (by omega)
          have HLK3 : Aside0 (Lk w w14 wr gB k cB L u3 r1.flatten) := ⟨by
            have h := HLK.out
            rw [List.take_length] at h
            exact h⟩
          have hb4n : b4 ≠ gB := fun e => by have h1 := HZ14.out; rw [e, HHB.out] at h1; injection h1 with h2; injection h2 with _ h3 _; exact absurd h3 (by decide)
          have hz4 : wr.heap[b4]? = some (.cells #[.int .i64 a2, .int .i64 q2] 46 (0, 0)) := HLK3.out.kp.blk HZ14.out hb4n
          have HS4 : Aside0 (∀ X : World, Below wr.heap.size wr X → X.cell? ⟨b4, 0, none⟩ = some (.int .i64 a2) ∧ X.cell? ⟨b4, 1, none⟩ = some (.int .i64 q2)) := ⟨fun X hX => ⟨pw_cell_below hX (blk_cell hz4 0), pw_cell_below hX (blk_cell hz4 1)⟩⟩
          obtain ⟨w10, hst, hz, hg⟩ := head_again wr.drew b4 a2 q2 (blk_below hz4 (below_drew (Below.refl _ _)))
          have HST := Aside0.mk hst
          have HZ := Aside0.mk hz
          have HG := Aside0.mk hg
          have HZ4 := Aside0.mk hz4
          have HLK4 : Aside0 (Lk w w14 w10 gB k cB L u3 r1.flatten) := ⟨(HLK3.out.below (below_drew (Below.refl _ _))).again HZ14.out (blk_below hz4 (below_drew (Below.refl _ _))) hz hg⟩
          obtain ⟨Aw, cw, hev⟩ := Kd.R_slice HLK4.out.wr
          rw [List.length_map] at hev
          obtain ⟨nf, hnf⟩ : ∃ q_, r1.flatten.length = q_ := ⟨_, rfl⟩
          rw [hnf] at hev
          subst hev
          have HNF := Aside0.mk hnf
          clear hst hz hg hz4 hb4n HLK HLK3 hm hgm hlt hnf
          go_wp2_with fail
          refine start_ (n := 8) (S := fun w' => w'.cell? ⟨b4, 0, none⟩ = some (.int .i64 a2) ∧ w'.cell? ⟨b4, 1, none⟩ = some (.int .i64 q2)) (ds := [6]) #[false, false, false, false, false, false, false, false] (by kernel_rfl) rfl rfl ⟨(HS4.out _ (below_drew (Below.refl _ _))).1, (HS4.out _ (below_drew (Below.refl _ _))).2⟩ (fun hHeld => ?_)
          refine pure_ (i := 0) (N := some 90) (v := ?_) (a' := ?_) #[true, false, false, false, false, false, false, false] rfl rfl (by kernel_rfl) (fun _ _ _ h => h) (Or.inl ⟨by rfl, ?_⟩) ?_ ?_
          rotate_left
          · intro w'
            go_simp
            with_reducible rfl
          rotate_left
          · simp only [Act.put, List.setIfInBounds_toArray, List.set_cons_zero, List.set_cons_succ, i64_w, i32_w]
            rfl
          refine pure_ (i := 1) (N := some 91) (v := ?_) (a' := ?_) #[true, true, false, false, false, false, false, false] rfl rfl (by kernel_rfl) (fun _ _ _ h => h) (Or.inl ⟨by rfl, ?_⟩) ?_ ?_
          rotate_left
          · intro w'
            go_simp
            with_reducible rfl
          rotate_left
          · simp only [Act.put, List.setIfInBounds_toArray, List.set_cons_zero, List.set_cons_succ, i64_w, i32_w]
            rfl
          refine pure_ (i := 3) (N := some 93) (v := ?_) (a' := ?_) #[true, true, false, true, false, false, false, false] rfl rfl (by kernel_rfl) (fun _ _ _ h => h) (Or.inl ⟨by rfl, ?_⟩) ?_ ?_
          rotate_left
          · intro w'
            go_simp
            with_reducible rfl
          rotate_left
          · simp only [Act.put, List.setIfInBounds_toArray, List.set_cons_zero, List.set_cons_succ, i64_w, i32_w]
            rfl
          refine pure_ (i := 4) (N := some 2) (v := ?_) (a' := ?_) #[true, true, false, true, true, false, false, false] rfl rfl (by kernel_rfl) (fun _ _ _ h => h) (Or.inl ⟨by rfl, ?_⟩) ?_ ?_
          rotate_left
          · intro w'
            go_simp
            with_reducible rfl
          rotate_left
          · simp only [Act.put, List.setIfInBounds_toArray, List.set_cons_zero, List.set_cons_succ, i64_w, i32_w]
            rfl
          refine pure_ (i := 5) (N := some 3) (v := ?_) (a' := ?_) #[true, true, false, true, true, true, false, false] rfl rfl (by kernel_rfl) (fun _ _ _ h => h) (Or.inl ⟨by rfl, ?_⟩) ?_ ?_
          rotate_left
          · intro w'
            go_simp
            with_reducible rfl
          rotate_left
          · simp only [Act.put, List.setIfInBounds_toArray, List.set_cons_zero, List.set_cons_succ, i64_w, i32_w]
            rfl
          refine take_ (i := 2) (N := some 92) (v := ?_) (a' := ?_) #[true, true, true, true, true, true, false, false] rfl rfl (by kernel_rfl) (fun _ _ _ h => h) (Or.inl ⟨by rfl, ?_⟩) hHeld ?_ ?_
          rotate_left
          · rintro w' ⟨s0, s1⟩
            go_simp
            with_reducible rfl
          rotate_left
          · simp only [Act.put, List.setIfInBounds_toArray, List.set_cons_zero, List.set_cons_succ, i64_w, i32_w]
            rfl
          refine last_ (i := 6) (N := none) #[true, true, true, true, true, true, true, false] rfl rfl (by kernel_rfl) (by decide) (fun K hK => ?_)
          refine skip_ (w1 := w10) (by rfl) rfl ?_ ?_
          · exact Whole.exec_store _ (.tmp 4) (.tmp 92) rfl _ _ (by rfl) (by rfl) HST.out
          refine hK.out _ _ ?_
          clear hK K
          refine pure_ (i := 7) (N := some 5) (v := ?_) (a' := ?_) #[true, true, true, true, true, true, true, true] rfl rfl (by kernel_rfl) (fun _ _ _ h => h) (Or.inl ⟨by rfl, ?_⟩) ?_ ?_
          rotate_left
          · intro w'
            go_simp
            with_reducible rfl
          rotate_left
          · simp only [Act.put, List.setIfInBounds_toArray, List.set_cons_zero, List.set_cons_succ, i64_w, i32_w]
            rfl
          refine done_ (by kernel_rfl) ?_

          go_wp2_with fail
          refine bodyPost_ret (results_ttct rfl _ _ b4 _ #[.int .i64 a2, .int .i64 q2] (0, 0) _ rfl HZ.out Try.underlying46 rfl infoH) rfl ?_
          exact HLK4.out.done (by have h2 := HN64.out; omega) HCB.out HNF.out.symm HB15.out
end Go.Proofs.Ytcihfmehbmficaa.Jrn
/- Package journal: Open and Look, whatever the log holds. -/
namespace Go.Proofs.Ytcihfmehbmficaa.Jrn
open Go Go.RowKit Go.Maps Go.Proofs.YtcihfmehbmficaaW.PrintWords Go.Proofs.YtcihfmehbmficaaW.PrintLast Go.Proofs.YtcihfmehbmficaaW.PrintMore Go.Proofs.Ytcihfmehbmficaa.Disk
set_option linter.unusedVariables false
set_option linter.unusedSimpArgs false
set_option maxRecDepth 100000
theorem Look_some {w : World} {g n : Nat} {a q : Int} {L : List (List Int)} {ws : List Wr} (hlk : Calls Try.prog 27 #[.pointer (some ⟨g, 0, none⟩)] w (LkP w n L ws a q)) :
    Calls Try.prog 14 #[.pointer (some ⟨g, 0, none⟩)] w fun e w' => ∃ gB cB, e = .returned (.tuple #[.slice (some ⟨gB, 0, none⟩) n cB, .int .i64 0]) ∧ n ≤ cB ∧ (∀ W1 : World, (∀ k, w.heap.size ≤ k → k < w'.heap.size → W1.heap[k]? = w'.heap[k]?) → kY.C W1 (some ⟨gB, 0, none⟩) n L) ∧ Below w.heap.size w w' := by
  have HLK := Aside0.mk hlk
  clear hlk
  go_enter Try.func14, Try.ntmps14
  go_wp2_with (go_at_call 27; (with_reducible refine HLK.out.mono ?_); rintro e w1 ⟨gB, cB, Aw, cw, rfl, hcB, hrd, hrw, hb⟩; have HRD := Aside0.mk hrd; have HB := Aside0.mk hb; have HCB := Aside0.mk hcB; clear hrd hb hcB hrw)
  refine bodyPost_ret (results_tmp2 rfl _ _ _) rfl ?_
  exact ⟨gB, cB, rfl, HCB.out, fun W1 hW => HRD.out W1 (fun k h1 h2 => (hW k h1 (by rw [World.size_alloc]; omega)).trans ((below_alloc (Below.refl w1.heap.size w1) _).block k h2)), below_alloc HB.out _⟩
theorem Open_some {w : World} {F : Nat → Prop} {g : Nat} {bs : List Blk} {a q : Int} {n : Nat} {L : List (List Int)} {ws : List Wr} (hd : DW w F g ⟨false, -1, bs⟩) (hlk : Calls Try.prog 27 #[.pointer (some ⟨g, 0, none⟩)] w (LkP w n L ws a q)) (hfit : Fit bs.length ws) (hwl : ws.length ≤ 1000)
    (hB : Go.Proofs.Ytcihfmehbmficaa.Super.headB a q = true) (hl : 1 < bs.length) (hcap : Cap bs 1000) :
    Calls Try.prog 10 #[.pointer (some ⟨g, 0, none⟩)] w fun e w' => ∃ gj F', e = .returned (.tuple #[.pointer (some ⟨gj, 0, none⟩), .int .i64 0]) ∧ JW w' F' g gj (movB (pushAll bs ws) (headI64 a q)) a q a q 0 ∧ Ch w w' F (FJ F' gj) := by
  have HLK := Aside0.mk hlk
  have HFIT := Aside0.mk hfit
  have HWL := Aside0.mk hwl
  have HD := Aside0.mk hd
  have HHB := Aside0.mk hB
  have HL := Aside0.mk hl
  have HCAP := Aside0.mk hcap
  clear hlk hd hB hl hcap hfit hwl
  go_enter Try.func10, Try.ntmps10
  go_wp2_with (first | (go_at_call 27; (with_reducible refine HLK.out.mono ?_); rintro e w1 ⟨gB, cB, Aw, cw, rfl, hcB, hrd, hrw, hb⟩; have HB3 := Aside0.mk (below_alloc (below_alloc hb (.cells #[.int .i64 a, .int .i64 q] 46)) (.cells #[.pointer (some ⟨g, 0, none⟩), .int .i64 0, .int .i64 0, .int .i64 a, .int .i64 q, .int .i64 0, .bool false] 59)); have hj := blk_new (w1.alloc (.cells #[.int .i64 a, .int .i64 q] 46)) (.cells #[.pointer (some ⟨g, 0, none⟩), .int .i64 0, .int .i64 0, .int .i64 a, .int .i64 q, .int .i64 0, .bool false] 59); rw [World.size_alloc] at hj; have HJ3 : Aside0 (JW ((w1.alloc (.cells #[.int .i64 a, .int .i64 q] 46)).alloc (.cells #[.pointer (some ⟨g, 0, none⟩), .int .i64 0, .int .i64 0, .int .i64 a, .int .i64 q, .int .i64 0, .bool false] 59)) F g (w1.heap.size + 1) bs 0 0 a q 0) := ⟨⟨HD.out.below HB3.out, hj, fun hF => by have h1 := HD.out.lt _ hF; have h2 := hb.size; omega⟩⟩; have HGJ : Aside0 (w.heap.size ≤ w1.heap.size + 1) := ⟨by have h2 := hb.size; omega⟩; have HRW := Aside0.mk ((hrw F HD.out.lt).ch (Ch.of_below F (below_alloc (below_alloc (Below.refl w1.heap.size w1) (.cells #[.int .i64 a, .int .i64 q] 46)) (.cells #[.pointer (some ⟨g, 0, none⟩), .int .i64 0, .int .i64 0, .int .i64 a, .int .i64 q, .int .i64 0, .bool false] 59)))); clear hcB hrd hrw hb hj) | (go_at_call 16; (with_reducible refine (put_ever HJ3.out.dk HCAP.out Aw cw ws.length ws rfl HRW.out HFIT.out (by have h := HWL.out; omega)).mono ?_); rintro e w4 ⟨rfl, hp⟩; obtain ⟨F4, h4, hc4⟩ := HJ3.out.disk hp; have H4 : Aside0 (JW w4 F4 g (w1.heap.size + 1) (pushAll bs ws) 0 0 a q 0) := ⟨h4⟩; have HC4 := Aside0.mk hc4; clear hp h4 hc4) | (go_at_call 24; (with_reducible refine (move_calls H4.out HHB.out (by rw [pushAll_length]; exact HL.out)).mono ?_); rintro e w5 ⟨rfl, F5, h5, hc5⟩; have H5 := Aside0.mk h5; have HC5 := Aside0.mk (HC4.out.trans hc5); clear h5 hc5))
  refine bodyPost_ret (results_tmp2 rfl _ _ _) rfl ?_
  refine ⟨_, F5, rfl, H5.out, ?_⟩
  have h3 := HB3.out
  have h5 := HC5.out
  exact ⟨h5.os.trans h3.os, h5.tape.trans h3.tape, h5.output.trans h3.output, Nat.le_trans h3.size h5.size, fun k hk hn => (h5.far k (Nat.lt_of_lt_of_le hk h3.size) (fun hF => hF.elim hn (fun e => by have := HGJ.out; omega))).trans (h3.block k hk), fun k hk => (h5.new k hk).elim (fun hF => hF.elim Or.inl (fun e => Or.inr (by have := HGJ.out; omega))) (fun a => Or.inr (Nat.le_trans h3.size a))⟩
end Go.Proofs.Ytcihfmehbmficaa.Jrn
/- Package journal, plain: what Find finds goes to homes, is not much, and is not found again from the head behind it; what blocks hold behind writes and a move. -/
namespace Go.Proofs.Ytcihfmehbmficaa.Jrn
open Go Go.RowKit Go.Maps Go.Proofs.YtcihfmehbmficaaW.PrintWords Go.Proofs.YtcihfmehbmficaaW.PrintLast Go.Proofs.YtcihfmehbmficaaW.PrintMore Go.Proofs.Ytcihfmehbmficaa.Disk Go.Proofs.Ytcihfmehbmficaa.Pure
set_option linter.unusedVariables false
set_option linter.unusedSimpArgs false
set_option maxRecDepth 100000
abbrev bkL := Go.Proofs.Ytcihfmehbmficaa.PAll.log_Find.bk
theorem countP_lt {α : Type} {p q : α → Bool} : ∀ {l : List α}, (∀ x ∈ l, p x = true → q x = true) → (∃ x ∈ l, q x = true ∧ p x = false) → l.countP p < l.countP q
  | [], _, h => by obtain ⟨x, hx, _⟩ := h; nomatch hx
  | y :: l, h1, h2 => by
    rw [List.countP_cons, List.countP_cons]
    have hm : ∀ x ∈ l, p x = true → q x = true := fun x hx => h1 x (List.mem_cons_of_mem _ hx)
    have hle : l.countP p ≤ l.countP q := List.countP_mono_left hm
    obtain ⟨x, hx, hq, hp⟩ := h2
    rcases List.mem_cons.1 hx with rfl | hx
    · rw [hq, hp]; simp; omega
    · have h3 := countP_lt hm ⟨x, hx, hq, hp⟩
      have h4 := h1 y List.mem_cons_self
      cases hpy : p y <;> cases hqy : q y <;> simp_all <;> omega
/-- The places of the log whose block has a number of q or more. -/
def cntQ (bl : List (List Int)) (q : Int) : Nat := (List.range 40).countP (fun p => decide (q ≤ numI (bkL bl p) 4 4))
theorem cntQ_lt {bl : List (List Int)} {a : Nat} {q : Int} (ha : a < 40) (h : numI (bkL bl a) 4 4 = q) : cntQ bl (q + 1) < cntQ bl q :=
  countP_lt (fun x _ hx => by
    have := of_decide_eq_true hx
    exact decide_eq_true (by omega)) ⟨a, List.mem_range.2 ha, decide_eq_true (by omega), decide_eq_false (by omega)⟩
theorem cntQ_le (bl : List (List Int)) (q : Int) : cntQ bl q ≤ 40 := by
  have h := List.countP_le_length (p := fun p => decide (q ≤ numI (bkL bl p) 4 4)) (l := List.range 40)
  rw [List.length_range] at h
  exact h
theorem fnd_more (bl : List (List Int)) : ∀ (d : Nat) (out : List (List SW)) (a : Nat) (q : Int), a < 40 → ∃ more : List (List SW), (fnd bl d out a q).1 = out ++ more ∧ more.length ≤ cntQ bl q ∧ (∀ tx ∈ more, ∃ b, okB (bkL bl b) ∧ tx = trL bl b)
  | 0, out, a, q, _ => ⟨[], by simp [fnd], Nat.zero_le _, fun x h => nomatch h⟩
  | d + 1, out, a, q, ha => by
    rw [fnd]
    by_cases h : trB bl a q
    · rw [if_pos h]
      obtain ⟨more, h1, h2, h3⟩ := fnd_more bl d (out ++ [trL bl a]) ((a + trN bl a + 2) % 40) (q + 1) (by omega)
      refine ⟨trL bl a :: more, by rw [h1]; simp, ?_, ?_⟩
      · have := cntQ_lt ha h.2.1
        rw [List.length_cons]; omega
      · intro tx htx
        rcases List.mem_cons.1 htx with rfl | htx
        · exact ⟨a, h.1, rfl⟩
        · exact h3 tx htx
    · rw [if_neg h]
      exact ⟨[], by simp, Nat.zero_le _, fun x h => nomatch h⟩
theorem fnd_again (bl : List (List Int)) : ∀ (d : Nat) (out : List (List SW)) (a : Nat) (q : Int) {o : List (List SW)} {a2 q2 e : Int}, a < 40 → 1 ≤ q → (d : Int) + q = 1073741824 → fnd bl d out a q = (o, a2, q2, e) → e = 0 ∧ (0 ≤ a2 ∧ a2 < 40) ∧ (1 ≤ q2 ∧ q2 ≤ 1073741824) ∧ ∀ out', fnd bl (1073741824 - q2.toNat) out' a2.toNat q2 = (out', a2, q2, 0)
  | 0, out, a, q, o, a2, q2, e, ha, h1, hd, h => by
    rw [fnd] at h
    obtain ⟨rfl, rfl, rfl, rfl⟩ := by simpa using h
    refine ⟨rfl, ⟨by omega, by omega⟩, ⟨h1, by omega⟩, fun out' => ?_⟩
    rw [show 1073741824 - q.toNat = 0 by omega, fnd, Int.toNat_natCast]
  | d + 1, out, a, q, o, a2, q2, e, ha, h1, hd, h => by
    rw [fnd] at h
    by_cases ht : trB bl a q
    · rw [if_pos ht] at h
      exact fnd_again bl d _ _ (q + 1) (by omega) (by omega) (by omega) h
    · rw [if_neg ht] at h
      obtain ⟨rfl, rfl, rfl, rfl⟩ := by simpa using h
      refine ⟨rfl, ⟨by omega, by omega⟩, ⟨h1, by omega⟩, fun out' => ?_⟩
      rw [show 1073741824 - q.toNat = d + 1 by omega, fnd, Int.toNat_natCast, if_neg ht]
theorem headB_iff (a q : Int) : Go.Proofs.Ytcihfmehbmficaa.Super.headB a q = true ↔ (0 ≤ a ∧ a ≤ 39) ∧ (1 ≤ q ∧ q ≤ 1073741824) := by
  simp only [Go.Proofs.Ytcihfmehbmficaa.Super.headB, Go.Proofs.Ytcihfmehbmficaa.Super.inB, Bool.and_eq_true, decide_eq_true_eq]
/-- A write that Find hands back: its block, its bytes. -/
def Hm (x : SW) : Prop := Go.Proofs.Ytcihfmehbmficaa.Log.homeB x.f0 = true ∧ x.f1.length = 64 ∧ Go.Proofs.Ytcihfmehbmficaa.Spin.Bytes x.f1
theorem sndFrom_homeB {l : List Int} : ∀ {pre : List Int}, Go.Proofs.Ytcihfmehbmficaa.Log.sndFrom pre l = true → ∀ x ∈ l, Go.Proofs.Ytcihfmehbmficaa.Log.homeB x = true := by
  induction l with
  | nil => intro pre _ x h; nomatch h
  | cons y r ih =>
    intro pre h x hx
    simp only [Go.Proofs.Ytcihfmehbmficaa.Log.sndFrom, Bool.and_eq_true] at h
    rcases List.mem_cons.1 hx with rfl | hx
    · exact h.1.1
    · exact ih h.2 x hx
theorem bk_get {bl : List (List Int)} (h40 : bl.length = 40) (a : Nat) : bkL bl a ∈ bl := by
  unfold bkL Go.Proofs.Ytcihfmehbmficaa.PAll.log_Find.bk
  rw [List.getD_eq_getElem?_getD, List.getElem?_eq_getElem (by omega)]
  exact List.getElem_mem _
theorem trL_home {bl : List (List Int)} (h40 : bl.length = 40) (hb : ∀ b ∈ bl, b.length = 64 ∧ Go.Proofs.Ytcihfmehbmficaa.Spin.Bytes b) {b : Nat} (h : okB (bkL bl b)) : ∀ x ∈ trL bl b, Hm x := fun x hx => by
  unfold trL Go.Proofs.Ytcihfmehbmficaa.PAll.log_Find.list at hx
  obtain ⟨i, hi, rfl⟩ := List.mem_map.1 hx
  have hi := List.mem_range.1 hi
  have hs := h.2.2.1
  simp only [Go.Proofs.Ytcihfmehbmficaa.Log.sndB, Bool.and_eq_true] at hs
  have hb2 := hb _ (bk_get h40 (b + (i + 1)))
  refine ⟨sndFrom_homeB hs.1.1.1.1 _ ?_, hb2.1, hb2.2⟩
  rw [List.getD_eq_getElem?_getD, List.getElem?_eq_getElem (by rw [numsI_length]; exact hi)]
  exact List.getElem_mem _
/-- Find on a log of 40 whole blocks from a sound head. -/
theorem find_ok {bl : List (List Int)} (h40 : bl.length = 40) (hb : ∀ b ∈ bl, b.length = 64 ∧ Go.Proofs.Ytcihfmehbmficaa.Spin.Bytes b) {a q : Int} (hh : Go.Proofs.Ytcihfmehbmficaa.Super.headB a q = true) : ∃ (r1 : List (List SW)) (a2 q2 : Int), findI bl a q = (r1, a2, q2, 0) ∧ Go.Proofs.Ytcihfmehbmficaa.Super.headB a2 q2 = true ∧ findI bl a2 q2 = ([], a2, q2, 0) ∧ (∀ x ∈ r1.flatten, Hm x) ∧ r1.length ≤ 1000 ∧ r1.flatten.length ≤ 1000 := by
  have hr := (headB_iff a q).1 hh
  have hbad : Go.Proofs.Ytcihfmehbmficaa.PAll.log_Find.badB bl = false := by
    unfold Go.Proofs.Ytcihfmehbmficaa.PAll.log_Find.badB
    rw [List.any_eq_false]
    intro b hm
    rw [(hb b hm).1]; decide
  have hok : okF bl a q := ⟨⟨hr.1.1, by omega⟩, hr.2, h40, hbad⟩
  obtain ⟨⟨o, a2, q2, e⟩, hf⟩ : ∃ z, fnd bl (1073741824 - q.toNat) [] a.toNat q = z := ⟨_, rfl⟩
  obtain ⟨rfl, h2, h3, h4⟩ := fnd_again bl _ _ _ q (by omega) hr.2.1 (by omega) hf
  have hok2 : okF bl a2 q2 := ⟨h2, h3, h40, hbad⟩
  obtain ⟨more, m1, m2, m3⟩ := fnd_more bl (1073741824 - q.toNat) [] a.toNat q (by omega)
  rw [hf, List.nil_append] at m1
  have m1' : o = more := m1
  subst m1'
  refine ⟨o, a2, q2, by unfold findI; rw [if_pos hok, hf], (headB_iff a2 q2).2 ⟨⟨h2.1, by omega⟩, h3⟩, by unfold findI; rw [if_pos hok2, h4], fun x hx => ?_, ?_, ?_⟩
  · obtain ⟨tx, ht, hx⟩ := List.mem_flatten.1 hx
    obtain ⟨b, hb1, rfl⟩ := m3 tx ht
    exact trL_home h40 hb hb1 x hx
  · have := cntQ_le bl q; omega
  · have h5 : ∀ l : List (List SW), (∀ tx ∈ l, tx.length ≤ 20) → l.flatten.length ≤ 20 * l.length := fun l => by
      induction l with
      | nil => intro _; simp
      | cons y r ih =>
        intro h
        have h6 := ih (fun tx ht => h tx (List.mem_cons_of_mem _ ht))
        have h7 := h y List.mem_cons_self
        rw [List.flatten_cons, List.length_append, List.length_cons]
        omega
    have h6 := h5 o (fun tx ht => by
      obtain ⟨b, hb1, rfl⟩ := m3 tx ht
      rw [trL_length]
      exact hb1.2.1)
    have := cntQ_le bl q
    omega
/-! ### What blocks hold -/
theorem cur_mod {bs : List Blk} (i : Nat) (l : List Int) : (bs.modify i (push l)).map curB = (bs.map curB).set i l := by
  apply List.ext_getElem?
  intro j
  rw [List.getElem?_map, List.getElem?_modify, List.getElem?_set, List.getElem?_map]
  by_cases h : i = j
  · subst h
    rw [if_pos rfl]
    by_cases hl : i < bs.length
    · rw [List.getElem?_eq_getElem hl]; simp [cur_push, hl]
    · rw [List.getElem?_eq_none (by omega)]; simp [hl]
  · rw [if_neg h]
    cases bs[j]? <;> simp [h]
theorem cur_pushAll : ∀ (ds : List SW) (bs : List Blk), (pushAll bs (ds.map cv)).map curB = setAll (bs.map curB) ds
  | [], _ => rfl
  | x :: xs, bs => by
    show (pushAll (bs.modify x.f0.toNat (push x.f1)) (xs.map cv)).map curB = setAll ((bs.map curB).set x.f0.toNat x.f1) xs
    rw [cur_pushAll xs, cur_mod]
theorem cur_kb (b : Blk) : curB (kb b) = curB b := by
  unfold kb keepB curB keepN
  cases h : b.opn with
  | nil => simp
  | cons x xs =>
    have h1 : (min (((x :: xs).length : Nat) : Int) (((x :: xs).length : Nat) : Int)).toNat = xs.length + 1 := by rw [List.length_cons]; omega
    rw [h1, if_neg (by omega)]
    have e1 : (x :: xs).getD (xs.length + 1 - 1) [] = (x :: xs).getLast (by simp) := by
      rw [List.getD_eq_getElem?_getD, List.getLast_eq_getElem, List.getElem?_eq_getElem (by simp)]; rfl
    rw [e1]
    show (x :: xs).getLast _ = (x :: xs).getLastD b.last
    have h9 := List.getLast_eq_getLastD (show x :: xs ≠ [] by simp)
    rw [List.getLastD_cons, ← h9]
theorem cur_map_kb (bs : List Blk) : (bs.map kb).map curB = bs.map curB := by
  rw [List.map_map]; exact List.map_congr_left (fun b _ => cur_kb b)
theorem cur_mov (bs : List Blk) (H : List Int) : (movB bs H).map curB = (bs.map curB).set 1 H := by
  unfold movB
  rw [cur_map_kb, cur_mod, cur_map_kb]
theorem mov_length (bs : List Blk) (H : List Int) : (movB bs H).length = bs.length := by
  unfold movB; rw [List.length_map, List.length_modify, List.length_map]
theorem mov_cap (bs : List Blk) (H : List Int) (c : Nat) : Cap (movB bs H) c := fun i b hi => by
  unfold movB at hi
  rw [List.getElem?_map] at hi
  obtain ⟨b0, _, rfl⟩ := Option.map_eq_some_iff.1 hi
  exact Nat.zero_le _
theorem mov_restart (bs : List Blk) (H : List Int) (l : List Int) : (movB bs H).mapIdx (fun i b => keepB b (l.getD i 0)) = movB bs H := restart_kb _ l
theorem set_log {L : List (List Int)} {i : Nat} (x : List Int) (h : i < 19 ∨ 59 ≤ i) : ((L.set i x).drop 19).take 40 = (L.drop 19).take 40 := by
  apply List.ext_getElem?
  intro j
  rw [List.getElem?_take, List.getElem?_take]
  by_cases hj : j < 40
  · rw [if_pos hj, if_pos hj, List.getElem?_drop, List.getElem?_drop, List.getElem?_set_ne (by omega)]
  · rw [if_neg hj, if_neg hj]
theorem homeB_iff (n : Int) : Go.Proofs.Ytcihfmehbmficaa.Log.homeB n = true ↔ 0 ≤ n ∧ n < 480 ∧ n ≠ 1 ∧ (n < 19 ∨ 59 ≤ n) := by
  simp only [Go.Proofs.Ytcihfmehbmficaa.Log.homeB, Bool.and_eq_true, Bool.or_eq_true, Bool.not_eq_true', decide_eq_true_eq, decide_eq_false_iff_not]
  omega
theorem setAll_log : ∀ (ds : List SW) (L : List (List Int)), (∀ x ∈ ds, Hm x) → ((setAll L ds).drop 19).take 40 = (L.drop 19).take 40
  | [], _, _ => rfl
  | x :: xs, L, h => by
    have h1 := (homeB_iff _).1 (h x List.mem_cons_self).1
    show ((setAll (L.set x.f0.toNat x.f1) xs).drop 19).take 40 = _
    rw [setAll_log xs _ (fun y hy => h y (List.mem_cons_of_mem _ hy)), set_log _ (by omega)]
/-- Whole blocks of bytes. -/
def Bl (L : List (List Int)) : Prop := ∀ b ∈ L, b.length = 64 ∧ Go.Proofs.Ytcihfmehbmficaa.Spin.Bytes b
theorem Bl.set {L : List (List Int)} (h : Bl L) {x : List Int} (hx : x.length = 64 ∧ Go.Proofs.Ytcihfmehbmficaa.Spin.Bytes x) (i : Nat) : Bl (L.set i x) := fun b hb => by
  rcases List.mem_or_eq_of_mem_set hb with hb | rfl
  · exact h b hb
  · exact hx
theorem Bl.setAll : ∀ (ds : List SW) {L : List (List Int)}, Bl L → (∀ x ∈ ds, Hm x) → Bl (Jrn.setAll L ds)
  | [], _, h, _ => h
  | x :: xs, L, h, hd => Bl.setAll xs (h.set ⟨(hd x List.mem_cons_self).2.1, (hd x List.mem_cons_self).2.2⟩ _) (fun y hy => hd y (List.mem_cons_of_mem _ hy))
theorem Bl.log {L : List (List Int)} (h : Bl L) : Bl ((L.drop 19).take 40) := fun b hb => h b (List.mem_of_mem_drop (List.mem_of_mem_take hb))
theorem Bl.cur {bs : List Blk} (h : Bl (bs.map curB)) : ∀ b ∈ bs, Go.Proofs.Ytcihfmehbmficaa.Spin.Bytes (curB b) := fun b hb => (h _ (List.mem_map.2 ⟨b, hb, rfl⟩)).2
theorem headI_cases (l : List Int) : (∃ a q, headI l = (a, q, 0) ∧ Go.Proofs.Ytcihfmehbmficaa.Super.headB a q = true) ∨ headI l = (0, 0, 2) := by
  unfold headI
  by_cases h : okH l
  · left; rw [if_pos h]; exact ⟨_, _, rfl, h.2.1⟩
  · right; rw [if_neg h]
end Go.Proofs.Ytcihfmehbmficaa.Jrn
/- Package journal, plain: a log that holds transactions of one block, and what a commit makes of it. -/
namespace Go.Proofs.Ytcihfmehbmficaa.Jrn
open Go Go.RowKit Go.Maps Go.Proofs.YtcihfmehbmficaaW.PrintWords Go.Proofs.YtcihfmehbmficaaW.PrintLast Go.Proofs.YtcihfmehbmficaaW.PrintMore Go.Proofs.Ytcihfmehbmficaa.Disk Go.Proofs.Ytcihfmehbmficaa.Pure
set_option linter.unusedVariables false
set_option linter.unusedSimpArgs false
set_option maxRecDepth 100000
/-- What lasts of blocks. -/
def lstL (bs : List Blk) : List (List Int) := bs.map Blk.last
def curL (bs : List Blk) : List (List Int) := bs.map curB
theorem push_last (i : Nat) (l : List Int) (bs : List Blk) : lstL (bs.modify i (push l)) = lstL bs := by
  unfold lstL
  apply List.ext_getElem?
  intro j
  rw [List.getElem?_map, List.getElem?_map, List.getElem?_modify]
  cases bs[j]? with
  | none => rfl
  | some b => by_cases h : i = j <;> simp [h, push]
theorem lst_pushAll : ∀ (ws : List Wr) (bs : List Blk), lstL (pushAll bs ws) = lstL bs
  | [], _ => rfl
  | x :: xs, bs => by
    show lstL (pushAll (bs.modify x.tgt.toNat (push x.data)) xs) = _
    rw [lst_pushAll xs, push_last]
theorem lst_kb (bs : List Blk) : lstL (bs.map kb) = curL bs := by
  unfold lstL curL
  rw [List.map_map]
  refine List.map_congr_left (fun b _ => ?_)
  show (kb b).last = curB b
  rw [← cur_kb b]; rfl
/-- The blocks of the log. -/
def logL (L : List (List Int)) : List (List Int) := (L.drop 19).take 40
/-- Transactions of one block each, one behind the other. -/
inductive Chn (bl : List (List Int)) : Nat → Int → List (List SW) → Nat → Int → Prop where
  | nil (a : Nat) (q : Int) : Chn bl a q [] a q
  | cons {a : Nat} {q : Int} {T : List (List SW)} {a1 : Nat} {q1 : Int} : trB bl a q → trN bl a = 1 → Chn bl ((a + 3) % 40) (q + 1) T a1 q1 → Chn bl a q (trL bl a :: T) a1 q1
theorem Chn.fnd {bl : List (List Int)} {a : Nat} {q : Int} {T : List (List SW)} {a1 : Nat} {q1 : Int} (h : Chn bl a q T a1 q1) : ∀ (d : Nat) (out : List (List SW)), T.length ≤ d → ¬ trB bl a1 q1 → Pure.fnd bl d out a q = (out ++ T, (a1 : Int), q1, 0) := by
  induction h with
  | nil a q =>
    intro d out _ hn
    cases d with
    | zero => rw [Pure.fnd, List.append_nil]
    | succ d => rw [Pure.fnd, if_neg hn, List.append_nil]
  | cons ht hN _ ih =>
    intro d out hd hn
    cases d with
    | zero => exact absurd hd (by simp)
    | succ d =>
      rw [Pure.fnd, if_pos ht, hN, ih d _ (by simpa using hd) hn]
      simp
theorem Chn.len {bl : List (List Int)} {a : Nat} {q : Int} {T : List (List SW)} {a1 : Nat} {q1 : Int} (h : Chn bl a q T a1 q1) : q1 = q + (T.length : Int) ∧ a1 % 40 = (a + 3 * T.length) % 40 := by
  induction h with
  | nil a q => exact ⟨by simp, by simp⟩
  | cons ht hN _ ih => rw [List.length_cons]; exact ⟨by omega, by omega⟩
/-- The blocks that transactions take are alike. -/
theorem Chn.same {bl bl' : List (List Int)} {a : Nat} {q : Int} {T : List (List SW)} {a1 : Nat} {q1 : Int} (h : Chn bl a q T a1 q1) : (∀ x, x < 3 * T.length → bkL bl' (a + x) = bkL bl (a + x)) → Chn bl' a q T a1 q1 := by
  induction h with
  | nil a q => intro _; exact .nil a q
  | @cons a q T a1 q1 ht hN _ ih =>
    intro hs
    rw [List.length_cons] at hs
    have e0 : bkL bl' a = bkL bl a := hs 0 (by omega)
    have eN : trN bl' a = trN bl a := by unfold trN; exact congrArg cntI e0
    have e1 : bkL bl' (a + 1) = bkL bl (a + 1) := hs 1 (by omega)
    have e2 : bkL bl' (a + 2) = bkL bl (a + 2) := hs 2 (by omega)
    have eL : trL bl' a = trL bl a := by
      unfold trL Go.Proofs.Ytcihfmehbmficaa.PAll.log_Find.list
      rw [eN, hN, show Go.Proofs.Ytcihfmehbmficaa.PAll.log_Find.bk bl' a = Go.Proofs.Ytcihfmehbmficaa.PAll.log_Find.bk bl a from e0]
      refine List.map_congr_left (fun i hi => ?_)
      have hi := List.mem_range.1 hi
      obtain rfl : i = 0 := by omega
      rw [show Go.Proofs.Ytcihfmehbmficaa.PAll.log_Find.bk bl' (a + (0 + 1)) = Go.Proofs.Ytcihfmehbmficaa.PAll.log_Find.bk bl (a + (0 + 1)) from e1]
    rw [← eL]
    refine .cons ?_ (eN.trans hN) (ih (fun x hx => ?_))
    · unfold trB at ht ⊢
      rw [hN] at ht
      rw [eN, hN]
      rw [show Go.Proofs.Ytcihfmehbmficaa.PAll.log_Find.bk bl' a = Go.Proofs.Ytcihfmehbmficaa.PAll.log_Find.bk bl a from e0, show Go.Proofs.Ytcihfmehbmficaa.PAll.log_Find.bk bl' (a + (1 + 1)) = Go.Proofs.Ytcihfmehbmficaa.PAll.log_Find.bk bl (a + (1 + 1)) from e2]
      exact ht
    · have h3 := hs (x + 3) (by omega)
      have e : ∀ B : List (List Int), bkL B ((a + 3) % 40 + x) = bkL B (a + (x + 3)) := fun B => by
        unfold bkL Go.Proofs.Ytcihfmehbmficaa.PAll.log_Find.bk
        rw [show ((a + 3) % 40 + x) % 40 = (a + (x + 3)) % 40 by omega]
      rw [e, e]; exact h3
theorem Chn.snoc {bl : List (List Int)} {a : Nat} {q : Int} {T : List (List SW)} {a1 : Nat} {q1 : Int} (h : Chn bl a q T a1 q1) : trB bl a1 q1 → trN bl a1 = 1 → Chn bl a q (T ++ [trL bl a1]) ((a1 + 3) % 40) (q1 + 1) := by
  induction h with
  | nil a q => intro ht hN; exact .cons ht hN (.nil _ _)
  | cons ht hN _ ih => intro ht' hN'; exact .cons ht hN (ih ht' hN')
theorem zr64_noB (bl : List (List Int)) (a : Nat) (q : Int) (h : bkL bl a = zr64) : ¬ trB bl a q := fun ht => by
  have h1 := ht.1
  rw [show Go.Proofs.Ytcihfmehbmficaa.PAll.log_Find.bk bl a = zr64 from h] at h1
  exact zr_noB h1
/-! ### setAll -/
theorem setAll_set_ne : ∀ (ds : List SW) (L : List (List Int)) (i : Nat) (x : List Int), (∀ d ∈ ds, d.f0.toNat ≠ i) → setAll (L.set i x) ds = (setAll L ds).set i x
  | [], _, _, _, _ => rfl
  | d :: ds, L, i, x, h => by
    show setAll ((L.set i x).set d.f0.toNat d.f1) ds = (setAll (L.set d.f0.toNat d.f1) ds).set i x
    rw [List.set_comm _ _ (Ne.symm (h d List.mem_cons_self)), setAll_set_ne ds _ i x (fun y hy => h y (List.mem_cons_of_mem _ hy))]
theorem setAll_set_set : ∀ (ds : List SW) (L : List (List Int)) (i : Nat) (x y : List Int), (setAll (L.set i x) ds).set i y = (setAll L ds).set i y
  | [], _, _, _, _ => by simp [setAll]
  | d :: ds, L, i, x, y => by
    show (setAll ((L.set i x).set d.f0.toNat d.f1) ds).set i y = (setAll (L.set d.f0.toNat d.f1) ds).set i y
    by_cases h : i = d.f0.toNat
    · rw [← h, List.set_set]
    · rw [List.set_comm _ _ h, setAll_set_set ds]
end Go.Proofs.Ytcihfmehbmficaa.Jrn
/- Package journal, plain: the state of a disk with a journal of one-block commits, and what a commit, a move, an opening make of it. -/
namespace Go.Proofs.Ytcihfmehbmficaa.Jrn
open Go Go.RowKit Go.Maps Go.Proofs.YtcihfmehbmficaaW.PrintWords Go.Proofs.YtcihfmehbmficaaW.PrintLast Go.Proofs.YtcihfmehbmficaaW.PrintMore Go.Proofs.Ytcihfmehbmficaa.Disk Go.Proofs.Ytcihfmehbmficaa.Pure
set_option linter.unusedVariables false
set_option linter.unusedSimpArgs false
set_option maxRecDepth 100000
theorem first_ok (q t : Int) (hq : 1 ≤ q ∧ q ≤ 1073741824) (ht : Go.Proofs.Ytcihfmehbmficaa.Log.homeB t = true) : okB (firstB q t) ∧ numI (firstB q t) 4 4 = q ∧ cntI (firstB q t) = 1 ∧ numsI (firstB q t) 1 = [t] := by
  have hs : Go.Proofs.Ytcihfmehbmficaa.Log.sndB q [t] = true := by
    simp only [Go.Proofs.Ytcihfmehbmficaa.Log.sndB, Go.Proofs.Ytcihfmehbmficaa.Log.sndFrom, ht, Bool.and_eq_true, decide_eq_true_eq, List.length_singleton]
    exact ⟨⟨⟨⟨by simp, hq.1⟩, hq.2⟩, by omega⟩, by omega⟩
  have h := begin_begI _ _ hs
  have h' : begI (firstB q t) = (q, [t], 0) := h
  unfold begI at h'
  by_cases g : okB (firstB q t)
  · rw [if_pos g] at h'
    have e1 := congrArg Prod.fst h'
    have e2 := congrArg (fun x => x.2.1) h'
    have e3 : cntI (firstB q t) = 1 := by
      have e4 := congrArg List.length e2
      rw [numsI_length] at e4
      exact e4
    refine ⟨g, e1, e3, ?_⟩
    have e5 : numsI (firstB q t) (cntI (firstB q t)) = [t] := e2
    rwa [e3] at e5
  · rw [if_neg g] at h'
    have e : (2 : Int) = 0 := congrArg (fun x => x.2.2) h'
    exact absurd e (by decide)
theorem last_ok (q : Int) (hq : 1 ≤ q ∧ q ≤ 1073741824) : okE (lastB q) ∧ numI (lastB q) 4 4 = q ∧ (cntI (lastB q) : Int) = 1 := by
  have he : Go.Proofs.Ytcihfmehbmficaa.Log.endB q 1 = true := by
    unfold Go.Proofs.Ytcihfmehbmficaa.Log.endB
    simp only [Bool.and_eq_true, decide_eq_true_eq]
    omega
  have h := end_lastI _ _ he
  have h' : lastI (lastB q) = (q, 1, 0) := h
  unfold lastI at h'
  by_cases g : okE (lastB q)
  · rw [if_pos g] at h'
    exact ⟨g, congrArg Prod.fst h', congrArg (fun x => x.2.1) h'⟩
  · rw [if_neg g] at h'
    have e : (2 : Int) = 0 := congrArg (fun x => x.2.2) h'
    exact absurd e (by decide)
/-- The log behind a transaction of one block. -/
def logW (C : List (List Int)) (a : Nat) (f l z : List Int) : List (List Int) := (((((C.set (19 + a % 40) zr64).set (19 + (a + 2) % 40) zr64).set (19 + (a + 3) % 40) zr64).set (19 + a % 40) f).set (19 + (a + 1) % 40) l).set (19 + (a + 2) % 40) z
theorem cur_pushW (bs : List Blk) (x : Wr) (xs : List Wr) : (pushAll bs (x :: xs)).map curB = (pushAll (bs.modify x.tgt.toNat (push x.data)) xs).map curB := rfl
theorem lst_write (bs : List Blk) (a : Nat) (f l z : List Int) (t : Int) : lstL (writeB bs a f l z t) = logW (curL bs) a f l z := by
  unfold writeB
  rw [lst_pushAll, lst_kb]
  unfold curL logW blankW
  simp only [pushAll, cur_mod, cur_map_kb]
  rfl
theorem cur_write (bs : List Blk) (a : Nat) (f l z : List Int) (t : Int) : curL (writeB bs a f l z t) = (logW (curL bs) a f l z).set t.toNat l := by
  unfold writeB curL logW blankW
  simp only [pushAll, cur_mod, cur_map_kb]
  rfl
theorem logW_length (C : List (List Int)) (a : Nat) (f l z : List Int) : (logW C a f l z).length = C.length := by unfold logW; simp only [List.length_set]
theorem bk_log {L : List (List Int)} (hL : 59 ≤ L.length) (x : Nat) : bkL (logL L) x = L.getD (19 + x % 40) [] := by
  unfold bkL Go.Proofs.Ytcihfmehbmficaa.PAll.log_Find.bk logL
  rw [List.getD_eq_getElem?_getD, List.getD_eq_getElem?_getD, List.getElem?_take, if_pos (Nat.mod_lt _ (by decide)), List.getElem?_drop]
theorem getD_set (L : List (List Int)) (i j : Nat) (x : List Int) (hi : i < L.length) : (L.set i x).getD j [] = if i = j then x else L.getD j [] := by
  rw [List.getD_eq_getElem?_getD, List.getD_eq_getElem?_getD, List.getElem?_set]
  by_cases h : i = j
  · rw [if_pos h, if_pos h, if_pos hi]; rfl
  · rw [if_neg h, if_neg h]
theorem bk_logW {C : List (List Int)} (hC : 59 ≤ C.length) (a x : Nat) (hx : x < 40) (f l z : List Int) : bkL (logL (logW C a f l z)) (a + x) = if x = 2 then z else if x = 1 then l else if x = 0 then f else if x = 3 then zr64 else bkL (logL C) (a + x) := by
  rw [bk_log (by rw [logW_length]; exact hC), bk_log hC]
  unfold logW
  have m : ∀ y, 19 + y % 40 < C.length := fun y => by omega
  rw [getD_set _ _ _ _ (by simp only [List.length_set]; exact m _), getD_set _ _ _ _ (by simp only [List.length_set]; exact m _), getD_set _ _ _ _ (by simp only [List.length_set]; exact m _), getD_set _ _ _ _ (by simp only [List.length_set]; exact m _), getD_set _ _ _ _ (by simp only [List.length_set]; exact m _), getD_set _ _ _ _ (m _)]
  by_cases h2 : x = 2
  · subst h2; rw [if_pos rfl, if_pos rfl]
  rw [if_neg (by omega), if_neg h2]
  by_cases h1 : x = 1
  · subst h1; rw [if_pos rfl, if_pos rfl]
  rw [if_neg (by omega), if_neg h1]
  by_cases h0 : x = 0
  · subst h0; rw [if_pos (by omega), if_pos rfl]
  rw [if_neg (by omega), if_neg h0]
  by_cases h3 : x = 3
  · subst h3; rw [if_pos rfl, if_pos rfl]
  rw [if_neg (by omega), if_neg h3, if_neg (by omega), if_neg (by omega)]
theorem logW_far {C : List (List Int)} {a : Nat} {f l z : List Int} {j : Nat} (hj : j < 19 ∨ 59 ≤ j) : (logW C a f l z)[j]? = C[j]? := by
  unfold logW
  have m : ∀ y, 19 + y % 40 ≠ j := fun y => by omega
  rw [List.getElem?_set_ne (m _), List.getElem?_set_ne (m _), List.getElem?_set_ne (m _), List.getElem?_set_ne (m _), List.getElem?_set_ne (m _), List.getElem?_set_ne (m _)]
theorem Bl.logW {C : List (List Int)} (h : Bl C) {f l z : List Int} (hf : f.length = 64 ∧ Go.Proofs.Ytcihfmehbmficaa.Spin.Bytes f) (hl : l.length = 64 ∧ Go.Proofs.Ytcihfmehbmficaa.Spin.Bytes l) (hz : z.length = 64 ∧ Go.Proofs.Ytcihfmehbmficaa.Spin.Bytes z) (a : Nat) : Bl (Jrn.logW C a f l z) :=
  have h0 : zr64.length = 64 ∧ Go.Proofs.Ytcihfmehbmficaa.Spin.Bytes zr64 := ⟨by decide, zr64_bytes⟩
  (((((h.set h0 _).set h0 _).set h0 _).set hf _).set hl _).set hz _
theorem setAll_logW (ds : List SW) (hd : ∀ x ∈ ds, Hm x) (C : List (List Int)) (a : Nat) (f l z : List Int) : setAll (logW C a f l z) ds = logW (setAll C ds) a f l z := by
  have m : ∀ y, ∀ d ∈ ds, d.f0.toNat ≠ 19 + y % 40 := fun y d h => by have := (homeB_iff _).1 (hd d h).1; omega
  unfold logW
  rw [setAll_set_ne ds _ _ _ (m _), setAll_set_ne ds _ _ _ (m _), setAll_set_ne ds _ _ _ (m _), setAll_set_ne ds _ _ _ (m _), setAll_set_ne ds _ _ _ (m _), setAll_set_ne ds _ _ _ (m _)]
end Go.Proofs.Ytcihfmehbmficaa.Jrn
/- Package journal, plain: the state LS of a disk under one-block commits; commit, move, opening. -/
namespace Go.Proofs.Ytcihfmehbmficaa.Jrn
open Go Go.RowKit Go.Maps Go.Proofs.YtcihfmehbmficaaW.PrintWords Go.Proofs.YtcihfmehbmficaaW.PrintLast Go.Proofs.YtcihfmehbmficaaW.PrintMore Go.Proofs.Ytcihfmehbmficaa.Disk Go.Proofs.Ytcihfmehbmficaa.Pure
set_option linter.unusedVariables false
set_option linter.unusedSimpArgs false
set_option maxRecDepth 100000
/-- A disk of 200 blocks: head a0 q0 on the disk, transactions T in the log, next a1 q1. -/
structure LS (BS : List Blk) (a0 : Nat) (q0 : Int) (T : List (List SW)) (a1 : Nat) (q1 : Int) : Prop where
  len : BS.length = 200
  bl : Bl (curL BS)
  bls : Bl (lstL BS)
  cap : Cap BS 900
  a0l : a0 < 40
  a1l : a1 < 40
  hd : (curL BS).getD 1 [] = headI64 a0 q0
  ch : Chn (logL (curL BS)) a0 q0 T a1 q1
  fin : bkL (logL (curL BS)) a1 = zr64
  rep : setAll (lstL BS) T.flatten = curL BS
  idem : setAll (curL BS) T.flatten = curL BS
  hm : ∀ x ∈ T.flatten, Hm x
  tgt : ∀ x ∈ T.flatten, x.f0 < 200
  tl : T.length ≤ 13
  fl : T.flatten.length ≤ 20
  q : 1 ≤ q0 ∧ q1 ≤ 100000
theorem curL_length (bs : List Blk) : (curL bs).length = bs.length := List.length_map _
theorem bk_mod (B : List (List Int)) {i j : Nat} (h : i % 40 = j % 40) : bkL B i = bkL B j := by
  unfold bkL Go.Proofs.Ytcihfmehbmficaa.PAll.log_Find.bk
  rw [h]
theorem logL_set {L : List (List Int)} {i : Nat} (x : List Int) (h : i < 19 ∨ 59 ≤ i) : logL (L.set i x) = logL L := set_log x h
theorem kb_cap (bs : List Blk) : Cap (bs.map kb) 0 := fun i b hi => by
  rw [List.getElem?_map] at hi
  obtain ⟨b0, _, rfl⟩ := Option.map_eq_some_iff.1 hi
  exact Nat.le_refl _
theorem head_len (a q : Int) : (headI64 a q).length = 64 ∧ Go.Proofs.Ytcihfmehbmficaa.Spin.Bytes (headI64 a q) := ⟨Go.Proofs.Ytcihfmehbmficaa.Field.sealI_length _ (Go.Proofs.Ytcihfmehbmficaa.Super.headP_length _ _), head_bytes a q⟩
section
variable {BS : List Blk} {a0 a1 : Nat} {q0 q1 : Int} {T : List (List SW)}
theorem LS.commit (h : LS BS a0 q0 T a1 q1) (hT : T.length ≤ 12) (hq : q1 < 100000) {t : Nat} (ht : 60 ≤ t ∧ t < 200) {l : List Int} (hl : l.length = 64 ∧ Go.Proofs.Ytcihfmehbmficaa.Spin.Bytes l) (hfl : T.flatten.length ≤ 19) :
    LS (writeB BS a1 (firstB q1 t) l (lastB q1) t) a0 q0 (T ++ [[⟨(t : Int), l⟩]]) ((a1 + 3) % 40) (q1 + 1) ∧ ∀ j, 60 ≤ j → (curL (writeB BS a1 (firstB q1 t) l (lastB q1) t))[j]? = ((curL BS).set t l)[j]? := by
  have hC : (curL BS).length = 200 := by rw [curL_length]; exact h.len
  have hcl := h.ch.len
  have hqr : 1 ≤ q1 ∧ q1 ≤ 1073741824 := by have := h.q; omega
  have hm : Go.Proofs.Ytcihfmehbmficaa.Log.homeB (t : Int) = true := (homeB_iff _).2 ⟨by omega, by omega, by omega, by omega⟩
  have f1 := first_ok q1 t hqr hm
  have z1 := last_ok q1 hqr
  have e1 : curL (writeB BS a1 (firstB q1 t) l (lastB q1) t) = (logW (curL BS) a1 (firstB q1 t) l (lastB q1)).set t l := by
    have := cur_write BS a1 (firstB q1 t) l (lastB q1) (t : Int)
    rw [Int.toNat_natCast] at this
    exact this
  have eL : logL (curL (writeB BS a1 (firstB q1 t) l (lastB q1) t)) = logL (logW (curL BS) a1 (firstB q1 t) l (lastB q1)) := by rw [e1]; exact logL_set _ (by omega)
  have hbk := fun x hx => bk_logW (C := curL BS) (by omega) a1 x hx (firstB q1 t) l (lastB q1)
  have b0 : bkL (logL (logW (curL BS) a1 (firstB q1 t) l (lastB q1))) a1 = firstB q1 t := hbk 0 (by omega)
  have b1 : bkL (logL (logW (curL BS) a1 (firstB q1 t) l (lastB q1))) (a1 + 1) = l := hbk 1 (by omega)
  have b2 : bkL (logL (logW (curL BS) a1 (firstB q1 t) l (lastB q1))) (a1 + 2) = lastB q1 := hbk 2 (by omega)
  have b3 : bkL (logL (logW (curL BS) a1 (firstB q1 t) l (lastB q1))) (a1 + 3) = zr64 := hbk 3 (by omega)
  have hN : trN (logL (logW (curL BS) a1 (firstB q1 t) l (lastB q1))) a1 = 1 := by
    unfold trN
    rw [show Go.Proofs.Ytcihfmehbmficaa.PAll.log_Find.bk (logL (logW (curL BS) a1 (firstB q1 t) l (lastB q1))) a1 = firstB q1 t from b0]
    exact f1.2.2.1
  have hB : trB (logL (logW (curL BS) a1 (firstB q1 t) l (lastB q1))) a1 q1 := by
    unfold trB
    rw [hN]
    rw [show Go.Proofs.Ytcihfmehbmficaa.PAll.log_Find.bk (logL (logW (curL BS) a1 (firstB q1 t) l (lastB q1))) a1 = firstB q1 t from b0, show Go.Proofs.Ytcihfmehbmficaa.PAll.log_Find.bk (logL (logW (curL BS) a1 (firstB q1 t) l (lastB q1))) (a1 + (1 + 1)) = lastB q1 from b2]
    exact ⟨f1.1, f1.2.1, z1.1, z1.2.1, z1.2.2⟩
  have hLs : trL (logL (logW (curL BS) a1 (firstB q1 t) l (lastB q1))) a1 = [⟨(t : Int), l⟩] := by
    unfold trL
    rw [hN, show Go.Proofs.Ytcihfmehbmficaa.PAll.log_Find.bk (logL (logW (curL BS) a1 (firstB q1 t) l (lastB q1))) a1 = firstB q1 t from b0, f1.2.2.2]
    unfold Go.Proofs.Ytcihfmehbmficaa.PAll.log_Find.list
    show [(⟨(t : Int), Go.Proofs.Ytcihfmehbmficaa.PAll.log_Find.bk (logL (logW (curL BS) a1 (firstB q1 t) l (lastB q1))) (a1 + (0 + 1))⟩ : SW)] = _
    rw [show Go.Proofs.Ytcihfmehbmficaa.PAll.log_Find.bk (logL (logW (curL BS) a1 (firstB q1 t) l (lastB q1))) (a1 + (0 + 1)) = l from b1]
  have hch : Chn (logL (logW (curL BS) a1 (firstB q1 t) l (lastB q1))) a0 q0 T a1 q1 := h.ch.same (fun x hx => by
    have hy : (a0 + x) % 40 = (a1 + (40 - 3 * T.length + x)) % 40 := by have := hcl.2; have := h.a1l; omega
    rw [bk_mod _ hy, bk_mod (logL (curL BS)) hy, hbk _ (by omega), if_neg (by omega), if_neg (by omega), if_neg (by omega), if_neg (by omega)])
  have hsn := hch.snoc hB hN
  rw [hLs] at hsn
  have hX : setAll (logW (curL BS) a1 (firstB q1 t) l (lastB q1)) T.flatten = logW (curL BS) a1 (firstB q1 t) l (lastB q1) := by rw [setAll_logW _ h.hm, h.idem]
  have hTf : (T ++ [[(⟨(t : Int), l⟩ : SW)]]).flatten = T.flatten ++ [⟨(t : Int), l⟩] := by simp
  have hfb : (firstB q1 t).length = 64 ∧ Go.Proofs.Ytcihfmehbmficaa.Spin.Bytes (firstB q1 t) := ⟨f1.1.1, Go.Proofs.Ytcihfmehbmficaa.Field.sealI_bytes (Go.Proofs.Ytcihfmehbmficaa.Log.beginP_bytes _ _ (by simp))⟩
  have hzb : (lastB q1).length = 64 ∧ Go.Proofs.Ytcihfmehbmficaa.Spin.Bytes (lastB q1) := ⟨z1.1.1, Go.Proofs.Ytcihfmehbmficaa.Field.sealI_bytes (Go.Proofs.Ytcihfmehbmficaa.Log.endP_bytes _ _)⟩
  refine ⟨⟨?_, ?_, ?_, ?_, h.a0l, by omega, ?_, ?_, ?_, ?_, ?_, fun x hx => ?_, fun x hx => ?_, ?_, ?_, ?_⟩, fun j hj => ?_⟩
  · rw [← curL_length, e1, List.length_set, logW_length, hC]
  · rw [e1]; exact (h.bl.logW hfb hl hzb a1).set hl t
  · rw [lst_write]; exact h.bl.logW hfb hl hzb a1
  · unfold writeB
    exact ((kb_cap _).push ⟨(t : Int), l⟩).mono (by omega)
  · rw [e1, ← h.hd, List.getD_eq_getElem?_getD, List.getD_eq_getElem?_getD, List.getElem?_set_ne (by omega), logW_far (by omega)]
  · rw [eL]; exact hsn
  · rw [eL, bk_mod _ (show ((a1 + 3) % 40) % 40 = (a1 + 3) % 40 by omega)]; exact b3
  · rw [lst_write, hTf, setAll_append, hX, e1]
    show (logW _ _ _ _ _).set ((t : Int)).toNat l = _
    rw [Int.toNat_natCast]
  · rw [e1, hTf, setAll_append]
    show (setAll ((logW _ _ _ _ _).set t l) T.flatten).set ((t : Int)).toNat l = _
    rw [Int.toNat_natCast, setAll_set_set, hX]
  · rw [hTf] at hx
    rcases List.mem_append.1 hx with hx | hx
    · exact h.hm x hx
    · obtain rfl := List.mem_singleton.1 hx
      exact ⟨hm, hl⟩
  · rw [hTf] at hx
    rcases List.mem_append.1 hx with hx | hx
    · exact h.tgt x hx
    · obtain rfl := List.mem_singleton.1 hx
      show (t : Int) < 200
      omega
  · rw [List.length_append, List.length_singleton]; omega
  · rw [hTf, List.length_append, List.length_singleton]; omega
  · have := h.q; omega
  · rw [e1]
    by_cases e : t = j
    · subst e; rw [List.getElem?_set_self (by rw [logW_length]; omega), List.getElem?_set_self (by omega)]
    · rw [List.getElem?_set_ne e, List.getElem?_set_ne e, logW_far (by omega)]
theorem LS.fresh {Y : List Blk} {a : Nat} {q : Int} (hl : Y.length = 200) (hb : Bl (curL Y)) (ha : a < 40) (hq : 1 ≤ q ∧ q ≤ 100000) (hf : bkL (logL (curL Y)) a = zr64) : LS (movB Y (headI64 a q)) a q [] a q := by
  have e1 : curL (movB Y (headI64 a q)) = (curL Y).set 1 (headI64 a q) := cur_mov _ _
  have e2 : lstL (movB Y (headI64 a q)) = curL (movB Y (headI64 a q)) := by
    unfold movB
    rw [lst_kb]
    unfold curL
    rw [cur_map_kb]
  have hC : (curL Y).length = 200 := by rw [curL_length]; exact hl
  refine ⟨by rw [mov_length]; exact hl, by rw [e1]; exact hb.set (head_len _ _) 1, by rw [e2, e1]; exact hb.set (head_len _ _) 1, mov_cap _ _ _, ha, ha, ?_, .nil _ _, ?_, e2, rfl, fun x hx => (by nomatch hx), fun x hx => (by nomatch hx), by decide, by decide, hq⟩
  · rw [e1, getD_set _ _ _ _ (by omega), if_pos rfl]
  · rw [e1, logL_set _ (by omega)]; exact hf
/-- What a restart leaves that keeps nothing. -/
def rstB (BS : List Blk) : List Blk := BS.mapIdx (fun i b => keepB b (([] : List Int).getD i 0))
theorem rst_eq (BS : List Blk) : rstB BS = BS.map (fun b => ⟨b.last, []⟩) := by
  unfold rstB
  apply List.ext_getElem?
  intro i
  rw [List.getElem?_mapIdx, List.getElem?_map]
  cases BS[i]? with
  | none => rfl
  | some b =>
    show some (keepB b (([] : List Int).getD i 0)) = _
    rw [show (([] : List Int).getD i 0) = 0 by simp]
    unfold keepB keepN
    rw [if_pos (by omega)]
    rfl
theorem rst_cur (BS : List Blk) : curL (rstB BS) = lstL BS := by
  rw [rst_eq]; unfold curL lstL; rw [List.map_map]; rfl
/-- What an opening behind a restart finds and leaves. -/
structure RsP (BS : List Blk) (ws : List Wr) (a1 : Nat) (q1 : Int) : Prop where
  lk : ∀ (W : World) (F : Nat → Prop) (g : Nat), DW W F g ⟨false, -1, rstB BS⟩ → Calls Try.prog 27 #[.pointer (some ⟨g, 0, none⟩)] W (LkP W 200 (curL BS) ws a1 q1)
  fit : Fit (rstB BS).length ws
  wl : ws.length ≤ 1000
  hb : Go.Proofs.Ytcihfmehbmficaa.Super.headB a1 q1 = true
  l1 : 1 < (rstB BS).length
  c1 : Cap (rstB BS) 1000
  ls : LS (movB (pushAll (rstB BS) ws) (headI64 a1 q1)) a1 q1 [] a1 q1
  cur : ∀ j, 60 ≤ j → (curL (movB (pushAll (rstB BS) ws) (headI64 a1 q1)))[j]? = (curL BS)[j]?
theorem LS.again (h : LS BS a0 q0 T a1 q1) : RsP BS (T.flatten.map cv) a1 q1 := by
  have hC : (curL BS).length = 200 := by rw [curL_length]; exact h.len
  have hLl : (lstL BS).length = 200 := by unfold lstL; rw [List.length_map]; exact h.len
  have hq0 : 1 ≤ q0 ∧ q0 ≤ q1 := ⟨h.q.1, by have := h.ch.len.1; omega⟩
  have hrl : (rstB BS).length = 200 := by rw [rst_eq, List.length_map]; exact h.len
  have elog : logL (lstL BS) = logL (curL BS) := by
    rw [← h.rep]; exact (setAll_log _ _ h.hm).symm
  have e1 : (lstL BS).getD 1 [] = headI64 a0 q0 := by
    rw [← h.hd, ← h.rep, List.getD_eq_getElem?_getD, List.getD_eq_getElem?_getD]
    have h1 : ∀ (ds : List SW) (L : List (List Int)), (∀ x ∈ ds, Hm x) → (setAll L ds)[1]? = L[1]? := fun ds => by
      induction ds with
      | nil => intro L _; rfl
      | cons d ds ih =>
        intro L hd
        show (setAll (L.set d.f0.toNat d.f1) ds)[1]? = _
        have := (homeB_iff _).1 (hd d List.mem_cons_self).1
        rw [ih _ (fun x hx => hd x (List.mem_cons_of_mem _ hx)), List.getElem?_set_ne (by omega)]
    rw [h1 _ _ h.hm]
  have hb0 : Go.Proofs.Ytcihfmehbmficaa.Super.headB a0 q0 = true := (headB_iff _ _).2 ⟨by have := h.a0l; omega, by have := h.q; omega⟩
  have hb1 : Go.Proofs.Ytcihfmehbmficaa.Super.headB a1 q1 = true := (headB_iff _ _).2 ⟨by have := h.a1l; omega, by have := h.q; omega⟩
  have h40 : (logL (curL BS)).length = 40 := by unfold logL; rw [List.length_take, List.length_drop, hC]; rfl
  have hbad : Go.Proofs.Ytcihfmehbmficaa.PAll.log_Find.badB (logL (curL BS)) = false := by
    unfold Go.Proofs.Ytcihfmehbmficaa.PAll.log_Find.badB
    rw [List.any_eq_false]
    intro b hm
    rw [(h.bl.log b hm).1]; decide
  have hfind : findI (logL (curL BS)) a0 q0 = (T, (a1 : Int), q1, 0) := by
    unfold findI
    rw [if_pos ⟨by have := h.a0l; omega, by have := h.q; omega, h40, hbad⟩, Int.toNat_natCast]
    have h1 := h.ch.fnd (1073741824 - q0.toNat) [] (by have h1 := h.tl; have h2 := h.q; omega) (zr64_noB _ _ _ h.fin)
    rw [List.nil_append] at h1
    exact h1
  have hx : ∀ x ∈ T.flatten, 0 ≤ x.f0 ∧ x.f0 < (rstB BS).length ∧ x.f1.length = 64 := fun x hx => by
    have h1 := h.hm x hx
    have h2 := (homeB_iff _).1 h1.1
    have h3 := h.tgt x hx
    rw [hrl]
    exact ⟨h2.1, by omega, h1.2.1⟩
  have hcl : curL (pushAll (rstB BS) (T.flatten.map cv)) = curL BS := by
    have h1 := cur_pushAll T.flatten (rstB BS)
    have h2 : (rstB BS).map curB = lstL BS := rst_cur BS
    rw [h2, h.rep] at h1
    exact h1
  refine ⟨fun W F g hd => ?_, fun x hx2 => ?_, by rw [List.length_map]; have := h.fl; omega, hb1, by omega, ?_, ?_, fun j hj => ?_⟩
  · have h2 : (rstB BS).map curB = lstL BS := rst_cur BS
    have h1 := look_some hd (a := (a0 : Int)) (q := q0) (a2 := (a1 : Int)) (q2 := q1) (r1 := T) (by omega) (Bl.cur (by rw [h2]; exact h.bls)) (by rw [h2, e1]; exact head_back _ _ hb0) (by rw [h2]; exact (congrArg (fun l => findI l a0 q0) elog).trans hfind) hx (by have := h.fl; omega) (by have := h.tl; omega)
    rw [hrl, h2, h.rep] at h1
    exact h1
  · obtain ⟨y, hy, rfl⟩ := List.mem_map.1 hx2
    have := hx y hy
    exact ⟨this.2.2, this.1, this.2.1⟩
  · intro i b hi
    rw [rst_eq, List.getElem?_map] at hi
    obtain ⟨b0, _, rfl⟩ := Option.map_eq_some_iff.1 hi
    exact Nat.zero_le _
  · exact LS.fresh (by rw [pushAll_length]; exact hrl) (by rw [hcl]; exact h.bl) h.a1l ⟨by omega, h.q.2⟩ (by rw [hcl]; exact h.fin)
  · have h1 : curL (movB (pushAll (rstB BS) (T.flatten.map cv)) (headI64 a1 q1)) = (curL (pushAll (rstB BS) (T.flatten.map cv))).set 1 (headI64 a1 q1) := cur_mov _ _
    rw [h1, hcl, List.getElem?_set_ne (by omega)]
end
end Go.Proofs.Ytcihfmehbmficaa.Jrn
/- Package journal: Commit of one block where the log is full: the head moves first. -/
namespace Go.Proofs.Ytcihfmehbmficaa.Jrn
open Go Go.RowKit Go.Maps Go.Proofs.YtcihfmehbmficaaW.PrintWords Go.Proofs.YtcihfmehbmficaaW.PrintLast Go.Proofs.YtcihfmehbmficaaW.PrintMore Go.Proofs.Ytcihfmehbmficaa.Disk
set_option linter.unusedVariables false
set_option linter.unusedSimpArgs false
set_option maxRecDepth 100000
set_option maxHeartbeats 4000000 in
theorem commit_full {w : World} {F : Nat → Prop} {g gj : Nat} {bs : List Blk} {h0 q0 q1 u : Int} {a : Nat} (h : JW w F g gj bs h0 q0 (a : Int) q1 u) (ha : a < 40) (hl : 59 ≤ bs.length) (hcap : Cap bs 1000) (hq : 1 ≤ q1 ∧ q1 < 1073741824) (hu : 37 ≤ u ∧ u ≤ 900)
    (A0 : Option Addr) (c0 : Nat) (t : Int) (l : List Int) (hw : RW w (FJ F gj) A0 [⟨t, l⟩]) (hfit : Fit bs.length [⟨t, l⟩]) (ht : Go.Proofs.Ytcihfmehbmficaa.Log.homeB t = true) :
    Calls Try.prog 8 #[.pointer (some ⟨gj, 0, none⟩), .slice A0 1 c0] w fun e w' => e = .returned (.int .i64 0) ∧ JP w w' F g gj (writeB (movB bs (headI64 a q1)) a (firstB q1 t) l (lastB q1) t) (a : Int) q1 (((a + 3) % 40 : Nat) : Int) (q1 + 1) (0 + 3) := by
  obtain ⟨ad, A1, c1, e, hbk, hnf, ca, cd, hlc, hC, hA⟩ := hw 0 ⟨t, l⟩ rfl
  subst e
  have hf1 := hfit ⟨t, l⟩ (List.mem_singleton.2 rfl)
  have hl64 : l.length = 64 := hf1.1
  have ht0 : 0 ≤ t ∧ t < (bs.length : Int) := hf1.2
  have ca2 : w.cell? ad = some (.int .i64 t) := ca
  have cd2 : w.cell? ⟨ad.block, ad.off + 1, none⟩ = some (.slice A1 64 c1) := by rw [← hl64]; exact cd
  have HCA : Aside0 (∀ W, Below w.heap.size w W → W.cell? ad = some (.int .i64 t) ∧ W.cell? ⟨ad.block, ad.off + 1, none⟩ = some (.slice A1 64 c1)) := ⟨fun W hW => ⟨pw_cell_below hW ca2, pw_cell_below hW cd2⟩⟩
  have H := Aside0.mk h
  have HHB : Aside0 (Go.Proofs.Ytcihfmehbmficaa.Super.headB (a : Int) q1 = true) := ⟨(headB_iff _ _).2 ⟨by omega, by omega⟩⟩
  have HL1 : Aside0 (1 < bs.length) := ⟨by omega⟩
  have HL9 : Aside0 (59 ≤ (movB bs (headI64 a q1)).length) := ⟨by rw [mov_length]; exact hl⟩
  have HCAP9 : Aside0 (Cap (movB bs (headI64 a q1)) 1000) := ⟨mov_cap _ _ _⟩
  have HFIT9 : Aside0 (Fit (movB bs (headI64 a q1)).length [⟨t, l⟩]) := ⟨by rw [mov_length]; exact hfit⟩
  have HA := Aside0.mk ha
  have HL := Aside0.mk hl
  have HQ := Aside0.mk hq
  have HU := Aside0.mk hu
  have HW := Aside0.mk hw
  have HFIT := Aside0.mk hfit
  have HT := Aside0.mk ht
  have HCAP := Aside0.mk hcap
  have HBE := Aside0.mk (begin_one q1 t ⟨hq.1, by omega⟩ ht)
  have HEN := Aside0.mk (end_one q1 ⟨hq.1, by omega⟩)
  have hmf : ∀ (fn : Fn) (first cap : Array Value) (w : World), (Instr.makeFunc fn first cap).run Try.prog w = .ok (.func fn first cap) w := fun _ _ _ _ => rfl
  have bq1 : decide (1073741824 ≤ q1) = false := decide_eq_false (by omega)
  have bq2 : decide (q1 ≥ 1073741824) = false := decide_eq_false (by omega)
  have HAB := Aside0.mk (below_alloc (below_alloc (Below.refl w.heap.size w) (.cells #[.pointer (some ⟨gj, 0, none⟩)] 30)) (.cells #[.int .i64 0] 28))
  have c6A : ((w.alloc (.cells #[.pointer (some ⟨gj, 0, none⟩)] 30)).alloc (.cells #[.int .i64 0] 28)).cell? ⟨gj, 6, none⟩ = some (.bool false) := (h.below HAB.out).cell 6
  have c4A : ((w.alloc (.cells #[.pointer (some ⟨gj, 0, none⟩)] 30)).alloc (.cells #[.int .i64 0] 28)).cell? ⟨gj, 4, none⟩ = some (.int .i64 q1) := (h.below HAB.out).cell 4
  clear h ha hl hq hu hw hfit ht hcap hbk hnf ca cd hlc hC hA hf1 hl64 ht0 ca2 cd2
  go_enter_defers Try.func8, Try.ntmps8
  refine Code.wp_mono (fun e a' w' h => NP.out h) ?_
  go_wp2_with fail
  have hb2 := blk_alloc (blk_alloc (blk_new w (.cells #[.pointer (some ⟨gj, 0, none⟩)] 30)) (.cells #[.int .i64 0] 28)) (.cells #[.int .i64 q1, .slice none 0 0] 61)
  have hb4 := blk_alloc (blk_new (w.alloc (.cells #[.pointer (some ⟨gj, 0, none⟩)] 30)) (.cells #[.int .i64 0] 28)) (.cells #[.int .i64 q1, .slice none 0 0] 61)
  have hbd := blk_new ((w.alloc (.cells #[.pointer (some ⟨gj, 0, none⟩)] 30)).alloc (.cells #[.int .i64 0] 28)) (.cells #[.int .i64 q1, .slice none 0 0] 61)
  rw [World.size_alloc] at hb4
  rw [World.size_alloc, World.size_alloc] at hbd
  have HBW := Aside0.mk (below_alloc HAB.out (.cells #[.int .i64 q1, .slice none 0 0] 61))
  obtain ⟨bd, hbde⟩ : ∃ q, w.heap.size + 1 + 1 = q := ⟨_, rfl⟩
  obtain ⟨b4, hb4e⟩ : ∃ q, w.heap.size + 1 = q := ⟨_, rfl⟩
  have hb4e' : b4 + 1 = bd := by omega
  rw [hbde] at hbd
  rw [hb4e] at hb4
  obtain ⟨b2, hb2e⟩ : ∃ q, w.heap.size = q := ⟨_, rfl⟩
  rw [hb2e] at hb2
  have HB2 := Aside0.mk hb2
  have HB4 := Aside0.mk hb4
  have HBD := Aside0.mk hbd
  have HBO : Aside0 (w.heap.size ≤ b2 ∧ w.heap.size ≤ b4 ∧ w.heap.size ≤ bd ∧ b2 ≠ bd ∧ b4 ≠ bd ∧ b2 ≠ b4) := ⟨by omega⟩
  rw [hbde, hb4e, hb2e]
  clear hb2 hb4 hbd hbde hb4e hb4e' hb2e c6A c4A bq1 bq2
  obtain ⟨nn, hnn⟩ : ∃ q : Int, (bs.length : Int) = q := ⟨_, rfl⟩
  have HNN : Aside0 (((DS.bs ⟨false, -1, bs⟩).length : Int) = nn) := ⟨hnn⟩
  have bt1 : decide (nn ≤ t) = false := decide_eq_false (by have h := (HFIT.out ⟨t, l⟩ (List.mem_singleton.2 rfl)).2.2; have h2 : t < (bs.length : Int) := h; omega)
  have bt2 : decide (t ≥ nn) = false := bt1
  clear hnn
  go_loopg [43] 1 (fun gg i wr => ∃ (k : Nat) (vt : Value), k ≤ 1 ∧ 1 - k ≤ gg ∧ i = .int .i64 k ∧ Aside0 (Below w.heap.size w wr) ∧ Aside0 (wr.heap[b2]? = some (.cells #[.pointer (some ⟨gj, 0, none⟩)] 30 (0, 0))) ∧ Aside0 (wr.heap[b4]? = some (.cells #[.int .i64 0] 28 (0, 0))) ∧ Aside0 (wr.heap[bd]? = some (.cells #[.int .i64 q1, vt] 61 (0, 0))) ∧ Aside0 (I.R 3 wr w.heap.size (fun _ => True) vt (([t] : List Int).take k)))
  case atStart => exact ⟨0, _, by omega, Nat.le_refl _, rfl, HBW, HB2, HB4, HBD, ⟨Kd.R_nil _ _ _ _ _⟩⟩
  case round =>
    clear HBW HB2 HB4 HBD HAB
    obtain ⟨k, vt, hk, hgk, rfl, HB, HB2, HB4, HBD, HR⟩ := hrel
    have hk1 : k = 0 ∨ k = 1 := by omega
    rcases hk1 with rfl | rfl
    · obtain ⟨At, ct, rfl⟩ := Kd.R_slice HR.out
      have HRk : Aside0 (I.R 3 wr w.heap.size (fun _ => True) (.slice At 0 ct) []) := ⟨HR.out⟩
      have HBDk : Aside0 (wr.heap[bd]? = some (.cells #[.int .i64 q1, .slice At 0 ct] 61 (0, 0))) := ⟨HBD.out⟩
      have cA := (HCA.out wr HB.out).1
      have cB := (HCA.out wr HB.out).2
      have cdW : (wr.alloc (.cells #[.int .i64 t, .slice A1 64 c1] 35)).cell? ⟨bd, 1, none⟩ = some (.slice At 0 ct) := blk_cell (blk_alloc HBDk.out (.cells #[.int .i64 t, .slice A1 64 c1] 35)) 1
      clear HR HBD hk
      go_wp2_with (((with_reducible refine gate_builtin (b := .append) (xs := #[.tmp 48, .tmp 51]) rfl ?_); at_builtin; refine Kd.R_append I (w0 := w) (W := wr.alloc (.cells #[.int .i64 t, .slice A1 64 c1] 35)) w.heap.size rfl (.tmp 48) (.tmp 51) 54 3 (.int .i64 0) 8 rfl Try.underlying54 infoI54 rfl (by decide) (by omega) (.slice At 0 ct) [] t [.int .i64 t] (fun _ => True) (fun _ => False) rfl ?aX ?aP ?aK ?aF ?aO ?aB ?aS ?aL ?_; (case aX => rw [World.size_alloc]; with_unfolding_all rfl); (case aP => with_unfolding_all rfl); (case aK => exact fun k hk => hk.elim); (case aF => exact fun _ _ => trivial); (case aO => exact Kd.R_below HRk.out (below_alloc (Below.refl _ _) _)); (case aB => exact below_alloc HB.out _); (case aS => exact (below_alloc HB.out _).size); (case aL => simp only [List.length_nil]; omega); intro v8 w8 ho hb hg hat; obtain ⟨A8, c8, e8⟩ := Kd.R_slice ho; subst e8; have ne := fun {q : Nat} {cs : Array Value} {tt : Nat} (hq : (wr.alloc (.cells #[.int .i64 t, .slice A1 64 c1] 35)).heap[q]? = some (.cells cs tt (0, 0))) (ht : 3 ≠ tt) => blk_grown hq hg (Kd.R_ne (Kd.R_below HRk.out (below_alloc (Below.refl _ _) (.cells #[.int .i64 t, .slice A1 64 c1] 35))) hq ht); have HO8 := Aside0.mk ho; have HB8 := Aside0.mk hb; have HB28 := Aside0.mk (ne (blk_alloc HB2.out _) (by decide)); have HB48 := Aside0.mk (ne (blk_alloc HB4.out _) (by decide)); have hbd8 := ne (blk_alloc HBDk.out _) (by decide); have HB78 := Aside0.mk (ne (blk_new wr (.cells #[.int .i64 t, .slice A1 64 c1] 35)) (by decide)); have cd8 : w8.cell? ⟨bd, 1, none⟩ = some (.slice At 0 ct) := blk_cell hbd8 1; have fd8 : w8.frozen? ⟨bd, 1, none⟩ = false := blk_frozen hbd8 1; have HBD8 := Aside0.mk hbd8; clear ne ho hb hg hat hbd8))
      have hsz : ∀ k, k ≠ bd → (w8.setCell ⟨bd, 1, none⟩ (.slice A8 1 c8)).heap[k]? = w8.heap[k]? := fun k hk => heap_setCell_other _ _ _ _ hk
      have h7d : wr.heap.size ≠ bd := by have := blk_lt HBDk.out; omega
      have HB16 : Aside0 (Below w.heap.size w (w8.setCell ⟨bd, 1, none⟩ (.slice A8 1 c8))) := ⟨HB8.out.setCell (p := ⟨bd, 1, none⟩) HBO.out.2.2.1 _⟩
      have HB216 := Aside0.mk ((hsz b2 HBO.out.2.2.2.1).trans HB28.out)
      have HB416 := Aside0.mk ((hsz b4 HBO.out.2.2.2.2.1).trans HB48.out)
      have HB716 := Aside0.mk ((hsz _ h7d).trans HB78.out)
      have HBD16 : Aside0 ((w8.setCell ⟨bd, 1, none⟩ (.slice A8 1 c8)).heap[bd]? = some (.cells #[.int .i64 q1, .slice A8 1 c8] 61 (0, 0))) := ⟨blk_set HBD8.out 1 _⟩
      have HR16 : Aside0 (I.R 3 (w8.setCell ⟨bd, 1, none⟩ (.slice A8 1 c8)) w.heap.size (fun _ => True) (.slice A8 1 c8) [t]) := ⟨Kd.R_set HO8.out HBD8.out (by decide) 1 _⟩
      clear hsz h7d cd8 fd8 cdW cA cB HO8 HB8 HB28 HB48 HB78 HBD8 HRk HBDk
      obtain ⟨b7, hb7⟩ : ∃ q, wr.heap.size = q := ⟨_, rfl⟩
      obtain ⟨W16, hW16⟩ : ∃ q, w8.setCell ⟨bd, 1, none⟩ (.slice A8 1 c8) = q := ⟨_, rfl⟩
      rw [hb7] at HB716
      rw [hW16] at HB16 HB216 HB416 HB716 HBD16 HR16
      rw [hb7, hW16]
      clear hb7 hW16
      have HJ16 : Aside0 (JW W16 F g gj bs h0 q0 (a : Int) q1 u) := ⟨H.out.below HB16.out⟩
      have HS : Aside0 (∀ W : World, Below W16.heap.size W16 W → W.cell? ⟨b7, 1, none⟩ = some (.slice A1 64 c1) ∧ W.cell? ⟨b7, 0, none⟩ = some (.int .i64 t) ∧ W.cell? ⟨b2, 0, none⟩ = some (.pointer (some ⟨gj, 0, none⟩)) ∧ W.cell? ⟨gj, 0, none⟩ = some (.pointer (some ⟨g, 0, none⟩))) := ⟨fun W hW => ⟨pw_cell_below hW (blk_cell HB716.out 1), pw_cell_below hW (blk_cell HB716.out 0), pw_cell_below hW (blk_cell HB216.out 0), pw_cell_below hW (HJ16.out.cell 0)⟩⟩
      refine start_ (n := 14) (S := fun w' => w'.cell? ⟨b7, 1, none⟩ = some (.slice A1 64 c1) ∧ w'.cell? ⟨b7, 0, none⟩ = some (.int .i64 t) ∧ w'.cell? ⟨b2, 0, none⟩ = some (.pointer (some ⟨gj, 0, none⟩)) ∧ w'.cell? ⟨gj, 0, none⟩ = some (.pointer (some ⟨g, 0, none⟩))) (ds := []) #[false, false, false, false, false, false, false, false, false, false, false, false, false, false] (by kernel_rfl) rfl rfl ⟨(HS.out _ (below_drew (Below.refl _ _))).1, (HS.out _ (below_drew (Below.refl _ _))).2.1, (HS.out _ (below_drew (Below.refl _ _))).2.2.1, (HS.out _ (below_drew (Below.refl _ _))).2.2.2⟩ (fun hHeld => ?_)
      refine pure_ (i := 0) (N := some 54) (v := ?_) (a' := ?_) #[true, false, false, false, false, false, false, false, false, false, false, false, false, false] rfl rfl (by kernel_rfl) (fun _ _ _ h => h) (Or.inl ⟨by rfl, ?_⟩) ?_ ?_
      rotate_left
      · intro w'
        go_simp
        with_reducible rfl
      rotate_left
      · simp only [Act.put, List.setIfInBounds_toArray, List.set_cons_zero, List.set_cons_succ, i64_w, i32_w]
        rfl
      refine take_ (i := 1) (N := some 55) (v := ?_) (a' := ?_) #[true, true, false, false, false, false, false, false, false, false, false, false, false, false] rfl rfl (by kernel_rfl) (fun _ _ _ h => h) (Or.inl ⟨by rfl, ?_⟩) hHeld ?_ ?_
      rotate_left
      · rintro w' ⟨s0, s1, s2, s3⟩
        go_simp
        with_reducible rfl
      rotate_left
      · simp only [Act.put, List.setIfInBounds_toArray, List.set_cons_zero, List.set_cons_succ, i64_w, i32_w]
        rfl
      refine pure_ (i := 2) (N := some 56) (v := ?_) (a' := ?_) #[true, true, true, false, false, false, false, false, false, false, false, false, false, false] rfl rfl (by kernel_rfl) (fun _ _ _ h => h) (Or.inl ⟨by rfl, ?_⟩) ?_ ?_
      rotate_left
      · intro w'
        go_simp
        with_reducible rfl
      rotate_left
      · simp only [Act.put, List.setIfInBounds_toArray, List.set_cons_zero, List.set_cons_succ, i64_w, i32_w]
        rfl
      refine pure_ (i := 3) (N := some 57) (v := ?_) (a' := ?_) #[true, true, true, true, false, false, false, false, false, false, false, false, false, false] rfl rfl (by kernel_rfl) (fun _ _ _ h => h) (Or.inl ⟨by rfl, ?_⟩) ?_ ?_
      rotate_left
      · intro w'
        go_simp
        with_reducible rfl
      rotate_left
      · simp only [Act.put, List.setIfInBounds_toArray, List.set_cons_zero, List.set_cons_succ, i64_w, i32_w]
        rfl
      refine pure_ (i := 4) (N := some 58) (v := ?_) (a' := ?_) #[true, true, true, true, true, false, false, false, false, false, false, false, false, false] rfl rfl (by kernel_rfl) (fun _ _ _ h => h) (Or.inl ⟨by rfl, ?_⟩) ?_ ?_
      rotate_left
      · intro w'
        go_simp
        with_reducible rfl
      rotate_left
      · simp only [Act.put, List.setIfInBounds_toArray, List.set_cons_zero, List.set_cons_succ, i64_w, i32_w]
        rfl
      refine pure_ (i := 5) (N := some 59) (v := ?_) (a' := ?_) #[true, true, true, true, true, true, false, false, false, false, false, false, false, false] rfl rfl (by kernel_rfl) (fun _ _ _ h => h) (Or.inl ⟨by rfl, ?_⟩) ?_ ?_
      rotate_left
      · intro w'
        go_simp
        with_reducible rfl
      rotate_left
      · simp only [Act.put, List.setIfInBounds_toArray, List.set_cons_zero, List.set_cons_succ, i64_w, i32_w]
        rfl
      refine take_ (i := 6) (N := some 60) (v := ?_) (a' := ?_) #[true, true, true, true, true, true, true, false, false, false, false, false, false, false] rfl rfl (by kernel_rfl) (fun _ _ _ h => h) (Or.inl ⟨by rfl, ?_⟩) hHeld ?_ ?_
      rotate_left
      · rintro w' ⟨s0, s1, s2, s3⟩
        go_simp
        with_reducible rfl
      rotate_left
      · simp only [Act.put, List.setIfInBounds_toArray, List.set_cons_zero, List.set_cons_succ, i64_w, i32_w]
        rfl
      refine take_ (i := 7) (N := some 61) (v := ?_) (a' := ?_) #[true, true, true, true, true, true, true, true, false, false, false, false, false, false] rfl rfl (by kernel_rfl) (fun _ _ _ h => h) (Or.inl ⟨by rfl, ?_⟩) hHeld ?_ ?_
      rotate_left
      · rintro w' ⟨s0, s1, s2, s3⟩
        go_simp
        with_reducible rfl
      rotate_left
      · simp only [Act.put, List.setIfInBounds_toArray, List.set_cons_zero, List.set_cons_succ, i64_w, i32_w]
        rfl
      refine pure_ (i := 8) (N := some 62) (v := ?_) (a' := ?_) #[true, true, true, true, true, true, true, true, true, false, false, false, false, false] rfl rfl (by kernel_rfl) (fun _ _ _ h => h) (Or.inl ⟨by rfl, ?_⟩) ?_ ?_
      rotate_left
      · intro w'
        go_simp
        with_reducible rfl
      rotate_left
      · simp only [Act.put, List.setIfInBounds_toArray, List.set_cons_zero, List.set_cons_succ, i64_w, i32_w]
        rfl
      refine pure_ (i := 9) (N := some 63) (v := ?_) (a' := ?_) #[true, true, true, true, true, true, true, true, true, true, false, false, false, false] rfl rfl (by kernel_rfl) (fun _ _ _ h => h) (Or.inl ⟨by rfl, ?_⟩) ?_ ?_
      rotate_left
      · intro w'
        go_simp
        with_reducible rfl
      rotate_left
      · simp only [Act.put, List.setIfInBounds_toArray, List.set_cons_zero, List.set_cons_succ, i64_w, i32_w]
        rfl
      refine take_ (i := 10) (N := some 64) (v := ?_) (a' := ?_) #[true, true, true, true, true, true, true, true, true, true, true, false, false, false] rfl rfl (by kernel_rfl) (fun _ _ _ h => h) (Or.inl ⟨by rfl, ?_⟩) hHeld ?_ ?_
      rotate_left
      · rintro w' ⟨s0, s1, s2, s3⟩
        go_simp
        with_reducible rfl
      rotate_left
      · simp only [Act.put, List.setIfInBounds_toArray, List.set_cons_zero, List.set_cons_succ, i64_w, i32_w]
        rfl
      refine one_ (i := 11) (N := some 65) #[true, true, true, true, true, true, true, true, true, true, true, true, false, false] rfl rfl (by kernel_rfl) (by decide) (fun K hK => ?_)
      refine goes_ Try.func20 (by kernel_rfl) rfl #[.pointer (some ⟨g, 0, none⟩)] (by rfl) rfl rfl (by (try simp only [List.map_toArray, List.map_cons, List.map_nil]); first | done | rfl) ?_
      with_reducible refine (Disk.blocks_at (HJ16.out.below (below_drew (Below.refl _ _))).dk nn HNN.out).mono ?_
      rintro e w17 ⟨rfl, rfl⟩
      refine ⟨_, rfl, ?_⟩
      refine hK.out _ _ ⟨(HS.out _ (below_drew (Below.refl _ _))).1, (HS.out _ (below_drew (Below.refl _ _))).2.1, (HS.out _ (below_drew (Below.refl _ _))).2.2.1, (HS.out _ (below_drew (Below.refl _ _))).2.2.2⟩ (fun hHeld => ?_)
      clear hK K
      refine norm_ (a' := ?_) ?_ ?_
      rotate_left
      · show Act.put _ (some 65) _ = _
        simp only [Act.put, List.setIfInBounds_toArray, List.set_cons_zero, List.set_cons_succ, i64_w, i32_w]
        rfl
      refine pure_ (i := 12) (N := some 66) (v := ?_) (a' := ?_) #[true, true, true, true, true, true, true, true, true, true, true, true, true, false] rfl rfl (by kernel_rfl) (fun _ _ _ h => h) (Or.inl ⟨by rfl, ?_⟩) ?_ ?_
      rotate_left
      · intro w'
        go_simp
        with_reducible rfl
      rotate_left
      · simp only [Act.put, List.setIfInBounds_toArray, List.set_cons_zero, List.set_cons_succ, i64_w, i32_w]
        rfl
      refine pure_ (i := 13) (N := some 67) (v := ?_) (a' := ?_) #[true, true, true, true, true, true, true, true, true, true, true, true, true, true] rfl rfl (by kernel_rfl) (fun _ _ _ h => h) (Or.inl ⟨by rfl, ?_⟩) ?_ ?_
      rotate_left
      · intro w'
        go_simp
        with_reducible rfl
      rotate_left
      · simp only [Act.put, List.setIfInBounds_toArray, List.set_cons_zero, List.set_cons_succ, i64_w, i32_w]
        rfl
      refine done_ (by kernel_rfl) ?_

      go_wp2_with fail
      go_roundg 0
      case measure => omega
      case rel => exact ⟨1, .slice A8 1 c8, by omega, by omega, rfl, ⟨below_drew HB16.out⟩, ⟨blk_below HB216.out (below_drew (Below.refl _ _))⟩, ⟨blk_below HB416.out (below_drew (Below.refl _ _))⟩, ⟨blk_below HBD16.out (below_drew (Below.refl _ _))⟩, ⟨Kd.R_below HR16.out (below_drew (Below.refl _ _))⟩⟩
    · obtain ⟨At, ct, rfl⟩ := Kd.R_slice HR.out
      have HRk : Aside0 (I.R 3 wr w.heap.size (fun _ => True) (.slice At 1 ct) [t]) := ⟨HR.out⟩
      have HBDk : Aside0 (wr.heap[bd]? = some (.cells #[.int .i64 q1, .slice At 1 ct] 61 (0, 0))) := ⟨HBD.out⟩
      have cd0 : wr.cell? ⟨bd, 0, none⟩ = some (.int .i64 q1) := blk_cell HBDk.out 0
      have cd1 : wr.cell? ⟨bd, 1, none⟩ = some (.slice At 1 ct) := blk_cell HBDk.out 1
      have hRR := Kd.R_reads' HRk.out
      have HCT : Aside0 (1 ≤ ct ∧ Kd.C (Kd.int .i64) wr At 1 [t]) := ⟨hRR.2.1, hRR.2.2⟩
      have bu : decide (40 < u + 1 + 3) = true := decide_eq_true (by have h := HU.out; omega)
      have bu2 : decide (u + 1 + 3 > 40) = true := bu
      have eu1 : wrap64 (u + 1) = u + 1 := by have h := HU.out; unfold wrap64; omega
      have eu3 : wrap64 (u + 1 + 3) = u + 1 + 3 := by have h := HU.out; unfold wrap64; omega
      clear HR HBD hk hRR
      go_wp2_with (first | (go_at_call 21; (with_reducible refine (HBE.out At ct HCT.out.1 _ HCT.out.2).mono ?_); rintro e w3 ⟨gf, cf, rfl, hr3, hb3⟩; have HB3 := Aside0.mk (below_step HB.out hb3); have HR3 := Aside0.mk hr3; have H23 := Aside0.mk (blk_below HB2.out hb3); have H43 := Aside0.mk (blk_below HB4.out hb3); have HD3 := Aside0.mk (blk_below HBDk.out hb3); have c43 : w3.cell? ⟨b4, 0, none⟩ = some (.int .i64 0) := blk_cell H43.out 0; have f43 : w3.frozen? ⟨b4, 0, none⟩ = false := blk_frozen H43.out 0; have cd3 : (w3.setCell ⟨b4, 0, none⟩ (.int .i64 0)).cell? ⟨bd, 0, none⟩ = some (.int .i64 q1) := blk_cell (blk_far HD3.out (Ne.symm HBO.out.2.2.2.2.1) _) 0; clear hr3 hb3) | (go_at_call 22; (with_reducible refine (HEN.out _).mono ?_); rintro e w5 ⟨gl, cl, rfl, hr5, hb5⟩; have HB5 := Aside0.mk (below_step (HB3.out.setCell (p := ⟨b4, 0, none⟩) HBO.out.2.1 (.int .i64 0)) hb5); have HRF := Aside0.mk (Kd.R_below (Kd.R_set HR3.out H43.out (by decide) 0 (.int .i64 0)) hb5); have HRL := Aside0.mk hr5; have H25 := Aside0.mk (blk_below (blk_far H23.out HBO.out.2.2.2.2.2 (.int .i64 0)) hb5); have H45 := Aside0.mk (blk_below (blk_set H43.out 0 (.int .i64 0)) hb5); have HJ5 := Aside0.mk (H.out.below HB5.out); have c25 : w5.cell? ⟨b2, 0, none⟩ = some (.pointer (some ⟨gj, 0, none⟩)) := blk_cell H25.out 0; have c45 : w5.cell? ⟨b4, 0, none⟩ = some (.int .i64 0) := blk_cell H45.out 0; have cu5 : w5.cell? ⟨gj, 5, none⟩ = some (.int .i64 u) := HJ5.out.cell 5; have HSW := Aside0.mk (size_set_le w3 b4 HB.out HB3.out (.int .i64 0)); clear hr5 hb5) | (go_at_call 24; (with_reducible refine (move_calls HJ5.out HHB.out HL1.out).mono ?_); rintro e w9 ⟨rfl, F9, h9, hc9⟩; have HJ9 := Aside0.mk h9; have HC9 := Aside0.mk hc9; have n4 : ¬ FJ F gj b4 := (fun hn => by have h1 := H.out.lt b4 hn; have h2 := HBO.out.2.1; omega); have n2 : ¬ FJ F gj b2 := (fun hn => by have h1 := H.out.lt b2 hn; have h2 := HBO.out.1; omega); have H49 := Aside0.mk ((hc9.far b4 (blk_lt H45.out) n4).trans H45.out); have H29 := Aside0.mk ((hc9.far b2 (blk_lt H25.out) n2).trans H25.out); have HN49 : Aside0 (¬ FJ F9 gj b4) := ⟨fun hn => (hc9.new b4 hn).elim n4 (fun a => by have := blk_lt H45.out; omega)⟩; have HN29 : Aside0 (¬ FJ F9 gj b2) := ⟨fun hn => (hc9.new b2 hn).elim n2 (fun a => by have := blk_lt H25.out; omega)⟩; have HZF := Aside0.mk ((Z64.new HJ5.out HRF.out (fun k hk => Nat.lt_of_lt_of_le (H.out.lt k hk) HB.out.size)).ch hc9); have HZL := Aside0.mk ((Z64.new HJ5.out HRL.out (fun k hk => Nat.lt_of_lt_of_le (H.out.lt k hk) HSW.out)).ch hc9); have HW9 := Aside0.mk ((HW.out.ch (Ch.of_below _ HB5.out)).ch hc9); have c29 : w9.cell? ⟨b2, 0, none⟩ = some (.pointer (some ⟨gj, 0, none⟩)) := blk_cell H29.out 0; clear h9 hc9 n4 n2) | (go_at_call 25; (with_reducible refine (write_calls HJ9.out HA.out HL9.out HCAP9.out ?cq ?cu (some ad) c0 t l HW9.out HFIT9.out HZF.out HZL.out).mono ?_); (case cq => exact (by have h := HQ.out; omega)); (case cu => exact (by decide)); rintro e w6 ⟨rfl, F6, h6, hc6⟩; have H6 := Aside0.mk h6; have HC6 := Aside0.mk (((Ch.of_below (FJ F gj) HB5.out).trans HC9.out).trans hc6); have H46 := Aside0.mk ((hc6.far b4 (blk_lt H49.out) HN49.out).trans H49.out); have H26 := Aside0.mk ((hc6.far b2 (blk_lt H29.out) HN29.out).trans H29.out); have HN6 : Aside0 (¬ FJ F6 gj b4) := ⟨fun hn => (hc6.new b4 hn).elim HN49.out (fun a => by have := blk_lt H49.out; omega)⟩; have c46 : w6.cell? ⟨b4, 0, none⟩ = some (.int .i64 0) := blk_cell H46.out 0; have f46 : w6.frozen? ⟨b4, 0, none⟩ = false := blk_frozen H46.out 0; clear h6 hc6))
      obtain ⟨j7, k7⟩ := H6.out.far (.int .i64 0) 0 HN6.out (Nat.le_refl _) HC6.out HBO.out.2.1
      have e7 : (w6.setCell ⟨b4, 0, none⟩ (.int .i64 0)).heap[b4]? = some (.cells #[.int .i64 0] 28 (0, 0)) := blk_set H46.out 0 (.int .i64 0)
      have e27 : (w6.setCell ⟨b4, 0, none⟩ (.int .i64 0)).heap[b2]? = some (.cells #[.pointer (some ⟨gj, 0, none⟩)] 30 (0, 0)) := blk_far H26.out HBO.out.2.2.2.2.2 _
      obtain ⟨j8, k8⟩ := j7.put 6 (.bool false) (a0 := (a : Int)) (b0 := q1) (a1 := (((a + 3) % 40 : Nat) : Int)) (b1 := q1 + 1) (v := 0 + 3) rfl
      have e8 : ((w6.setCell ⟨b4, 0, none⟩ (.int .i64 0)).setCell ⟨gj, 6, none⟩ (.bool false)).heap[b4]? = some (.cells #[.int .i64 0] 28 (0, 0)) := blk_far e7 (fun e => HN6.out (Or.inr e)) _
      show bodyPostD _ _ _ Exit.ret _ _
      refine leaves_cons (f := 23) (args := #[.pointer (some ⟨b4, 0, none⟩), .pointer (some ⟨b2, 0, none⟩)]) (by simp) (by simp [go_sem]) ?_
      refine (dead_calls b4 b2 gj .returning _ (blk_cell e7 0) (blk_cell e27 0) (j7.cell 6) (blk_frozen j7.jb 6)).mono ?_
      rintro e u' w'' ⟨rfl, rfl, rfl⟩
      exact ⟨_, results_c1 rfl _ _ ⟨b4, 0, none⟩ (.int .i64 0) _ rfl (blk_cell e8 0) Try.underlying28 rfl, rfl, F6, j8, k7.trans k8⟩
end Go.Proofs.Ytcihfmehbmficaa.Jrn
/- Package journal: a commit of one block in the state LS, whether or not the log is full; the law's table of strings. -/
namespace Go.Proofs.Ytcihfmehbmficaa.Jrn
open Go Go.RowKit Go.Maps Go.Proofs.YtcihfmehbmficaaW.PrintWords Go.Proofs.YtcihfmehbmficaaW.PrintLast Go.Proofs.YtcihfmehbmficaaW.PrintMore Go.Proofs.Ytcihfmehbmficaa.Disk
set_option linter.unusedVariables false
set_option linter.unusedSimpArgs false
set_option maxRecDepth 100000
theorem commit_ls {w : World} {F : Nat → Prop} {g gj a0 a1 : Nat} {BS : List Blk} {q0 q1 : Int} {T : List (List SW)} (h : JW w F g gj BS (a0 : Int) q0 (a1 : Int) q1 (3 * (T.length : Int))) (hs : LS BS a0 q0 T a1 q1) (hT : T.flatten.length = T.length) (hq : 1 ≤ q1 ∧ q1 < 100000)
    (A0 : Option Addr) (c0 : Nat) (t : Nat) (l : List Int) (hw : RW w (FJ F gj) A0 [⟨(t : Int), l⟩]) (ht : 60 ≤ t ∧ t < 200) (hl : l.length = 64 ∧ Go.Proofs.Ytcihfmehbmficaa.Spin.Bytes l) :
    Calls Try.prog 8 #[.pointer (some ⟨gj, 0, none⟩), .slice A0 1 c0] w fun e w' => e = .returned (.int .i64 0) ∧ ∃ F' BS' a0' q0' T' a1', JW w' F' g gj BS' ((a0' : Nat) : Int) q0' ((a1' : Nat) : Int) (q1 + 1) (3 * ((T' : List (List SW)).length : Int)) ∧ Ch w w' (FJ F gj) (FJ F' gj) ∧ LS BS' a0' q0' T' a1' (q1 + 1) ∧ T'.flatten.length = T'.length ∧ ∀ j, 60 ≤ j → (curL BS')[j]? = ((curL BS).set t l)[j]? := by
  have hm : Go.Proofs.Ytcihfmehbmficaa.Log.homeB (t : Int) = true := (homeB_iff _).2 ⟨by omega, by omega, by omega, by omega⟩
  have hfit : Fit BS.length [⟨(t : Int), l⟩] := fun x hx => by
    obtain rfl := List.mem_singleton.1 hx
    refine ⟨hl.1, show (0 : Int) ≤ t by omega, ?_⟩
    rw [hs.len]
    show (t : Int) < 200
    omega
  by_cases h12 : T.length ≤ 12
  · obtain ⟨h1, h2⟩ := hs.commit h12 (by omega) ht hl (by omega)
    refine (commit_one h hs.a1l (by rw [hs.len]; omega) (hs.cap.mono (by omega)) ⟨hq.1, by omega⟩ ⟨by omega, by omega⟩ A0 c0 (t : Int) l hw hfit hm).mono ?_
    rintro e w' ⟨rfl, F', hj, hc⟩
    refine ⟨rfl, F', _, a0, q0, T ++ [[⟨(t : Int), l⟩]], (a1 + 3) % 40, ?_, hc, h1, ?_, h2⟩
    · rw [show (3 * (((T ++ [[(⟨(t : Int), l⟩ : SW)]]).length : Nat) : Int)) = 3 * (T.length : Int) + 3 by rw [List.length_append, List.length_singleton]; omega]
      exact hj
    · rw [List.flatten_append, List.length_append, hT, List.length_append]; rfl
  · have h13 := hs.tl
    have hsf : LS (movB BS (headI64 (a1 : Int) q1)) a1 q1 [] a1 q1 := LS.fresh hs.len hs.bl hs.a1l ⟨hq.1, hs.q.2⟩ hs.fin
    obtain ⟨h1, h2⟩ := hsf.commit (by decide) (by omega) ht hl (by decide)
    refine (commit_full h hs.a1l (by rw [hs.len]; omega) (hs.cap.mono (by omega)) ⟨hq.1, by omega⟩ ⟨by omega, by omega⟩ A0 c0 (t : Int) l hw hfit hm).mono ?_
    rintro e w' ⟨rfl, F', hj, hc⟩
    refine ⟨rfl, F', _, a1, q1, [] ++ [[⟨(t : Int), l⟩]], (a1 + 3) % 40, hj, hc, h1, rfl, fun j hj2 => ?_⟩
    rw [h2 j hj2, show curL (movB BS (headI64 (a1 : Int) q1)) = (curL BS).set 1 (headI64 (a1 : Int) q1) from cur_mov _ _]
    by_cases e : t = j
    · subst e
      rw [List.getElem?_set_self (by rw [List.length_set, curL_length, hs.len]; omega), List.getElem?_set_self (by rw [curL_length, hs.len]; omega)]
    · rw [List.getElem?_set_ne e, List.getElem?_set_ne e, List.getElem?_set_ne (by omega)]
/-- The law's table of what was committed last. -/
def Tab (Cl : Array Value) (C : List (List Int)) : Prop := Cl.size = 140 ∧ ∀ n, n < 140 → ∃ s x, Cl[n]? = some (.string s) ∧ C[60 + n]? = some x ∧ x.length = 64 ∧ (s = str x ∨ (s = ByteArray.empty ∧ x = zr64))
theorem Tab.same {Cl : Array Value} {C C' : List (List Int)} (h : Tab Cl C) (hc : ∀ j, 60 ≤ j → C'[j]? = C[j]?) : Tab Cl C' := ⟨h.1, fun n hn => by
  obtain ⟨s, x, h1, h2, h3⟩ := h.2 n hn
  exact ⟨s, x, h1, (hc _ (by omega)).trans h2, h3⟩⟩
theorem Tab.put {Cl : Array Value} {C C' : List (List Int)} (h : Tab Cl C) {n : Nat} (hn : n < 140) {l : List Int} (hl : l.length = 64) (hC : 200 ≤ C.length) (hc : ∀ j, 60 ≤ j → C'[j]? = (C.set (60 + n) l)[j]?) : Tab (Cl.setIfInBounds n (.string (str l))) C' := ⟨by rw [Array.size_setIfInBounds]; exact h.1, fun m hm => by
  rw [hc _ (by omega)]
  by_cases e : n = m
  · subst e
    exact ⟨str l, l, by rw [Array.getElem?_setIfInBounds_self_of_lt (by rw [h.1]; exact hn)], by rw [List.getElem?_set_self (by omega)], hl, Or.inl rfl⟩
  · obtain ⟨s, x, h1, h2, h3⟩ := h.2 m hm
    exact ⟨s, x, by rw [Array.getElem?_setIfInBounds_ne e]; exact h1, by rw [List.getElem?_set_ne (by omega)]; exact h2, h3⟩⟩
theorem ls_start : LS (freshB 200 (headI64 0 1)) 0 1 [] 0 1 := by
  have h := LS.fresh (Y := freshB 200 (headI64 0 1)) (a := 0) (q := 1) (freshB_length _ _) (fun b hb => by
    obtain ⟨i, hi, e⟩ := List.getElem_of_mem hb
    have h1 : (curL (freshB 200 (headI64 0 1)))[i]? = some b := by rw [List.getElem?_eq_getElem hi, e]
    unfold curL at h1
    rw [List.getElem?_map, freshB_at i (by have : (curL (freshB 200 (headI64 0 1))).length = 200 := by rw [curL_length]; exact freshB_length _ _
                                           omega)] at h1
    have h2 := Option.some.inj h1
    rw [← h2]
    split
    · exact head_len 0 1
    · exact ⟨by decide, zr64_bytes⟩) (by decide) (by decide) (by
    rw [show logL (curL (freshB 200 (headI64 0 1))) = List.replicate 40 zr64 from fresh_log (by decide)]
    rfl)
  rw [show ((0 : Nat) : Int) = 0 from rfl, movB_fresh] at h
  exact h
theorem tab_start : Tab (Array.replicate 140 (.string ByteArray.empty)) (curL (freshB 200 (headI64 0 1))) := ⟨Array.size_replicate .., fun n hn => ⟨ByteArray.empty, zr64, by rw [Array.getElem?_replicate, if_pos hn], by
  unfold curL
  rw [List.getElem?_map, freshB_at _ (by omega), if_neg (by omega)]; rfl, by decide, Or.inr ⟨rfl, rfl⟩⟩⟩
end Go.Proofs.Ytcihfmehbmficaa.Jrn
