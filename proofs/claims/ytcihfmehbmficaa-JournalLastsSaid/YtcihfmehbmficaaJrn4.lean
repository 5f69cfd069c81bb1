/- Package journal: a journal in memory; no journal; Read, Head. -/
import Derived.Test.YtcihfmehbmficaaDisk9
import Derived.Test.YtcihfmehbmficaaWhole
import Derived.Test.YtcihfmehbmficaaHead
namespace Go.Proofs.Ytcihfmehbmficaa.Jrn
open Go Go.RowKit Go.Maps Go.Proofs.YtcihfmehbmficaaW.PrintWords Go.Proofs.YtcihfmehbmficaaW.PrintLast Go.Proofs.YtcihfmehbmficaaW.PrintMore Go.Proofs.Ytcihfmehbmficaa.Disk
set_option linter.unusedVariables false
set_option linter.unusedSimpArgs false
set_option maxRecDepth 100000
/-! ### results that lie in memory -/
theorem results_c1 {P : Program} {fn : Func} {p : Tmp} {ty : TypeId} (h : fn.results = #[.cell p ty]) (tmps : Array Value) (w : World) (ad : Addr) (v : Value) (d : TypeDesc)
    (hp : tmps.getD p undef = .pointer (some ad)) (hc : w.cell? ad = some v) (hu : P.underlying ty = some d) (hd : (match d with | .struct _ | .array _ _ => true | _ => false) = false) :
    (results fn tmps).run P w = .ok v w := by
  have hp' : tmps[p]?.getD undef = .pointer (some ad) := by simpa using hp
  have ha : (isAgg ty).run P w = .ok false w := by cases d <;> simp_all [isAgg, run_underlying hu]
  simp [results, h, hp', asAddr, loadVar, ha, hc]
theorem results_ttct {P : Program} {fn : Func} {p u v x : Tmp} {ty : TypeId} (h : fn.results = #[.tmp u, .tmp v, .cell p ty, .tmp x]) (tmps : Array Value) (w : World) (g : Nat) (t : TypeId) (cs : Array Value) (fr : Nat × Nat) (d : TypeDesc)
    (hp : tmps.getD p undef = .pointer (some ⟨g, 0, none⟩)) (hg : w.heap[g]? = some (.cells cs t fr))
    (hu : P.underlying ty = some d) (hd : (match d with | .struct _ | .array _ _ => true | _ => false) = true) (hi : (P.info? ty).map (·.size) = some cs.size) :
    (results fn tmps).run P w = .ok (.tuple #[tmps.getD u undef, tmps.getD v undef, .agg cs, tmps.getD x undef]) w := by
  have hp' : tmps[p]?.getD undef = .pointer (some ⟨g, 0, none⟩) := by simpa using hp
  simp [results, h, hp', asAddr, run_loadVar_row w g t ty cs fr d hg hu hd hi]
theorem infoH : (Try.prog.info? 46).map (·.size) = some 2 := by kernel_rfl
/-! ### no journal -/
theorem read_nil (n : Int) (w : World) : Calls Try.prog 11 #[.pointer none, .int .i64 n] w fun e w' => e = .returned (.tuple #[.slice none 0 0, .int .i64 1]) ∧ w = w' := by
  go_enter Try.func11, Try.ntmps11
  go_wp2_with fail
  refine bodyPost_ret (results_tmp2 rfl _ _ _) rfl ?_
  exact ⟨rfl, rfl⟩
theorem head_nil (w : World) : Calls Try.prog 13 #[.pointer none] w fun e w' => e = .returned (.agg #[.int .i64 0, .int .i64 0]) ∧ Below w.heap.size w w' := by
  go_enter Try.func13, Try.ntmps13
  go_wp2_with fail
  refine bodyPost_ret (results_cell_row rfl _ _ w.heap.size _ #[.int .i64 0, .int .i64 0] (0, 0) _ rfl (blk_new w _) Try.underlying46 rfl infoH) rfl ?_
  exact ⟨rfl, below_alloc (Below.refl _ _) _⟩
theorem commit_nil (A : Option Addr) (n c : Nat) (w : World) : Calls Try.prog 8 #[.pointer none, .slice A n c] w fun e w' => e = .returned (.int .i64 1) ∧ Below w.heap.size w w' := by
  go_enter Try.func8, Try.ntmps8
  go_wp2_with fail
  have hb := blk_new (w.alloc (.cells #[.pointer none] 30)) (.cells #[.int .i64 1] 28)
  rw [World.size_alloc] at hb
  refine bodyPost_ret (results_c1 rfl _ _ ⟨w.heap.size + 1, 0, none⟩ (.int .i64 1) _ rfl (blk_cell hb 0) Try.underlying28 rfl) rfl ?_
  exact ⟨rfl, below_alloc (below_alloc (Below.refl _ _) _) _⟩
/-! ### a journal in memory -/
def JC (g : Nat) (h0 q0 h1 q1 u : Int) (dead : Bool) : Array Value := #[.pointer (some ⟨g, 0, none⟩), .int .i64 h0, .int .i64 q0, .int .i64 h1, .int .i64 q1, .int .i64 u, .bool dead]
/-- A journal at block gj, on a disk at block g that has power for ever; F: the disk's own blocks. -/
structure JW (w : World) (F : Nat → Prop) (g gj : Nat) (bs : List Blk) (h0 q0 h1 q1 u : Int) : Prop where
  dk : DW w F g ⟨false, -1, bs⟩
  jb : w.heap[gj]? = some (.cells (JC g h0 q0 h1 q1 u false) 59 (0, 0))
  nf : ¬ F gj
def FJ (F : Nat → Prop) (gj : Nat) : Nat → Prop := fun k => F k ∨ k = gj
def JP (w w' : World) (F : Nat → Prop) (g gj : Nat) (bs : List Blk) (h0 q0 h1 q1 u : Int) : Prop := ∃ F', JW w' F' g gj bs h0 q0 h1 q1 u ∧ Ch w w' (FJ F gj) (FJ F' gj)
section
variable {w w1 : World} {F : Nat → Prop} {g gj : Nat} {bs bs' : List Blk} {h0 q0 h1 q1 u : Int}
theorem DW.kept (h : DW w F g ⟨false, -1, bs⟩) (hk : ∀ k, F k → w1.heap[k]? = w.heap[k]?) (hs : w.heap.size ≤ w1.heap.size) : DW w1 F g ⟨false, -1, bs⟩ := by
  obtain ⟨gb, C, v, f, h⟩ := h
  exact ⟨gb, C, v, f, h.kept hk hs⟩
theorem JW.below (h : JW w F g gj bs h0 q0 h1 q1 u) (hb : Below w.heap.size w w1) : JW w1 F g gj bs h0 q0 h1 q1 u := ⟨h.dk.below hb, blk_below h.jb hb, h.nf⟩
theorem JW.lt (h : JW w F g gj bs h0 q0 h1 q1 u) : ∀ k, FJ F gj k → k < w.heap.size := fun k hk => by
  rcases hk with hk | rfl
  · exact h.dk.lt k hk
  · exact blk_lt h.jb
theorem Ch.ofJ {F' : Nat → Prop} (hg : gj < w.heap.size) (h : Ch w w1 F F') : Ch w w1 (FJ F gj) (FJ F' gj) :=
  ⟨h.os, h.tape, h.output, h.size, fun k hk hn => h.far k hk (fun hF => hn (.inl hF)), fun k hk => by
    rcases hk with hk | hk
    · exact (h.new k hk).elim (fun a => .inl (.inl a)) .inr
    · exact .inl (.inr hk)⟩
theorem JW.disk (h : JW w F g gj bs h0 q0 h1 q1 u) (hp : PutP w w1 F g ⟨false, -1, bs'⟩) : JP w w1 F g gj bs' h0 q0 h1 q1 u := by
  obtain ⟨F', hd, hc⟩ := hp
  have hj := blk_lt h.jb
  exact ⟨F', ⟨hd, (hc.far gj hj h.nf).trans h.jb, fun hF => (hc.new gj hF).elim h.nf (fun a => by omega)⟩, Ch.ofJ hj hc⟩
theorem JP.below (h : JW w F g gj bs h0 q0 h1 q1 u) (hb : Below w.heap.size w w1) : JP w w1 F g gj bs h0 q0 h1 q1 u := ⟨F, h.below hb, Ch.of_below _ hb⟩
theorem JP.step {w2 : World} {a0 b0 a1 b1 v : Int} (h : JP w w1 F g gj bs h0 q0 h1 q1 u) (k : ∀ F', JW w1 F' g gj bs h0 q0 h1 q1 u → JP w1 w2 F' g gj bs' a0 b0 a1 b1 v) : JP w w2 F g gj bs' a0 b0 a1 b1 v := by
  obtain ⟨F', hj, hc⟩ := h
  obtain ⟨F2, hj2, hc2⟩ := k F' hj
  exact ⟨F2, hj2, hc.trans hc2⟩
/-- A cell of the journal is written. -/
theorem JW.put {a0 b0 a1 b1 v : Int} (h : JW w F g gj bs h0 q0 h1 q1 u) (i : Nat) (x : Value) (hc : (JC g h0 q0 h1 q1 u false).setIfInBounds i x = JC g a0 b0 a1 b1 v false) : JW (w.setCell ⟨gj, i, none⟩ x) F g gj bs a0 b0 a1 b1 v ∧ Ch w (w.setCell ⟨gj, i, none⟩ x) (FJ F gj) (FJ F gj) := by
  have hb := blk_set h.jb i x
  rw [hc] at hb
  have hsz : (w.setCell ⟨gj, i, none⟩ x).heap.size = w.heap.size := World.size_setCell ..
  have far : ∀ k, k ≠ gj → (w.setCell ⟨gj, i, none⟩ x).heap[k]? = w.heap[k]? := fun k hk => heap_setCell_other _ _ _ _ hk
  exact ⟨⟨DW.kept h.dk (fun k hk => far k (fun e => h.nf (e ▸ hk))) (by omega), hb, h.nf⟩, ⟨rfl, rfl, rfl, by omega, fun k hk hn => far k (fun e => hn (.inr e)), fun _ hk => .inl hk⟩⟩
theorem JW.cell (h : JW w F g gj bs h0 q0 h1 q1 u) (i : Nat) : w.cell? ⟨gj, i, none⟩ = (JC g h0 q0 h1 q1 u false)[i]? := blk_cell h.jb i
end
theorem head_calls {w : World} {F : Nat → Prop} {g gj : Nat} {bs : List Blk} {h0 q0 h1 q1 u : Int} (h : JW w F g gj bs h0 q0 h1 q1 u) : Calls Try.prog 13 #[.pointer (some ⟨gj, 0, none⟩)] w fun e w' => e = .returned (.agg #[.int .i64 h1, .int .i64 q1]) ∧ Below w.heap.size w w' := by
  have H1 := Aside0.mk (h.below (below_alloc (Below.refl _ _) (.cells #[.int .i64 0, .int .i64 0] 46)))
  have c3 : (w.alloc (.cells #[.int .i64 0, .int .i64 0] 46)).cell? ⟨gj, 3, none⟩ = some (.int .i64 h1) := H1.out.cell 3
  have c4 : (w.alloc (.cells #[.int .i64 0, .int .i64 0] 46)).cell? ⟨gj, 4, none⟩ = some (.int .i64 q1) := H1.out.cell 4
  clear h
  go_enter Try.func13, Try.ntmps13
  go_wp2_with fail
  refine bodyPost_ret (results_cell_row rfl _ _ w.heap.size _ #[.int .i64 h1, .int .i64 q1] (0, 0) _ rfl (blk_new w _) Try.underlying46 rfl infoH) rfl ?_
  exact ⟨rfl, below_alloc (Below.refl _ _) _⟩
theorem read_yes {w : World} {F : Nat → Prop} {g gj : Nat} {bs : List Blk} {h0 q0 h1 q1 u : Int} (h : JW w F g gj bs h0 q0 h1 q1 u) {i : Nat} {b : Blk} (iI : Int) (hI : (i : Int) = iI) (hi : bs[i]? = some b) :
    Calls Try.prog 11 #[.pointer (some ⟨gj, 0, none⟩), .int .i64 iI] w fun e w' => ∃ v : Value, e = .returned (.tuple #[v, .int .i64 0]) ∧ B.R 5 w' w.heap.size (fun _ => True) v (curB b) ∧ JW w' F g gj bs h0 q0 h1 q1 u ∧ Ch w w' (FJ F gj) (FJ F gj) := by
  have HG : Aside0 (∀ W, Below w.heap.size w W → Calls Try.prog 28 #[.pointer (some ⟨g, 0, none⟩), .int .i64 iI] W fun e w' => ∃ v0_ : Value, e = .returned (.tuple #[v0_, .int .i64 0]) ∧ B.R 5 w' W.heap.size (fun _ => True) v0_ (curB b) ∧ Below W.heap.size W w') := ⟨fun W hW => Disk.get_at (h.dk.below hW) rfl iI hI hi⟩
  have H := Aside0.mk h
  have c0 : w.cell? ⟨gj, 0, none⟩ = some (.pointer (some ⟨g, 0, none⟩)) := h.cell 0
  have c6 : w.cell? ⟨gj, 6, none⟩ = some (.bool false) := h.cell 6
  clear h
  go_enter Try.func11, Try.ntmps11
  go_wp2_with (go_at_call 28; (with_reducible refine (HG.out _ (Below.refl _ _)).mono ?_); rintro e w1 ⟨v1, rfl, hr, hb⟩; have H1 := Aside0.mk (H.out.below hb); have HR := Aside0.mk hr; have HB := Aside0.mk hb; have c61 : w1.cell? ⟨gj, 6, none⟩ = some (.bool false) := H1.out.cell 6; have f61 : w1.frozen? ⟨gj, 6, none⟩ = false := blk_frozen H1.out.jb 6; clear hr hb)
  refine bodyPost_ret (results_tmp2 rfl _ _ _) rfl ?_
  obtain ⟨hj, hc⟩ := H1.out.put 6 (.bool false) rfl
  exact ⟨_, rfl, Kd.R_set HR.out H1.out.jb (by decide) 6 _, hj, (Ch.of_below _ HB.out).trans hc⟩
end Go.Proofs.Ytcihfmehbmficaa.Jrn
/- Package journal: move: the head goes to the next transaction. -/
namespace Go.Proofs.Ytcihfmehbmficaa.Jrn
open Go Go.RowKit Go.Maps Go.Proofs.YtcihfmehbmficaaW.PrintWords Go.Proofs.YtcihfmehbmficaaW.PrintLast Go.Proofs.YtcihfmehbmficaaW.PrintMore Go.Proofs.Ytcihfmehbmficaa.Disk
set_option linter.unusedVariables false
set_option linter.unusedSimpArgs false
set_option maxRecDepth 100000
/-- What writes make of the blocks of a disk that has power for ever. -/
def pushAll : List Blk → List Wr → List Blk
  | bs, [] => bs
  | bs, x :: xs => pushAll (bs.modify x.tgt.toNat (push x.data)) xs
theorem putRun_ever : ∀ (ws : List Wr) (bs : List Blk), putRun false (-1) bs ws = (⟨false, -1, pushAll bs ws⟩, 0)
  | [], _ => rfl
  | x :: xs, bs => by
    show (if (-1 : Int) = 0 then _ else putRun false (spendS false (-1)).2.1 (bs.modify x.tgt.toNat (push x.data)) xs) = _
    rw [if_neg (by decide)]
    exact putRun_ever xs _
theorem pushAll_length : ∀ (ws : List Wr) (bs : List Blk), (pushAll bs ws).length = bs.length
  | [], _ => rfl
  | x :: xs, bs => by
    show (pushAll (bs.modify x.tgt.toNat (push x.data)) xs).length = _
    rw [pushAll_length xs, List.length_modify]
/-- Writes that fit a disk of n blocks. -/
def Fit (n : Nat) (ws : List Wr) : Prop := ∀ x ∈ ws, x.data.length = 64 ∧ 0 ≤ x.tgt ∧ x.tgt < n
theorem putF_ever {bs : List Blk} {ws : List Wr} (h : Fit bs.length ws) : putF ⟨false, -1, bs⟩ ws = (⟨false, -1, pushAll bs ws⟩, 0) := by
  unfold putF
  rw [if_neg (show ¬ (false = true) from by decide), if_neg, if_neg]
  · exact putRun_ever ws bs
  · intro hb
    obtain ⟨x, hx, h1⟩ := List.any_eq_true.1 hb
    have := h x hx
    simp only [Bool.or_eq_true, decide_eq_true_eq] at h1
    have h3 : (DS.bs ⟨false, -1, bs⟩).length = bs.length := rfl
    omega
  · intro hb
    obtain ⟨x, hx, h1⟩ := List.any_eq_true.1 hb
    exact (bne_iff_ne.1 h1) (h x hx).1
/-- No block holds more than c open writes. -/
def Cap (bs : List Blk) (c : Nat) : Prop := ∀ (i : Nat) (b : Blk), bs[i]? = some b → b.opn.length ≤ c
theorem Cap.push {bs : List Blk} {c : Nat} (h : Cap bs c) (x : Wr) : Cap (bs.modify x.tgt.toNat (push x.data)) (c + 1) := fun i b hi => by
  obtain ⟨b0, h0, rfl⟩ := modify_at hi
  have := h i b0 h0
  split
  · show (b0.opn ++ [x.data]).length ≤ c + 1
    rw [List.length_append]
    exact Nat.succ_le_succ this
  · omega
theorem Cap.mono {bs : List Blk} {c c' : Nat} (h : Cap bs c) (hc : c ≤ c') : Cap bs c' := fun i b hi => Nat.le_trans (h i b hi) hc
theorem Cap.all : ∀ {ws : List Wr} {bs : List Blk} {c : Nat}, Cap bs c → Cap (pushAll bs ws) (c + ws.length)
  | [], _, _, h => h
  | x :: xs, bs, c, h => by
    have h2 := Cap.all (ws := xs) (h.push x)
    refine h2.mono ?_
    rw [List.length_cons]; omega
theorem Cap.kb (bs : List Blk) : Cap (bs.map kb) 0 := fun i b hi => by
  rw [List.getElem?_map] at hi
  obtain ⟨b0, _, rfl⟩ := Option.map_eq_some_iff.1 hi
  exact Nat.le_refl _
section
variable {w : World} {F : Nat → Prop} {g gj : Nat} {bs : List Blk} {h0 q0 h1 q1 u : Int}
/-- Put, on a disk that has power for ever. -/
theorem put_ever (h : DW w F g ⟨false, -1, bs⟩) {c0 : Nat} (hcap : Cap bs c0) (A : Option Addr) (c n : Nat) (ws : List Wr) (hn : ws.length = n) (hC : RW w F A ws) (hf : Fit bs.length ws) (hc : c0 + n ≤ 2199023255551) :
    Calls Try.prog 16 #[.pointer (some ⟨g, 0, none⟩), .slice A n c] w fun e w' => e = .returned (.int .i64 0) ∧ PutP w w' F g ⟨false, -1, pushAll bs ws⟩ := by
  have h2 := put_at h rfl (show (-1 : Int) ≤ 9223372036854775807 by decide) A c n ws hn hC (by omega) (fun i b hi => by have := hcap i b hi; omega)
  rw [putF_ever hf] at h2
  exact h2
theorem barrier_ever (h : DW w F g ⟨false, -1, bs⟩) : Calls Try.prog 19 #[.pointer (some ⟨g, 0, none⟩)] w fun e w' => e = .returned (.int .i64 0) ∧ PutP w w' F g ⟨false, -1, bs.map kb⟩ :=
  barrier_at h rfl (show (-1 : Int) ≠ 0 by decide) (show (-1 : Int) ≤ 9223372036854775807 by decide)
end
/-- A row of 64 bytes that is nobody's of the journal. -/
structure Z64 (w : World) (F : Nat → Prop) (gj gz c : Nat) (l : List Int) : Prop where
  lt : gz < w.heap.size
  nf : ¬ FJ F gj gz
  c64 : 64 ≤ c
  rd : B.C w (some ⟨gz, 0, none⟩) 64 l
  len : l.length = 64
section
variable {w w1 : World} {F F1 : Nat → Prop} {g gj gz c : Nat} {bs : List Blk} {h0 q0 h1 q1 u : Int} {l : List Int}
theorem Z64.ch (h : Z64 w F gj gz c l) (hc : Ch w w1 (FJ F gj) (FJ F1 gj)) : Z64 w1 F1 gj gz c l :=
  ⟨Nat.lt_of_lt_of_le h.lt hc.size, fun hn => (hc.new gz hn).elim h.nf (fun a => by have := h.lt; omega), h.c64, C_far0 h.rd (fun _ ad e => by obtain rfl := Option.some.inj e; exact hc.far gz h.lt h.nf), h.len⟩
theorem Z64.below (h : Z64 w F gj gz c l) (hb : Below w.heap.size w w1) : Z64 w1 F gj gz c l := h.ch (Ch.of_below _ hb)
theorem Z64.new {base : Nat} (hj : JW w1 F g gj bs h0 q0 h1 q1 u) (hr : B.R 5 w base (fun _ => True) (.slice (some ⟨gz, 0, none⟩) 64 c) l) (hb : ∀ k, FJ F gj k → k < base) : Z64 w F gj gz c l := by
  have h := Kd.R_reads' hr
  exact ⟨Kd.R_lt hr gz (by simp [Value.ownBlock]), fun hn => by have h1 := hb gz hn; have h2 := Kd.R_base hr gz (by simp [Value.ownBlock]); omega, h.2.1, by have h3 := h.2.2; rw [← h.1] at h3; exact h3, h.1.symm⟩
theorem Z64.one (h : Z64 w F gj gz c l) (hj : JW w F g gj bs h0 q0 h1 q1 u) (t : Int) : RW (w.alloc (.cells #[.int .i64 t, .slice (some ⟨gz, 0, none⟩) 64 c] 35)) F (some ⟨w.heap.size, 0, none⟩) [⟨t, l⟩] := by
  have hb := below_alloc (Below.refl w.heap.size w) (.cells #[.int .i64 t, .slice (some ⟨gz, 0, none⟩) 64 c] 35)
  have h2 := h.below hb
  exact RW.one (blk_new w _) h2.len h2.c64 h2.rd h2.lt (fun hn => by have := hj.dk.lt _ hn; omega) (fun hn => h2.nf (.inl hn))
end
/-- The blocks behind move. -/
def movB (bs : List Blk) (H : List Int) : List Blk := ((bs.map kb).modify 1 (push H)).map kb
def headI64 (a q : Int) : List Int := Go.Proofs.Ytcihfmehbmficaa.Field.sealI (Go.Proofs.Ytcihfmehbmficaa.Super.headP a q)
theorem head_at (a q : Int) (h : Go.Proofs.Ytcihfmehbmficaa.Super.headB a q = true) (w : World) : Calls Try.prog 39 #[.agg #[.int .i64 a, .int .i64 q]] w fun e w' => ∃ gz c, e = .returned (.tuple #[.slice (some ⟨gz, 0, none⟩) 64 c, .int .i64 0]) ∧ B.R 5 w' w.heap.size (fun _ => True) (.slice (some ⟨gz, 0, none⟩) 64 c) (headI64 a q) ∧ Below w.heap.size w w' := by
  have h1 := Go.Proofs.Ytcihfmehbmficaa.Super.headF_eq a q
  rw [if_pos h] at h1
  refine (Go.Proofs.Ytcihfmehbmficaa.Super.head_of_calls a q _ _ w h1).mono fun e w' hh => ?_
  obtain ⟨v, he, hr, hb⟩ := hh
  have hl : (headI64 a q).length = 64 := Go.Proofs.Ytcihfmehbmficaa.Field.sealI_length _ (Go.Proofs.Ytcihfmehbmficaa.Super.headP_length _ _)
  obtain ⟨gz, c, e1, _⟩ := Kd.R_form hr (by rw [show (Go.Proofs.Ytcihfmehbmficaa.Field.sealI (Go.Proofs.Ytcihfmehbmficaa.Super.headP a q)).length = 64 from hl]; omega)
  rw [show (Go.Proofs.Ytcihfmehbmficaa.Field.sealI (Go.Proofs.Ytcihfmehbmficaa.Super.headP a q)).length = 64 from hl] at e1
  subst e1
  exact ⟨gz, c, he, hr, hb⟩
theorem move_calls {w : World} {F : Nat → Prop} {g gj : Nat} {bs : List Blk} {h0 q0 h1 q1 u : Int} (h : JW w F g gj bs h0 q0 h1 q1 u) (hB : Go.Proofs.Ytcihfmehbmficaa.Super.headB h1 q1 = true) (hl : 1 < bs.length) :
    Calls Try.prog 24 #[.pointer (some ⟨gj, 0, none⟩)] w fun e w' => e = .returned (.int .i64 0) ∧ JP w w' F g gj (movB bs (headI64 h1 q1)) h1 q1 h1 q1 0 := by
  have HPH := Aside0.mk (head_at h1 q1 hB)
  have H := Aside0.mk h
  have FIT : Aside0 (Fit (bs.map kb).length [⟨1, headI64 h1 q1⟩]) := ⟨fun x hx => by
    obtain rfl := List.mem_singleton.1 hx
    refine ⟨Go.Proofs.Ytcihfmehbmficaa.Field.sealI_length _ (Go.Proofs.Ytcihfmehbmficaa.Super.headP_length _ _), show (0 : Int) ≤ 1 by decide, ?_⟩
    rw [List.length_map]
    show (1 : Int) < _
    omega⟩
  have c3 : w.cell? ⟨gj, 3, none⟩ = some (.int .i64 h1) := h.cell 3
  have c4 : w.cell? ⟨gj, 4, none⟩ = some (.int .i64 q1) := h.cell 4
  clear h hl hB
  go_enter Try.func24, Try.ntmps24
  go_wp2_with (first | (go_at_call 39; (with_reducible refine (HPH.out _).mono ?_); rintro e w1 ⟨gz, cz, rfl, hr, hb⟩; have H1 := Aside0.mk (H.out.below hb); have HZ1 := Aside0.mk (Z64.new H1.out hr H.out.lt); have HC1 := Aside0.mk (Ch.of_below (FJ F gj) hb); have c01 : w1.cell? ⟨gj, 0, none⟩ = some (.pointer (some ⟨g, 0, none⟩)) := H1.out.cell 0; clear hr hb) | (go_at_call 19; (with_reducible refine (barrier_ever H1.out.dk).mono ?_); rintro e w2 ⟨rfl, hp⟩; obtain ⟨F2, h2, hc2⟩ := H1.out.disk hp; have HZ2 := Aside0.mk (HZ1.out.ch hc2); have HC2 := Aside0.mk (HC1.out.trans hc2); have H2 := Aside0.mk h2; have c02 : w2.cell? ⟨gj, 0, none⟩ = some (.pointer (some ⟨g, 0, none⟩)) := h2.cell 0; clear hp h2 hc2) | (go_at_call 16; (with_reducible refine (put_ever (H2.out.below (below_alloc (Below.refl _ _) (.cells #[.int .i64 1, .slice (some ⟨gz, 0, none⟩) 64 cz] 35))).dk (Cap.kb bs) _ 1 1 [⟨1, headI64 h1 q1⟩] rfl (HZ2.out.one H2.out 1) ?c0 (by omega)).mono ?_); (case c0 => exact FIT.out); rintro e w4 ⟨rfl, hp⟩; obtain ⟨F4, h4, hc4⟩ := (H2.out.below (below_alloc (Below.refl _ _) (.cells #[.int .i64 1, .slice (some ⟨gz, 0, none⟩) 64 cz] 35))).disk hp; have HC4 := Aside0.mk ((HC2.out.trans (Ch.of_below _ (below_alloc (Below.refl _ _) (.cells #[.int .i64 1, .slice (some ⟨gz, 0, none⟩) 64 cz] 35)))).trans hc4); have H4 := Aside0.mk h4; have c04 : w4.cell? ⟨gj, 0, none⟩ = some (.pointer (some ⟨g, 0, none⟩)) := h4.cell 0; clear hp h4 hc4) | (go_at_call 19; (with_reducible refine (barrier_ever H4.out.dk).mono ?_); rintro e w5 ⟨rfl, hp⟩; obtain ⟨F5, h5, hc5⟩ := H4.out.disk hp; have HC5 := Aside0.mk (HC4.out.trans hc5); have H5 := Aside0.mk h5; have c15 : w5.cell? ⟨gj, 1, none⟩ = some (.int .i64 h0) := h5.cell 1; have c25 : w5.cell? ⟨gj, 2, none⟩ = some (.int .i64 q0) := h5.cell 2; have c35 : w5.cell? ⟨gj, 3, none⟩ = some (.int .i64 h1) := h5.cell 3; have c45 : w5.cell? ⟨gj, 4, none⟩ = some (.int .i64 q1) := h5.cell 4; have c55 : w5.cell? ⟨gj, 5, none⟩ = some (.int .i64 u) := h5.cell 5; have f15 : w5.frozen? ⟨gj, 1, none⟩ = false := blk_frozen h5.jb 1; have f25 : w5.frozen? ⟨gj, 2, none⟩ = false := blk_frozen h5.jb 2; have f55 : w5.frozen? ⟨gj, 5, none⟩ = false := blk_frozen h5.jb 5; clear hp h5 hc5))
  refine bodyPost_ret (results_tmp rfl _ _ _) rfl ?_
  obtain ⟨j1, k1⟩ := H5.out.put 1 (.int .i64 h1) (a0 := h1) (b0 := q0) (a1 := h1) (b1 := q1) (v := u) rfl
  obtain ⟨j2, k2⟩ := j1.put 2 (.int .i64 q1) (a0 := h1) (b0 := q1) (a1 := h1) (b1 := q1) (v := u) rfl
  obtain ⟨j3, k3⟩ := j2.put 5 (.int .i64 0) (a0 := h1) (b0 := q1) (a1 := h1) (b1 := q1) (v := 0) rfl
  exact ⟨rfl, _, j3, ((HC5.out.trans k1).trans k2).trans k3⟩
end Go.Proofs.Ytcihfmehbmficaa.Jrn
/- Package journal: blank: three blocks of the log are made empty. -/
namespace Go.Proofs.Ytcihfmehbmficaa.Jrn
open Go Go.RowKit Go.Maps Go.Proofs.YtcihfmehbmficaaW.PrintWords Go.Proofs.YtcihfmehbmficaaW.PrintLast Go.Proofs.YtcihfmehbmficaaW.PrintMore Go.Proofs.Ytcihfmehbmficaa.Disk
set_option linter.unusedVariables false
set_option linter.unusedSimpArgs false
set_option maxRecDepth 100000
def zr64 : List Int := List.replicate 64 0
/-- The place of a log's block. -/
def lp (a : Nat) : Int := ((19 + a % 40 : Nat) : Int)
def blankW (a : Nat) : List Wr := [⟨lp a, zr64⟩, ⟨lp (a + 2), zr64⟩, ⟨lp (a + 3), zr64⟩]
theorem infoI54 : (Try.prog.info? 3).map (fun i => (i.zero, i.size, i.bytes)) = some (some (.int .i64 0), 1, 8) := by kernel_rfl
theorem lp_fit {n : Nat} (hn : 59 ≤ n) (a : Nat) {l : List Int} (hl : l.length = 64) : (⟨lp a, l⟩ : Wr).data.length = 64 ∧ 0 ≤ (⟨lp a, l⟩ : Wr).tgt ∧ (⟨lp a, l⟩ : Wr).tgt < n :=
  ⟨hl, Int.natCast_nonneg _, by show ((19 + a % 40 : Nat) : Int) < n; have := Nat.mod_lt a (show 0 < 40 by decide); omega⟩
theorem lpw (a k : Nat) (ha : a < 1000) (hk : k < 1000) : wrap64 (19 + Int.tmod (wrap64 ((a : Int) + (k : Int))) 40) = lp (a + k) := by
  have h1 : wrap64 ((a : Int) + (k : Int)) = ((a + k : Nat) : Int) := by unfold wrap64; omega
  rw [h1, show Int.tmod ((a + k : Nat) : Int) 40 = (((a + k) % 40 : Nat) : Int) from rfl]
  show wrap64 (19 + (((a + k) % 40 : Nat) : Int)) = ((19 + (a + k) % 40 : Nat) : Int)
  have := Nat.mod_lt (a + k) (show 0 < 40 by decide)
  unfold wrap64; omega
theorem Kd_below_self {w w1 : World} (h : Below w.heap.size w w1) : Below w.heap.size w w1 := h
theorem zr_M {w wr : World} {Z : Array Value} {vl : Value} {ws : List Wr} {t : Int} (hZ : Z.toList = nums .u8 zr64) (hb : Below w.heap.size w wr) (hr : kW.R 35 wr w.heap.size (fun _ => True) vl ws) :
    kW.M (wr.alloc (.cells Z 5)) w.heap.size (fun j => some j ≠ vl.ownBlock) ⟨t, zr64⟩ [.int .i64 t, .slice (some ⟨wr.heap.size, 0, none⟩) 64 64] :=
  kW_mkM _ _ _ ⟨t, zr64⟩ (R_blk (blk_new wr (.cells Z 5)) hZ rfl hb.size (fun e => by have := Kd.R_lt hr _ e.symm; omega) (by decide))
set_option maxHeartbeats 2000000 in
theorem blank_calls {w : World} {F : Nat → Prop} {g gj : Nat} {bs : List Blk} {h0 q0 q1 u : Int} {a : Nat} (h : JW w F g gj bs h0 q0 (a : Int) q1 u) (ha : a < 40) (hl : 59 ≤ bs.length) (hcap : Cap bs 1000) :
    Calls Try.prog 40 #[.pointer (some ⟨gj, 0, none⟩), .int .i64 1] w fun e w' => e = .returned (.int .i64 0) ∧ JP w w' F g gj ((pushAll bs (blankW a)).map kb) h0 q0 (a : Int) q1 u := by
  have hmk := mk64
  generalize hZ : Array.replicate 64 (Value.int .u8 0) = Z at hmk
  have HZ1 : Aside0 (Z.toList = nums .u8 zr64) := ⟨by subst hZ; rfl⟩
  have H := Aside0.mk h
  have HCAP := Aside0.mk hcap
  have FIT : Aside0 (Fit bs.length (blankW a)) := ⟨fun x hx => by
    simp only [blankW, List.mem_cons, List.not_mem_nil, or_false] at hx
    rcases hx with rfl | rfl | rfl <;> exact lp_fit hl _ rfl⟩
  obtain ⟨p0, hp0⟩ : ∃ q, lp a = q := ⟨_, rfl⟩
  obtain ⟨p1, hp1⟩ : ∃ q, lp (a + 2) = q := ⟨_, rfl⟩
  obtain ⟨p2, hp2⟩ : ∃ q, lp (a + 3) = q := ⟨_, rfl⟩
  have e0 : wrap64 (19 + Int.tmod (wrap64 (a : Int)) 40) = p0 := by rw [← hp0]; exact lpw a 0 (by omega) (by omega)
  have e1 : wrap64 (19 + Int.tmod (wrap64 ((a : Int) + 2)) 40) = p1 := by rw [← hp1]; exact lpw a 2 (by omega) (by omega)
  have e2 : wrap64 (19 + Int.tmod (wrap64 ((a : Int) + 3)) 40) = p2 := by rw [← hp2]; exact lpw a 3 (by omega) (by omega)
  have HBW : Aside0 (blankW a = [⟨p0, zr64⟩, ⟨p1, zr64⟩, ⟨p2, zr64⟩]) := ⟨by unfold blankW; rw [hp0, hp1, hp2]⟩
  clear h hcap hl hp0 hp1 hp2 hZ ha
  go_enter Try.func40, Try.ntmps40
  go_wp2_with fail
  have HST : Aside0 ((w.alloc (.cells #[.int .i64 0, .int .i64 2, .int .i64 3] 3)).heap[w.heap.size]? = some (.cells #[.int .i64 0, .int .i64 2, .int .i64 3] 3 (0, 0))) := ⟨blk_new _ _⟩
  have HSB : Aside0 (Below w.heap.size w (w.alloc (.cells #[.int .i64 0, .int .i64 2, .int .i64 3] 3))) := ⟨below_alloc (Below.refl _ _) _⟩
  obtain ⟨b14, hb14⟩ : ∃ q, w.heap.size = q := ⟨_, rfl⟩
  have HB14 := Aside0.mk hb14
  rw [hb14] at HST
  rw [hb14]
  clear hb14
  go_loopg [5, 16] 3 (fun gg vl i wr => ∃ k : Nat, k ≤ 3 ∧ 3 - k ≤ gg ∧ i = .int .i64 k ∧ Aside0 (Below w.heap.size w wr) ∧ Aside0 (wr.heap[b14]? = some (.cells #[.int .i64 0, .int .i64 2, .int .i64 3] 3 (0, 0))) ∧ Aside0 (kW.R 35 wr w.heap.size (fun _ => True) vl (([⟨p0, zr64⟩, ⟨p1, zr64⟩, ⟨p2, zr64⟩] : List Wr).take k)))
  case atStart => exact ⟨0, by omega, Nat.le_refl _, rfl, HSB, HST, ⟨Kd.R_nil _ _ _ _ _⟩⟩
  case round =>
    clear HST HSB
    obtain ⟨k, hk, hgk, rfl, HB, H14, HR⟩ := hrel
    have hk3 : k = 0 ∨ k = 1 ∨ k = 2 ∨ k = 3 := by omega
    have HJ := Aside0.mk (H.out.below (Kd_below_self HB.out))
    have c3 : wr.cell? ⟨gj, 3, none⟩ = some (.int .i64 (a : Int)) := HJ.out.cell 3
    rcases hk3 with rfl | rfl | rfl | rfl
    · obtain ⟨Al, cl, rfl⟩ := Kd.R_slice HR.out
      have HRk : Aside0 (kW.R 35 wr w.heap.size (fun _ => True) (.slice Al 0 cl) ([] : List Wr)) := ⟨HR.out⟩
      have cn : wr.cell? ⟨b14, 0, none⟩ = some (.int .i64 0) := blk_cell H14.out 0
      clear HR
      go_wp2_with (((with_reducible refine gate_builtin (b := .append) (xs := #[.tmp 28, .tmp 33]) rfl ?_); at_builtin; refine Kd.R_append kW (w0 := w) (W := wr.alloc (.cells Z 5)) w.heap.size rfl (.tmp 28) (.tmp 33) 42 35 (.agg #[(.int .i64 0), (.slice none 0 0)]) 32 rfl Try.underlying42 infoW rfl (by decide) (by omega) (.slice Al 0 cl) [] ⟨p0, zr64⟩ [.int .i64 p0, .slice (some ⟨wr.heap.size, 0, none⟩) 64 64] (fun _ => True) (fun j => some j ≠ (Value.slice Al 0 cl).ownBlock) rfl ?aX ?aP ?aK ?aF ?aO ?aB ?aS ?aL ?_; (case aX => rw [World.size_alloc]; with_unfolding_all rfl); (case aP => exact zr_M HZ1.out HB.out HRk.out); (case aK => exact fun k hk => ⟨trivial, hk⟩); (case aF => exact fun _ _ => trivial); (case aO => exact Kd.R_below HRk.out (below_alloc (Below.refl _ _) _)); (case aB => exact below_alloc HB.out _); (case aS => exact (below_alloc HB.out _).size); (case aL => simp only [List.length_cons, List.length_nil]; omega); intro v8 w8 ho hb hg hat; have HO8 := Aside0.mk ho; have HB8 := Aside0.mk hb; have H148 := Aside0.mk (blk_grown (blk_alloc H14.out (.cells Z 5)) hg (Kd.R_ne HRk.out H14.out (by decide))); clear ho hb hg hat))
      go_roundg 2
      case measure => omega
      case rel => exact ⟨1, by omega, by omega, rfl, HB8, H148, ⟨HO8.out⟩⟩
    · obtain ⟨Al, cl, rfl⟩ := Kd.R_slice HR.out
      have HRk : Aside0 (kW.R 35 wr w.heap.size (fun _ => True) (.slice Al 1 cl) ([⟨p0, zr64⟩] : List Wr)) := ⟨HR.out⟩
      have cn : wr.cell? ⟨b14, 1, none⟩ = some (.int .i64 2) := blk_cell H14.out 1
      clear HR
      go_wp2_with (((with_reducible refine gate_builtin (b := .append) (xs := #[.tmp 28, .tmp 33]) rfl ?_); at_builtin; refine Kd.R_append kW (w0 := w) (W := wr.alloc (.cells Z 5)) w.heap.size rfl (.tmp 28) (.tmp 33) 42 35 (.agg #[(.int .i64 0), (.slice none 0 0)]) 32 rfl Try.underlying42 infoW rfl (by decide) (by omega) (.slice Al 1 cl) [⟨p0, zr64⟩] ⟨p1, zr64⟩ [.int .i64 p1, .slice (some ⟨wr.heap.size, 0, none⟩) 64 64] (fun _ => True) (fun j => some j ≠ (Value.slice Al 1 cl).ownBlock) rfl ?aX ?aP ?aK ?aF ?aO ?aB ?aS ?aL ?_; (case aX => rw [World.size_alloc]; with_unfolding_all rfl); (case aP => exact zr_M HZ1.out HB.out HRk.out); (case aK => exact fun k hk => ⟨trivial, hk⟩); (case aF => exact fun _ _ => trivial); (case aO => exact Kd.R_below HRk.out (below_alloc (Below.refl _ _) _)); (case aB => exact below_alloc HB.out _); (case aS => exact (below_alloc HB.out _).size); (case aL => simp only [List.length_cons, List.length_nil]; omega); intro v8 w8 ho hb hg hat; have HO8 := Aside0.mk ho; have HB8 := Aside0.mk hb; have H148 := Aside0.mk (blk_grown (blk_alloc H14.out (.cells Z 5)) hg (Kd.R_ne HRk.out H14.out (by decide))); clear ho hb hg hat))
      go_roundg 1
      case measure => omega
      case rel => exact ⟨2, by omega, by omega, rfl, HB8, H148, ⟨HO8.out⟩⟩
    · obtain ⟨Al, cl, rfl⟩ := Kd.R_slice HR.out
      have HRk : Aside0 (kW.R 35 wr w.heap.size (fun _ => True) (.slice Al 2 cl) ([⟨p0, zr64⟩, ⟨p1, zr64⟩] : List Wr)) := ⟨HR.out⟩
      have cn : wr.cell? ⟨b14, 2, none⟩ = some (.int .i64 3) := blk_cell H14.out 2
      clear HR
      go_wp2_with (((with_reducible refine gate_builtin (b := .append) (xs := #[.tmp 28, .tmp 33]) rfl ?_); at_builtin; refine Kd.R_append kW (w0 := w) (W := wr.alloc (.cells Z 5)) w.heap.size rfl (.tmp 28) (.tmp 33) 42 35 (.agg #[(.int .i64 0), (.slice none 0 0)]) 32 rfl Try.underlying42 infoW rfl (by decide) (by omega) (.slice Al 2 cl) [⟨p0, zr64⟩, ⟨p1, zr64⟩] ⟨p2, zr64⟩ [.int .i64 p2, .slice (some ⟨wr.heap.size, 0, none⟩) 64 64] (fun _ => True) (fun j => some j ≠ (Value.slice Al 2 cl).ownBlock) rfl ?aX ?aP ?aK ?aF ?aO ?aB ?aS ?aL ?_; (case aX => rw [World.size_alloc]; with_unfolding_all rfl); (case aP => exact zr_M HZ1.out HB.out HRk.out); (case aK => exact fun k hk => ⟨trivial, hk⟩); (case aF => exact fun _ _ => trivial); (case aO => exact Kd.R_below HRk.out (below_alloc (Below.refl _ _) _)); (case aB => exact below_alloc HB.out _); (case aS => exact (below_alloc HB.out _).size); (case aL => simp only [List.length_cons, List.length_nil]; omega); intro v8 w8 ho hb hg hat; have HO8 := Aside0.mk ho; have HB8 := Aside0.mk hb; have H148 := Aside0.mk (blk_grown (blk_alloc H14.out (.cells Z 5)) hg (Kd.R_ne HRk.out H14.out (by decide))); clear ho hb hg hat))
      go_roundg 0
      case measure => omega
      case rel => exact ⟨3, by omega, by omega, rfl, HB8, H148, ⟨HO8.out⟩⟩
    · obtain ⟨Al, cl, rfl⟩ := Kd.R_slice HR.out
      have HR3 : Aside0 (kW.R 35 wr w.heap.size (fun _ => True) (.slice Al 3 cl) [⟨p0, zr64⟩, ⟨p1, zr64⟩, ⟨p2, zr64⟩]) := ⟨HR.out⟩
      have c0 : wr.cell? ⟨gj, 0, none⟩ = some (.pointer (some ⟨g, 0, none⟩)) := HJ.out.cell 0
      clear HR
      go_wp2_with (first | (go_at_call 16; (with_reducible refine (put_ever HJ.out.dk HCAP.out Al cl 3 _ rfl (RW.of_R HR3.out (fun k hk _ hF => by have := H.out.dk.lt k hF; omega)) ?c0 (by omega)).mono ?_); (case c0 => exact (by have h := FIT.out; rw [HBW.out] at h; exact h)); rintro e w4 ⟨rfl, hp⟩; obtain ⟨F4, h4, hc4⟩ := HJ.out.disk hp; have HC4 := Aside0.mk ((Ch.of_below (FJ F gj) (Kd_below_self HB.out)).trans hc4); have H4 := Aside0.mk h4; have c04 : w4.cell? ⟨gj, 0, none⟩ = some (.pointer (some ⟨g, 0, none⟩)) := h4.cell 0; clear hp h4 hc4) | (go_at_call 19; (with_reducible refine (barrier_ever H4.out.dk).mono ?_); rintro e w5 ⟨rfl, hp⟩; obtain ⟨F5, h5, hc5⟩ := H4.out.disk hp; have HC5 := Aside0.mk (HC4.out.trans hc5); have H5 := Aside0.mk h5; clear hp h5 hc5))
      refine bodyPost_ret (results_tmp rfl _ _ _) rfl ?_
      exact ⟨rfl, _, by rw [HBW.out]; exact H5.out, HC5.out⟩
end Go.Proofs.Ytcihfmehbmficaa.Jrn
/- Package journal: where a transaction's blocks go. -/
namespace Go.Proofs.Ytcihfmehbmficaa.Jrn
open Go Go.RowKit Go.Maps Go.Proofs.YtcihfmehbmficaaW.PrintWords Go.Proofs.YtcihfmehbmficaaW.PrintLast Go.Proofs.YtcihfmehbmficaaW.PrintMore Go.Proofs.Ytcihfmehbmficaa.Disk
set_option linter.unusedVariables false
set_option linter.unusedSimpArgs false
set_option maxRecDepth 100000
theorem infoWr1 : (Try.prog.info? 35).map (·.size) = some 2 := by kernel_rfl
theorem place_calls (ba : Nat) (a : Nat) (ha : a < 40) (A : Option Addr) (n c : Nat) (w : World) (hb : w.heap[ba]? = some (.cells #[.int .i64 (a : Int)] 3 (0, 0))) :
    Calls Try.prog 41 #[.slice A n c, .pointer (some ⟨ba, 0, none⟩)] w fun e w' => e = .returned (.agg #[.int .i64 (lp a), .slice A n c]) ∧ w'.heap[ba]? = some (.cells #[.int .i64 (((a + 1) % 40 : Nat) : Int)] 3 (0, 0)) ∧ w.grownBy w' (some ba) := by
  have HB := Aside0.mk hb
  have hlt := blk_lt hb
  have e0 : (19 : Int) + (a : Int) = lp a := by
    show _ = ((19 + a % 40 : Nat) : Int)
    rw [Nat.mod_eq_of_lt ha]
    omega
  have E0 := Aside0.mk e0
  have c0 := blk_cell hb 0
  have f0 := blk_frozen hb 0
  have c1 := blk_cell (blk_alloc hb (.cells #[.int .i64 0, .slice none 0 0] 35)) 0
  have c2 := blk_cell (blk_alloc (blk_alloc hb (.cells #[.int .i64 0, .slice none 0 0] 35)) (.cells #[.int .i64 0, .slice none 0 0] 35)) 0
  clear hb e0
  go_enter Try.func41, Try.ntmps41
  go_wp2_with fail
  have hsz : (w.setCell ⟨ba, 0, none⟩ (.int .i64 (((a : Int) + 1) % 40))).heap.size = w.heap.size := World.size_setCell ..
  have hr := blk_alloc (blk_new (w.setCell ⟨ba, 0, none⟩ (.int .i64 (((a : Int) + 1) % 40))) (.cells #[.int .i64 (19 + (a : Int)), .slice A n c] 35)) (.cells #[.int .i64 (19 + (a : Int)), .slice A n c] 35)
  rw [hsz] at hr
  refine bodyPost_ret (results_cell_row rfl _ _ w.heap.size _ #[.int .i64 (19 + (a : Int)), .slice A n c] (0, 0) _ rfl hr Try.underlying35 rfl infoWr1) rfl ?_
  refine ⟨by rw [E0.out], ?_, ?_⟩
  · have h3 := blk_alloc (blk_alloc (blk_set HB.out 0 (.int .i64 (((a : Int) + 1) % 40))) (.cells #[.int .i64 (19 + (a : Int)), .slice A n c] 35)) (.cells #[.int .i64 (19 + (a : Int)), .slice A n c] 35)
    rw [show (((a + 1) % 40 : Nat) : Int) = ((a : Int) + 1) % 40 by omega]
    exact h3
  · refine ⟨rfl, rfl, rfl, by rw [World.size_alloc, World.size_alloc, hsz]; omega, fun k hk hn => ?_⟩
    have hka : k ≠ ba := fun e => hn (by rw [e])
    rw [heap_alloc_old _ _ (by rw [World.size_alloc, hsz]; omega), heap_alloc_old _ _ (by rw [hsz]; exact hk)]
    exact heap_setCell_other _ _ _ _ hka
/-! ### writes whose bytes lie in an elder world -/
/-- The cells of a write whose bytes can be read at w0, in memory that is not N's. -/
def KV (w0 : World) (N : Nat → Prop) (x : Wr) (cs : List Value) : Prop := ∃ A1 c1, cs = [.int .i64 x.tgt, .slice A1 x.data.length c1] ∧ x.data.length ≤ c1 ∧ B.C w0 A1 x.data.length x.data ∧ (0 < x.data.length → ∀ ad1, A1 = some ad1 → ad1.block < w0.heap.size ∧ ¬ N ad1.block)
def kV (w0 : World) (N : Nat → Prop) : Kd Wr where
  sz := 2
  E := []
  K := fun _ x cs => KV w0 N x cs
  M := fun _ _ _ x cs => KV w0 N x cs
  K_len := fun h => by obtain ⟨_, _, rfl, _⟩ := h; rfl
  K_one := fun h => by
    obtain ⟨_, _, rfl, _⟩ := h
    intro u hu
    simp only [List.mem_cons, List.not_mem_nil, or_false] at hu
    rcases hu with rfl | rfl <;> rfl
  K_below := fun _ h => h
  K_of_M := fun h => h
  M_mono := fun _ h => h
  M_bound := fun h => h
  M_move := fun _ h => h
  M_lower := fun _ h => h
theorem RW.mono {w : World} {F G : Nat → Prop} {A : Option Addr} {ws : List Wr} (h : RW w G A ws) (hF : ∀ k, F k → G k) : RW w F A ws := fun i x hi => by
  obtain ⟨ad, A1, c1, e, hb, hn, ca, cd, hl, hC, hA⟩ := h i x hi
  exact ⟨ad, A1, c1, e, hb, fun a => hn (hF _ a), ca, cd, hl, hC, fun h0 ad1 e1 => ⟨(hA h0 ad1 e1).1, fun a => (hA h0 ad1 e1).2 (hF _ a)⟩⟩
theorem RW.of_V {w0 W : World} {N : Nat → Prop} {ok : Nat → Prop} {n c : Nat} {A : Option Addr} {ws : List Wr} (h : (kV w0 N).R 35 W w0.heap.size ok (.slice A n c) ws) (hb : Below w0.heap.size w0 W) (hN : ∀ k, N k → k < w0.heap.size) : RW W N A ws := fun i x hi => by
  have hil : i < ws.length := (List.getElem?_eq_some_iff.1 hi).1
  have hn := (Kd.R_reads' h).1
  obtain ⟨g, cap, e, hbg, hg, _⟩ := Kd.R_form h (by omega)
  injection e with e1 _ e3
  subst e1; subst e3
  obtain ⟨cs, _, hM, hc⟩ := Kd.R_get h zW (i : Int) (by omega) (by omega)
  have hx : ws.getD ((i : Int)).toNat zW = x := by rw [Int.toNat_natCast, List.getD_eq_getElem?_getD, hi]; rfl
  rw [hx] at hM
  obtain ⟨A1, c1, rfl, hl, hC, hA⟩ := hM
  have far : ∀ k, k < w0.heap.size → W.heap[k]? = w0.heap[k]? := fun k hk => hb.block k hk
  refine ⟨⟨g, 0, none⟩, A1, c1, rfl, hg, fun a => by have := hN g a; omega, hc 0 _ rfl, by rw [← add_field _ _ 1 (by omega)]; exact hc 1 _ rfl, hl, C_far0 hC (fun h0 ad1 e1 => far _ (hA h0 ad1 e1).1), fun h0 ad1 e1 => ⟨Nat.lt_of_lt_of_le (hA h0 ad1 e1).1 hb.size, (hA h0 ad1 e1).2⟩⟩
theorem Z64.KV {w : World} {F : Nat → Prop} {gj gz c : Nat} {l : List Int} (h : Z64 w F gj gz c l) (t : Int) : KV w (FJ F gj) ⟨t, l⟩ [.int .i64 t, .slice (some ⟨gz, 0, none⟩) 64 c] :=
  ⟨some ⟨gz, 0, none⟩, c, by show _ = [Value.int .i64 t, .slice _ l.length c]; rw [h.len], by show l.length ≤ c; rw [h.len]; exact h.c64, by show B.C w _ l.length l; rw [h.len]; exact h.rd, fun _ ad1 e => by obtain rfl := Option.some.inj e; exact ⟨h.lt, h.nf⟩⟩
end Go.Proofs.Ytcihfmehbmficaa.Jrn
