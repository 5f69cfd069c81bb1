/- Package journal: write: a transaction of one block into the log, and to where it belongs. -/
import Derived.Test.YtcihfmehbmficaaJrn4
import Derived.Test.YtcihfmehbmficaaLogPure
import Derived.Defers
import Derived.Tactics2
namespace Go.Proofs.Ytcihfmehbmficaa.Jrn
open Go Go.RowKit Go.Maps Go.Proofs.YtcihfmehbmficaaW.PrintWords Go.Proofs.YtcihfmehbmficaaW.PrintLast Go.Proofs.YtcihfmehbmficaaW.PrintMore Go.Proofs.Ytcihfmehbmficaa.Disk
set_option linter.unusedVariables false
set_option linter.unusedSimpArgs false
set_option maxRecDepth 100000
theorem lp_mod (a : Nat) : lp (a % 40) = lp a := by unfold lp; rw [Nat.mod_mod]
theorem lp_next (a k : Nat) : lp ((a % 40) + k) = lp (a + k) := by unfold lp; rw [Nat.add_mod, Nat.mod_mod, ← Nat.add_mod]
theorem reps_one {α : Type} {R : α → List Value → Prop} {p : α} {x y : Value} (h : R p [x, y]) : Reps R 2 [p] [x, y] := ⟨rfl, fun j q hj => by
  cases j with
  | zero => obtain rfl := Option.some.inj hj; exact h
  | succ j => simp at hj⟩
theorem below_none {W W1 : World} (hg : W.grownBy W1 none) : Below W.heap.size W W1 := ⟨hg.os, hg.tape, hg.output, hg.size, fun k hk => hg.block k hk (by intro e; cases e)⟩
theorem below_own {w w1 w2 : World} {b : Nat} (hb : Below w.heap.size w w1) (hg : w1.grownBy w2 (some b)) (h : w.heap.size ≤ b) : Below w.heap.size w w2 :=
  ⟨hg.os.trans hb.os, hg.tape.trans hb.tape, hg.output.trans hb.output, Nat.le_trans hb.size hg.size, fun k hk => (hg.block k (Nat.lt_of_lt_of_le hk hb.size) (fun e => by have := Option.some.inj e; omega)).trans (hb.block k hk)⟩
theorem place_at (ba a x : Nat) (A : Option Addr) (n c : Nat) (w : World) (hb : w.heap[ba]? = some (.cells #[.int .i64 (((a + x) % 40 : Nat) : Int)] 3 (0, 0))) :
    Calls Try.prog 41 #[.slice A n c, .pointer (some ⟨ba, 0, none⟩)] w fun e w' => e = .returned (.agg #[.int .i64 (lp (a + x)), .slice A n c]) ∧ w'.heap[ba]? = some (.cells #[.int .i64 (((a + (x + 1)) % 40 : Nat) : Int)] 3 (0, 0)) ∧ w.grownBy w' (some ba) := by
  have h := place_calls ba ((a + x) % 40) (Nat.mod_lt _ (by decide)) A n c w hb
  rw [lp_mod, show ((a + x) % 40 + 1) % 40 = (a + (x + 1)) % 40 by omega] at h
  exact h
/-- A row is kept where a box of another type is written. -/
theorem R_own {w0 : World} {N : Nat → Prop} {e ba t : Nat} {w w1 : World} {base : Nat} {ok : Nat → Prop} {v : Value} {xs : List Wr} {cs : Array Value} (h : (kV w0 N).R e w base ok v xs) (hb : w.heap[ba]? = some (.cells cs t (0, 0))) (ht : e ≠ t) (hg : w.grownBy w1 (some ba)) : (kV w0 N).R e w1 base ok v xs :=
  Kd.R_mono (Kd.R_step (Kd.R_types h hb (fun q hq => by
    have hq' : q ∈ [e] := hq
    obtain rfl := List.mem_singleton.1 hq'
    exact ht)) (fun k ho hk => hg.block k hk (fun e => ho.2 (Option.some.inj e)))) (fun _ hk => hk.1)
/-- The journal's struct is written. -/
theorem JW.whole {w w1 : World} {F : Nat → Prop} {g gj : Nat} {bs : List Blk} {h0 q0 h1 q1 u a0 b0 a1 b1 v : Int} (h : JW w F g gj bs h0 q0 h1 q1 u) (hz : w1.heap[gj]? = some (.cells (JC g a0 b0 a1 b1 v false) 59 (0, 0))) (hg : w.grownBy w1 (some gj)) : JW w1 F g gj bs a0 b0 a1 b1 v ∧ Ch w w1 (FJ F gj) (FJ F gj) := by
  have far : ∀ k, k < w.heap.size → k ≠ gj → w1.heap[k]? = w.heap[k]? := fun k hk hn => hg.block k hk (fun e => hn (Option.some.inj e))
  exact ⟨⟨DW.kept h.dk (fun k hk => far k (h.dk.lt k hk) (fun e => h.nf (e ▸ hk))) hg.size, hz, h.nf⟩, ⟨hg.os, hg.tape, hg.output, hg.size, fun k hk hn => far k hk (fun e => hn (Or.inr e)), fun _ hk => Or.inl hk⟩⟩
theorem fj_in {F : Nat → Prop} {gj k : Nat} (h : F k) : FJ F gj k := Or.inl h
/-- The blocks behind write. -/
def writeB (bs : List Blk) (a : Nat) (first l last : List Int) (t : Int) : List Blk :=
  pushAll ((pushAll ((pushAll ((pushAll bs (blankW a)).map kb) [⟨lp a, first⟩, ⟨lp (a + 1), l⟩]).map kb) [⟨lp (a + 2), last⟩]).map kb) [⟨t, l⟩]
set_option maxHeartbeats 4000000 in
theorem write_calls {w : World} {F : Nat → Prop} {g gj : Nat} {bs : List Blk} {h0 q0 q1 u : Int} {a : Nat} (h : JW w F g gj bs h0 q0 (a : Int) q1 u) (ha : a < 40) (hl : 59 ≤ bs.length) (hcap : Cap bs 1000) (hq : 0 ≤ q1 ∧ q1 < 1099511627776) (hu : 0 ≤ u ∧ u < 1000)
    (A0 : Option Addr) (c0 : Nat) (t : Int) (l : List Int) (hw : RW w (FJ F gj) A0 [⟨t, l⟩]) (hfit : Fit bs.length [⟨t, l⟩]) {gf cf gl cl : Nat} {first last : List Int} (hz1 : Z64 w F gj gf cf first) (hz2 : Z64 w F gj gl cl last) :
    Calls Try.prog 25 #[.pointer (some ⟨gj, 0, none⟩), .slice A0 1 c0, .slice (some ⟨gf, 0, none⟩) 64 cf, .slice (some ⟨gl, 0, none⟩) 64 cl] w fun e w' => e = .returned (.int .i64 0) ∧ JP w w' F g gj (writeB bs a first l last t) h0 q0 (((a + 3) % 40 : Nat) : Int) (q1 + 1) (u + 3) := by
  have HBL := Aside0.mk (blank_calls h ha hl hcap)
  obtain ⟨ad, A1, c1, e, _⟩ := hw 0 ⟨t, l⟩ rfl
  subst e
  have H := Aside0.mk h
  have HA := Aside0.mk ha
  have HL := Aside0.mk hl
  have HQ := Aside0.mk hq
  have HU := Aside0.mk hu
  have HW := Aside0.mk hw
  have HFIT := Aside0.mk hfit
  have HZ1 := Aside0.mk hz1
  have HZ2 := Aside0.mk hz2
  have hmf : ∀ (fn : Fn) (first cap : Array Value) (w : World), (Instr.makeFunc fn first cap).run Try.prog w = .ok (.func fn first cap) w := fun _ _ _ _ => rfl
  clear h ha hl hq hu hw hfit hz1 hz2 hcap
  go_enter Try.func25, Try.ntmps25
  go_wp2_with (first | (go_at_call 40; (with_reducible refine HBL.out.mono ?_); rintro e w1 ⟨rfl, F1, h1, hc1⟩; have H1 := Aside0.mk h1; have HC1 := Aside0.mk hc1; have HZF := Aside0.mk (HZ1.out.ch hc1); have HZL := Aside0.mk (HZ2.out.ch hc1); have HW1 := Aside0.mk (HW.out.ch hc1); have c31 : w1.cell? ⟨gj, 3, none⟩ = some (.int .i64 (a : Int)) := h1.cell 3; clear h1 hc1) | (go_at_call 41; (with_reducible refine (place_calls w1.heap.size a HA.out _ _ _ _ (blk_new w1 (.cells #[.int .i64 (a : Int)] 3))).mono ?_); rintro e w2 ⟨rfl, hb2, hg2⟩; have HB2 := Aside0.mk (below_own (below_alloc (Below.refl _ _) _) hg2 (Nat.le_refl _)); have HA2 := Aside0.mk hb2; clear hb2 hg2) | ((with_reducible refine gate_dst (N := 36) rfl ?_); (try (refine gate_guard (by rfl) ?_; dsimp only)); refine Kd.R_lit (kV w1 (FJ F1 gj)) (w0 := w1) w1.heap.size 35 ?hg (N := 36) ?hd (xs := [⟨lp a, first⟩]) (inner := [.int .i64 (lp a), .slice (some ⟨gf, 0, none⟩) 64 cf]) (ok := fun _ => True) (okp := fun _ => True) ?hr ?hp (fun _ hk => hk) trivial HB2.out HB2.out.size (by simp) ?_; (case hd => rfl); (case hg => rfl); (case hr => first | (go_simp; done) | (go_simp; rfl)); (case hp => exact reps_one (HZF.out.KV (lp a))); intro v3 w3 ho3 hb3 hg3 hn3; have HO3 := Aside0.mk ho3; have HB3 := Aside0.mk hb3; have HA3 := Aside0.mk (blk_below HA2.out (below_none hg3)); clear ho3 hb3 hg3 hn3))
  obtain ⟨ad', A1, c1, e', hbk, hnf, ca, cd, hlc, hC, hA⟩ := HW1.out 0 ⟨t, l⟩ rfl
  obtain rfl := Option.some.inj e'
  have hl64 : l.length = 64 := (HFIT.out ⟨t, l⟩ (List.mem_singleton.2 rfl)).1
  have HKV : Aside0 (KV w1 (FJ F1 gj) ⟨lp (a + 1), l⟩ [.int .i64 (lp (a + 1)), .slice A1 64 c1]) := ⟨⟨A1, c1, by show _ = [Value.int .i64 (lp (a + 1)), .slice A1 l.length c1]; rw [hl64], hlc, hC, hA⟩⟩
  have ca2 : w1.cell? ad = some (.int .i64 t) := ca
  have cd2 : w1.cell? ⟨ad.block, ad.off + 1, none⟩ = some (.slice A1 64 c1) := by rw [← hl64]; exact cd
  have HCA : Aside0 (∀ W, Below w1.heap.size w1 W → W.cell? ad = some (.int .i64 t) ∧ W.cell? ⟨ad.block, ad.off + 1, none⟩ = some (.slice A1 64 c1)) := ⟨fun W hW => ⟨pw_cell_below hW ca2, pw_cell_below hW cd2⟩⟩
  clear ca cd hlc hC hA ca2 cd2 hbk hnf hl64 c31 HB2 HA2
  obtain ⟨ba, hba⟩ : ∃ q, w1.heap.size = q := ⟨_, rfl⟩
  have HBA : Aside0 (w1.heap.size ≤ ba) := ⟨by omega⟩
  rw [hba] at HA3
  rw [hba]
  clear hba
  go_loopg [12, 39] 1 (fun gg vl i wr => ∃ k : Nat, k ≤ 1 ∧ 1 - k ≤ gg ∧ i = .int .i64 k ∧ Aside0 (Below w1.heap.size w1 wr) ∧ Aside0 (wr.heap[ba]? = some (.cells #[.int .i64 (((a + (1 + k)) % 40 : Nat) : Int)] 3 (0, 0))) ∧ Aside0 ((kV w1 (FJ F1 gj)).R 35 wr w1.heap.size (fun _ => True) vl (([⟨lp a, first⟩, ⟨lp (a + 1), l⟩] : List Wr).take (k + 1))))
  case atStart => exact ⟨0, by omega, Nat.le_refl _, rfl, HB3, HA3, HO3⟩
  case round =>
    clear HB3 HA3 HO3
    obtain ⟨k, hk, hgk, rfl, HB, HAT, HR⟩ := hrel
    have hk1 : k = 0 ∨ k = 1 := by omega
    rcases hk1 with rfl | rfl
    · obtain ⟨Av, cv, rfl⟩ := Kd.R_slice HR.out
      have HRk : Aside0 ((kV w1 (FJ F1 gj)).R 35 wr w1.heap.size (fun _ => True) (.slice Av 1 cv) [⟨lp a, first⟩]) := ⟨HR.out⟩
      have cA := (HCA.out wr HB.out).1
      have cB := (HCA.out wr HB.out).2
      clear HR
      go_wp2_with (first | (go_at_call 41; (with_reducible refine (place_at ba a (1 + 0) _ _ _ _ (blk_alloc HAT.out (.cells #[.int .i64 t, .slice A1 64 c1] 35))).mono ?_); rintro e w5 ⟨rfl, hb5, hg5⟩; have HB5 := Aside0.mk (below_own (below_alloc HB.out (.cells #[.int .i64 t, .slice A1 64 c1] 35)) hg5 HBA.out); have HA5 := Aside0.mk hb5; have HR5 := Aside0.mk (R_own (Kd.R_below HRk.out (below_alloc (Below.refl _ _) (.cells #[.int .i64 t, .slice A1 64 c1] 35))) (blk_alloc HAT.out (.cells #[.int .i64 t, .slice A1 64 c1] 35)) (by decide) hg5); clear hb5 hg5) | ((with_reducible refine gate_builtin (b := .append) (xs := #[.tmp 43, .tmp 48]) rfl ?_); at_builtin; refine Kd.R_append (kV w1 (FJ F1 gj)) (w0 := w1) (W := w5) w1.heap.size rfl (.tmp 43) (.tmp 48) 42 35 (.agg #[(.int .i64 0), (.slice none 0 0)]) 32 rfl Try.underlying42 infoW (by rfl) (show 0 < 2 from by decide) (by omega) (.slice Av 1 cv) [⟨lp a, first⟩] ⟨lp (a + 1), l⟩ [.int .i64 (lp (a + 1)), .slice A1 64 c1] (fun _ => True) (fun _ => False) rfl ?aX ?aP ?aK ?aF ?aO ?aB ?aS ?aL ?_; (case aX => with_unfolding_all rfl); (case aP => exact HKV.out); (case aK => exact fun k hk => hk.elim); (case aF => exact fun _ _ => trivial); (case aO => exact HR5.out); (case aB => exact HB5.out); (case aS => exact HB5.out.size); (case aL => simp only [List.length_cons, List.length_nil]; omega); intro v8 w8 ho hb hg hat; have HO8 := Aside0.mk ho; have HB8 := Aside0.mk hb; have HA8 := Aside0.mk (blk_grown HA5.out hg (Kd.R_ne HR5.out HA5.out (by decide))); clear ho hb hg hat))
      go_roundg 0
      case measure => omega
      case rel => exact ⟨1, by omega, by omega, rfl, HB8, HA8, ⟨HO8.out⟩⟩
    · obtain ⟨Av, cv, rfl⟩ := Kd.R_slice HR.out
      have HRk : Aside0 ((kV w1 (FJ F1 gj)).R 35 wr w1.heap.size (fun _ => True) (.slice Av 2 cv) [⟨lp a, first⟩, ⟨lp (a + 1), l⟩]) := ⟨HR.out⟩
      have HA2 : Aside0 (wr.heap[ba]? = some (.cells #[.int .i64 (((a + 2) % 40 : Nat) : Int)] 3 (0, 0))) := ⟨HAT.out⟩
      clear HR HAT hk hgk
      go_wp2_with (first | (go_at_call 41; (with_reducible refine (place_at ba a 2 _ _ _ _ HA2.out).mono ?_); rintro e w5 ⟨rfl, hb5, hg5⟩; have HB5 := Aside0.mk (below_alloc (below_own HB.out hg5 HBA.out) (.cells #[.int .i64 (lp (a + 2)), .slice (some ⟨gl, 0, none⟩) 64 cl] 35)); have HA5 := Aside0.mk (blk_alloc hb5 (.cells #[.int .i64 (lp (a + 2)), .slice (some ⟨gl, 0, none⟩) 64 cl] 35)); have HR5 := Aside0.mk (Kd.R_below (R_own HRk.out HA2.out (by decide) hg5) (below_alloc (Below.refl _ _) (.cells #[.int .i64 (lp (a + 2)), .slice (some ⟨gl, 0, none⟩) 64 cl] 35))); clear hb5 hg5) | ((with_reducible refine gate_dst (N := 56) rfl ?_); (try (refine gate_guard (by rfl) ?_; dsimp only)); refine Kd.R_lit (kV w1 (FJ F1 gj)) (w0 := w1) w1.heap.size 35 ?hg (N := 56) ?hd (xs := [⟨lp (a + 2), last⟩]) (inner := [.int .i64 (lp (a + 2)), .slice (some ⟨gl, 0, none⟩) 64 cl]) (ok := fun _ => True) (okp := fun _ => True) ?hr ?hp (fun _ hk => hk) trivial HB5.out HB5.out.size (by simp) ?_; (case hd => rfl); (case hg => rfl); (case hr => first | (go_simp; done) | (go_simp; rfl)); (case hp => exact reps_one (HZL.out.KV (lp (a + 2)))); intro v6 w6 ho6 hb6 hg6 hn6; obtain ⟨Ae, ce, e6⟩ := Kd.R_slice ho6; subst e6; have HO6 := Aside0.mk ho6; have HB6 := Aside0.mk hb6; have HA6 := Aside0.mk (blk_below HA5.out (below_none hg6)); have HR6 := Aside0.mk (Kd.R_below HR5.out (below_none hg6)); clear ho6 hb6 hg6 hn6))
      have HB13 := Aside0.mk (below_alloc HB6.out (.cells #[.slice Av 2 cv, .slice Ae 1 ce] 42))
      have HA13 := Aside0.mk (blk_alloc HA6.out (.cells #[.slice Av 2 cv, .slice Ae 1 ce] 42))
      have H57 := Aside0.mk (blk_new w6 (.cells #[.slice Av 2 cv, .slice Ae 1 ce] 42))
      have HN1 : Aside0 (∀ k, FJ F1 gj k → k < w1.heap.size) := ⟨H1.out.lt⟩
      have HRA : Aside0 (RW (w6.alloc (.cells #[.slice Av 2 cv, .slice Ae 1 ce] 42)) (FJ F1 gj) Av [⟨lp a, first⟩, ⟨lp (a + 1), l⟩]) := ⟨RW.of_V (Kd.R_below HR6.out (below_alloc (Below.refl _ _) _)) HB13.out HN1.out⟩
      have HRE : Aside0 (RW (w6.alloc (.cells #[.slice Av 2 cv, .slice Ae 1 ce] 42)) (FJ F1 gj) Ae [⟨lp (a + 2), last⟩]) := ⟨RW.of_V (Kd.R_below HO6.out (below_alloc (Below.refl _ _) _)) HB13.out HN1.out⟩
      have HRL : Aside0 (RW (w6.alloc (.cells #[.slice Av 2 cv, .slice Ae 1 ce] 42)) (FJ F1 gj) (some ad) [⟨t, l⟩]) := ⟨HW1.out.ch (Ch.of_below _ HB13.out)⟩
      have HJ13 : Aside0 (JW (w6.alloc (.cells #[.slice Av 2 cv, .slice Ae 1 ce] 42)) F1 g gj ((pushAll bs (blankW a)).map kb) h0 q0 (a : Int) q1 u) := ⟨H1.out.below HB13.out⟩
      have HC13 : Aside0 (Ch w (w6.alloc (.cells #[.slice Av 2 cv, .slice Ae 1 ce] 42)) (FJ F gj) (FJ F1 gj)) := ⟨HC1.out.trans (Ch.of_below _ HB13.out)⟩
      have HBX : Aside0 (w1.heap.size ≤ w6.heap.size) := ⟨HB6.out.size⟩
      obtain ⟨B0, hB0⟩ : ∃ q, (pushAll bs (blankW a)).map kb = q := ⟨_, rfl⟩
      have HL0 : Aside0 (B0.length = bs.length) := ⟨by rw [← hB0, List.length_map, pushAll_length]⟩
      have HWB : Aside0 (writeB bs a first l last t = pushAll ((pushAll ((pushAll B0 [⟨lp a, first⟩, ⟨lp (a + 1), l⟩]).map kb) [⟨lp (a + 2), last⟩]).map kb) [⟨t, l⟩]) := ⟨by rw [← hB0]; rfl⟩
      have HCB0 : Aside0 (Cap B0 0) := ⟨by rw [← hB0]; exact Cap.kb _⟩
      rw [hB0] at HJ13
      clear hB0 HB6 HA6 HO6 HR6 HB5 HA5 HR5 HB HRk HA2 HW1 H1 HC1 HZF HZL HKV HCA
      obtain ⟨b57, hb57⟩ : ∃ q, w6.heap.size = q := ⟨_, rfl⟩
      obtain ⟨W13, hW13⟩ : ∃ q, w6.alloc (.cells #[.slice Av 2 cv, .slice Ae 1 ce] 42) = q := ⟨_, rfl⟩
      rw [hb57, hW13] at H57
      rw [hb57] at HBX
      rw [hW13] at HRA HRE HRL HJ13 HC13 HA13 HB13
      rw [hb57, hW13]
      clear hb57 hW13
      have H64F : Aside0 (first.length = 64 ∧ last.length = 64 ∧ l.length = 64) := ⟨HZ1.out.len, HZ2.out.len, (HFIT.out ⟨t, l⟩ (List.mem_singleton.2 rfl)).1⟩
      go_loopg [59] 2 (fun gg i wr => ∃ (k : Nat) (Fk : Nat → Prop), k ≤ 2 ∧ 2 - k ≤ gg ∧ i = .int .i64 k ∧ Aside0 (JW wr Fk g gj (if k = 0 then B0 else if k = 1 then (pushAll B0 [⟨lp a, first⟩, ⟨lp (a + 1), l⟩]).map kb else (pushAll ((pushAll B0 [⟨lp a, first⟩, ⟨lp (a + 1), l⟩]).map kb) [⟨lp (a + 2), last⟩]).map kb) h0 q0 (a : Int) q1 u) ∧ Aside0 (Ch W13 wr (FJ F1 gj) (FJ Fk gj)))
      case atStart => exact ⟨0, F1, by omega, Nat.le_refl _, rfl, HJ13, ⟨Ch.refl _ _⟩⟩
      case round =>
        obtain ⟨k, Fk, hk, hgk, rfl, HJ, HCK⟩ := hrel
        have hk1 : k = 0 ∨ k = 1 ∨ k = 2 := by omega
        have H5 : Aside0 (wr.heap[b57]? = some (.cells #[.slice Av 2 cv, .slice Ae 1 ce] 42 (0, 0))) := ⟨(HCK.out.far b57 (blk_lt H57.out) (fun hn => by have h1 := HN1.out _ hn; have h2 := HBX.out; omega)).trans H57.out⟩
        have c0x : wr.cell? ⟨gj, 0, none⟩ = some (.pointer (some ⟨g, 0, none⟩)) := HJ.out.cell 0
        rcases hk1 with rfl | rfl | rfl
        · have cr : wr.cell? ⟨b57, 0, none⟩ = some (.slice Av 2 cv) := blk_cell H5.out 0
          have HJ0 : Aside0 (JW wr Fk g gj B0 h0 q0 (a : Int) q1 u) := ⟨HJ.out⟩
          clear HJ
          go_wp2_with (first | (go_at_call 16; (with_reducible refine (put_ever HJ0.out.dk HCB0.out Av cv 2 _ rfl (RW.mono (HRA.out.ch HCK.out) (fun k hk => fj_in hk)) ?c0 (by omega)).mono ?_); (case c0 => exact (fun x hx => by rw [HL0.out]; simp only [List.mem_cons, List.not_mem_nil, or_false] at hx; rcases hx with rfl | rfl; exact lp_fit HL.out _ H64F.out.1; exact lp_fit HL.out _ H64F.out.2.2)); rintro e w8 ⟨rfl, hp⟩; obtain ⟨F8, h8, hc8⟩ := HJ0.out.disk hp; have HC8 := Aside0.mk (HCK.out.trans hc8); have H8 := Aside0.mk h8; have c08 : w8.cell? ⟨gj, 0, none⟩ = some (.pointer (some ⟨g, 0, none⟩)) := h8.cell 0; clear hp h8 hc8) | (go_at_call 19; (with_reducible refine (barrier_ever H8.out.dk).mono ?_); rintro e w9 ⟨rfl, hp⟩; obtain ⟨F9, h9, hc9⟩ := H8.out.disk hp; have HC9 := Aside0.mk (HC8.out.trans hc9); have H9 := Aside0.mk h9; clear hp h9 hc9))
          go_roundg 1
          case measure => omega
          case rel => exact ⟨1, F9, by omega, by omega, rfl, ⟨H9.out⟩, HC9⟩
        · have cr : wr.cell? ⟨b57, 1, none⟩ = some (.slice Ae 1 ce) := blk_cell H5.out 1
          have HJ0 : Aside0 (JW wr Fk g gj ((pushAll B0 [⟨lp a, first⟩, ⟨lp (a + 1), l⟩]).map kb) h0 q0 (a : Int) q1 u) := ⟨HJ.out⟩
          clear HJ
          go_wp2_with (first | (go_at_call 16; (with_reducible refine (put_ever HJ0.out.dk (Cap.kb _) Ae ce 1 _ rfl (RW.mono (HRE.out.ch HCK.out) (fun k hk => fj_in hk)) ?c0 (by omega)).mono ?_); (case c0 => exact (fun x hx => by rw [List.length_map, pushAll_length, HL0.out]; obtain rfl := List.mem_singleton.1 hx; exact lp_fit HL.out _ H64F.out.2.1)); rintro e w8 ⟨rfl, hp⟩; obtain ⟨F8, h8, hc8⟩ := HJ0.out.disk hp; have HC8 := Aside0.mk (HCK.out.trans hc8); have H8 := Aside0.mk h8; have c08 : w8.cell? ⟨gj, 0, none⟩ = some (.pointer (some ⟨g, 0, none⟩)) := h8.cell 0; clear hp h8 hc8) | (go_at_call 19; (with_reducible refine (barrier_ever H8.out.dk).mono ?_); rintro e w9 ⟨rfl, hp⟩; obtain ⟨F9, h9, hc9⟩ := H8.out.disk hp; have HC9 := Aside0.mk (HC8.out.trans hc9); have H9 := Aside0.mk h9; clear hp h9 hc9))
          go_roundg 0
          case measure => omega
          case rel => exact ⟨2, F9, by omega, by omega, rfl, ⟨H9.out⟩, HC9⟩
        · have HJ0 : Aside0 (JW wr Fk g gj ((pushAll ((pushAll B0 [⟨lp a, first⟩, ⟨lp (a + 1), l⟩]).map kb) [⟨lp (a + 2), last⟩]).map kb) h0 q0 (a : Int) q1 u) := ⟨HJ.out⟩
          clear HJ
          go_wp2_with fail
          have hba : wr.heap[ba]? = some (.cells #[.int .i64 (((a + 3) % 40 : Nat) : Int)] 3 (0, 0)) := (HCK.out.far ba (blk_lt HA13.out) (fun hn => by have h1 := HN1.out _ hn; have h2 := HBA.out; omega)).trans HA13.out
          have HSA : Aside0 (∀ W : World, Below wr.heap.size wr W → W.cell? ⟨ba, 0, none⟩ = some (.int .i64 (((a + 3) % 40 : Nat) : Int))) := ⟨fun W hW => pw_cell_below hW (blk_cell hba 0)⟩
          have HSQ : Aside0 (∀ W : World, Below wr.heap.size wr W → W.cell? ⟨gj, 4, none⟩ = some (.int .i64 q1)) := ⟨fun W hW => pw_cell_below hW (HJ0.out.cell 4)⟩
          have ewq : wrap64 (q1 + 1) = q1 + 1 := by have h := HQ.out; unfold wrap64; omega
          have ewu : wrap64 (u + 3) = u + 3 := by have h := HU.out; unfold wrap64; omega
          obtain ⟨nx, hnx⟩ : ∃ q, (((a + 3) % 40 : Nat) : Int) = q := ⟨_, rfl⟩
          rw [hnx] at HSA
          have hJd := HJ0.out.below (below_drew (Below.refl _ _))
          obtain ⟨w10, hst, hz10, hg10, hs10⟩ := Whole.run_store (P := Try.prog) 46 gj 3 59 (JC g h0 q0 (a : Int) q1 u false) #[.int .i64 nx, .int .i64 (q1 + 1)] (JC g h0 q0 nx (q1 + 1) u false) hJd.jb (show 5 ≤ 7 by decide) infoH (fun v hv => by simp only [List.mem_cons, List.not_mem_nil, or_false] at hv; rcases hv with rfl | rfl <;> rfl) rfl
          have HST := Aside0.mk hst
          obtain ⟨hj10, hc10⟩ := hJd.whole hz10 hg10
          have HJ10 := Aside0.mk hj10
          have HC10 := Aside0.mk ((HCK.out.trans (Ch.of_below (FJ Fk gj) (below_drew (Below.refl _ _)))).trans hc10)
          have HNX := Aside0.mk hnx
          clear hst hz10 hg10 hs10 hJd hj10 hc10 hba hnx
          refine start_ (n := 12) (S := fun w' => w'.cell? ⟨ba, 0, none⟩ = some (.int .i64 nx) ∧ w'.cell? ⟨gj, 4, none⟩ = some (.int .i64 q1)) (ds := [11]) #[false, false, false, false, false, false, false, false, false, false, false, false] (by kernel_rfl) rfl rfl ⟨HSA.out _ (below_drew (Below.refl _ _)), HSQ.out _ (below_drew (Below.refl _ _))⟩ (fun hHeld => ?_)
          refine pure_ (i := 0) (N := some 81) (v := ?_) (a' := ?_) #[true, false, false, false, false, false, false, false, false, false, false, false] rfl rfl (by kernel_rfl) (fun _ _ _ h => h) (Or.inl ⟨by rfl, ?_⟩) ?_ ?_
          rotate_left
          · intro w'
            go_simp
            with_reducible rfl
          rotate_left
          · simp only [Act.put, List.setIfInBounds_toArray, List.set_cons_zero, List.set_cons_succ, i64_w, i32_w]
            rfl
          refine pure_ (i := 2) (N := some 83) (v := ?_) (a' := ?_) #[true, false, true, false, false, false, false, false, false, false, false, false] rfl rfl (by kernel_rfl) (fun _ _ _ h => h) (Or.inl ⟨by rfl, ?_⟩) ?_ ?_
          rotate_left
          · intro w'
            go_simp
            with_reducible rfl
          rotate_left
          · simp only [Act.put, List.setIfInBounds_toArray, List.set_cons_zero, List.set_cons_succ, i64_w, i32_w]
            rfl
          refine pure_ (i := 3) (N := some 84) (v := ?_) (a' := ?_) #[true, false, true, true, false, false, false, false, false, false, false, false] rfl rfl (by kernel_rfl) (fun _ _ _ h => h) (Or.inl ⟨by rfl, ?_⟩) ?_ ?_
          rotate_left
          · intro w'
            go_simp
            with_reducible rfl
          rotate_left
          · simp only [Act.put, List.setIfInBounds_toArray, List.set_cons_zero, List.set_cons_succ, i64_w, i32_w]
            rfl
          refine pure_ (i := 4) (N := some 85) (v := ?_) (a' := ?_) #[true, false, true, true, true, false, false, false, false, false, false, false] rfl rfl (by kernel_rfl) (fun _ _ _ h => h) (Or.inl ⟨by rfl, ?_⟩) ?_ ?_
          rotate_left
          · intro w'
            go_simp
            with_reducible rfl
          rotate_left
          · simp only [Act.put, List.setIfInBounds_toArray, List.set_cons_zero, List.set_cons_succ, i64_w, i32_w]
            rfl
          refine pure_ (i := 5) (N := some 86) (v := ?_) (a' := ?_) #[true, false, true, true, true, true, false, false, false, false, false, false] rfl rfl (by kernel_rfl) (fun _ _ _ h => h) (Or.inl ⟨by rfl, ?_⟩) ?_ ?_
          rotate_left
          · intro w'
            go_simp
            with_reducible rfl
          rotate_left
          · simp only [Act.put, List.setIfInBounds_toArray, List.set_cons_zero, List.set_cons_succ, i64_w, i32_w]
            rfl
          refine take_ (i := 1) (N := some 82) (v := ?_) (a' := ?_) #[true, true, true, true, true, true, false, false, false, false, false, false] rfl rfl (by kernel_rfl) (fun _ _ _ h => h) (Or.inl ⟨by rfl, ?_⟩) hHeld ?_ ?_
          rotate_left
          · rintro w' ⟨s0, s1⟩
            go_simp
            with_reducible rfl
          rotate_left
          · simp only [Act.put, List.setIfInBounds_toArray, List.set_cons_zero, List.set_cons_succ, i64_w, i32_w]
            rfl
          refine take_ (i := 6) (N := some 87) (v := ?_) (a' := ?_) #[true, true, true, true, true, true, true, false, false, false, false, false] rfl rfl (by kernel_rfl) (fun _ _ _ h => h) (Or.inl ⟨by rfl, ?_⟩) hHeld ?_ ?_
          rotate_left
          · rintro w' ⟨s0, s1⟩
            go_simp
            with_reducible rfl
          rotate_left
          · simp only [Act.put, List.setIfInBounds_toArray, List.set_cons_zero, List.set_cons_succ, i64_w, i32_w]
            rfl
          refine pure_ (i := 7) (N := some 88) (v := ?_) (a' := ?_) #[true, true, true, true, true, true, true, true, false, false, false, false] rfl rfl (by kernel_rfl) (fun _ _ _ h => h) (Or.inl ⟨by rfl, ?_⟩) ?_ ?_
          rotate_left
          · intro w'
            go_simp
            with_reducible rfl
          rotate_left
          · simp only [Act.put, List.setIfInBounds_toArray, List.set_cons_zero, List.set_cons_succ, i64_w, i32_w]
            rfl
          refine pure_ (i := 8) (N := some 89) (v := ?_) (a' := ?_) #[true, true, true, true, true, true, true, true, true, false, false, false] rfl rfl (by kernel_rfl) (fun _ _ _ h => h) (Or.inl ⟨by rfl, ?_⟩) ?_ ?_
          rotate_left
          · intro w'
            go_simp
            with_reducible rfl
          rotate_left
          · simp only [Act.put, List.setIfInBounds_toArray, List.set_cons_zero, List.set_cons_succ, i64_w, i32_w]
            rfl
          refine pure_ (i := 9) (N := some 90) (v := ?_) (a' := ?_) #[true, true, true, true, true, true, true, true, true, true, false, false] rfl rfl (by kernel_rfl) (fun _ _ _ h => h) (Or.inl ⟨by rfl, ?_⟩) ?_ ?_
          rotate_left
          · intro w'
            go_simp
            with_reducible rfl
          rotate_left
          · simp only [Act.put, List.setIfInBounds_toArray, List.set_cons_zero, List.set_cons_succ, i64_w, i32_w]
            rfl
          refine pure_ (i := 10) (N := some 91) (v := ?_) (a' := ?_) #[true, true, true, true, true, true, true, true, true, true, true, false] rfl rfl (by kernel_rfl) (fun _ _ _ h => h) (Or.inl ⟨by rfl, ?_⟩) ?_ ?_
          rotate_left
          · intro w'
            go_simp
            with_reducible rfl
          rotate_left
          · simp only [Act.put, List.setIfInBounds_toArray, List.set_cons_zero, List.set_cons_succ, i64_w, i32_w]
            rfl
          refine last_ (i := 11) (N := none) #[true, true, true, true, true, true, true, true, true, true, true, true] rfl rfl (by kernel_rfl) (by decide) (fun K hK => ?_)
          refine skip_ (w1 := w10) (by rfl) rfl ?_ ?_
          · exact Whole.exec_store _ (.tmp 91) (.tmp 89) rfl _ _ (by rfl) (by rfl) HST.out
          refine hK.out _ _ ?_
          clear hK K
          refine done_ (by kernel_rfl) ?_

          have c5 : w10.cell? ⟨gj, 5, none⟩ = some (.int .i64 u) := HJ10.out.cell 5
          have f5 : w10.frozen? ⟨gj, 5, none⟩ = false := blk_frozen HJ10.out.jb 5
          obtain ⟨hj11, hc11⟩ := HJ10.out.put 5 (.int .i64 (u + 3)) (a0 := h0) (b0 := q0) (a1 := nx) (b1 := q1 + 1) (v := u + 3) rfl
          have HJ11 := Aside0.mk hj11
          have HC11 := Aside0.mk (HC10.out.trans hc11)
          have c011 : (w10.setCell ⟨gj, 5, none⟩ (.int .i64 (u + 3))).cell? ⟨gj, 0, none⟩ = some (.pointer (some ⟨g, 0, none⟩)) := hj11.cell 0
          clear hj11 hc11
          go_wp2_with (go_at_call 16; (with_reducible refine (put_ever HJ11.out.dk (Cap.kb _) (some ad) c0 1 _ rfl (RW.mono (HRL.out.ch HC11.out) (fun k hk => fj_in hk)) ?c0 (by omega)).mono ?_); (case c0 => exact (fun x hx => by rw [List.length_map, pushAll_length, List.length_map, pushAll_length, HL0.out]; exact HFIT.out x hx)); rintro e w12 ⟨rfl, hp⟩; obtain ⟨F12, h12, hc12⟩ := HJ11.out.disk hp; have HC12 := Aside0.mk (HC11.out.trans hc12); have H12 := Aside0.mk h12; clear hp h12 hc12)
          refine bodyPost_ret (results_tmp rfl _ _ _) rfl ?_
          rw [HWB.out, HNX.out]
          exact ⟨rfl, F12, H12.out, HC13.out.trans HC12.out⟩
end Go.Proofs.Ytcihfmehbmficaa.Jrn
/- Package journal: Commit of one block: the deferred closure, what is asked of the log. -/
namespace Go.Proofs.Ytcihfmehbmficaa.Jrn
open Go Go.RowKit Go.Maps Go.Proofs.YtcihfmehbmficaaW.PrintWords Go.Proofs.YtcihfmehbmficaaW.PrintLast Go.Proofs.YtcihfmehbmficaaW.PrintMore Go.Proofs.Ytcihfmehbmficaa.Disk
set_option linter.unusedVariables false
set_option linter.unusedSimpArgs false
set_option maxRecDepth 100000
theorem dead_calls (be bj gj : Nat) (u : FrameMode) (w : World) (he : w.cell? ⟨be, 0, none⟩ = some (.int .i64 0)) (hj : w.cell? ⟨bj, 0, none⟩ = some (.pointer (some ⟨gj, 0, none⟩))) (hd : w.cell? ⟨gj, 6, none⟩ = some (.bool false)) (hz : w.frozen? ⟨gj, 6, none⟩ = false) :
    CallsD Try.prog 23 #[.pointer (some ⟨be, 0, none⟩), .pointer (some ⟨bj, 0, none⟩)] u w fun e u' w' => u' = u ∧ (e = .returned (.tuple #[]) ∧ w' = w.setCell ⟨gj, 6, none⟩ (.bool false)) := by
  go_enter_d Try.func23, Try.ntmps23
  go_wp2
  go_end0
  exact ⟨rfl, rfl⟩
/-- The first and the last block of a transaction of one block. -/
def firstB (q t : Int) : List Int := Go.Proofs.Ytcihfmehbmficaa.Field.sealI (Go.Proofs.Ytcihfmehbmficaa.Log.beginP q [t])
def lastB (q : Int) : List Int := Go.Proofs.Ytcihfmehbmficaa.Field.sealI (Go.Proofs.Ytcihfmehbmficaa.Log.endP q 1)
theorem sb_slice {w w' : World} {base : Nat} {v : Value} {l : List Int} (hl : l.length = 64) (hr : B.R 5 w' base (fun _ => True) v l) : ∃ gz c, v = .slice (some ⟨gz, 0, none⟩) 64 c := by
  obtain ⟨gz, c, e1, _⟩ := Kd.R_form hr (by rw [hl]; omega)
  rw [hl] at e1
  exact ⟨gz, c, e1⟩
theorem begin_one (q t : Int) (hq : 1 ≤ q ∧ q ≤ 1073741824) (ht : Go.Proofs.Ytcihfmehbmficaa.Log.homeB t = true) (A : Option Addr) (c : Nat) (hc : 1 ≤ c) (w : World) (hr : Kd.C (Kd.int .i64) w A 1 [t]) :
    Calls Try.prog 21 #[.agg #[.int .i64 q, .slice A 1 c]] w fun e w' => ∃ gz cz, e = .returned (.tuple #[.slice (some ⟨gz, 0, none⟩) 64 cz, .int .i64 0]) ∧ B.R 5 w' w.heap.size (fun _ => True) (.slice (some ⟨gz, 0, none⟩) 64 cz) (firstB q t) ∧ Below w.heap.size w w' := by
  have hs : Go.Proofs.Ytcihfmehbmficaa.Log.sndB q [t] = true := by
    simp [Go.Proofs.Ytcihfmehbmficaa.Log.sndB, Go.Proofs.Ytcihfmehbmficaa.Log.sndFrom, ht, hq.1, hq.2]
  have h1 : Go.Proofs.Ytcihfmehbmficaa.PAll.log_Begin.f 51 q [t] = some (firstB q t, 0) := by
    rw [Go.Proofs.Ytcihfmehbmficaa.Pure.begin_eq q [t] 51 (by omega)]
    unfold Go.Proofs.Ytcihfmehbmficaa.Log.beginI
    rw [if_pos hs]; rfl
  refine (Go.Proofs.Ytcihfmehbmficaa.PAll.log_Begin.calls 51 q A c [t] _ _ w hr hc h1).mono fun e w' hh => ?_
  obtain ⟨v, he, hr, hb⟩ := hh
  obtain ⟨gz, cz, rfl⟩ := sb_slice (w := w) (Go.Proofs.Ytcihfmehbmficaa.Field.sealI_length _ (Go.Proofs.Ytcihfmehbmficaa.Log.beginP_length _ _)) hr
  exact ⟨gz, cz, he, hr, hb⟩
theorem end_one (q : Int) (hq : 1 ≤ q ∧ q ≤ 1073741824) (w : World) :
    Calls Try.prog 22 #[.int .i64 q, .int .i64 1] w fun e w' => ∃ gz cz, e = .returned (.tuple #[.slice (some ⟨gz, 0, none⟩) 64 cz, .int .i64 0]) ∧ B.R 5 w' w.heap.size (fun _ => True) (.slice (some ⟨gz, 0, none⟩) 64 cz) (lastB q) ∧ Below w.heap.size w w' := by
  have hs : Go.Proofs.Ytcihfmehbmficaa.Log.endB q 1 = true := by simp [Go.Proofs.Ytcihfmehbmficaa.Log.endB, hq.1, hq.2]
  have h1 := Go.Proofs.Ytcihfmehbmficaa.Log.endF_eq q 1
  rw [if_pos hs] at h1
  refine (Go.Proofs.Ytcihfmehbmficaa.Log.end_of_calls q 1 _ _ w h1).mono fun e w' hh => ?_
  obtain ⟨v, he, hr, hb⟩ := hh
  obtain ⟨gz, cz, rfl⟩ := sb_slice (w := w) (Go.Proofs.Ytcihfmehbmficaa.Field.sealI_length _ (Go.Proofs.Ytcihfmehbmficaa.Log.endP_length _ _)) hr
  exact ⟨gz, cz, he, hr, hb⟩
end Go.Proofs.Ytcihfmehbmficaa.Jrn
/- Package journal: Commit of one block. -/
namespace Go.Proofs.Ytcihfmehbmficaa.Jrn
open Go Go.RowKit Go.Maps Go.Proofs.YtcihfmehbmficaaW.PrintWords Go.Proofs.YtcihfmehbmficaaW.PrintLast Go.Proofs.YtcihfmehbmficaaW.PrintMore Go.Proofs.Ytcihfmehbmficaa.Disk
set_option linter.unusedVariables false
set_option linter.unusedSimpArgs false
set_option maxRecDepth 100000
abbrev I : Kd Int := Kd.int .i64
/-- A walk in which nothing panics. -/
def NP (Q : Exit → Act → World → Prop) (e : Exit) (a : Act) (w : World) : Prop := match e with
  | .panic _ => False
  | e => Q e a w
theorem NP.out {Q : Exit → Act → World → Prop} {e : Exit} {a : Act} {w : World} (h : NP Q e a w) : Q e a w := by
  cases e <;> first | exact h | exact h.elim
theorem size_set_le {w wr : World} {n : Nat} (w3 : World) (b : Nat) (h : Below n w wr) (h3 : Below n w w3) (v : Value) : w.heap.size ≤ (w3.setCell ⟨b, 0, none⟩ v).heap.size := by
  rw [World.size_setCell]; exact h3.size
/-- A box that is nobody's is written. -/
theorem JW.far {w0 w : World} {F F0 : Nat → Prop} {g gj b : Nat} {bs : List Blk} {h0 q0 h1 q1 u : Int} (h : JW w F g gj bs h0 q0 h1 q1 u) (v : Value) (i : Nat) (hn : ¬ FJ F gj b) (_h0 : 0 ≤ 0) (hc : Ch w0 w (FJ F0 gj) (FJ F gj)) (hb : w0.heap.size ≤ b) :
    JW (w.setCell ⟨b, i, none⟩ v) F g gj bs h0 q0 h1 q1 u ∧ Ch w0 (w.setCell ⟨b, i, none⟩ v) (FJ F0 gj) (FJ F gj) := by
  have far : ∀ k, k ≠ b → (w.setCell ⟨b, i, none⟩ v).heap[k]? = w.heap[k]? := fun k hk => heap_setCell_other _ _ _ _ hk
  have hsz : (w.setCell ⟨b, i, none⟩ v).heap.size = w.heap.size := World.size_setCell ..
  exact ⟨⟨DW.kept h.dk (fun k hk => far k (fun e => hn (Or.inl (e ▸ hk)))) (by omega), (far gj (fun e => hn (Or.inr e.symm))).trans h.jb, h.nf⟩,
    ⟨hc.os, hc.tape, hc.output, by rw [hsz]; exact hc.size, fun k hk hk2 => (far k (by omega)).trans (hc.far k hk hk2), hc.new⟩⟩
set_option maxHeartbeats 4000000 in
theorem commit_one {w : World} {F : Nat → Prop} {g gj : Nat} {bs : List Blk} {h0 q0 q1 u : Int} {a : Nat} (h : JW w F g gj bs h0 q0 (a : Int) q1 u) (ha : a < 40) (hl : 59 ≤ bs.length) (hcap : Cap bs 1000) (hq : 1 ≤ q1 ∧ q1 < 1073741824) (hu : 0 ≤ u ∧ u ≤ 36)
    (A0 : Option Addr) (c0 : Nat) (t : Int) (l : List Int) (hw : RW w (FJ F gj) A0 [⟨t, l⟩]) (hfit : Fit bs.length [⟨t, l⟩]) (ht : Go.Proofs.Ytcihfmehbmficaa.Log.homeB t = true) :
    Calls Try.prog 8 #[.pointer (some ⟨gj, 0, none⟩), .slice A0 1 c0] w fun e w' => e = .returned (.int .i64 0) ∧ JP w w' F g gj (writeB bs a (firstB q1 t) l (lastB q1) t) h0 q0 (((a + 3) % 40 : Nat) : Int) (q1 + 1) (u + 3) := by
  obtain ⟨ad, A1, c1, e, hbk, hnf, ca, cd, hlc, hC, hA⟩ := hw 0 ⟨t, l⟩ rfl
  subst e
  have hf1 := hfit ⟨t, l⟩ (List.mem_singleton.2 rfl)
  have hl64 : l.length = 64 := hf1.1
  have ht0 : 0 ≤ t ∧ t < (bs.length : Int) := hf1.2
  have ca2 : w.cell? ad = some (.int .i64 t) := ca
  have cd2 : w.cell? ⟨ad.block, ad.off + 1, none⟩ = some (.slice A1 64 c1) := by rw [← hl64]; exact cd
  have HCA : Aside0 (∀ W, Below w.heap.size w W → W.cell? ad = some (.int .i64 t) ∧ W.cell? ⟨ad.block, ad.off + 1, none⟩ = some (.slice A1 64 c1)) := ⟨fun W hW => ⟨pw_cell_below hW ca2, pw_cell_below hW cd2⟩⟩
  have H := Aside0.mk h
  have HA := Aside0.mk ha
  have HL := Aside0.mk hl
  have HQ := Aside0.mk hq
  have HU := Aside0.mk hu
  have HW := Aside0.mk hw
  have HFIT := Aside0.mk hfit
  have HT := Aside0.mk ht
  have HCAP := Aside0.mk hcap
  have HBE := Aside0.mk (begin_one q1 t ⟨hq.1, by omega⟩ ht)
  have HEN := Aside0.mk (end_one q1 ⟨hq.1, by omega⟩)
  have hmf : ∀ (fn : Fn) (first cap : Array Value) (w : World), (Instr.makeFunc fn first cap).run Try.prog w = .ok (.func fn first cap) w := fun _ _ _ _ => rfl
  have bq1 : decide (1073741824 ≤ q1) = false := decide_eq_false (by omega)
  have bq2 : decide (q1 ≥ 1073741824) = false := decide_eq_false (by omega)
  have HAB := Aside0.mk (below_alloc (below_alloc (Below.refl w.heap.size w) (.cells #[.pointer (some ⟨gj, 0, none⟩)] 30)) (.cells #[.int .i64 0] 28))
  have c6A : ((w.alloc (.cells #[.pointer (some ⟨gj, 0, none⟩)] 30)).alloc (.cells #[.int .i64 0] 28)).cell? ⟨gj, 6, none⟩ = some (.bool false) := (h.below HAB.out).cell 6
  have c4A : ((w.alloc (.cells #[.pointer (some ⟨gj, 0, none⟩)] 30)).alloc (.cells #[.int .i64 0] 28)).cell? ⟨gj, 4, none⟩ = some (.int .i64 q1) := (h.below HAB.out).cell 4
  clear h ha hl hq hu hw hfit ht hcap hbk hnf ca cd hlc hC hA hf1 hl64 ht0 ca2 cd2
  go_enter_defers Try.func8, Try.ntmps8
  refine Code.wp_mono (fun e a' w' h => NP.out h) ?_
  go_wp2_with fail
  have hb2 := blk_alloc (blk_alloc (blk_new w (.cells #[.pointer (some ⟨gj, 0, none⟩)] 30)) (.cells #[.int .i64 0] 28)) (.cells #[.int .i64 q1, .slice none 0 0] 61)
  have hb4 := blk_alloc (blk_new (w.alloc (.cells #[.pointer (some ⟨gj, 0, none⟩)] 30)) (.cells #[.int .i64 0] 28)) (.cells #[.int .i64 q1, .slice none 0 0] 61)
  have hbd := blk_new ((w.alloc (.cells #[.pointer (some ⟨gj, 0, none⟩)] 30)).alloc (.cells #[.int .i64 0] 28)) (.cells #[.int .i64 q1, .slice none 0 0] 61)
  rw [World.size_alloc] at hb4
  rw [World.size_alloc, World.size_alloc] at hbd
  have HBW := Aside0.mk (below_alloc HAB.out (.cells #[.int .i64 q1, .slice none 0 0] 61))
  obtain ⟨bd, hbde⟩ : ∃ q, w.heap.size + 1 + 1 = q := ⟨_, rfl⟩
  obtain ⟨b4, hb4e⟩ : ∃ q, w.heap.size + 1 = q := ⟨_, rfl⟩
  have hb4e' : b4 + 1 = bd := by omega
  rw [hbde] at hbd
  rw [hb4e] at hb4
  obtain ⟨b2, hb2e⟩ : ∃ q, w.heap.size = q := ⟨_, rfl⟩
  rw [hb2e] at hb2
  have HB2 := Aside0.mk hb2
  have HB4 := Aside0.mk hb4
  have HBD := Aside0.mk hbd
  have HBO : Aside0 (w.heap.size ≤ b2 ∧ w.heap.size ≤ b4 ∧ w.heap.size ≤ bd ∧ b2 ≠ bd ∧ b4 ≠ bd ∧ b2 ≠ b4) := ⟨by omega⟩
  rw [hbde, hb4e, hb2e]
  clear hb2 hb4 hbd hbde hb4e hb4e' hb2e c6A c4A bq1 bq2
  obtain ⟨nn, hnn⟩ : ∃ q : Int, (bs.length : Int) = q := ⟨_, rfl⟩
  have HNN : Aside0 (((DS.bs ⟨false, -1, bs⟩).length : Int) = nn) := ⟨hnn⟩
  have bt1 : decide (nn ≤ t) = false := decide_eq_false (by have h := (HFIT.out ⟨t, l⟩ (List.mem_singleton.2 rfl)).2.2; have h2 : t < (bs.length : Int) := h; omega)
  have bt2 : decide (t ≥ nn) = false := bt1
  clear hnn
  go_loopg [43] 1 (fun gg i wr => ∃ (k : Nat) (vt : Value), k ≤ 1 ∧ 1 - k ≤ gg ∧ i = .int .i64 k ∧ Aside0 (Below w.heap.size w wr) ∧ Aside0 (wr.heap[b2]? = some (.cells #[.pointer (some ⟨gj, 0, none⟩)] 30 (0, 0))) ∧ Aside0 (wr.heap[b4]? = some (.cells #[.int .i64 0] 28 (0, 0))) ∧ Aside0 (wr.heap[bd]? = some (.cells #[.int .i64 q1, vt] 61 (0, 0))) ∧ Aside0 (I.R 3 wr w.heap.size (fun _ => True) vt (([t] : List Int).take k)))
  case atStart => exact ⟨0, _, by omega, Nat.le_refl _, rfl, HBW, HB2, HB4, HBD, ⟨Kd.R_nil _ _ _ _ _⟩⟩
  case round =>
    clear HBW HB2 HB4 HBD HAB
    obtain ⟨k, vt, hk, hgk, rfl, HB, HB2, HB4, HBD, HR⟩ := hrel
    have hk1 : k = 0 ∨ k = 1 := by omega
    rcases hk1 with rfl | rfl
    · obtain ⟨At, ct, rfl⟩ := Kd.R_slice HR.out
      have HRk : Aside0 (I.R 3 wr w.heap.size (fun _ => True) (.slice At 0 ct) []) := ⟨HR.out⟩
      have HBDk : Aside0 (wr.heap[bd]? = some (.cells #[.int .i64 q1, .slice At 0 ct] 61 (0, 0))) := ⟨HBD.out⟩
      have cA := (HCA.out wr HB.out).1
      have cB := (HCA.out wr HB.out).2
      have cdW : (wr.alloc (.cells #[.int .i64 t, .slice A1 64 c1] 35)).cell? ⟨bd, 1, none⟩ = some (.slice At 0 ct) := blk_cell (blk_alloc HBDk.out (.cells #[.int .i64 t, .slice A1 64 c1] 35)) 1
      clear HR HBD hk
      go_wp2_with (((with_reducible refine gate_builtin (b := .append) (xs := #[.tmp 48, .tmp 51]) rfl ?_); at_builtin; refine Kd.R_append I (w0 := w) (W := wr.alloc (.cells #[.int .i64 t, .slice A1 64 c1] 35)) w.heap.size rfl (.tmp 48) (.tmp 51) 54 3 (.int .i64 0) 8 rfl Try.underlying54 infoI54 rfl (by decide) (by omega) (.slice At 0 ct) [] t [.int .i64 t] (fun _ => True) (fun _ => False) rfl ?aX ?aP ?aK ?aF ?aO ?aB ?aS ?aL ?_; (case aX => rw [World.size_alloc]; with_unfolding_all rfl); (case aP => with_unfolding_all rfl); (case aK => exact fun k hk => hk.elim); (case aF => exact fun _ _ => trivial); (case aO => exact Kd.R_below HRk.out (below_alloc (Below.refl _ _) _)); (case aB => exact below_alloc HB.out _); (case aS => exact (below_alloc HB.out _).size); (case aL => simp only [List.length_nil]; omega); intro v8 w8 ho hb hg hat; obtain ⟨A8, c8, e8⟩ := Kd.R_slice ho; subst e8; have ne := fun {q : Nat} {cs : Array Value} {tt : Nat} (hq : (wr.alloc (.cells #[.int .i64 t, .slice A1 64 c1] 35)).heap[q]? = some (.cells cs tt (0, 0))) (ht : 3 ≠ tt) => blk_grown hq hg (Kd.R_ne (Kd.R_below HRk.out (below_alloc (Below.refl _ _) (.cells #[.int .i64 t, .slice A1 64 c1] 35))) hq ht); have HO8 := Aside0.mk ho; have HB8 := Aside0.mk hb; have HB28 := Aside0.mk (ne (blk_alloc HB2.out _) (by decide)); have HB48 := Aside0.mk (ne (blk_alloc HB4.out _) (by decide)); have hbd8 := ne (blk_alloc HBDk.out _) (by decide); have HB78 := Aside0.mk (ne (blk_new wr (.cells #[.int .i64 t, .slice A1 64 c1] 35)) (by decide)); have cd8 : w8.cell? ⟨bd, 1, none⟩ = some (.slice At 0 ct) := blk_cell hbd8 1; have fd8 : w8.frozen? ⟨bd, 1, none⟩ = false := blk_frozen hbd8 1; have HBD8 := Aside0.mk hbd8; clear ne ho hb hg hat hbd8))
      have hsz : ∀ k, k ≠ bd → (w8.setCell ⟨bd, 1, none⟩ (.slice A8 1 c8)).heap[k]? = w8.heap[k]? := fun k hk => heap_setCell_other _ _ _ _ hk
      have h7d : wr.heap.size ≠ bd := by have := blk_lt HBDk.out; omega
      have HB16 : Aside0 (Below w.heap.size w (w8.setCell ⟨bd, 1, none⟩ (.slice A8 1 c8))) := ⟨HB8.out.setCell (p := ⟨bd, 1, none⟩) HBO.out.2.2.1 _⟩
      have HB216 := Aside0.mk ((hsz b2 HBO.out.2.2.2.1).trans HB28.out)
      have HB416 := Aside0.mk ((hsz b4 HBO.out.2.2.2.2.1).trans HB48.out)
      have HB716 := Aside0.mk ((hsz _ h7d).trans HB78.out)
      have HBD16 : Aside0 ((w8.setCell ⟨bd, 1, none⟩ (.slice A8 1 c8)).heap[bd]? = some (.cells #[.int .i64 q1, .slice A8 1 c8] 61 (0, 0))) := ⟨blk_set HBD8.out 1 _⟩
      have HR16 : Aside0 (I.R 3 (w8.setCell ⟨bd, 1, none⟩ (.slice A8 1 c8)) w.heap.size (fun _ => True) (.slice A8 1 c8) [t]) := ⟨Kd.R_set HO8.out HBD8.out (by decide) 1 _⟩
      clear hsz h7d cd8 fd8 cdW cA cB HO8 HB8 HB28 HB48 HB78 HBD8 HRk HBDk
      obtain ⟨b7, hb7⟩ : ∃ q, wr.heap.size = q := ⟨_, rfl⟩
      obtain ⟨W16, hW16⟩ : ∃ q, w8.setCell ⟨bd, 1, none⟩ (.slice A8 1 c8) = q := ⟨_, rfl⟩
      rw [hb7] at HB716
      rw [hW16] at HB16 HB216 HB416 HB716 HBD16 HR16
      rw [hb7, hW16]
      clear hb7 hW16
      have HJ16 : Aside0 (JW W16 F g gj bs h0 q0 (a : Int) q1 u) := ⟨H.out.below HB16.out⟩
      have HS : Aside0 (∀ W : World, Below W16.heap.size W16 W → W.cell? ⟨b7, 1, none⟩ = some (.slice A1 64 c1) ∧ W.cell? ⟨b7, 0, none⟩ = some (.int .i64 t) ∧ W.cell? ⟨b2, 0, none⟩ = some (.pointer (some ⟨gj, 0, none⟩)) ∧ W.cell? ⟨gj, 0, none⟩ = some (.pointer (some ⟨g, 0, none⟩))) := ⟨fun W hW => ⟨pw_cell_below hW (blk_cell HB716.out 1), pw_cell_below hW (blk_cell HB716.out 0), pw_cell_below hW (blk_cell HB216.out 0), pw_cell_below hW (HJ16.out.cell 0)⟩⟩
      refine start_ (n := 14) (S := fun w' => w'.cell? ⟨b7, 1, none⟩ = some (.slice A1 64 c1) ∧ w'.cell? ⟨b7, 0, none⟩ = some (.int .i64 t) ∧ w'.cell? ⟨b2, 0, none⟩ = some (.pointer (some ⟨gj, 0, none⟩)) ∧ w'.cell? ⟨gj, 0, none⟩ = some (.pointer (some ⟨g, 0, none⟩))) (ds := []) #[false, false, false, false, false, false, false, false, false, false, false, false, false, false] (by kernel_rfl) rfl rfl ⟨(HS.out _ (below_drew (Below.refl _ _))).1, (HS.out _ (below_drew (Below.refl _ _))).2.1, (HS.out _ (below_drew (Below.refl _ _))).2.2.1, (HS.out _ (below_drew (Below.refl _ _))).2.2.2⟩ (fun hHeld => ?_)
      refine pure_ (i := 0) (N := some 54) (v := ?_) (a' := ?_) #[true, false, false, false, false, false, false, false, false, false, false, false, false, false] rfl rfl (by kernel_rfl) (fun _ _ _ h => h) (Or.inl ⟨by rfl, ?_⟩) ?_ ?_
      rotate_left
      · intro w'
        go_simp
        with_reducible rfl
      rotate_left
      · simp only [Act.put, List.setIfInBounds_toArray, List.set_cons_zero, List.set_cons_succ, i64_w, i32_w]
        rfl
      refine take_ (i := 1) (N := some 55) (v := ?_) (a' := ?_) #[true, true, false, false, false, false, false, false, false, false, false, false, false, false] rfl rfl (by kernel_rfl) (fun _ _ _ h => h) (Or.inl ⟨by rfl, ?_⟩) hHeld ?_ ?_
      rotate_left
      · rintro w' ⟨s0, s1, s2, s3⟩
        go_simp
        with_reducible rfl
      rotate_left
      · simp only [Act.put, List.setIfInBounds_toArray, List.set_cons_zero, List.set_cons_succ, i64_w, i32_w]
        rfl
      refine pure_ (i := 2) (N := some 56) (v := ?_) (a' := ?_) #[true, true, true, false, false, false, false, false, false, false, false, false, false, false] rfl rfl (by kernel_rfl) (fun _ _ _ h => h) (Or.inl ⟨by rfl, ?_⟩) ?_ ?_
      rotate_left
      · intro w'
        go_simp
        with_reducible rfl
      rotate_left
      · simp only [Act.put, List.setIfInBounds_toArray, List.set_cons_zero, List.set_cons_succ, i64_w, i32_w]
        rfl
      refine pure_ (i := 3) (N := some 57) (v := ?_) (a' := ?_) #[true, true, true, true, false, false, false, false, false, false, false, false, false, false] rfl rfl (by kernel_rfl) (fun _ _ _ h => h) (Or.inl ⟨by rfl, ?_⟩) ?_ ?_
      rotate_left
      · intro w'
        go_simp
        with_reducible rfl
      rotate_left
      · simp only [Act.put, List.setIfInBounds_toArray, List.set_cons_zero, List.set_cons_succ, i64_w, i32_w]
        rfl
      refine pure_ (i := 4) (N := some 58) (v := ?_) (a' := ?_) #[true, true, true, true, true, false, false, false, false, false, false, false, false, false] rfl rfl (by kernel_rfl) (fun _ _ _ h => h) (Or.inl ⟨by rfl, ?_⟩) ?_ ?_
      rotate_left
      · intro w'
        go_simp
        with_reducible rfl
      rotate_left
      · simp only [Act.put, List.setIfInBounds_toArray, List.set_cons_zero, List.set_cons_succ, i64_w, i32_w]
        rfl
      refine pure_ (i := 5) (N := some 59) (v := ?_) (a' := ?_) #[true, true, true, true, true, true, false, false, false, false, false, false, false, false] rfl rfl (by kernel_rfl) (fun _ _ _ h => h) (Or.inl ⟨by rfl, ?_⟩) ?_ ?_
      rotate_left
      · intro w'
        go_simp
        with_reducible rfl
      rotate_left
      · simp only [Act.put, List.setIfInBounds_toArray, List.set_cons_zero, List.set_cons_succ, i64_w, i32_w]
        rfl
      refine take_ (i := 6) (N := some 60) (v := ?_) (a' := ?_) #[true, true, true, true, true, true, true, false, false, false, false, false, false, false] rfl rfl (by kernel_rfl) (fun _ _ _ h => h) (Or.inl ⟨by rfl, ?_⟩) hHeld ?_ ?_
      rotate_left
      · rintro w' ⟨s0, s1, s2, s3⟩
        go_simp
        with_reducible rfl
      rotate_left
      · simp only [Act.put, List.setIfInBounds_toArray, List.set_cons_zero, List.set_cons_succ, i64_w, i32_w]
        rfl
      refine take_ (i := 7) (N := some 61) (v := ?_) (a' := ?_) #[true, true, true, true, true, true, true, true, false, false, false, false, false, false] rfl rfl (by kernel_rfl) (fun _ _ _ h => h) (Or.inl ⟨by rfl, ?_⟩) hHeld ?_ ?_
      rotate_left
      · rintro w' ⟨s0, s1, s2, s3⟩
        go_simp
        with_reducible rfl
      rotate_left
      · simp only [Act.put, List.setIfInBounds_toArray, List.set_cons_zero, List.set_cons_succ, i64_w, i32_w]
        rfl
      refine pure_ (i := 8) (N := some 62) (v := ?_) (a' := ?_) #[true, true, true, true, true, true, true, true, true, false, false, false, false, false] rfl rfl (by kernel_rfl) (fun _ _ _ h => h) (Or.inl ⟨by rfl, ?_⟩) ?_ ?_
      rotate_left
      · intro w'
        go_simp
        with_reducible rfl
      rotate_left
      · simp only [Act.put, List.setIfInBounds_toArray, List.set_cons_zero, List.set_cons_succ, i64_w, i32_w]
        rfl
      refine pure_ (i := 9) (N := some 63) (v := ?_) (a' := ?_) #[true, true, true, true, true, true, true, true, true, true, false, false, false, false] rfl rfl (by kernel_rfl) (fun _ _ _ h => h) (Or.inl ⟨by rfl, ?_⟩) ?_ ?_
      rotate_left
      · intro w'
        go_simp
        with_reducible rfl
      rotate_left
      · simp only [Act.put, List.setIfInBounds_toArray, List.set_cons_zero, List.set_cons_succ, i64_w, i32_w]
        rfl
      refine take_ (i := 10) (N := some 64) (v := ?_) (a' := ?_) #[true, true, true, true, true, true, true, true, true, true, true, false, false, false] rfl rfl (by kernel_rfl) (fun _ _ _ h => h) (Or.inl ⟨by rfl, ?_⟩) hHeld ?_ ?_
      rotate_left
      · rintro w' ⟨s0, s1, s2, s3⟩
        go_simp
        with_reducible rfl
      rotate_left
      · simp only [Act.put, List.setIfInBounds_toArray, List.set_cons_zero, List.set_cons_succ, i64_w, i32_w]
        rfl
      refine one_ (i := 11) (N := some 65) #[true, true, true, true, true, true, true, true, true, true, true, true, false, false] rfl rfl (by kernel_rfl) (by decide) (fun K hK => ?_)
      refine goes_ Try.func20 (by kernel_rfl) rfl #[.pointer (some ⟨g, 0, none⟩)] (by rfl) rfl rfl (by (try simp only [List.map_toArray, List.map_cons, List.map_nil]); first | done | rfl) ?_
      with_reducible refine (Disk.blocks_at (HJ16.out.below (below_drew (Below.refl _ _))).dk nn HNN.out).mono ?_
      rintro e w17 ⟨rfl, rfl⟩
      refine ⟨_, rfl, ?_⟩
      refine hK.out _ _ ⟨(HS.out _ (below_drew (Below.refl _ _))).1, (HS.out _ (below_drew (Below.refl _ _))).2.1, (HS.out _ (below_drew (Below.refl _ _))).2.2.1, (HS.out _ (below_drew (Below.refl _ _))).2.2.2⟩ (fun hHeld => ?_)
      clear hK K
      refine norm_ (a' := ?_) ?_ ?_
      rotate_left
      · show Act.put _ (some 65) _ = _
        simp only [Act.put, List.setIfInBounds_toArray, List.set_cons_zero, List.set_cons_succ, i64_w, i32_w]
        rfl
      refine pure_ (i := 12) (N := some 66) (v := ?_) (a' := ?_) #[true, true, true, true, true, true, true, true, true, true, true, true, true, false] rfl rfl (by kernel_rfl) (fun _ _ _ h => h) (Or.inl ⟨by rfl, ?_⟩) ?_ ?_
      rotate_left
      · intro w'
        go_simp
        with_reducible rfl
      rotate_left
      · simp only [Act.put, List.setIfInBounds_toArray, List.set_cons_zero, List.set_cons_succ, i64_w, i32_w]
        rfl
      refine pure_ (i := 13) (N := some 67) (v := ?_) (a' := ?_) #[true, true, true, true, true, true, true, true, true, true, true, true, true, true] rfl rfl (by kernel_rfl) (fun _ _ _ h => h) (Or.inl ⟨by rfl, ?_⟩) ?_ ?_
      rotate_left
      · intro w'
        go_simp
        with_reducible rfl
      rotate_left
      · simp only [Act.put, List.setIfInBounds_toArray, List.set_cons_zero, List.set_cons_succ, i64_w, i32_w]
        rfl
      refine done_ (by kernel_rfl) ?_

      go_wp2_with fail
      go_roundg 0
      case measure => omega
      case rel => exact ⟨1, .slice A8 1 c8, by omega, by omega, rfl, ⟨below_drew HB16.out⟩, ⟨blk_below HB216.out (below_drew (Below.refl _ _))⟩, ⟨blk_below HB416.out (below_drew (Below.refl _ _))⟩, ⟨blk_below HBD16.out (below_drew (Below.refl _ _))⟩, ⟨Kd.R_below HR16.out (below_drew (Below.refl _ _))⟩⟩
    · obtain ⟨At, ct, rfl⟩ := Kd.R_slice HR.out
      have HRk : Aside0 (I.R 3 wr w.heap.size (fun _ => True) (.slice At 1 ct) [t]) := ⟨HR.out⟩
      have HBDk : Aside0 (wr.heap[bd]? = some (.cells #[.int .i64 q1, .slice At 1 ct] 61 (0, 0))) := ⟨HBD.out⟩
      have cd0 : wr.cell? ⟨bd, 0, none⟩ = some (.int .i64 q1) := blk_cell HBDk.out 0
      have cd1 : wr.cell? ⟨bd, 1, none⟩ = some (.slice At 1 ct) := blk_cell HBDk.out 1
      have hRR := Kd.R_reads' HRk.out
      have HCT : Aside0 (1 ≤ ct ∧ Kd.C (Kd.int .i64) wr At 1 [t]) := ⟨hRR.2.1, hRR.2.2⟩
      have bu : decide (40 < u + 1 + 3) = false := decide_eq_false (by have h := HU.out; omega)
      have bu2 : decide (u + 1 + 3 > 40) = false := bu
      have eu1 : wrap64 (u + 1) = u + 1 := by have h := HU.out; unfold wrap64; omega
      have eu3 : wrap64 (u + 1 + 3) = u + 1 + 3 := by have h := HU.out; unfold wrap64; omega
      clear HR HBD hk hRR
      go_wp2_with (first | (go_at_call 21; (with_reducible refine (HBE.out At ct HCT.out.1 _ HCT.out.2).mono ?_); rintro e w3 ⟨gf, cf, rfl, hr3, hb3⟩; have HB3 := Aside0.mk (below_step HB.out hb3); have HR3 := Aside0.mk hr3; have H23 := Aside0.mk (blk_below HB2.out hb3); have H43 := Aside0.mk (blk_below HB4.out hb3); have HD3 := Aside0.mk (blk_below HBDk.out hb3); have c43 : w3.cell? ⟨b4, 0, none⟩ = some (.int .i64 0) := blk_cell H43.out 0; have f43 : w3.frozen? ⟨b4, 0, none⟩ = false := blk_frozen H43.out 0; have cd3 : (w3.setCell ⟨b4, 0, none⟩ (.int .i64 0)).cell? ⟨bd, 0, none⟩ = some (.int .i64 q1) := blk_cell (blk_far HD3.out (Ne.symm HBO.out.2.2.2.2.1) _) 0; clear hr3 hb3) | (go_at_call 22; (with_reducible refine (HEN.out _).mono ?_); rintro e w5 ⟨gl, cl, rfl, hr5, hb5⟩; have HB5 := Aside0.mk (below_step (HB3.out.setCell (p := ⟨b4, 0, none⟩) HBO.out.2.1 (.int .i64 0)) hb5); have HRF := Aside0.mk (Kd.R_below (Kd.R_set HR3.out H43.out (by decide) 0 (.int .i64 0)) hb5); have HRL := Aside0.mk hr5; have H25 := Aside0.mk (blk_below (blk_far H23.out HBO.out.2.2.2.2.2 (.int .i64 0)) hb5); have H45 := Aside0.mk (blk_below (blk_set H43.out 0 (.int .i64 0)) hb5); have HJ5 := Aside0.mk (H.out.below HB5.out); have c25 : w5.cell? ⟨b2, 0, none⟩ = some (.pointer (some ⟨gj, 0, none⟩)) := blk_cell H25.out 0; have c45 : w5.cell? ⟨b4, 0, none⟩ = some (.int .i64 0) := blk_cell H45.out 0; have cu5 : w5.cell? ⟨gj, 5, none⟩ = some (.int .i64 u) := HJ5.out.cell 5; have HSW := Aside0.mk (size_set_le w3 b4 HB.out HB3.out (.int .i64 0)); clear hr5 hb5) | (go_at_call 25; (with_reducible refine (write_calls HJ5.out HA.out HL.out HCAP.out ?cq ?cu (some ad) c0 t l (HW.out.ch (Ch.of_below _ HB5.out)) HFIT.out (Z64.new HJ5.out HRF.out ?cf) (Z64.new HJ5.out HRL.out ?cl)).mono ?_); (case cq => exact (by have h := HQ.out; omega)); (case cu => exact (by have h := HU.out; omega)); (case cf => exact (fun k hk => Nat.lt_of_lt_of_le (H.out.lt k hk) HB.out.size)); (case cl => exact (fun k hk => Nat.lt_of_lt_of_le (H.out.lt k hk) HSW.out)); rintro e w6 ⟨rfl, F6, h6, hc6⟩; have H6 := Aside0.mk h6; have HC6 := Aside0.mk ((Ch.of_below (FJ F gj) HB5.out).trans hc6); have n4 : ¬ FJ F gj b4 := (fun hn => by have h1 := H.out.lt b4 hn; have h2 := HBO.out.2.1; omega); have n2 : ¬ FJ F gj b2 := (fun hn => by have h1 := H.out.lt b2 hn; have h2 := HBO.out.1; omega); have H46 := Aside0.mk ((hc6.far b4 (blk_lt H45.out) n4).trans H45.out); have H26 := Aside0.mk ((hc6.far b2 (blk_lt H25.out) n2).trans H25.out); have HN6 : Aside0 (¬ FJ F6 gj b4) := ⟨fun hn => (hc6.new b4 hn).elim n4 (fun a => by have := blk_lt H45.out; omega)⟩; have c46 : w6.cell? ⟨b4, 0, none⟩ = some (.int .i64 0) := blk_cell H46.out 0; have f46 : w6.frozen? ⟨b4, 0, none⟩ = false := blk_frozen H46.out 0; clear h6 hc6 n4 n2))
      obtain ⟨j7, k7⟩ := H6.out.far (.int .i64 0) 0 HN6.out (Nat.le_refl _) HC6.out HBO.out.2.1
      have e7 : (w6.setCell ⟨b4, 0, none⟩ (.int .i64 0)).heap[b4]? = some (.cells #[.int .i64 0] 28 (0, 0)) := blk_set H46.out 0 (.int .i64 0)
      have e27 : (w6.setCell ⟨b4, 0, none⟩ (.int .i64 0)).heap[b2]? = some (.cells #[.pointer (some ⟨gj, 0, none⟩)] 30 (0, 0)) := blk_far H26.out HBO.out.2.2.2.2.2 _
      obtain ⟨j8, k8⟩ := j7.put 6 (.bool false) (a0 := h0) (b0 := q0) (a1 := (((a + 3) % 40 : Nat) : Int)) (b1 := q1 + 1) (v := u + 3) rfl
      have e8 : ((w6.setCell ⟨b4, 0, none⟩ (.int .i64 0)).setCell ⟨gj, 6, none⟩ (.bool false)).heap[b4]? = some (.cells #[.int .i64 0] 28 (0, 0)) := blk_far e7 (fun e => HN6.out (Or.inr e)) _
      show bodyPostD _ _ _ Exit.ret _ _
      refine leaves_cons (f := 23) (args := #[.pointer (some ⟨b4, 0, none⟩), .pointer (some ⟨b2, 0, none⟩)]) (by simp) (by simp [go_sem]) ?_
      refine (dead_calls b4 b2 gj .returning _ (blk_cell e7 0) (blk_cell e27 0) (j7.cell 6) (blk_frozen j7.jb 6)).mono ?_
      rintro e u' w'' ⟨rfl, rfl, rfl⟩
      exact ⟨_, results_c1 rfl _ _ ⟨b4, 0, none⟩ (.int .i64 0) _ rfl (blk_cell e8 0) Try.underlying28 rfl, rfl, F6, j8, k7.trans k8⟩
end Go.Proofs.Ytcihfmehbmficaa.Jrn
