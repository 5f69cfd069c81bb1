/- For all worlds: the law TreeBack. -/
import Derived.Test.YtbdbjlfdnijfeaaTree24
import Derived.Test.YtbdbjlfdnijfeaaTreeSame
namespace Go.Proofs.Ytbdbjlfdnijfeaa.Tree
open Go Go.RowKit Go.Maps Go.Proofs.YtbdbjlfdnijfeaaW.PrintWords Go.Proofs.YtbdbjlfdnijfeaaW.PrintLast Go.Proofs.YtbdbjlfdnijfeaaW.PrintMore
set_option linter.unusedVariables false
set_option linter.unusedSimpArgs false
set_option maxRecDepth 100000
def kO (w0 : World) : Kd Wr where
  sz := 2
  E := []
  K := fun _ x cs => kW.K w0 x cs
  M := fun _ _ _ x cs => kW.K w0 x cs
  K_len := fun h => kW.K_len h
  K_one := fun h => kW.K_one h
  K_below := fun _ h => h
  K_of_M := fun h => h
  M_mono := fun _ h => h
  M_bound := fun h => h
  M_move := fun _ h => h
  M_lower := fun _ h => h
theorem kO_nil {w0 w : World} {g base : Nat} {ok : Nat → Prop} (hb : w.heap[g]? = some (.cells #[] 59 (0, 0))) (hbase : base ≤ g) (hok : ok g) : (kO w0).R 59 w base ok (.slice (some ⟨g, 0, none⟩) 0 0) [] :=
  ⟨fun k hk => by
    have : g = k := by simpa [Value.ownBlock] using hk
    exact this ▸ hok, [], ⟨rfl, .inr ⟨g, 0, #[], rfl, hbase, hb, Nat.le_refl _, by decide, rfl, rfl⟩⟩, Reps.none _ _⟩
theorem reads_on {w0 W : World} {A : Option Addr} {n : Nat} {xs : List Wr} (h : kW.C w0 A n xs) (hb : Below w0.heap.size w0 W) : ReadsRow (kW.K w0) (kO w0).sz W A n xs :=
  ReadsRow.imp_ h hb (fun _ _ hp => hp)
theorem kO_C {w0 W : World} {A : Option Addr} {n : Nat} {xs : List Wr} (h : (kO w0).C W A n xs) (hb : Below w0.heap.size w0 W) : kW.C W A n xs :=
  ReadsRow.imp_ h (Below.refl _ _) (fun _ _ hp => kW.K_below hb hp)
theorem refTrim_calls (A0 : Option Addr) (c0 n : Nat) (l0 : List Int) (hn : l0.length = n) (w : World) (hr0 : I.C w A0 n l0) (hc0 : n ≤ c0) (hlen : n ≤ 1000000) :
    Calls Try.prog 17 #[.slice A0 n c0] w fun e w' => ∃ v0_ : Value, e = .returned (v0_) ∧ I.R 3 w' w.heap.size (fun _ => True) v0_ (trimL l0) ∧ Below w.heap.size w w' := by
  have HN := Aside0.mk hn
  have HR := Aside0.mk hr0
  have HC := Aside0.mk hc0
  have HL := Aside0.mk hlen
  clear hr0 hc0 hlen hn
  go_enter Try.func17, Try.ntmps17
  go_wp2_with fail
  go_loopg [3] n (fun gg v wr => ∃ m : Nat, m ≤ n ∧ m ≤ gg ∧ v = .int .i64 m ∧ wr = w ∧ Aside0 (trimL (l0.take m) = trimL l0))
  case atStart => exact ⟨n, Nat.le_refl _, Nat.le_refl _, rfl, rfl, ⟨by rw [← HN.out, List.take_length]⟩⟩
  case round =>
    obtain ⟨m, hm, hgm, rfl, e0, HA⟩ := hrel
    obtain rfl : w = wr := e0.symm
    have HC2 : Aside0 (m ≤ c0) := ⟨by have := HC.out; omega⟩
    have HM := Aside0.mk hm
    have HRM : Aside0 (I.C w A0 m (l0.take m)) := ⟨C_takeI HR.out hm⟩
    have HLM : Aside0 ((l0.take m).length = m) := ⟨by rw [List.length_take, HN.out]; omega⟩
    rcases m with _ | k
    · have HE : Aside0 (l0.take 0 = trimL l0) := ⟨by rw [← HA.out]; rfl⟩
      have hmc : (0 : Int) ≤ (c0 : Int) := by omega
      go_wp2_with (first | ((with_reducible refine gate_dst (N := 18) rfl ?_); (try (refine gate_guard (by rfl) ?_; dsimp only)); refine Kd.R_lit I _ 3 ?hg (N := 18) ?hd (xs := ([] : List Int)) (inner := []) (ok := fun _ => True) (okp := fun _ => True) ?hr ?hp (fun _ hk => hk) trivial (Below.refl _ _) (Nat.le_refl _) (by simp) ?_; (case hd => rfl); (case hg => rfl); (case hr => first | (go_simp; done) | (go_simp; rfl)); (case hp => exact (Reps.none _ _)); intro v1 w1 ho1 hb1 hg1 hn1; clear hg1 hn1; have HO := Aside0.mk ho1; have HB := Aside0.mk hb1; clear ho1 hb1) | ((with_reducible refine gate_builtin (b := .append) (xs := #[.tmp 18, .tmp 21]) rfl ?_); (try (refine gate_guard (by rfl) ?_; dsimp only)); at_builtin; refine Kd.R_append_rows I (w0 := w) w.heap.size rfl (.tmp 18) (.tmp 21) 22 3 (.int .i64 0) 8 rfl Try.underlying22 infoI rfl (by decide) (by omega) v1 [] (l0.take 0) _ _ _ (fun _ => True) (fun _ => False) rfl rfl HO.out (Kd.C_below HRM.out HB.out) (fun _ _ h => h) (fun _ h => h.elim) (fun _ _ => trivial) HB.out (below_size HB.out) ?aL ?_; (case aL => simp only [List.length_nil]; omega); intro v2 w2 ho hb hg hat; have HO2 := Aside0.mk ho; have HB2 := Aside0.mk hb; clear ho hb hg hat))
      go_ret
      exact ⟨_, rfl, by rw [← HE.out]; exact HO2.out, HB2.out⟩
    · obtain ⟨p, hp⟩ : ∃ p, l0[k]? = some p := ⟨_, List.getElem?_eq_getElem (by have := HN.out; omega)⟩
      obtain ⟨ad, e, hc⟩ := at_i HR.out hp
      subst e
      have hts := take_snoc hp
      have hwk : wrap64 (k : Int) = (k : Int) := by have := HL.out; unfold wrap64; omega
      have hkz : (0 : Int) ≤ (k : Int) := by omega
      have hkn : (k : Int) < (n : Int) := by omega
      have hkn2 : k < n := by omega
      by_cases hp0 : p = 0
      · subst hp0
        have HE : Aside0 (trimL (l0.take k) = trimL l0) := ⟨by rw [← HA.out, hts, trim_zero]⟩
        have hkc : k ≤ c0 := by have := HC2.out; omega
        clear hp hts
        go_wp2_with fail
        go_roundg k
        case measure => omega
        case rel => exact ⟨k, by omega, Nat.le_refl _, by go_num, rfl, HE⟩
      · have bp : (p == 0) = false := beq_eq_false_iff_ne.2 hp0
        have HE : Aside0 (l0.take (k + 1) = trimL l0) := ⟨by rw [← HA.out, hts, trim_some _ hp0]⟩
        have hmc : ((k : Int) + 1) ≤ (c0 : Int) := by have := HC2.out; omega
        have hmz : (0 : Int) ≤ (k : Int) + 1 := by omega
        have hmc2 : k + 1 ≤ c0 := HC2.out
        clear hp hts hp0
        go_wp2_with (first | ((with_reducible refine gate_dst (N := 18) rfl ?_); (try (refine gate_guard (by rfl) ?_; dsimp only)); refine Kd.R_lit I _ 3 ?hg (N := 18) ?hd (xs := ([] : List Int)) (inner := []) (ok := fun _ => True) (okp := fun _ => True) ?hr ?hp (fun _ hk => hk) trivial (Below.refl _ _) (Nat.le_refl _) (by simp) ?_; (case hd => rfl); (case hg => rfl); (case hr => first | (go_simp; done) | (go_simp; rfl)); (case hp => exact (Reps.none _ _)); intro v1 w1 ho1 hb1 hg1 hn1; clear hg1 hn1; have HO := Aside0.mk ho1; have HB := Aside0.mk hb1; clear ho1 hb1) | ((with_reducible refine gate_builtin (b := .append) (xs := #[.tmp 18, .tmp 21]) rfl ?_); (try (refine gate_guard (by rfl) ?_; dsimp only)); at_builtin; refine Kd.R_append_rows I (w0 := w) w.heap.size rfl (.tmp 18) (.tmp 21) 22 3 (.int .i64 0) 8 rfl Try.underlying22 infoI rfl (by decide) (by omega) v1 [] (l0.take (k + 1)) _ _ _ (fun _ => True) (fun _ => False) rfl rfl HO.out (Kd.C_below HRM.out HB.out) (fun _ _ h => h) (fun _ h => h.elim) (fun _ _ => trivial) HB.out (below_size HB.out) ?aL ?_; (case aL => have h1 := HL.out; have h2 := HM.out; simp only [List.length_nil]; omega); intro v2 w2 ho hb hg hat; have HO2 := Aside0.mk ho; have HB2 := Aside0.mk hb; clear ho hb hg hat))
        go_ret
        exact ⟨_, rfl, by rw [← HE.out]; exact HO2.out, HB2.out⟩
theorem wide_ofB {l : List Int} (h : ∀ x ∈ l, (Lit.int .i64 x).wf = true) : wide l = true := List.all_eq_true.2 h
theorem small_wide {x : Int} (h : 0 ≤ x ∧ x < 480) : (Lit.int .i64 x).wf = true := by
  simp only [Lit.wf, IntKind.min, IntKind.max, IntKind.signed, IntKind.bits, Bool.and_eq_true, decide_eq_true_eq, if_true]
  omega
theorem fourB {l : List Int} (h : l.length = 4) : ∃ a b c d, l = [a, b, c, d] := by
  rcases l with _ | ⟨a, _ | ⟨b, _ | ⟨c, _ | ⟨d, _ | ⟨e, r⟩⟩⟩⟩⟩ <;> simp at h
  exact ⟨a, b, c, d, rfl⟩
set_option maxHeartbeats 2000000 in
theorem back_row (A0 : Option Addr) (c0 : Nat) (l0 : List Int) (A1 : Option Addr) (c1 : Nat) (l1 : List Int) (A2 : Option Addr) (c2 : Nat) (l2 : List Wr) (w : World) (hr0 : I.C w A0 l0.length l0) (hc0 : l0.length ≤ c0) (hr1 : I.C w A1 l1.length l1) (hc1 : l1.length ≤ c1) (hr2 : kW.C w A2 l2.length l2) (hc2 : l2.length ≤ c2) (hw0 : ∀ x ∈ l0, (Lit.int .i64 x).wf = true) (hw1 : ∀ x ∈ l1, (Lit.int .i64 x).wf = true) (hs2 : BytesW l2) (y2 : l2.length * 32 ≤ 140737488351232) :
    Calls Try.prog 5 #[.slice A0 l0.length c0, .slice A1 l1.length c1, .slice A2 l2.length c2] w fun e w' => e = .returned (.bool true) ∧ Below w.heap.size w w' := by
  obtain ⟨n, hn⟩ : ∃ n, l0.length = n := ⟨_, rfl⟩
  obtain ⟨n1, hn1⟩ : ∃ n, l1.length = n := ⟨_, rfl⟩
  obtain ⟨n2, hn2⟩ : ∃ n, l2.length = n := ⟨_, rfl⟩
  rw [hn] at hr0 hc0
  rw [hn1] at hr1 hc1
  rw [hn2] at hr2 hc2 y2
  rw [hn, hn1, hn2]
  have HR0 := Aside0.mk hr0
  have HR1 := Aside0.mk hr1
  have HR2 := Aside0.mk hr2
  have HN := Aside0.mk hn
  have HN1 := Aside0.mk hn1
  have HN2 := Aside0.mk hn2
  have HC0 := Aside0.mk hc0
  have HC1 := Aside0.mk hc1
  have HY := Aside0.mk y2
  have HWD := Aside0.mk (wide_ofB hw0)
  have HB2 := Aside0.mk hs2
  by_cases he : errOf l0 l1 = 0
  · have hok := ok_of he
    obtain ⟨d0, d1, d2, d3, hd⟩ := fourB (partL_length l0 0 4)
    obtain ⟨sg, hsg⟩ : ∃ q, (ndOf l0 l1).s = q := ⟨_, rfl⟩
    obtain ⟨g, hg⟩ : ∃ q, dbl l0 l1 = q := ⟨_, rfl⟩
    have hnd : ndOf l0 l1 = ⟨1, [d0, d1, d2, d3], sg, g⟩ := by
      rw [← hd, ← hsg, ← hg]; rfl
    obtain ⟨wsP, hws⟩ : ∃ q, wsOf l0 l1 = q := ⟨_, rfl⟩
    obtain ⟨k, hk⟩ : ∃ q, needN l0 = q := ⟨_, rfl⟩
    have hwl : wsP.length = k := by rw [← hws, ← hk]; exact ws_len hok
    have HWN := Aside0.mk hwl
    have hk5 : k ≤ n1 := by rw [← hk, ← hn1]; exact hok.len
    have hl96 : n ≤ 96 := by rw [← hn]; exact ptsB_len hok.pts
    have hkl : k ≤ 5 := by
      rw [← hk, need_eq (ptsB_len hok.pts)]
      have := unN_le l0 3
      split <;> split <;> omega
    have HKL := Aside0.mk hkl
    have HPL : Aside0 (∀ W, Below w.heap.size w W → Calls Try.prog 11 #[.slice A0 n c0, .slice A1 n1 c1] W fun e w' => ∃ v, e = .returned (.tuple #[.agg (⟨1, [d0, d1, d2, d3], sg, g⟩ : Nd).c, v, .int .i64 0]) ∧ kW.R 59 w' W.heap.size (fun _ => True) v wsP ∧ Below W.heap.size W w') := ⟨fun W hW => by
      have h := plan_calls A0 c0 n l0 hn A1 c1 n1 l1 hn1 W (Kd.C_below HR0.out hW) hc0 HWD.out (Kd.C_below HR1.out hW) hc1
      rw [show planF l0 l1 = (ndOf l0 l1, wsOf l0 l1, 0) from if_pos he, hnd, hws] at h
      exact h⟩
    have HNEED : Aside0 (∀ W, Below w.heap.size w W → Calls Try.prog 7 #[.slice A0 n c0] W fun e w' => e = .returned (.tuple #[.int .i64 (k : Int), .int .i64 0]) ∧ Below W.heap.size W w') := ⟨fun W hW => by
      have h := need_calls A0 c0 n l0 hn W (Kd.C_below HR0.out hW) hc0 HWD.out
      rw [show needF l0 = ((needN l0 : Int), 0) from if_pos hok.pts, hk] at h
      exact h⟩
    obtain ⟨kn, hkn⟩ : ∃ q, k + n2 = q := ⟨_, rfl⟩
    have HL5 : Aside0 ((wsP ++ l2).length = kn) := ⟨by rw [List.length_append, hwl, hn2, hkn]⟩
    obtain ⟨t, ht⟩ : ∃ q, trimL l0 = q := ⟨_, rfl⟩
    obtain ⟨mt, hmt⟩ : ∃ q, t.length = q := ⟨_, rfl⟩
    have HLT := Aside0.mk hmt
    obtain ⟨ow, how⟩ : ∃ q, l1.take k = q := ⟨_, rfl⟩
    have HLO : Aside0 (ow.length = k) := ⟨by rw [← how, List.length_take, hn1]; omega⟩
    have HOWN : Aside0 (∀ W, Below w.heap.size w W → I.C W A1 k ow) := ⟨fun W hW => by rw [← how]; exact C_takeI (Kd.C_below HR1.out hW) hk5⟩
    have HRD : Aside0 (∀ (W : World) (A : Option Addr) (c : Nat), kW.C W A kn (wsP ++ l2) → Calls Try.prog 15 #[.agg (⟨1, [d0, d1, d2, d3], sg, g⟩ : Nd).c, .slice A kn c] W fun e w' => Below W.heap.size W w' ∧ ∃ vp vo, e = .returned (.tuple #[vp, vo, .int .i64 0]) ∧ I.R 3 w' W.heap.size (fun _ => True) vp t ∧ I.R 3 w' W.heap.size (fun _ => True) vo ow) := ⟨fun W A c h => by
      have hbl := back_law hok l2
      rw [hd, hsg, hg, hws, ht, hk, how] at hbl
      have hbb : ∀ x ∈ wsP ++ l2, Spin.Bytes x.data := fun x hx => by
        rcases List.mem_append.1 hx with h1 | h1
        · rw [← hws] at h1; exact wsOf_bytes _ _ x h1
        · exact HB2.out x h1
      have hpw : wide (partL l0 0 4) = true := partL_wide HWD.out 0 4
      have hs1 : (Lit.int .i64 sg).wf = true := by rw [← hsg]; exact small_wide (hok.resP (fun e => hok.room1 e))
      have hg1 : (Lit.int .i64 g).wf = true := by rw [← hg]; exact small_wide (hok.resP (fun e => hok.room2 e))
      have hwd : wide [d0, d1, d2, d3, sg, g] = true := by
        rw [hd] at hpw
        unfold wide at hpw ⊢
        simp only [List.all_cons, List.all_nil, Bool.and_true, Bool.and_eq_true] at hpw ⊢
        exact ⟨hpw.1, hpw.2.1, hpw.2.2.1, hpw.2.2.2, hs1, hg1⟩
      refine (read_calls A c kn (wsP ++ l2) HL5.out hbb d0 d1 d2 d3 sg g hwd W h).mono fun e w' h2 => ⟨h2.1, ?_⟩
      have h3 := h2.2.2 hbl.1
      rw [hbl.2.1, hbl.2.2] at h3
      exact h3⟩
    have HTRIM : Aside0 (∀ W, Below w.heap.size w W → Calls Try.prog 17 #[.slice A0 n c0] W fun e w' => ∃ v0_ : Value, e = .returned (v0_) ∧ I.R 3 w' W.heap.size (fun _ => True) v0_ t ∧ Below W.heap.size W w') := ⟨fun W hW => by
      have h := refTrim_calls A0 c0 n l0 hn W (Kd.C_below HR0.out hW) hc0 (by omega)
      rw [ht] at h
      exact h⟩
    have hkz : (0 : Int) ≤ (k : Int) := Int.natCast_nonneg k
    have hkc : (k : Int) ≤ (c1 : Int) := by omega
    have hkc2 : k ≤ c1 := by omega
    have ekk : ((k : Int) == (k : Int)) = true := beq_self_eq_true _
    clear hr0 hr1 hr2 hn hn1 hn2 hc0 hc1 hc2 y2 hw0 hw1 hs2 he hok hd hsg hg hnd hws hk hwl hk5 hl96 hkl hkn ht hmt how
    go_enter Try.func5, Try.ntmps5
    go_wp2_with (first | (go_at_call 11; (with_reducible refine (HPL.out _ (Below.refl _ _)).mono ?_); rintro e w1 ⟨v1, rfl, ho, hb⟩; obtain ⟨A8, c8, e1⟩ := Kd.R_slice ho; rw [HWN.out] at e1; subst e1; have HO1 := Aside0.mk ho; have HB1 := Aside0.mk hb; clear ho hb) | ((with_reducible refine gate_ (.store 32 (.tmp 7) (.tmp 19)) rfl ?_); refine Whole.store_ ?sg ?sn 32 (.tmp 7) (.tmp 19) ?so w1.heap.size 0 32 zNd.c (⟨1, [d0, d1, d2, d3], sg, g⟩ : Nd).c (⟨1, [d0, d1, d2, d3], sg, g⟩ : Nd).c ?sx ?sy (blk_new w1 _) ?sf infoND ?s1 ?sw ?_; (case sg => rfl); (case sn => rfl); (case so => rfl); (case sx => with_unfolding_all rfl); (case sy => with_unfolding_all rfl); (case sf => with_unfolding_all exact (show 12 ≤ 12 from by decide)); (case s1 => exact ndc_one _); (case sw => with_unfolding_all rfl); intro w3 hz3 hg3 hs3; have HB3 := Aside0.mk (below_of_new (below_alloc (Below.refl w1.heap.size w1) (.cells zNd.c 32)) hg3 (Nat.le_refl _)); have HZ3 := Aside0.mk hz3; clear hz3 hg3 hs3) | (go_at_call 9; (with_reducible refine (awake_calls _).mono ?_); rintro e w4 ⟨rfl, hb⟩; have HB4 := Aside0.mk (below_step HB3.out hb); have HZ4 := Aside0.mk (blk_below HZ3.out hb); clear hb) | (go_at_call 7; (with_reducible refine (HNEED.out _ ?c0).mono ?_); (case c0 => exact HB1.out.trans (HB4.out.mono HB1.out.size)); rintro e wq ⟨rfl, hb⟩; have HBQ1 := Aside0.mk (below_step HB4.out hb); have HZQ := Aside0.mk (blk_below HZ4.out hb); clear hb))
    have HBQ := Aside0.mk (HB1.out.trans (HBQ1.out.mono HB1.out.size))
    have HC8 : Aside0 (kW.C wq A8 k wsP) := ⟨by have h := (Kd.R_reads' (Kd.R_below HO1.out HBQ1.out)).2.2; rw [HWN.out] at h; exact h⟩
    have HC2 := Aside0.mk (Kd.C_below HR2.out HBQ.out)
    obtain ⟨gb, hgb⟩ : ∃ q, w1.heap.size = q := ⟨_, rfl⟩
    rw [hgb] at HZQ
    have HSN : Aside0 (∀ W : World, Below wq.heap.size wq W → (Instr.loadAt 32 (.pointer (some ⟨gb, 0, none⟩))).run Try.prog W = .ok (.agg (⟨1, [d0, d1, d2, d3], sg, g⟩ : Nd).c) W) := ⟨fun W hW => by
      have h := Whole.run_load (P := Try.prog) (w := W) 32 ⟨gb, 0, none⟩ (⟨1, [d0, d1, d2, d3], sg, g⟩ : Nd).c.toList _ (Whole.cells_at (blk_below HZQ.out hW) 0 _ (fun j u hj => by rw [Nat.zero_add, ← Array.getElem?_toList]; exact hj)) Try.underlying32 rfl infoND
      exact h⟩
    rw [hgb]
    clear hgb HZ3 HZ4 HB3 HB4 HO1 HNEED HPL
    refine start_ (n := 14) (S := fun w' => (Instr.loadAt 32 (.pointer (some ⟨gb, 0, none⟩))).run Try.prog w' = .ok (.agg (⟨1, [d0, d1, d2, d3], sg, g⟩ : Nd).c) w') (ds := [6]) #[false, false, false, false, false, false, false, false, false, false, false, false, false, false] (by kernel_rfl) rfl rfl (HSN.out _ (below_drew (Below.refl _ _))) (fun hHeld => ?_)
    refine pure_ (i := 2) (N := some 42) (v := ?_) (a' := ?_) #[false, false, true, false, false, false, false, false, false, false, false, false, false, false] rfl rfl (by kernel_rfl) (fun _ _ _ h => h) (Or.inl ⟨by rfl, ?_⟩) ?_ ?_
    rotate_left
    · intro w'
      go_simp
      with_reducible rfl
    rotate_left
    · simp only [Act.put, List.setIfInBounds_toArray, List.set_cons_zero, List.set_cons_succ, i64_w, i32_w]
      rfl
    refine pure_ (i := 4) (N := some 44) (v := ?_) (a' := ?_) #[false, false, true, false, true, false, false, false, false, false, false, false, false, false] rfl rfl (by kernel_rfl) (fun _ _ _ h => h) (Or.inl ⟨by rfl, ?_⟩) ?_ ?_
    rotate_left
    · intro w'
      go_simp
      with_reducible rfl
    rotate_left
    · simp only [Act.put, List.setIfInBounds_toArray, List.set_cons_zero, List.set_cons_succ, i64_w, i32_w]
      rfl
    refine take_ (i := 0) (N := some 40) (v := ?_) (a' := ?_) #[true, false, true, false, true, false, false, false, false, false, false, false, false, false] rfl rfl (by kernel_rfl) (fun _ _ _ h => h) (Or.inl ⟨by rfl, ?_⟩) hHeld ?_ ?_
    rotate_left
    · intro w' s0
      refine (Whole.exec_load _ (.tmp 7) ?_ (.pointer (some ⟨gb, 0, none⟩)) _ ?_ s0).trans ?_ <;> rfl
    rotate_left
    · simp only [Act.put, List.setIfInBounds_toArray, List.set_cons_zero, List.set_cons_succ, i64_w, i32_w]
      rfl
    refine one_ (i := 1) (N := some 41) #[true, true, true, false, true, false, false, false, false, false, false, false, false, false] rfl rfl (by kernel_rfl) (by decide) (fun K hK => ?_)
    refine value_ (w1 := ?_) (v := ?_) (by rfl) rfl ?_ ?_
    rotate_left 2
    · go_simp
      constructor
      · rfl
      · rfl
    refine hK.out _ _ (HSN.out _ (below_alloc (below_drew (Below.refl _ _)) _)) (fun hHeld => ?_)
    clear hK K
    refine norm_ (a' := ?_) ?_ ?_
    rotate_left
    · show Act.put _ (some 41) _ = _
      simp only [Act.put, List.setIfInBounds_toArray, List.set_cons_zero, List.set_cons_succ, i64_w, i32_w]
      rfl
    refine one_ (i := 3) (N := some 43) #[true, true, true, true, true, false, false, false, false, false, false, false, false, false] rfl rfl (by kernel_rfl) (by decide) (fun K hK => ?_)
    refine Kd.R_append_rows_step (kO wq) (w0 := wq) (W := wq.drew.alloc (.cells #[] 59)) wq.heap.size (by rfl) (.tmp 41) (.tmp 42) 33 59 (.agg #[(.int .i64 0), (.slice none 0 0)]) 32 rfl Try.underlying33 infoW (by rfl) (show 0 < 2 from by decide) (by omega) (.slice (some ⟨wq.drew.heap.size, 0, none⟩) 0 0) [] wsP A8 k c8 (fun _ => True) (fun _ => False) ?hs ?hx ?hO ?hR (fun _ _ h => h) (fun _ h => h.elim) (fun _ _ => trivial) ?hB ?hz ?hl ?_
    case hs => rfl
    case hx => rfl
    case hO => exact kO_nil (blk_new _ _) (Nat.le_refl _) trivial
    case hR => exact reads_on HC8.out (below_alloc (below_drew (Below.refl _ _)) _)
    case hB => exact below_alloc (below_drew (Below.refl _ _)) _
    case hz => exact (below_alloc (below_drew (Below.refl _ _)) _).size
    case hl => have h1 := HKL.out; simp only [List.length_nil]; omega
    intro v3 w3 ho3 hb3 hg3 hat3
    rw [List.nil_append] at ho3
    obtain ⟨A3, c3, e3⟩ := Kd.R_slice ho3
    rw [HWN.out] at e3
    subst e3
    have HO3 := Aside0.mk ho3
    have HB3 := Aside0.mk hb3
    clear ho3 hb3 hg3 hat3
    refine hK.out _ _ (HSN.out _ HB3.out) (fun hHeld => ?_)
    clear hK K
    refine norm_ (a' := ?_) ?_ ?_
    rotate_left
    · show Act.put _ (some 43) _ = _
      simp only [Act.put, List.setIfInBounds_toArray, List.set_cons_zero, List.set_cons_succ, i64_w, i32_w]
      rfl
    refine one_ (i := 5) (N := some 45) #[true, true, true, true, true, true, false, false, false, false, false, false, false, false] rfl rfl (by kernel_rfl) (by decide) (fun K hK => ?_)
    refine Kd.R_append_rows_step (kO wq) (w0 := wq) (W := w3) wq.heap.size (by rfl) (.tmp 43) (.tmp 44) 33 59 (.agg #[(.int .i64 0), (.slice none 0 0)]) 32 rfl Try.underlying33 infoW (by rfl) (show 0 < 2 from by decide) (by omega) (.slice A3 k c3) wsP l2 A2 n2 c2 (fun _ => True) (fun _ => False) ?hs ?hx ?hO ?hR (fun _ _ h => h) (fun _ h => h.elim) (fun _ _ => trivial) ?hB ?hz ?hl ?_
    case hs => rfl
    case hx => rfl
    case hO => exact HO3.out
    case hR => exact reads_on HC2.out HB3.out
    case hB => exact HB3.out
    case hz => exact (HB3.out).size
    case hl => have h1 := HKL.out; have h2 := HY.out; have h3 := HWN.out; omega
    intro v5 w5 ho5 hb5 hg5 hat5
    obtain ⟨A5, c5, e5⟩ := Kd.R_slice ho5
    rw [HL5.out] at e5
    subst e5
    have HO5 := Aside0.mk ho5
    have HB5 := Aside0.mk hb5
    clear ho5 hb5 hg5 hat5
    refine hK.out _ _ (HSN.out _ HB5.out) (fun hHeld => ?_)
    clear hK K
    refine norm_ (a' := ?_) ?_ ?_
    rotate_left
    · show Act.put _ (some 45) _ = _
      simp only [Act.put, List.setIfInBounds_toArray, List.set_cons_zero, List.set_cons_succ, i64_w, i32_w]
      rfl
    refine last_ (i := 6) (N := some 46) #[true, true, true, true, true, true, true, false, false, false, false, false, false, false] rfl rfl (by kernel_rfl) (by decide) (fun K hK => ?_)
    refine goes_ Try.func15 (by kernel_rfl) rfl #[.agg (⟨1, [d0, d1, d2, d3], sg, g⟩ : Nd).c, .slice A5 kn c5] (by rfl) rfl rfl (by (try simp only [List.map_toArray, List.map_cons, List.map_nil]); first | done | rfl) ?_
    with_reducible refine (HRD.out _ _ _ (by have h := (Kd.R_reads' HO5.out).2.2; rw [HL5.out] at h; exact kO_C h HB5.out)).mono ?_
    rintro e w6 ⟨hb6, v6, v7, rfl, hp6, ho6⟩
    refine ⟨_, rfl, ?_⟩
    obtain ⟨A6, c6, e6⟩ := Kd.R_slice hp6
    rw [HLT.out] at e6
    subst e6
    obtain ⟨A7, c7, e7⟩ := Kd.R_slice ho6
    rw [HLO.out] at e7
    subst e7
    have HB6 := Aside0.mk (below_step HB5.out hb6)
    have HP6 := Aside0.mk hp6
    have HO6 := Aside0.mk ho6
    clear hb6 hp6 ho6
    refine hK.out _ _ ?_
    clear hK K
    refine norm_ (a' := ?_) ?_ ?_
    rotate_left
    · show Act.put _ (some 46) _ = _
      simp only [Act.put, List.setIfInBounds_toArray, List.set_cons_zero, List.set_cons_succ, i64_w, i32_w]
      rfl
    refine pure_ (i := 7) (N := some 39) (v := ?_) (a' := ?_) #[true, true, true, true, true, true, true, true, false, false, false, false, false, false] rfl rfl (by kernel_rfl) (fun _ _ _ h => h) (Or.inl ⟨by rfl, ?_⟩) ?_ ?_
    rotate_left
    · intro w'
      go_simp
      with_reducible rfl
    rotate_left
    · simp only [Act.put, List.setIfInBounds_toArray, List.set_cons_zero, List.set_cons_succ, i64_w, i32_w]
      rfl
    refine pure_ (i := 8) (N := some 47) (v := ?_) (a' := ?_) #[true, true, true, true, true, true, true, true, true, false, false, false, false, false] rfl rfl (by kernel_rfl) (fun _ _ _ h => h) (Or.inl ⟨by rfl, ?_⟩) ?_ ?_
    rotate_left
    · intro w'
      go_simp
      with_reducible rfl
    rotate_left
    · simp only [Act.put, List.setIfInBounds_toArray, List.set_cons_zero, List.set_cons_succ, i64_w, i32_w]
      rfl
    refine pure_ (i := 9) (N := some 48) (v := ?_) (a' := ?_) #[true, true, true, true, true, true, true, true, true, true, false, false, false, false] rfl rfl (by kernel_rfl) (fun _ _ _ h => h) (Or.inl ⟨by rfl, ?_⟩) ?_ ?_
    rotate_left
    · intro w'
      go_simp
      with_reducible rfl
    rotate_left
    · simp only [Act.put, List.setIfInBounds_toArray, List.set_cons_zero, List.set_cons_succ, i64_w, i32_w]
      rfl
    refine pure_ (i := 10) (N := some 49) (v := ?_) (a' := ?_) #[true, true, true, true, true, true, true, true, true, true, true, false, false, false] rfl rfl (by kernel_rfl) (fun _ _ _ h => h) (Or.inl ⟨by rfl, ?_⟩) ?_ ?_
    rotate_left
    · intro w'
      go_simp
      with_reducible rfl
    rotate_left
    · simp only [Act.put, List.setIfInBounds_toArray, List.set_cons_zero, List.set_cons_succ, i64_w, i32_w]
      rfl
    refine pure_ (i := 11) (N := some 12) (v := ?_) (a' := ?_) #[true, true, true, true, true, true, true, true, true, true, true, true, false, false] rfl rfl (by kernel_rfl) (fun _ _ _ h => h) (Or.inl ⟨by rfl, ?_⟩) ?_ ?_
    rotate_left
    · intro w'
      go_simp
      with_reducible rfl
    rotate_left
    · simp only [Act.put, List.setIfInBounds_toArray, List.set_cons_zero, List.set_cons_succ, i64_w, i32_w]
      rfl
    refine pure_ (i := 12) (N := some 13) (v := ?_) (a' := ?_) #[true, true, true, true, true, true, true, true, true, true, true, true, true, false] rfl rfl (by kernel_rfl) (fun _ _ _ h => h) (Or.inl ⟨by rfl, ?_⟩) ?_ ?_
    rotate_left
    · intro w'
      go_simp
      with_reducible rfl
    rotate_left
    · simp only [Act.put, List.setIfInBounds_toArray, List.set_cons_zero, List.set_cons_succ, i64_w, i32_w]
      rfl
    refine pure_ (i := 13) (N := some 14) (v := ?_) (a' := ?_) #[true, true, true, true, true, true, true, true, true, true, true, true, true, true] rfl rfl (by kernel_rfl) (fun _ _ _ h => h) (Or.inl ⟨by rfl, ?_⟩) ?_ ?_
    rotate_left
    · intro w'
      go_simp
      with_reducible rfl
    rotate_left
    · simp only [Act.put, List.setIfInBounds_toArray, List.set_cons_zero, List.set_cons_succ, i64_w, i32_w]
      rfl
    refine done_ (by kernel_rfl) ?_

    have HW6 := Aside0.mk (HBQ.out.trans (HB6.out.mono HBQ.out.size))
    go_wp2_with (first | (go_at_call 17; (with_reducible refine (HTRIM.out _ HW6.out).mono ?_); rintro e w8 ⟨v8, rfl, ho, hb⟩; obtain ⟨A9, c9, e8⟩ := Kd.R_slice ho; rw [HLT.out] at e8; subst e8; have HO8 := Aside0.mk ho; have HB8 := Aside0.mk hb; clear ho hb) | (go_at_call 16; (with_reducible refine (ints_same A6 c6 A9 c9 mt t HLT.out _ ?c0 ?c1).mono ?_); (case c0 => exact (by have h := (Kd.R_reads' (Kd.R_below HP6.out HB8.out)).2.2; rw [HLT.out] at h; exact h)); (case c1 => exact (by have h := (Kd.R_reads' HO8.out).2.2; rw [HLT.out] at h; exact h)); rintro e w9 ⟨rfl, hb⟩; have HB9 := Aside0.mk (below_step HB8.out hb); clear hb) | (go_at_call 16; (with_reducible refine (ints_same A7 c7 A1 c1 k ow HLO.out _ ?c0 ?c1).mono ?_); (case c0 => exact (by have h := (Kd.R_reads' (Kd.R_below HO6.out HB9.out)).2.2; rw [HLO.out] at h; exact h)); (case c1 => exact HOWN.out _ (HW6.out.trans (HB9.out.mono HW6.out.size))); rintro e w10 ⟨rfl, hb⟩; have HB10 := Aside0.mk (below_step HB9.out hb); clear hb))
    go_ret
    exact ⟨rfl, HW6.out.trans (HB10.out.mono HW6.out.size)⟩
  · have e1 : planF l0 l1 = (zNd, [], errOf l0 l1) := if_neg he
    obtain ⟨E, hE⟩ : ∃ q, errOf l0 l1 = q := ⟨_, rfl⟩
    rw [hE] at he e1
    have eE : (E != 0) = true := bne_iff_ne.2 he
    have HPL : Aside0 (∀ W, Below w.heap.size w W → Calls Try.prog 11 #[.slice A0 n c0, .slice A1 n1 c1] W fun e w' => ∃ A c, e = .returned (.tuple #[.agg zNd.c, .slice A 0 c, .int .i64 E]) ∧ Below W.heap.size W w') := ⟨fun W hW => by
      have h := plan_calls A0 c0 n l0 hn A1 c1 n1 l1 hn1 W (Kd.C_below HR0.out hW) hc0 HWD.out (Kd.C_below HR1.out hW) hc1
      rw [e1] at h
      exact h.mono fun e w' h => by
        obtain ⟨v, h1, h2, h3⟩ := h
        obtain ⟨A, c, h4⟩ := Kd.R_slice h2
        exact ⟨A, c, by rw [h1, h4]; rfl, h3⟩⟩
    clear hr0 hr1 hr2 hn hn1 hn2 hc0 hc1 hc2 y2 hw0 hw1 hs2 he hE e1
    go_enter Try.func5, Try.ntmps5
    go_wp2_with (first | (go_at_call 11; (with_reducible refine (HPL.out _ (Below.refl _ _)).mono ?_); rintro e w1 ⟨A8, c8, rfl, hb⟩; have HB1 := Aside0.mk hb; clear hb) | ((with_reducible refine gate_ (.store 32 (.tmp 7) (.tmp 19)) rfl ?_); refine Whole.store_ ?sg ?sn 32 (.tmp 7) (.tmp 19) ?so w1.heap.size 0 32 zNd.c zNd.c zNd.c ?sx ?sy (blk_new w1 _) ?sf infoND ?s1 ?sw ?_; (case sg => rfl); (case sn => rfl); (case so => rfl); (case sx => with_unfolding_all rfl); (case sy => with_unfolding_all rfl); (case sf => with_unfolding_all exact (show 12 ≤ 12 from by decide)); (case s1 => exact ndc_one _); (case sw => with_unfolding_all rfl); intro w3 hz3 hg3 hs3; have HB3 := Aside0.mk (below_of_new (below_alloc (Below.refl w1.heap.size w1) (.cells zNd.c 32)) hg3 (Nat.le_refl _)); clear hz3 hg3 hs3) | (go_at_call 9; (with_reducible refine (awake_calls _).mono ?_); rintro e w4 ⟨rfl, hb⟩; first | (have HB5 := Aside0.mk (below_step HB4.out hb); clear hb) | (have HB4 := Aside0.mk (below_step HB3.out hb); clear hb)))
    go_ret
    exact ⟨rfl, HB1.out.trans (HB5.out.mono HB1.out.size)⟩
end Go.Proofs.Ytbdbjlfdnijfeaa.Tree
