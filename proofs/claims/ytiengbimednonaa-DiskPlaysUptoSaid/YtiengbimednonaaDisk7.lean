/- Walks of package disk: Put, its loops. -/
import Derived.Test.YtiengbimednonaaDisk6
namespace Go.Proofs.Ytiengbimednonaa.Disk
open Go Go.RowKit Go.Proofs.YtiengbimednonaaW.PrintWords Go.Proofs.YtiengbimednonaaW.PrintLast Go.Proofs.YtiengbimednonaaW.PrintMore
attribute [local go_sem] max2_int min2_int max_two min_two
set_option linter.unusedVariables false
set_option linter.unusedSimpArgs false

theorem grown_below (w : World) (o : Obj) : Below w.heap.size w (w.alloc o) := (Below.refl _ _).alloc (Nat.le_refl _) o
theorem exec_load {P : Program} {a : Act} {o : Oper} {w : World} (ty : TypeId) (x : Operand) (ho : o.op = .load ty x) (p u : Value) (hx : a.eval x = p) (h : (Instr.loadAt ty p).run P w = .ok u w) : (execOp a.eval o).run P w = .ok (.value u) w := by
  unfold execOp
  simp only [ho, hx, Sem.run_bind, h]
  rfl
theorem exec_arr {a : Act} {o : Oper} {w : World} (x : Operand) (ho : o.op = .sliceToArrayPointer 64 x) (A : Option Addr) (c : Nat) (hx : a.eval x = .slice A 64 c) : (execOp a.eval o).run Try.prog w = .ok (.value (.pointer A)) w := by
  unfold execOp
  simp only [ho, hx, Instr.arrayAt, Sem.run_bind, run_underlying Try.underlying64 w]
  rfl
theorem set_all (l : List Value) : ∀ (pre : List Value) (cs : Array Value), cs.size = pre.length + l.length → cs.toList.take pre.length = pre → (l.zipIdx pre.length).foldl (fun (cs : Array Value) (x : Value × Nat) => cs.setIfInBounds (0 + x.2) x.1) cs = (pre ++ l).toArray := by
  induction l with
  | nil =>
    intro pre cs hs ht
    simp at hs
    rw [List.take_of_length_le (by rw [Array.length_toList]; omega)] at ht
    simp [← ht]
  | cons u l ih =>
    intro pre cs hs ht
    rw [List.zipIdx_cons, List.foldl_cons]
    have h1 := ih (pre ++ [u]) (cs.setIfInBounds (0 + pre.length) u) (by simp at hs ⊢; omega) (by
      rw [Nat.zero_add, Array.toList_setIfInBounds, List.length_append, List.length_singleton, List.take_succ_eq_append_getElem (by simp at hs ⊢; omega), List.take_set_of_le (Nat.le_refl _), ht, List.getElem_set_self])
    rw [List.length_append, List.length_singleton] at h1
    rw [h1, List.append_assoc]; rfl
theorem spend_le (off : Bool) (L : Int) (h : L ≤ 9223372036854775807) : (spendS off L).2.1 ≤ 9223372036854775807 := by
  unfold spendS
  split
  · show (0 : Int) ≤ _; omega
  · split
    · show L - 1 ≤ _; omega
    · exact h
theorem fill_arr (X cs : Array Value) (hX : X.size = 64) (hc : cs.size = 64) : Instr.fill (fun i => some (i * 64, 64)) cs [(0, .agg X)] = some X := by
  have h1 := set_all X.toList [] cs (by simp [hX, hc]) rfl
  have h2 : (X.zipIdx.foldl (fun (cs : Array Value) (x : Value × Nat) => cs.setIfInBounds (0 + x.2) x.1) cs) = X := by
    rw [← Array.foldl_toList, Array.toList_zipIdx]
    simpa using h1
  have h3 : Value.cells (.agg X) = X := rfl
  simp only [Instr.fill, h3, hX, hc, Nat.zero_mul]
  rw [if_neg (by simp)]
  exact congrArg some h2
theorem exec_build {a : Act} {o : Oper} {w : World} (x : Operand) (ho : o.op = .buildSlice 65 1 #[(0, x)]) (X : Array Value) (hx : a.eval x = .agg X) (hX : X.size = 64) : (execOp a.eval o).run Try.prog w = .ok (.value (.slice (some ⟨w.heap.size, 0, none⟩) 1 1)) (w.alloc (.cells X 64)) := by
  obtain ⟨i0, hi0, hz0, hs0, _⟩ := info_parts infoA
  obtain ⟨Z, hZ⟩ : ∃ Z, Array.replicate 64 (Value.int .u8 0) = Z := ⟨_, rfl⟩
  rw [hZ] at hz0
  have hz : (zeroValue 64).run Try.prog w = .ok (.agg Z) w := by simp [zeroValue, typeInfo, hi0, hz0]
  have hsz : (sizeOf 64).run Try.prog w = .ok 64 w := by simp [sizeOf, typeInfo, hi0, hs0]
  unfold execOp
  simp only [ho, Instr.buildSlice, Sem.run_bind, run_underlying Try.underlying65 w, Result.andThen_ok, hsz, List.map_toArray, List.map_cons, List.map_nil, hx]
  simp [hz, fill_arr X _ hX]
  rfl
theorem badLen_true {ws : List Wr} {k : Nat} {x : Wr} (h : ws[k]? = some x) (hx : x.data.length ≠ 64) : badLen ws = true :=
  List.any_eq_true.2 ⟨x, List.mem_of_getElem? h, by simpa using hx⟩
theorem badLen_false {ws : List Wr} (h : ∀ (j : Nat) (x : Wr), ws[j]? = some x → x.data.length = 64) : badLen ws = false :=
  List.any_eq_false.2 fun x hx => by
    obtain ⟨j, hj⟩ := List.mem_iff_getElem?.1 hx
    simp [h j x hj]
theorem badTo_true {n : Nat} {ws : List Wr} {k : Nat} {x : Wr} (h : ws[k]? = some x) (hx : x.tgt < 0 ∨ (n : Int) ≤ x.tgt) : badTo n ws = true :=
  List.any_eq_true.2 ⟨x, List.mem_of_getElem? h, by simpa using hx⟩
theorem badTo_false {n : Nat} {ws : List Wr} (h : ∀ (j : Nat) (x : Wr), ws[j]? = some x → 0 ≤ x.tgt ∧ x.tgt < n) : badTo n ws = false :=
  List.any_eq_false.2 fun x hx => by
    obtain ⟨j, hj⟩ := List.mem_iff_getElem?.1 hx
    have := h j x hj
    simp; omega
/-- Behind the first k writes. -/
structure PutSt (w wr : World) (F : Nat → Prop) (g : Nat) (s : DS) (ws : List Wr) (N k : Nat) (F1 : Nat → Prop) (left1 : Int) (bs1 : List Blk) : Prop where
  d : DW wr F1 g ⟨false, left1, bs1⟩
  ch : Ch w wr F F1
  run : putRun false s.left s.bs ws = putRun false left1 bs1 (ws.drop k)
  len : bs1.length = N
  lo : left1 ≤ 9223372036854775807
  cap : ∀ (i : Nat) (b : Blk), bs1[i]? = some b → b.opn.length + (ws.length - k) ≤ 2199023255551
section
variable {w : World} {F : Nat → Prop} {g : Nat} {s : DS}
set_option maxHeartbeats 4000000 in
set_option maxRecDepth 100000 in
theorem put_on (h : DW w F g s) (ho : s.off = false) (hlo : s.left ≤ 9223372036854775807) (A : Option Addr) (c : Nat) (ws : List Wr) (hC : RW w F A ws) (hn63 : ws.length ≤ 9223372036854775807)
    (hcap : ∀ (i : Nat) (b : Blk), s.bs[i]? = some b → b.opn.length + ws.length ≤ 2199023255551) :
    Calls Try.prog 10 #[.pointer (some ⟨g, 0, none⟩), .slice A ws.length c] w fun e w' => e = .returned (.int .i64 (putF s ws).2) ∧ PutP w w' F g (putF s ws).1 := by
  obtain ⟨gb, C, v, f, hx⟩ := h
  have HX := Aside0.mk hx
  have HRC := Aside0.mk (ready_calls g false w (by rw [hx.cellg, ho]; rfl))
  have HO := Aside0.mk ho
  have HCC := Aside0.mk hC
  have HCAP := Aside0.mk hcap
  obtain ⟨n, hn⟩ : ∃ n, ws.length = n := ⟨_, rfl⟩
  have HN := Aside0.mk hn
  rw [hn] at hn63
  rw [hn]
  have n480 := hx.n480
  obtain ⟨N, hNN⟩ : ∃ N, s.bs.length = N := ⟨_, rfl⟩
  have HNN := Aside0.mk hNN
  rw [hNN] at n480
  have HLO := Aside0.mk hlo
  clear hx ho hC hcap hn hNN hlo
  go_enter Try.func10, Try.ntmps10
  go_wp2_with (go_at_call 22; (with_reducible refine HRC.out.mono ?_); rintro e w' ⟨rfl, rfl⟩)
  go_loopw [21] (fun i wr => ∃ k : Nat, k ≤ n ∧ i = .int .i64 k ∧ Aside0 (Below w.heap.size w wr) ∧ Aside0 (∀ (j : Nat) (x : Wr), j < k → ws[j]? = some x → x.data.length = 64)) (fun i _ => n - (intOf i).toNat)
  case atStart => exact ⟨0, Nat.zero_le _, rfl, ⟨Below.refl _ _⟩, ⟨fun j x h _ => absurd h (by omega)⟩⟩
  case round =>
    obtain ⟨k, hk, rfl, HB, HG⟩ := hrel
    by_cases hlt : k < n
    · have b1 : decide (k < n) = true := decide_eq_true (by omega)
      obtain ⟨x, hx⟩ : ∃ x, ws[k]? = some x := ⟨_, List.getElem?_eq_getElem (by have := HN.out; omega)⟩
      obtain ⟨ad, A1, c1, rfl, _, _, ca, cd, _, _, _⟩ := (HCC.out.ch (Ch.of_below F HB.out)) k x hx
      obtain ⟨m, hm⟩ : ∃ m, x.data.length = m := ⟨_, rfl⟩
      rw [hm] at cd
      have HXK := Aside0.mk hx
      have HM := Aside0.mk hm
      clear hx hm
      by_cases h64 : m = 64
      · subst h64
        go_wp2_with fail
        go_roundw
        case rel =>
          refine ⟨k + 1, by omega, by go_num, ⟨below_alloc HB.out _⟩, ⟨fun j y hj hy => ?_⟩⟩
          by_cases e : j = k
          · subst e
            obtain rfl := Option.some.inj (HXK.out.symm.trans hy)
            exact HM.out
          · exact HG.out j y (by omega) hy
        case measure => simp [intOf]; omega
      · have b2 : ((m : Int) == 64) = false := beq_eq_false_iff_ne.2 (by omega)
        have b3 : ((m : Int) != 64) = true := bne_iff_ne.2 (by omega)
        have H64 := Aside0.mk h64
        clear h64
        go_wp2_with fail
        go_ret
        have hf : putF s ws = (s, 1) := by
          unfold putF
          rw [HO.out, if_neg (by decide), if_pos (badLen_true HXK.out (by rw [HM.out]; exact H64.out))]
        rw [hf]
        exact ⟨rfl, F, ⟨gb, C, v, f, HX.out.below (below_alloc HB.out _)⟩, Ch.of_below F (below_alloc HB.out _)⟩
    · have b1 : decide (k < n) = false := decide_eq_false (by omega)
      have HLEN : Aside0 (badLen ws = false) := ⟨badLen_false fun j x hj => HG.out j x (by have := (List.getElem?_eq_some_iff.1 hj).1; have := HN.out; omega) hj⟩
      have H64 : Aside0 (∀ (j : Nat) (x : Wr), ws[j]? = some x → x.data.length = 64) := ⟨fun j x hj => HG.out j x (by have := (List.getElem?_eq_some_iff.1 hj).1; have := HN.out; omega) hj⟩
      clear hlt hk
      go_wp2_with fail
      clear b1 HG
      go_loopw [32] (fun i wr => ∃ k : Nat, k ≤ n ∧ i = .int .i64 k ∧ Aside0 (Below w.heap.size w wr) ∧ Aside0 (∀ (j : Nat) (x : Wr), j < k → ws[j]? = some x → 0 ≤ x.tgt ∧ x.tgt < N)) (fun i _ => n - (intOf i).toNat)
      case atStart => exact ⟨0, Nat.zero_le _, rfl, HB, ⟨fun j x h _ => absurd h (by omega)⟩⟩
      case round =>
        clear HB
        obtain ⟨k, hk, rfl, HB, HG⟩ := hrel
        by_cases hlt : k < n
        · have b1 : decide (k < n) = true := decide_eq_true (by omega)
          obtain ⟨x, hx⟩ : ∃ x, ws[k]? = some x := ⟨_, List.getElem?_eq_getElem (by have := HN.out; omega)⟩
          obtain ⟨ad, A1, c1, rfl, _, _, ca, cd, _, _, _⟩ := (HCC.out.ch (Ch.of_below F HB.out)) k x hx
          obtain ⟨m, hm⟩ : ∃ m, x.data.length = m := ⟨_, rfl⟩
          rw [hm] at cd
          obtain ⟨y, hy⟩ : ∃ y, x.tgt = y := ⟨_, rfl⟩
          rw [hy] at ca
          have HXK := Aside0.mk hx
          have HY := Aside0.mk hy
          have HDB := Aside0.mk (HX.out.below HB.out)
          have c2 : wr.cell? ⟨g, 2, none⟩ = some (.slice (some ⟨gb, 0, none⟩) N N) := by
            have h_ := HDB.out.cellg 2
            rw [HNN.out] at h_
            exact h_
          have hgl : g < wr.heap.size := HDB.out.lt g HDB.out.fg
          clear hx hm hy
          go_wp2_with fail
          by_cases hy0 : y < 0
          · have b2 : decide (y < 0) = true := decide_eq_true hy0
            go_quiet (fail)
            go_wp2_with fail
            go_ret
            have hf : putF s ws = (s, 7) := by
              unfold putF
              rw [HO.out, if_neg (by decide), HLEN.out, if_neg (by decide), if_pos (badTo_true HXK.out (.inl (by rw [HY.out]; exact hy0)))]
            rw [hf]
            exact ⟨rfl, F, ⟨gb, C, v, f, HX.out.below (pw_below_drewN (below_alloc HB.out _) _)⟩, Ch.of_below F (pw_below_drewN (below_alloc HB.out _) _)⟩
          · have b2 : decide (y < 0) = false := decide_eq_false hy0
            by_cases hyn : (N : Int) ≤ y
            · have b3 : decide ((N : Int) ≤ y) = true := decide_eq_true hyn
              go_quiet (fail)
              go_wp2_with fail
              go_ret
              have hf : putF s ws = (s, 7) := by
                unfold putF
                rw [HO.out, if_neg (by decide), HLEN.out, if_neg (by decide), if_pos (badTo_true HXK.out (.inr (by rw [HNN.out, HY.out]; exact hyn)))]
              rw [hf]
              exact ⟨rfl, F, ⟨gb, C, v, f, HX.out.below (pw_below_drewN (below_alloc HB.out _) _)⟩, Ch.of_below F (pw_below_drewN (below_alloc HB.out _) _)⟩
            · have b3 : decide ((N : Int) ≤ y) = false := decide_eq_false hyn
              go_quiet (fail)
              go_wp2_with fail
              go_roundw
              case rel =>
                refine ⟨k + 1, by omega, by go_num, ⟨pw_below_drewN (below_alloc HB.out _) _⟩, ⟨fun j z hj hz => ?_⟩⟩
                by_cases e : j = k
                · subst e
                  obtain rfl := Option.some.inj (HXK.out.symm.trans hz)
                  have := HY.out
                  omega
                · exact HG.out j z (by omega) hz
              case measure => simp [intOf]; omega
        · have b1 : decide (k < n) = false := decide_eq_false (by omega)
          have HTO : Aside0 (badTo N ws = false) := ⟨badTo_false fun j x hj => HG.out j x (by have := (List.getElem?_eq_some_iff.1 hj).1; have := HN.out; omega) hj⟩
          have HT : Aside0 (∀ (j : Nat) (x : Wr), ws[j]? = some x → 0 ≤ x.tgt ∧ x.tgt < N) := ⟨fun j x hj => HG.out j x (by have := (List.getElem?_eq_some_iff.1 hj).1; have := HN.out; omega) hj⟩
          clear hlt hk
          go_wp2_with fail
          clear b1 HG
          go_loopw [52] (fun i wr => ∃ (k : Nat) (F1 : Nat → Prop) (left1 : Int) (bs1 : List Blk), k ≤ n ∧ i = .int .i64 k ∧ Aside0 (PutSt w wr F g s ws N k F1 left1 bs1)) (fun i _ => n - (intOf i).toNat)
          case atStart =>
            refine ⟨0, F, s.left, s.bs, Nat.zero_le _, rfl, ⟨⟨?_, Ch.of_below F HB.out, by rw [List.drop_zero], HNN.out, HLO.out, fun i b hi => ?_⟩⟩⟩
            · have h1 := HX.out.below HB.out
              have h2 : s = ⟨false, s.left, s.bs⟩ := by rw [← HO.out]
              rw [h2] at h1
              exact ⟨gb, C, v, f, h1⟩
            · have := HCAP.out i b hi
              omega
          case round =>
            clear HB
            obtain ⟨k, F1, L1, bs1, hk, rfl, HS⟩ := hrel
            by_cases hlt : k < n
            · have b1 : decide (k < n) = true := decide_eq_true (by omega)
              obtain ⟨x, hx⟩ : ∃ x, ws[k]? = some x := ⟨_, List.getElem?_eq_getElem (by have := HN.out; omega)⟩
              obtain ⟨ad, A1, c1, rfl, _, _, ca, cd, hlc, hdc, hdA⟩ := (HCC.out.ch HS.out.ch) k x hx
              have hx64 := H64.out k x hx
              rw [hx64] at cd hdc hlc
              obtain ⟨ad1, rfl, _⟩ := hdc.2.2 (by omega)
              have HDA := Aside0.mk (hdA (by omega) ad1 rfl)
              clear hdA
              obtain ⟨t, ht⟩ : ∃ t : Nat, x.tgt = t := ⟨x.tgt.toNat, by have := HT.out k x hx; omega⟩
              have htN : t < N := by have := HT.out k x hx; omega
              rw [ht] at ca
              have hrun := HS.out.run
              obtain ⟨hkl, hxe⟩ := List.getElem?_eq_some_iff.1 hx
              rw [List.drop_eq_getElem_cons hkl, hxe, putRun] at hrun
              obtain ⟨gb1, C1, v1, f1, hd⟩ := HS.out.d
              have HD := Aside0.mk hd
              have HXK := Aside0.mk hx
              have HX64 := Aside0.mk hx64
              have HDC := Aside0.mk hdc
              have HLC := Aside0.mk hlc
              have HTT := Aside0.mk ht
              have hgl : g < wr.heap.size := hd.lt g hd.fg
              have hgbl : gb1 < wr.heap.size := hd.lt gb1 hd.fb
              clear hx hx64 hdc hlc ht hd hkl hxe
              by_cases hl0 : L1 = 0
              · subst hl0
                rw [if_pos rfl] at hrun
                have HRUN := Aside0.mk hrun
                clear hrun
                go_wp2_with (go_at_call 23; (with_reducible refine (spend_calls g false 0 _ (by omega) _ (by exact blk_alloc HD.out.hg _)).mono ?_); rintro e w2 ⟨rfl, hg2, hb2⟩; have HG2 := Aside0.mk hg2; have HB2 := Aside0.mk hb2; clear hg2 hb2; simp only [spendS, if_pos])
                go_ret
                have hf : putF s ws = (⟨true, 0, bs1⟩, 8) := by
                  unfold putF
                  rw [HO.out, if_neg (by decide), HLEN.out, if_neg (by decide), HNN.out, HTO.out, if_neg (by decide)]
                  exact HRUN.out
                rw [hf]
                have hbl := grown_below wr (.cells #[.int .i64 (t : Int), .slice (some ad1) 64 c1] 34)
                obtain ⟨h1, h2⟩ := (HD.out.below hbl).power HG2.out _ _ HB2.out
                exact ⟨rfl, F1, ⟨gb1, C1, v1, f1, h1⟩, HS.out.ch.trans ((Ch.of_below F1 hbl).trans h2)⟩
              · rw [if_neg hl0] at hrun
                have HRUN := Aside0.mk hrun
                have hsp : spendS false L1 = (false, (spendS false L1).2.1, 0) := by
                  unfold spendS; rw [if_neg hl0]; split <;> rfl
                obtain ⟨L2, hL2⟩ : ∃ L2, (spendS false L1).2.1 = L2 := ⟨_, rfl⟩
                rw [hL2] at hsp
                have HSP := Aside0.mk hsp
                have HL2 := Aside0.mk hL2
                clear hrun hsp hL2 hl0
                go_wp2_with (go_at_call 23; (with_reducible refine (spend_calls g false L1 _ HS.out.lo _ (by exact blk_alloc HD.out.hg _)).mono ?_); rintro e w2 ⟨rfl, hg2, hb2⟩; rw [HSP.out] at hb2; have HG2 := Aside0.mk hg2; have HB2 := Aside0.mk hb2; clear hg2 hb2; rw [HSP.out]; dsimp only)
                have hb2 := HB2.out
                have hbl := grown_below wr (.cells #[.int .i64 (t : Int), .slice (some ad1) 64 c1] 34)
                have hdb := HD.out.below hbl
                obtain ⟨hd2, hch2⟩ := hdb.power HG2.out false L2 hb2
                have hlenN := HS.out.len
                rw [hlenN] at hb2
                have cg2 : w2.cell? ⟨g, 2, none⟩ = some (.slice (some ⟨gb1, 0, none⟩) N N) := blk_cell hb2 2
                have hbx : w2.heap[wr.heap.size]? = some (.cells #[.int .i64 (t : Int), .slice (some ad1) 64 c1] 34 (0, 0)) := blk_grown (blk_new wr _) HG2.out (fun e => by have := Option.some.inj e; omega)
                have cx0 := blk_cell hbx 0
                have hchw : Ch w w2 F F1 := HS.out.ch.trans ((Ch.of_below F1 hbl).trans hch2)
                -- the block
                obtain ⟨b, hbt⟩ : ∃ b, bs1[t]? = some b := ⟨_, List.getElem?_eq_getElem (by omega)⟩
                have hRt := hd2.ho t b hbt
                obtain ⟨vq, hvq⟩ : ∃ vq, v1 t = vq := ⟨_, rfl⟩
                have hVQ : C1[t * 65 + 64]? = some vq := by rw [hd2.hv t (by show t < bs1.length; omega), hvq]
                rw [hvq] at hRt
                obtain ⟨X, hX⟩ : ∃ X : Array Value, (encs (Value.int .u8) x.data).toArray = X := ⟨_, rfl⟩
                have HX0 : Aside0 (X.toList = encs (Value.int .u8) x.data) := ⟨by rw [← hX]⟩
                have HXS : Aside0 (X.size = 64) := ⟨by rw [← hX, List.size_toArray, encs_length, HX64.out]⟩
                have hdc2 : Kd.C B w2 (some ad1) 64 x.data := by
                  refine C_far HDC.out (fun ad' e1 => ?_)
                  obtain rfl := Option.some.inj e1
                  exact ((Ch.of_below F1 hbl).trans hch2).far _ HDA.out.1 HDA.out.2
                have HLD : Aside0 (∀ W : World, Below w2.heap.size w2 W → (Instr.loadAt 64 (.pointer (some ad1))).run Try.prog W = .ok (.agg X) W) := ⟨fun W hW => by rw [← hX]; exact load_arr rfl (Kd.C_below hdc2 hW)⟩
                have HSV : Aside0 (∀ W : World, Below w2.heap.size w2 W → W.cell? ⟨gb1, t * 65 + 64, none⟩ = some vq) := ⟨fun W hW => pw_cell_below hW ((hd2.cell _).trans hVQ)⟩
                have HSB : Aside0 (∀ W : World, Below w2.heap.size w2 W → W.cell? ⟨wr.heap.size, 1, none⟩ = some (.slice (some ad1) 64 c1)) := ⟨fun W hW => pw_cell_below hW (blk_cell hbx 1)⟩
                have HGW : Aside0 (∀ W : World, Below w2.heap.size w2 W → W.heap[gb1]? = some (.cells C1 67 (0, 0))) := ⟨fun W hW => (hW.block gb1 (hd2.lt gb1 hd2.fb)).trans hd2.hb⟩
                have HRO : Aside0 (∀ W : World, Below w2.heap.size w2 W → KA.R 64 W 0 (fun k => k < w2.heap.size → F1 k ∧ f1 k = t) vq b.opn) := ⟨fun W hW => Kd.R_mono (Kd.R_below hRt hW) (fun k hk _ => hk)⟩
                have HNE : Aside0 (some gb1 ≠ vq.ownBlock) := ⟨Kd.R_ne hRt hd2.hb (by decide)⟩
                have HVQ := Aside0.mk hVQ
                have HCB : Aside0 (b.opn.length + 1 ≤ 2199023255551) := ⟨by have := HS.out.cap t b hbt; have := HN.out; omega⟩
                have HD2 := Aside0.mk hd2
                have HBT := Aside0.mk hbt
                have HVV := Aside0.mk hvq
                have HCHW := Aside0.mk hchw
                have htz : (0 : Int) ≤ (t : Int) := by omega
                have htN2 : (t : Int) < (N : Int) := by omega
                clear hb2 hbl hdb hd2 hch2 hbx hbt hRt hvq hVQ hX hdc2 hchw hlenN
                go_quiet (fail)
                go_wp2_with fail
                refine start_ (n := 14) (S := fun w' => w'.cell? ⟨gb1, t * 65 + 64, none⟩ = some vq ∧ w'.cell? ⟨wr.heap.size, 1, none⟩ = some (.slice (some ad1) 64 c1) ∧ (Instr.loadAt 64 (.pointer (some ad1))).run Try.prog w' = .ok (.agg X) w') (ds := [10, 13]) #[false, false, false, false, false, false, false, false, false, false, false, false, false, false] (by kernel_rfl) rfl rfl ⟨HSV.out _ (below_drew (pw_below_drewN (Below.refl _ _) _)), HSB.out _ (below_drew (pw_below_drewN (Below.refl _ _) _)), HLD.out _ (below_drew (pw_below_drewN (Below.refl _ _) _))⟩ (fun hHeld => ?_)
                refine pure_ (i := 0) (N := some 70) (v := ?_) (a' := ?_) #[true, false, false, false, false, false, false, false, false, false, false, false, false, false] rfl rfl (by kernel_rfl) (fun _ _ _ h => h) (Or.inl ⟨by rfl, ?_⟩) ?_ ?_
                rotate_left
                · intro w'
                  go_simp
                  with_reducible rfl
                rotate_left
                · simp only [Act.put, List.setIfInBounds_toArray, List.set_cons_zero, List.set_cons_succ, i64_w, i32_w]
                  rfl
                refine pure_ (i := 1) (N := some 71) (v := ?_) (a' := ?_) #[true, true, false, false, false, false, false, false, false, false, false, false, false, false] rfl rfl (by kernel_rfl) (fun _ _ _ h => h) (Or.inl ⟨by rfl, ?_⟩) ?_ ?_
                rotate_left
                · intro w'
                  go_simp
                  with_reducible rfl
                rotate_left
                · simp only [Act.put, List.setIfInBounds_toArray, List.set_cons_zero, List.set_cons_succ, i64_w, i32_w]
                  rfl
                refine pure_ (i := 2) (N := some 72) (v := ?_) (a' := ?_) #[true, true, true, false, false, false, false, false, false, false, false, false, false, false] rfl rfl (by kernel_rfl) (fun _ _ _ h => h) (Or.inl ⟨by rfl, ?_⟩) ?_ ?_
                rotate_left
                · intro w'
                  go_simp
                  with_reducible rfl
                rotate_left
                · simp only [Act.put, List.setIfInBounds_toArray, List.set_cons_zero, List.set_cons_succ, i64_w, i32_w]
                  rfl
                refine pure_ (i := 3) (N := some 73) (v := ?_) (a' := ?_) #[true, true, true, true, false, false, false, false, false, false, false, false, false, false] rfl rfl (by kernel_rfl) (fun _ _ _ h => h) (Or.inl ⟨by rfl, ?_⟩) ?_ ?_
                rotate_left
                · intro w'
                  go_simp
                  with_reducible rfl
                rotate_left
                · simp only [Act.put, List.setIfInBounds_toArray, List.set_cons_zero, List.set_cons_succ, i64_w, i32_w]
                  rfl
                refine pure_ (i := 5) (N := some 75) (v := ?_) (a' := ?_) #[true, true, true, true, false, true, false, false, false, false, false, false, false, false] rfl rfl (by kernel_rfl) (fun _ _ _ h => h) (Or.inl ⟨by rfl, ?_⟩) ?_ ?_
                rotate_left
                · intro w'
                  go_simp
                  with_reducible rfl
                rotate_left
                · simp only [Act.put, List.setIfInBounds_toArray, List.set_cons_zero, List.set_cons_succ, i64_w, i32_w]
                  rfl
                refine take_ (i := 4) (N := some 74) (v := ?_) (a' := ?_) #[true, true, true, true, true, true, false, false, false, false, false, false, false, false] rfl rfl (by kernel_rfl) (fun _ _ _ h => h) (Or.inl ⟨by rfl, ?_⟩) hHeld ?_ ?_
                rotate_left
                · rintro w' ⟨s0, s1, s2⟩
                  go_simp
                  with_reducible rfl
                rotate_left
                · simp only [Act.put, List.setIfInBounds_toArray, List.set_cons_zero, List.set_cons_succ, i64_w, i32_w]
                  rfl
                refine take_ (i := 6) (N := some 76) (v := ?_) (a' := ?_) #[true, true, true, true, true, true, true, false, false, false, false, false, false, false] rfl rfl (by kernel_rfl) (fun _ _ _ h => h) (Or.inl ⟨by rfl, ?_⟩) hHeld ?_ ?_
                rotate_left
                · rintro w' ⟨s0, s1, s2⟩
                  go_simp
                  with_reducible rfl
                rotate_left
                · simp only [Act.put, List.setIfInBounds_toArray, List.set_cons_zero, List.set_cons_succ, i64_w, i32_w]
                  rfl
                refine take_ (i := 7) (N := some 77) (v := ?_) (a' := ?_) #[true, true, true, true, true, true, true, true, false, false, false, false, false, false] rfl rfl (by kernel_rfl) (fun _ _ _ h => h) (Or.inl ⟨by rfl, ?_⟩) hHeld ?_ ?_
                rotate_left
                · rintro w' ⟨s0, s1, s2⟩
                  refine (exec_arr (.tmp 76) ?_ (some ad1) c1 ?_).trans ?_ <;> rfl
                rotate_left
                · simp only [Act.put, List.setIfInBounds_toArray, List.set_cons_zero, List.set_cons_succ, i64_w, i32_w]
                  rfl
                refine take_ (i := 8) (N := some 78) (v := ?_) (a' := ?_) #[true, true, true, true, true, true, true, true, true, false, false, false, false, false] rfl rfl (by kernel_rfl) (fun _ _ _ h => h) (Or.inl ⟨by rfl, ?_⟩) hHeld ?_ ?_
                rotate_left
                · rintro w' ⟨s0, s1, s2⟩
                  refine (exec_load _ (.tmp 77) ?_ (.pointer (some ad1)) _ ?_ s2).trans ?_ <;> rfl
                rotate_left
                · simp only [Act.put, List.setIfInBounds_toArray, List.set_cons_zero, List.set_cons_succ, i64_w, i32_w]
                  rfl
                refine one_ (i := 9) (N := some 79) #[true, true, true, true, true, true, true, true, true, true, false, false, false, false] rfl rfl (by kernel_rfl) (by decide) (fun K hK => ?_)
                refine value_ (w1 := ?_) (v := ?_) (by rfl) rfl ?_ ?_
                rotate_left 2
                · refine (exec_build (.tmp 78) ?_ X ?_ HXS.out).trans ?_ <;> rfl
                refine hK.out _ _ ⟨HSV.out _ (below_alloc (below_drew (pw_below_drewN (Below.refl _ _) _)) _), HSB.out _ (below_alloc (below_drew (pw_below_drewN (Below.refl _ _) _)) _), HLD.out _ (below_alloc (below_drew (pw_below_drewN (Below.refl _ _) _)) _)⟩ (fun hHeld => ?_)
                clear hK K
                refine norm_ (a' := ?_) ?_ ?_
                rotate_left
                · show Act.put _ (some 79) _ = _
                  simp only [Act.put, List.setIfInBounds_toArray, List.set_cons_zero, List.set_cons_succ, i64_w, i32_w]
                  rfl
                refine last_ (i := 10) (N := some 80) #[true, true, true, true, true, true, true, true, true, true, true, false, false, false] rfl rfl (by kernel_rfl) (by decide) (fun K hK => ?_)
                refine Kd.R_append_step KA (w0 := w2) 0 (by rfl) (.tmp 74) (.tmp 79) 65 64 (.agg (Array.replicate 64 (.int .u8 0))) 64 rfl Try.underlying65 infoA (by rfl) (by decide) (by omega) vq b.opn x.data X.toList (fun k => k < w2.heap.size → F1 k ∧ f1 k = t) (fun _ => False) (by rfl) (by rfl) ?hp (fun _ h => h.elim) (fun k hk hk2 => absurd hk2 (Nat.not_lt.2 hk)) ?hO ?hB (Nat.zero_le _) ?hl ?_
                case hp => rw [HX0.out]; exact Kd.arr_of_cells HX64.out
                case hO => exact HRO.out _ (below_drew (pw_below_drewN (Below.refl _ _) _))
                case hB => exact below_drew (pw_below_drewN (Below.refl _ _) _)
                case hl => have := HCB.out; omega
                intro v3 w3 ho3 hb3 hg3 hat3
                obtain ⟨A3, c3, rfl⟩ := Kd.R_slice ho3
                have HO3 := Aside0.mk ho3
                have HB3 := Aside0.mk hb3
                have HG3 := Aside0.mk hg3
                have hb3_ := blk_grown (HGW.out _ (below_drew (pw_below_drewN (Below.refl _ _) _))) HG3.out HNE.out
                have cc3 := (blk_cell hb3_ (t * 65 + 64)).trans HVQ.out
                have ff3 := blk_frozen hb3_ (t * 65 + 64)
                clear ho3 hb3 hg3 hat3 hb3_
                refine hK.out _ _ ?_
                clear hK K
                refine norm_ (a' := ?_) ?_ ?_
                rotate_left
                · show Act.put _ (some 80) _ = _
                  simp only [Act.put, List.setIfInBounds_toArray, List.set_cons_zero, List.set_cons_succ, i64_w, i32_w]
                  rfl
                refine pure_ (i := 11) (N := some 81) (v := ?_) (a' := ?_) #[true, true, true, true, true, true, true, true, true, true, true, true, false, false] rfl rfl (by kernel_rfl) (fun _ _ _ h => h) (Or.inl ⟨by rfl, ?_⟩) ?_ ?_
                rotate_left
                · intro w'
                  go_simp
                  with_reducible rfl
                rotate_left
                · simp only [Act.put, List.setIfInBounds_toArray, List.set_cons_zero, List.set_cons_succ, i64_w, i32_w]
                  rfl
                refine pure_ (i := 12) (N := some 82) (v := ?_) (a' := ?_) #[true, true, true, true, true, true, true, true, true, true, true, true, true, false] rfl rfl (by kernel_rfl) (fun _ _ _ h => h) (Or.inl ⟨by rfl, ?_⟩) ?_ ?_
                rotate_left
                · intro w'
                  go_simp
                  with_reducible rfl
                rotate_left
                · simp only [Act.put, List.setIfInBounds_toArray, List.set_cons_zero, List.set_cons_succ, i64_w, i32_w]
                  rfl
                refine last_ (i := 13) (N := none) #[true, true, true, true, true, true, true, true, true, true, true, true, true, true] rfl rfl (by kernel_rfl) (by decide) (fun K hK => ?_)
                refine skip_ (w1 := ?_) (by rfl) rfl ?_ ?_
                rotate_left
                · go_simp
                  rfl
                refine hK.out _ _ ?_
                clear hK K
                refine done_ (by kernel_rfl) ?_

                go_wp2_with fail
                go_roundw
                case rel =>
                  have hdW : DWx ((w2.drewN nq).drew) F1 g gb1 C1 v1 f1 ⟨false, L2, bs1⟩ := HD2.out.kept (fun _ _ => rfl) (Nat.le_refl _)
                  obtain ⟨h1, h2⟩ := hdW.pushed HBT.out x.data w3 _ _ rfl HO3.out (by rw [HVV.out]; exact HG3.out)
                  rw [show (b.opn ++ [x.data]).length = b.opn.length + 1 from by simp] at h1 h2
                  have hchW : Ch w ((w2.drewN nq).drew) F F1 := ⟨HCHW.out.os, HCHW.out.tape, HCHW.out.output, HCHW.out.size, HCHW.out.far, HCHW.out.new⟩
                  have hrun := HRUN.out
                  rw [HL2.out, HTT.out, Int.toNat_natCast] at hrun
                  refine ⟨k + 1, _, L2, bs1.modify t (push x.data), by omega, by go_num, ⟨⟨⟨gb1, _, _, _, h1⟩, hchW.trans h2, hrun, by rw [List.length_modify]; exact HS.out.len, ?_, fun i b' hi => ?_⟩⟩⟩
                  · rw [← HL2.out]
                    exact spend_le false L1 HS.out.lo
                  · have hkl := HN.out
                    rw [List.getElem?_modify] at hi
                    by_cases e : t = i
                    · subst e
                      rw [HBT.out] at hi
                      simp only [if_true, Option.map_eq_map, Option.map_some] at hi
                      obtain rfl := Option.some.inj hi
                      have := HS.out.cap t b HBT.out
                      show (b.opn ++ [x.data]).length + _ ≤ _
                      rw [List.length_append, List.length_singleton]
                      omega
                    · have hi' : bs1[i]? = some b' := by simpa [e] using hi
                      have := HS.out.cap i b' hi'
                      omega
                case measure => simp [intOf]; omega
            · have b1 : decide (k < n) = false := decide_eq_false (by omega)
              have hkn : k = n := by omega
              have HKN := Aside0.mk hkn
              clear hkn
              go_wp2_with fail
              go_ret
              have hf : putF s ws = (⟨false, L1, bs1⟩, 0) := by
                unfold putF
                rw [HO.out, if_neg (by decide), HLEN.out, if_neg (by decide), HNN.out, HTO.out, if_neg (by decide), HS.out.run, HKN.out, List.drop_of_length_le (by have := HN.out; omega)]
                rfl
              rw [hf]
              exact ⟨rfl, F1, HS.out.d, HS.out.ch⟩
end
end Go.Proofs.Ytiengbimednonaa.Disk
