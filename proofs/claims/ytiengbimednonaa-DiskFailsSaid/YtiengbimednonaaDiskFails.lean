/- For every number and row of bytes: behind so many blocks and barriers the power is gone, till it is there again. Conditions: the numbers are of their kinds. -/
import Derived.Test.YtiengbimednonaaDisk9
namespace Go.Proofs.Ytiengbimednonaa.Disk
open Go Go.RowKit Go.Proofs.YtiengbimednonaaW.PrintWords Go.Proofs.YtiengbimednonaaW.PrintLast Go.Proofs.YtiengbimednonaaW.PrintMore
set_option linter.unusedVariables false
set_option linter.unusedSimpArgs false

def z64 : List Int := List.replicate 64 0
def zl (q : Nat) : List Wr := (List.range q).map fun j : Nat => ⟨(j : Int), z64⟩
theorem zl_length (q : Nat) : (zl q).length = q := by simp [zl]
theorem zl_succ (q : Nat) : zl (q + 1) = zl q ++ [⟨(q : Int), z64⟩] := by simp [zl, List.range_succ]
theorem zl_mem {q : Nat} {x : Wr} (h : x ∈ zl q) : ∃ j : Nat, j < q ∧ x = ⟨(j : Int), z64⟩ := by
  simp only [zl, List.mem_map, List.mem_range] at h
  obtain ⟨j, hj, rfl⟩ := h
  exact ⟨j, hj, rfl⟩
theorem zl_len (q : Nat) : badLen (zl q) = false := List.any_eq_false.2 fun x hx => by
  obtain ⟨j, _, rfl⟩ := zl_mem hx
  show ¬ (z64.length != 64) = true
  decide
theorem zl_to (q : Nat) (hq : q ≤ 3) : badTo 4 (zl q) = false := List.any_eq_false.2 fun x hx => by
  obtain ⟨j, hj, rfl⟩ := zl_mem hx
  simp; omega
/-- Between two calls. -/
structure FS (w wr : World) (g : Nat) (F : Nat → Prop) (L k : Nat) (bs : List Blk) : Prop where
  d : DW wr F g ⟨false, (L : Int), bs⟩
  f : ∀ j, F j → w.heap.size ≤ j
  b : Below w.heap.size w wr
  n : bs.length = 4
  o : ∀ (i : Nat) (b : Blk), bs[i]? = some b → b.opn.length ≤ 3 * k
theorem put_zl {L q : Nat} {bs : List Blk} (hq : q ≤ 3) (h4 : bs.length = 4) : putF ⟨false, (L : Int), bs⟩ (zl q) = putRun false (L : Int) bs (zl q) := by
  unfold putF
  rw [if_neg (by simp), zl_len, if_neg (by decide), h4, zl_to q hq, if_neg (by decide)]
set_option maxHeartbeats 2000000 in
set_option maxRecDepth 100000 in
theorem fails_calls (a0 : Int) (A1 : Option Addr) (c1 : Nat) (l1 : List Int) (w : World) (hr1 : Kd.C (Kd.int .u8) w A1 l1.length l1) (hc1 : l1.length ≤ c1) (h0 : (Lit.int .u8 a0).wf = true) (h1 : ∀ x ∈ l1, (Lit.int .u8 x).wf = true) :
    Calls Try.prog 6 #[.int .u8 a0, .slice A1 l1.length c1] w fun e w' => e = .returned (.bool true) ∧ Below w.heap.size w w' := by
  have b0 : 0 ≤ a0 ∧ a0 < 256 := by simp [Lit.wf, IntKind.min, IntKind.max, IntKind.signed, IntKind.bits] at h0; omega
  obtain ⟨L0, rfl⟩ : ∃ L0 : Nat, a0 = L0 := ⟨a0.toNat, by omega⟩
  have hL0 : L0 < 256 := by omega
  have HL0 : Aside0 (((0 : Nat) : Int) = 0) := ⟨rfl⟩
  have HN1 : Aside0 ((-1 : Int) ≠ 0) := ⟨by decide⟩
  have HN2 : Aside0 ((-1 : Int) ≤ 9223372036854775807) := ⟨by decide⟩
  have hmk := mk64
  generalize hZ : Array.replicate 64 (Value.int .u8 0) = Z at hmk
  have HZ : Aside0 (Z.toList = nums .u8 z64) := ⟨by subst hZ; rfl⟩
  have HR1 := Aside0.mk hr1
  have HW1 := Aside0.mk h1
  have hn63 := hr1.2.1
  obtain ⟨n, hn⟩ : ∃ n, l1.length = n := ⟨_, rfl⟩
  have HN := Aside0.mk hn
  rw [hn] at hn63 HR1
  rw [hn]
  clear hZ hr1 h0 h1 hn b0 hc1
  go_enter Try.func6, Try.ntmps6
  go_wp2_with (first | (go_at_call 8; (with_reducible refine (new_at 4 4 rfl (by omega) (by omega) _).mono ?_); rintro e w1 ⟨g, F, rfl, hd, hF, hb⟩; have HD := Aside0.mk hd; have HF := Aside0.mk hF; have HB := Aside0.mk hb; clear hd hF hb) | (go_at_call 9; (with_reducible refine (awake_calls _).mono ?_); rintro e w2 ⟨rfl, hb⟩; have HD2 := Aside0.mk (HD.out.below hb); have HB2 := Aside0.mk (HB.out.trans (hb.mono HB.out.size)); clear hb) | (go_at_call 19; (with_reducible refine (fail_at HD2.out (L0 : Int) (L0 : Int) (by omega)).mono ?_); rintro e w3 ⟨rfl, hp⟩; have HP := Aside0.mk hp; clear hp))
  obtain ⟨F3, hd3, hc3⟩ := HP.out
  have HS0 : Aside0 (FS w w3 g F3 L0 0 (newS 4).bs) := ⟨hd3, fun j hj => (hc3.new j hj).elim (fun h => HF.out j h) (fun h => Nat.le_trans HB2.out.size h), HB2.out.trans (hc3.below HF.out HB2.out.size), rfl, fun i b hi => by obtain ⟨_, rfl⟩ := newS_at hi; exact Nat.zero_le _⟩
  clear hd3 hc3 HP HD HD2 HB HB2 HF
  go_loopg [7, 8] 100 (fun gg v7 i wr => ∃ (L k : Nat) (F : Nat → Prop) (bs : List Blk), L < 256 ∧ k ≤ n ∧ k ≤ 100 ∧ 100 - k ≤ gg ∧ v7 = .int .i64 L ∧ i = .int .i64 k ∧ Aside0 (FS w wr g F L k bs))
  case atStart => exact ⟨L0, 0, F3, _, hL0, Nat.zero_le _, Nat.zero_le _, Nat.le_refl _, rfl, rfl, HS0⟩
  case round =>
    clear HS0
    obtain ⟨L, k, F, bs, hL, hk, hk1, hgk, rfl, rfl, HS⟩ := hrel
    by_cases hlt : k < n
    case neg =>
      have b1 : decide (k < n) = false := decide_eq_false hlt
      go_wp2_with fail
      go_ret
      exact ⟨rfl, HS.out.b⟩
    by_cases hlt1 : k < 100
    case neg =>
      have b1 : decide (k < n) = true := decide_eq_true hlt
      have b2 : decide ((k : Int) < 100) = false := decide_eq_false (by omega)
      go_wp2_with fail
      go_ret
      exact ⟨rfl, HS.out.b⟩
    have b1 : decide (k < n) = true := decide_eq_true hlt
    have b2 : decide ((k : Int) < 100) = true := decide_eq_true (by omega)
    obtain ⟨ad, rfl, hx⟩ := Kd.at_int (Kd.C_below HR1.out (HS.out.b)) (k : Int) (by omega) (by omega)
    rw [Int.toNat_natCast] at hx
    obtain ⟨x, hxk⟩ : ∃ x, rd l1 (k : Int) = x := ⟨_, rfl⟩
    have hx0 : 0 ≤ x ∧ x < 256 := by
      have h := HW1.out x (by
        rw [← hxk]; show l1.getD (k : Int).toNat 0 ∈ l1
        have := HN.out
        rw [Int.toNat_natCast, List.getD_eq_getElem?_getD, List.getElem?_eq_getElem (by omega)]
        exact List.getElem_mem _)
      simp [Lit.wf, IntKind.min, IntKind.max, IntKind.signed, IntKind.bits] at h; omega
    rw [hxk] at hx
    obtain ⟨hx1, hx2⟩ := hx0
    obtain ⟨q, hq⟩ : ∃ q : Nat, x % 4 = q := ⟨(x % 4).toNat, by omega⟩
    have hq3 : q ≤ 3 := by omega
    clear hxk
    by_cases hq0 : q = 0
    · subst hq0
      by_cases hL0 : L = 0
      · subst hL0
        go_wp2_with (first | (go_at_call 14; (with_reducible refine (barrier_power_at HS.out.d rfl HL0.out).mono ?_); rintro e w2 ⟨rfl, hp⟩; obtain ⟨F2, hd2, hc2⟩ := hp; have HD2 := Aside0.mk hd2; have HC2 := Aside0.mk hc2; clear hd2 hc2) | (go_at_call 12; (with_reducible refine (get_off_at HD2.out rfl 0).mono ?_); rintro e w' ⟨rfl, rfl⟩) | (go_at_call 14; (with_reducible refine (barrier_off_at HD2.out rfl).mono ?_); rintro e w' ⟨rfl, rfl⟩) | (go_at_call 11; (with_reducible refine (restart_none HD2.out).mono ?_); rintro e w4 ⟨rfl, hp⟩; obtain ⟨F4, hd4, hc4⟩ := hp; have HD4 := Aside0.mk hd4; have HC4 := Aside0.mk hc4; clear hd4 hc4) | (go_at_call 14; (with_reducible refine (barrier_at HD4.out rfl HN1.out HN2.out).mono ?_); rintro e w5 ⟨rfl, hp⟩; obtain ⟨F5, hd5, hc5⟩ := hp; have HC5 := Aside0.mk hc5; clear hd5 hc5))
        go_ret
        exact ⟨rfl, HS.out.b.trans ((HC2.out.trans (HC4.out.trans HC5.out)).below HS.out.f HS.out.b.size)⟩
      · have b3 : decide ((L : Int) < 1) = false := decide_eq_false (by omega)
        have hne : (L : Int) ≠ 0 := by omega
        have HNE := Aside0.mk hne
        clear hne
        go_wp2_with (go_at_call 14; (with_reducible refine (barrier_at HS.out.d rfl HNE.out (by show (L : Int) ≤ _; omega)).mono ?_); rintro e w2 ⟨rfl, hp⟩; have HP2 := Aside0.mk hp; clear hp)
        go_roundg (100 - (k + 1))
        case rel =>
          obtain ⟨F2, hd2, hc2⟩ := HP2.out
          have e : (spendS false (L : Int)).2.1 = ((L - 1 : Nat) : Int) := by
            unfold spendS
            rw [if_neg HNE.out, if_pos (by omega)]
            show (L : Int) - 1 = _
            omega
          have hd2' : DW w2 F2 g ⟨false, (spendS false (L : Int)).2.1, bs.map kb⟩ := hd2
          rw [e] at hd2'
          refine ⟨L - 1, k + 1, F2, bs.map kb, by omega, by omega, by omega, Nat.le_refl _, by congr 1; omega, by go_num, ⟨hd2', fun j hj => (hc2.new j hj).elim (HS.out.f j) (fun h => Nat.le_trans HS.out.b.size h), HS.out.b.trans (hc2.below HS.out.f HS.out.b.size), by rw [List.length_map]; exact HS.out.n, fun i b hi => ?_⟩⟩
          rw [List.getElem?_map] at hi
          cases hb : bs[i]? with
          | none => rw [hb] at hi; cases hi
          | some b0 => rw [hb] at hi; obtain rfl := Option.some.inj hi; exact Nat.zero_le _
        case measure => omega
    · have b3 : ((q : Int) == 0) = false := beq_eq_false_iff_ne.2 (by omega)
      have hq3i : (q : Int) ≤ 3 := by omega
      go_wp2_with fail
      rw [hq]
      clear hq
      obtain ⟨W0, rfl⟩ : ∃ W0 : World, W0 = wr := ⟨_, rfl⟩
      go_loopg [11, 12] q (fun gj v11 v12 w' => ∃ (j : Nat), j ≤ q ∧ q - j ≤ gj ∧ v12 = .int .i64 j ∧ Aside0 (kW.R 34 w' W0.heap.size (fun _ => True) v11 (zl j)) ∧ Aside0 (Below W0.heap.size W0 w'))
      case atStart => exact ⟨0, Nat.zero_le _, Nat.le_refl _, rfl, ⟨W_nil _ _ (Nat.le_refl _)⟩, ⟨grown_below _ _⟩⟩
      case round =>
        obtain ⟨j, hj, hgj, rfl, HO, HBW⟩ := hrel
        by_cases hjq : j < q
        · have b4 : decide (j < q) = true := decide_eq_true hjq
          go_wp2_with ((with_reducible refine gate_builtin (b := .append) (xs := #[.tmp 61, .tmp 65]) rfl ?_); at_builtin; refine Kd.R_append kW (w0 := W0) W0.heap.size rfl (.tmp 61) (.tmp 65) 40 34 (.agg #[(.int .i64 0), (.slice none 0 0)]) 32 rfl Try.underlying40 infoW rfl (by decide) (by omega) _ (zl j) ⟨(j : Int), z64⟩ [.int .i64 (j : Int), .slice (some ⟨wr.heap.size, 0, none⟩) 64 64] (fun _ => True) (fun k => k = wr.heap.size) rfl ?aX ?aP ?aK ?aF ?aO ?aB ?aS ?aL ?_; (case aX => show Value.slice (some ⟨wr.heap.size + 1, 0, none⟩) 1 1 = _; rw [show (wr.alloc (.cells Z 5)).heap.size = wr.heap.size + 1 from Array.size_push _]); (case aP => exact kW_mkM _ _ _ ⟨(j : Int), z64⟩ (R_blk (blk_new wr _) HZ.out rfl HBW.out.size rfl (by decide))); (case aK => exact fun k hk => ⟨trivial, fun e => by subst hk; exact absurd (Kd.R_lt HO.out _ e.symm) (Nat.lt_irrefl _)⟩); (case aF => exact fun _ _ => trivial); (case aO => exact Kd.R_alloc HO.out _); (case aB => exact below_alloc HBW.out _); (case aS => exact (below_alloc HBW.out _).size); (case aL => have hL_ := zl_length j; omega); intro v1 w1 ho hb hg hat; have HO2 := Aside0.mk ho; have HB2 := Aside0.mk hb; clear ho hb hg hat)
          go_roundg (q - (j + 1))
          case rel => exact ⟨j + 1, by omega, Nat.le_refl _, by go_num, ⟨by rw [zl_succ]; exact HO2.out⟩, HB2⟩
          case measure => omega
        · have b4 : decide (j < q) = false := decide_eq_false hjq
          obtain rfl : j = q := by omega
          obtain ⟨Al, cl, hv⟩ := Kd.R_slice HO.out
          rw [zl_length] at hv
          subst hv
          have hcon := put_at (HS.out.d.below HBW.out) rfl (by show (L : Int) ≤ _; omega) Al cl j (zl j) (zl_length j) (RW.of_R HO.out (fun k hk _ hF => absurd (HS.out.d.lt k hF) (by omega))) (by omega) (fun i b hi => by have := HS.out.o i b hi; omega)
          rw [put_zl hq3 HS.out.n] at hcon
          have b5 : Aside0 (j ≤ 3) := ⟨hq3⟩
          by_cases hLq : L < j
          · have b6 : decide (L < j) = true := decide_eq_true hLq
            obtain ⟨bs', hrun, _⟩ := putRun_short (zl j) L bs (by rw [zl_length]; exact hLq)
            rw [hrun] at hcon
            have HCON := Aside0.mk hcon
            clear hcon hrun
            go_wp2_with (first | (go_at_call 10; (with_reducible refine HCON.out.mono ?_); rintro e w2 ⟨rfl, hp⟩; obtain ⟨F2, hd2, hc2⟩ := hp; have HD2 := Aside0.mk hd2; have HC2 := Aside0.mk hc2; clear hd2 hc2) | (go_at_call 12; (with_reducible refine (get_off_at HD2.out rfl 0).mono ?_); rintro e w' ⟨rfl, rfl⟩) | (go_at_call 14; (with_reducible refine (barrier_off_at HD2.out rfl).mono ?_); rintro e w' ⟨rfl, rfl⟩) | (go_at_call 11; (with_reducible refine (restart_none HD2.out).mono ?_); rintro e w4 ⟨rfl, hp⟩; obtain ⟨F4, hd4, hc4⟩ := hp; have HD4 := Aside0.mk hd4; have HC4 := Aside0.mk hc4; clear hd4 hc4) | (go_at_call 14; (with_reducible refine (barrier_at HD4.out rfl HN1.out HN2.out).mono ?_); rintro e w5 ⟨rfl, hp⟩; obtain ⟨F5, hd5, hc5⟩ := hp; have HC5 := Aside0.mk hc5; clear hd5 hc5))
            go_ret
            have hb := HS.out.b.trans (HBW.out.mono HS.out.b.size)
            exact ⟨rfl, hb.trans ((HC2.out.trans (HC4.out.trans HC5.out)).below HS.out.f hb.size)⟩
          · have b6 : decide (L < j) = false := decide_eq_false hLq
            obtain ⟨bs', hrun, hlen', ho'⟩ := putRun_long (zl j) L bs (by rw [zl_length]; omega)
            rw [hrun] at hcon
            have HCON := Aside0.mk hcon
            have HLEN := Aside0.mk hlen'
            have HOO := Aside0.mk ho'
            clear hcon hrun hlen' ho'
            go_wp2_with (go_at_call 10; (with_reducible refine HCON.out.mono ?_); rintro e w2 ⟨rfl, hp⟩; have HP2 := Aside0.mk hp; clear hp)
            go_roundg (100 - (k + 1))
            case rel =>
              obtain ⟨F2, hd2, hc2⟩ := HP2.out
              have hb := HS.out.b.trans (HBW.out.mono HS.out.b.size)
              have hjl := zl_length j
              refine ⟨L - j, k + 1, F2, bs', by omega, by omega, by omega, Nat.le_refl _, by congr 1; omega, by go_num, ⟨by rw [hjl] at hd2; exact hd2, fun i hi => (hc2.new i hi).elim (HS.out.f i) (fun h => Nat.le_trans hb.size h), hb.trans (hc2.below HS.out.f hb.size), by rw [HLEN.out]; exact HS.out.n, fun i b hi => ?_⟩⟩
              obtain ⟨b0, hb0, hle⟩ := HOO.out i b hi
              have := HS.out.o i b0 hb0
              have := b5.out
              omega
            case measure => omega
end Go.Proofs.Ytiengbimednonaa.Disk
