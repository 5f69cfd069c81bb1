/- For all worlds: any calls of a disk of any size answer as the reference disk's. Conditions: the arguments lie in memory as they came, and the lists of writes are together no longer than 1048576. -/
import Derived.Test.YtiengbimednonaaDiskAll
namespace Go.Proofs.Ytiengbimednonaa.Disk
open Go Go.RowKit Go.Proofs.YtiengbimednonaaW.PrintWords Go.Proofs.YtiengbimednonaaW.PrintLast Go.Proofs.YtiengbimednonaaW.PrintMore
set_option linter.unusedVariables false
set_option linter.unusedSimpArgs false
/-- A call, as the law's input names it. -/
structure Ac where
  what : Int
  n : Int
  list : List Wr
  keep : List Int
def kAc : Kd Ac := Kd.iso (Kd.pair (Kd.int .i64) (Kd.pair (Kd.int .i64) (Kd.pair (Kd.slice 34 kW) (Kd.slice 3 (Kd.int .i64))))) (fun x : Ac => (x.what, x.n, x.list, x.keep))
def zAc : Ac := ⟨0, 0, [], []⟩
theorem kAc_open {w : World} {x : Ac} {cs : List Value} (h : kAc.K w x cs) : ∃ Al cl Ak ck, cs = [.int .i64 x.what, .int .i64 x.n, .slice Al x.list.length cl, .slice Ak x.keep.length ck] ∧ kW.C w Al x.list.length x.list ∧ Kd.C (Kd.int .i64) w Ak x.keep.length x.keep := by
  obtain ⟨_, _, rfl, rfl, _, _, rfl, rfl, _, _, rfl, ⟨Al, cl, rfl, _, hl⟩, ⟨Ak, ck, rfl, _, hk⟩⟩ := h
  exact ⟨Al, cl, Ak, ck, rfl, hl, hk⟩
theorem at_A {w : World} {A : Option Addr} {n : Nat} {xs : List Ac} (h : Kd.C kAc w A n xs) {i : Nat} {x : Ac} (hi : xs[i]? = some x) :
    ∃ ad Al cl Ak ck, A = some ad ∧ w.cell? (ad.add (i * 4)) = some (.int .i64 x.what) ∧ w.cell? ⟨(ad.add (i * 4)).block, (ad.add (i * 4)).off + 1, none⟩ = some (.int .i64 x.n) ∧
      w.cell? ⟨(ad.add (i * 4)).block, (ad.add (i * 4)).off + 2, none⟩ = some (.slice Al x.list.length cl) ∧ w.cell? ⟨(ad.add (i * 4)).block, (ad.add (i * 4)).off + 3, none⟩ = some (.slice Ak x.keep.length ck) ∧
      kW.C w Al x.list.length x.list ∧ Kd.C (Kd.int .i64) w Ak x.keep.length x.keep := by
  have hl : i < n := by rw [← h.1]; exact (List.getElem?_eq_some_iff.1 hi).1
  obtain ⟨ad, c, e, _, hK, hc0⟩ := Kd.C_get h zAc (i : Int) (by omega) (by omega)
  have hx : xs.getD ((i : Int)).toNat zAc = x := by rw [Int.toNat_natCast, List.getD_eq_getElem?_getD, hi]; rfl
  rw [hx] at hK
  have hc : ∀ j u, c[j]? = some u → w.cell? (ad.add (i * 4 + j)) = some u := hc0
  obtain ⟨Al, cl, Ak, ck, rfl, hl, hk⟩ := kAc_open hK
  exact ⟨ad, Al, cl, Ak, ck, e, hc 0 _ rfl, by rw [← add_field _ _ 1 (by omega)]; exact hc 1 _ rfl, by rw [← add_field _ _ 2 (by omega)]; exact hc 2 _ rfl, by rw [← add_field _ _ 3 (by omega)]; exact hc 3 _ rfl, hl, hk⟩
/-- How many writes the calls from k on have. -/
def rest (l : List Ac) (k : Nat) : Nat := ((l.drop k).map (fun x => x.list.length)).sum
theorem rest_next {l : List Ac} {k : Nat} {x : Ac} (h : l[k]? = some x) : rest l k = x.list.length + rest l (k + 1) := by
  obtain ⟨hk, e⟩ := List.getElem?_eq_some_iff.1 h
  unfold rest
  rw [List.drop_eq_getElem_cons hk, e]
  simp
/-- Behind the first k calls. -/
structure PSt (w wr : World) (F G : Nat → Prop) (g gr n : Nat) (l : List Ac) (k : Nat) (s : DS) : Prop where
  two : Two w wr F G g gr (nrm s) s
  len : s.bs.length = n
  cap : ∃ c, Cap s c ∧ c + rest l k ≤ 1048576
theorem PSt.lo {w wr : World} {F G : Nat → Prop} {g gr n : Nat} {l : List Ac} {k : Nat} {s : DS} (h : PSt w wr F G g gr n l k s) : s.left ≤ 9223372036854775807 := by
  obtain ⟨_, _, _, _, _, _, hx⟩ := h.two.r
  exact hx.lo
theorem PSt.next {w wr w1 : World} {F G F1 G1 : Nat → Prop} {g gr n : Nat} {l : List Ac} {k : Nat} {s s1 : DS} {x : Ac} (h : PSt w wr F G g gr n l k s) (hx : l[k]? = some x) (h1 : Two w w1 F1 G1 g gr (nrm s1) s1) (hl : s1.bs.length = s.bs.length)
    (hc : ∀ c, Cap s c → Cap s1 (c + x.list.length)) : PSt w w1 F1 G1 g gr n l (k + 1) s1 := by
  obtain ⟨c, h2, h3⟩ := h.cap
  refine ⟨h1, hl.trans h.len, c + x.list.length, hc c h2, ?_⟩
  rw [rest_next hx] at h3
  omega
theorem dopen_no {w : World} {F : Nat → Prop} {g : Nat} {s : DS} (h : DW w F g s) (i : Int) (hi : i < 0 ∨ (s.bs.length : Int) ≤ i) : Calls Try.prog 13 #[.pointer (some ⟨g, 0, none⟩), .int .i64 i] w fun e w' => e = .returned (.int .i64 0) ∧ w = w' := by
  obtain ⟨gb, C, v, f, h⟩ := h; exact open_no h i hi
theorem new_bad (n : Int) (h : n < 1 ∨ 480 < n) (w : World) : Calls Try.prog 8 #[.int .i64 n] w fun e w' => e = .returned (.tuple #[.pointer none, .int .i64 1]) ∧ w = w' := new_no n h w
theorem plays_no (a0 : Int) (A1 : Option Addr) (n1 c1 : Nat) (w : World) (h : a0 < 1 ∨ 480 < a0) :
    Calls Try.prog 5 #[.int .i64 a0, .slice A1 n1 c1] w fun e w' => e = .returned (.bool true) ∧ Below w.heap.size w w' := by
  have HN := Aside0.mk (new_no a0 h w)
  by_cases h1 : a0 < 1
  case' pos => have b1 : decide (a0 < 1) = true := decide_eq_true h1
  case' neg =>
    have b1 : decide (a0 < 1) = false := decide_eq_false h1
    have b2 : decide (480 < a0) = true := decide_eq_true (h.elim (fun h => absurd h h1) id)
  all_goals
    clear h
    go_enter Try.func5, Try.ntmps5
    go_wp2_with (first | (go_at_call 8; (with_reducible refine HN.out.mono ?_); rintro e w1 ⟨rfl, rfl⟩) | (go_at_call 9; (with_reducible refine (awake_calls _).mono ?_); rintro e w2 ⟨rfl, hb⟩; have HB := Aside0.mk hb; clear hb))
    go_ret
    exact ⟨rfl, HB.out⟩
theorem PutP.far {w w' : World} {F : Nat → Prop} {g : Nat} {s : DS} (h : PutP w w' F g s) : ∀ k, k < w.heap.size → ¬ F k → w'.heap[k]? = w.heap[k]? := by
  obtain ⟨F1, _, hc⟩ := h; exact hc.far
theorem RPutP.far {w w' : World} {F : Nat → Prop} {g : Nat} {s : DS} (h : RPutP w w' F g s) : ∀ k, k < w.heap.size → ¬ F k → w'.heap[k]? = w.heap[k]? := by
  obtain ⟨F1, _, hc⟩ := h; exact hc.far
theorem PutP.size {w w' : World} {F : Nat → Prop} {g : Nat} {s : DS} (h : PutP w w' F g s) : w.heap.size ≤ w'.heap.size := by
  obtain ⟨F1, _, hc⟩ := h; exact hc.size
/-- A call of package disk, where a box has been made behind the disks. -/
theorem box_far {w wr w' : World} {F G : Nat → Prop} {g gr : Nat} {sd sr s' : DS} {o : Obj} (h : Two w wr F G g gr sd sr) (hp : PutP (wr.alloc o) w' F g s') : w'.heap[wr.heap.size]? = (wr.alloc o).heap[wr.heap.size]? :=
  hp.far _ (by rw [World.size_alloc]; omega) (fun hF => Nat.lt_irrefl _ (h.d.lt _ hF))
set_option maxHeartbeats 4000000 in
set_option maxRecDepth 100000 in
theorem plays_yes (n : Nat) (A1 : Option Addr) (c1 : Nat) (l1 : List Ac) (w : World) (h1 : 1 ≤ n) (h2 : n ≤ 480) (hC : Kd.C kAc w A1 l1.length l1) (hsum : rest l1 0 ≤ 1048576) (hwf : ∀ x ∈ l1, x.n ≤ 9223372036854775807) :
    Calls Try.prog 5 #[.int .i64 (n : Int), .slice A1 l1.length c1] w fun e w' => e = .returned (.bool true) ∧ Below w.heap.size w w' := by
  obtain ⟨n1, hn1⟩ : ∃ q, l1.length = q := ⟨_, rfl⟩
  have hn63 := hC.2.1
  rw [hn1] at hC hn63
  rw [hn1]
  have HL := Aside0.mk hn1
  have HC := Aside0.mk hC
  have HSUM := Aside0.mk hsum
  have HWF := Aside0.mk hwf
  have HNB := Aside0.mk (And.intro h1 h2)
  have b1 : decide ((n : Int) < 1) = false := decide_eq_false (by omega)
  have b2 : decide (480 < (n : Int)) = false := decide_eq_false (by omega)
  clear hC hsum hwf hn1 h1 h2
  go_enter Try.func5, Try.ntmps5
  go_wp2_with (first | (go_at_call 8; (with_reducible refine (new_ok n HNB.out.1 HNB.out.2 _).mono ?_); rintro e w1 ⟨g, F, rfl, hd, hF, hb⟩; have HD := Aside0.mk hd; have HF := Aside0.mk hF; have HB := Aside0.mk hb; clear hd hF hb) | (go_at_call 9; (with_reducible refine (awake_calls _).mono ?_); rintro e w2 ⟨rfl, hb⟩; have HD2 := Aside0.mk (HD.out.below hb); have HB2 := Aside0.mk (HB.out.trans (hb.mono HB.out.size)); clear hb) | (go_at_call 15; (with_reducible refine (rnew_calls n HNB.out.1 HNB.out.2 _).mono ?_); rintro e w3 ⟨rfl, hr, hb⟩; have HR3 := Aside0.mk hr; have HB3 := Aside0.mk hb; clear hr hb))
  obtain ⟨gr, hgr⟩ : ∃ q, w2.heap.size = q := ⟨_, rfl⟩
  have hst : ∃ G, PSt w w3 F G g gr n l1 0 (newS n) := by
    obtain ⟨G, hr, hG⟩ := HR3.out
    rw [hgr] at hr hG
    have hb3 := HB3.out
    rw [hgr] at hb3
    refine ⟨G, ⟨HD2.out.below HB3.out, hr, fun k hF hG2 => by have := hG k hG2; have := HD2.out.lt k hF; omega, HF.out, fun k hk => by have := hG k hk; have := HB2.out.size; omega, HB2.out.trans (HB3.out.mono HB2.out.size)⟩, List.length_replicate, 0, fun i b hi => by obtain ⟨_, rfl⟩ := newS_at hi; exact Nat.le_refl _, by have := HSUM.out; omega⟩
  rw [hgr]
  have HST := Aside0.mk hst
  clear hst hgr HD HF HB HD2 HB2 HR3 HB3 b1 b2
  go_loopg [8] 100 (fun gg i wr => ∃ (k : Nat) (F1 G1 : Nat → Prop) (s : DS), k ≤ n1 ∧ k ≤ 100 ∧ 100 - k ≤ gg ∧ i = .int .i64 k ∧ Aside0 (PSt w wr F1 G1 g gr n l1 k s))
  case atStart =>
    obtain ⟨G, h⟩ := HST.out
    exact ⟨0, F, G, newS n, Nat.zero_le _, Nat.zero_le _, Nat.le_refl _, rfl, ⟨h⟩⟩
  case round =>
    clear HST
    obtain ⟨k, F1, G1, s, hk1, hk100, hgk, rfl, HS⟩ := hrel
    by_cases hall : k < n1 ∧ k < 100
    · obtain ⟨hlt, hl100⟩ := hall
      have b1 : decide (k < n1) = true := decide_eq_true hlt
      have b1i : decide ((k : Int) < (n1 : Int)) = true := decide_eq_true (by omega)
      have b2 : decide ((k : Int) < 100) = true := decide_eq_true (by omega)
      obtain ⟨x, hx⟩ : ∃ x, l1[k]? = some x := ⟨_, List.getElem?_eq_getElem (by have := HL.out; omega)⟩
      obtain ⟨ad, Al, cl, Ak, ck, rfl, ca0, ca1, ca2, ca3, hCl, hCk⟩ := at_A HC.out hx
      have HX := Aside0.mk hx
      have HCL := Aside0.mk hCl
      have HCK := Aside0.mk hCk
      have ca0 := pw_cell_below HS.out.two.bl ca0
      have ca1 := pw_cell_below HS.out.two.bl ca1
      have ca2 := pw_cell_below HS.out.two.bl ca2
      have ca3 := pw_cell_below HS.out.two.bl ca3
      obtain ⟨what, hwhat⟩ : ∃ q, x.what = q := ⟨_, rfl⟩
      obtain ⟨xn, hxn⟩ : ∃ q, x.n = q := ⟨_, rfl⟩
      obtain ⟨ql, hql⟩ : ∃ q, x.list.length = q := ⟨_, rfl⟩
      obtain ⟨qk, hqk⟩ : ∃ q, x.keep.length = q := ⟨_, rfl⟩
      rw [hwhat] at ca0
      rw [hxn] at ca1
      rw [hql] at ca2
      rw [hqk] at ca3
      have HQL := Aside0.mk hql
      have HQK := Aside0.mk hqk
      have HXN := Aside0.mk hxn
      have hkz : (0 : Int) ≤ (k : Int) := by omega
      have hkn : (k : Int) < (n1 : Int) := by omega
      have HK := Aside0.mk (And.intro hlt hl100)
      clear hx hCl hCk hwhat hxn hql hqk
      have hcase : what = 0 ∨ what = 1 ∨ what = 2 ∨ what = 3 ∨ ((what == 0) = false ∧ (what == 1) = false ∧ (what == 2) = false ∧ (what == 3) = false) := by
        by_cases e0 : what = 0
        · exact .inl e0
        by_cases e1 : what = 1
        · exact .inr (.inl e1)
        by_cases e2 : what = 2
        · exact .inr (.inr (.inl e2))
        by_cases e3 : what = 3
        · exact .inr (.inr (.inr (.inl e3)))
        exact .inr (.inr (.inr (.inr ⟨beq_eq_false_iff_ne.2 e0, beq_eq_false_iff_ne.2 e1, beq_eq_false_iff_ne.2 e2, beq_eq_false_iff_ne.2 e3⟩)))
      obtain ⟨c0, hc0, hc1⟩ := HS.out.cap
      have hql2 : ql + rest l1 (k + 1) = rest l1 k := by rw [rest_next HX.out, HQL.out]
      have HC0 := Aside0.mk hc0
      have HC1 : Aside0 (c0 + ql ≤ 1048576) := ⟨by omega⟩
      have HXNL : Aside0 (xn ≤ 9223372036854775807) := ⟨by rw [← HXN.out]; exact HWF.out x (List.mem_of_getElem? HX.out)⟩
      have HT0 : Aside0 (∀ o, Two w (wr.alloc o) F1 G1 g gr (nrm s) s) := ⟨fun o => HS.out.two.below (grown_below wr o)⟩
      have HLO : Aside0 ((nrm s).left ≤ 9223372036854775807) := ⟨by have := HS.out.lo; show max s.left (-1) ≤ _; omega⟩
      clear hc0 hc1 hql2
      rcases hcase with rfl | rfl | rfl | rfl | ⟨e0, e1, e2, e3⟩
      case' inl =>
        obtain ⟨q, hq⟩ : ∃ q, (putF s x.list).2 = q := ⟨_, rfl⟩
        obtain ⟨s1, hs1⟩ : ∃ q, (putF s x.list).1 = q := ⟨_, rfl⟩
        have HQ := Aside0.mk hq
        have HS1 := Aside0.mk hs1
        have hcon : ∀ o, Calls Try.prog 10 #[.pointer (some ⟨g, 0, none⟩), .slice Al ql cl] (wr.alloc o) fun e w' => e = .returned (.int .i64 q) ∧ PutP (wr.alloc o) w' F1 g (nrm s1) := fun o => by
          have h := dput_all (HT0.out o).d HLO.out Al cl ql x.list HQL.out (RW.of_C HCL.out (HT0.out o).bl (HT0.out o).bF) (by have := HC1.out; omega) (s := nrm s) (q := c0) HC0.out (by have := HC1.out; omega)
          rw [putF_nrm, hq, hs1] at h
          exact h
        have HCON := Aside0.mk hcon
        have hcon2 : ∀ (W : World) (F2 : Nat → Prop), Two w W F2 G1 g gr (nrm s1) s → Calls Try.prog 16 #[.pointer (some ⟨gr, 0, none⟩), .slice Al ql cl] W fun e w' => e = .returned (.int .i64 q) ∧ RPutP W w' G1 gr s1 := fun W F2 ht => by
          have h := rput_all ht.r Al cl ql x.list HQL.out (RW.of_C HCL.out ht.bl ht.bG) (by have := HC1.out; omega) (q := c0) HC0.out (by have := HC1.out; omega)
          rw [hq, hs1] at h
          exact h
        have HCON2 := Aside0.mk hcon2
        clear hq hs1 hcon hcon2
        go_wp2_with (first | (go_at_call 10; (with_reducible refine (HCON.out _).mono ?_); rintro e w4 ⟨rfl, hp⟩; have hbx := (box_far HS.out.two hp).trans (blk_new wr (.cells #[.int .i64 0, .int .i64 xn, .slice Al ql cl, .slice Ak qk ck] 46)); have cb1 := blk_cell hbx 1; have cb2 := blk_cell hbx 2; have cb3 := blk_cell hbx 3; obtain ⟨F2, ht⟩ := (HT0.out _).onD hp; have HT4 := Aside0.mk ht; clear hp ht hbx) | (go_at_call 16; (with_reducible refine (HCON2.out _ _ HT4.out).mono ?_); rintro e w5 ⟨rfl, hp⟩; obtain ⟨G2, ht⟩ := HT4.out.onR hp; have HT5 := Aside0.mk ht; clear hp ht))
        have HNX : Aside0 (PSt w w5 F2 G2 g gr n l1 (k + 1) s1) := ⟨HS.out.next HX.out HT5.out (by rw [← HS1.out]; exact putF_len s x.list) (fun c hc => by rw [← HS1.out]; exact putF_cap hc x.list)⟩
        clear HQ HS1 HCON HCON2 HT4 HT5
      case' inr.inl =>
        obtain ⟨q, hq⟩ : ∃ q, (getF s xn).2 = q := ⟨_, rfl⟩
        obtain ⟨tx, htx⟩ : ∃ q, (getF s xn).1 = q := ⟨_, rfl⟩
        have hcon : ∀ o, Calls Try.prog 12 #[.pointer (some ⟨g, 0, none⟩), .int .i64 xn] (wr.alloc o) fun e w' => ∃ A c, e = .returned (.tuple #[.slice A tx.length c, .int .i64 q]) ∧ (∀ W : World, Below w'.heap.size w' W → (convert 23 9 (.slice A tx.length c)).run Try.prog W = .ok (.string (str tx)) W) ∧ Below (wr.alloc o).heap.size (wr.alloc o) w' := fun o => by
          have h := dget_all (HT0.out o).d xn
          rw [show getF (nrm s) xn = getF s xn from rfl, hq, htx] at h
          refine h.mono fun e w' h => ?_
          obtain ⟨v, he, hr, hb⟩ := h
          obtain ⟨A, c, rfl⟩ := Kd.R_slice hr
          exact ⟨A, c, he, fun W hW => conv_str (Kd.C_below (Kd.R_reads' hr).2.2 hW), hb⟩
        have HCON := Aside0.mk hcon
        have hcon2 : ∀ (W : World), Two w W F1 G1 g gr (nrm s) s → Calls Try.prog 17 #[.pointer (some ⟨gr, 0, none⟩), .int .i64 xn] W fun e w' => e = .returned (.tuple #[.string (str tx), .int .i64 q]) ∧ Below W.heap.size W w' := fun W ht => by
          have h := rget_all ht.r xn (q := c0) HC0.out (by have := HC1.out; omega)
          rw [hq, htx] at h
          exact h
        have HCON2 := Aside0.mk hcon2
        obtain ⟨stx, hstx⟩ : ∃ q, str tx = q := ⟨_, rfl⟩
        rw [hstx] at HCON HCON2
        clear hq htx hcon hcon2 hstx
        go_wp2_with (first | (go_at_call 12; (with_reducible refine (HCON.out _).mono ?_); rintro e w4 ⟨A4, c4, rfl, hcv, hb⟩; have hbx := (blk_below (blk_new wr (.cells #[.int .i64 1, .int .i64 xn, .slice Al ql cl, .slice Ak qk ck] 46)) hb); have cb1 := blk_cell hbx 1; have HT4 := Aside0.mk ((HT0.out _).below hb); have hcv := hcv _ (Below.refl _ _); clear hb hbx) | (go_at_call 17; (with_reducible refine (HCON2.out _ HT4.out).mono ?_); rintro e w5 ⟨rfl, hb⟩; have HT5 := Aside0.mk (HT4.out.below hb); clear hb))
        have HNX : Aside0 (PSt w w5 F1 G1 g gr n l1 (k + 1) s) := ⟨HS.out.next HX.out HT5.out rfl (fun c hc => hc.mono (by omega))⟩
        clear HCON HCON2 HT4 HT5
      case' inr.inr.inl =>
        obtain ⟨q, hq⟩ : ∃ q, (barF s).2 = q := ⟨_, rfl⟩
        obtain ⟨s1, hs1⟩ : ∃ q, (barF s).1 = q := ⟨_, rfl⟩
        have HS1 := Aside0.mk hs1
        have hcon : ∀ o, Calls Try.prog 14 #[.pointer (some ⟨g, 0, none⟩)] (wr.alloc o) fun e w' => e = .returned (.int .i64 q) ∧ PutP (wr.alloc o) w' F1 g (nrm s1) := fun o => by
          have h := dbar_all (HT0.out o).d HLO.out
          rw [barF_nrm, hq, hs1] at h
          exact h
        have HCON := Aside0.mk hcon
        have hcon2 : ∀ (W : World) (F2 : Nat → Prop), Two w W F2 G1 g gr (nrm s1) s → Calls Try.prog 18 #[.pointer (some ⟨gr, 0, none⟩)] W fun e w' => e = .returned (.int .i64 q) ∧ RPutP W w' G1 gr s1 := fun W F2 ht => by
          have h := rbar_all ht.r (q := c0) HC0.out (by have := HC1.out; omega)
          rw [hq, hs1] at h
          exact h
        have HCON2 := Aside0.mk hcon2
        clear hq hs1 hcon hcon2
        go_wp2_with (first | (go_at_call 14; (with_reducible refine (HCON.out _).mono ?_); rintro e w4 ⟨rfl, hp⟩; obtain ⟨F2, ht⟩ := (HT0.out _).onD hp; have HT4 := Aside0.mk ht; clear hp ht) | (go_at_call 18; (with_reducible refine (HCON2.out _ _ HT4.out).mono ?_); rintro e w5 ⟨rfl, hp⟩; obtain ⟨G2, ht⟩ := HT4.out.onR hp; have HT5 := Aside0.mk ht; clear hp ht))
        have HNX : Aside0 (PSt w w5 F2 G2 g gr n l1 (k + 1) s1) := ⟨HS.out.next HX.out HT5.out (by rw [← HS1.out]; exact barF_len s) (fun c hc => by rw [← HS1.out]; exact (barF_cap hc).mono (by omega))⟩
        clear HS1 HCON HCON2 HT4 HT5
      case' inr.inr.inr.inl =>
        have hcon : ∀ o, Calls Try.prog 19 #[.pointer (some ⟨g, 0, none⟩), .int .i64 xn] (wr.alloc o) fun e w' => e = .returned (.tuple #[]) ∧ PutP (wr.alloc o) w' F1 g (nrm ⟨s.off, xn, s.bs⟩) := fun o => fail_at (HT0.out o).d xn _ rfl
        have HCON := Aside0.mk hcon
        clear hcon
        go_wp2_with (first | (go_at_call 19; (with_reducible refine (HCON.out _).mono ?_); rintro e w4 ⟨rfl, hp⟩; have hbx := (box_far HS.out.two hp).trans (blk_new wr (.cells #[.int .i64 3, .int .i64 xn, .slice Al ql cl, .slice Ak qk ck] 46)); have cb1 := blk_cell hbx 1; have cb2 := blk_cell hbx 2; have cb3 := blk_cell hbx 3; obtain ⟨F2, ht⟩ := (HT0.out _).onD hp; have HT4 := Aside0.mk ht; obtain ⟨gL4, gO4, cL4, cO4, CL4, CO4, hx4⟩ := HT4.out.r; have cg4 := blk_cell hx4.hg 2; have fg4 := blk_frozen hx4.hg 2; clear hp ht hbx hx4))
        obtain ⟨G2, HT5⟩ := HT4.out.onR (HT4.out.r.set_left xn HXNL.out)
        have HNX : Aside0 (PSt w (w4.setCell ⟨gr, 2, none⟩ (.int .i64 xn)) F2 G2 g gr n l1 (k + 1) ⟨s.off, xn, s.bs⟩) := ⟨HS.out.next HX.out HT5 rfl (fun c hc => Cap.mono (s := s) hc (by omega))⟩
        obtain ⟨w5, hw5⟩ : ∃ q, w4.setCell ⟨gr, 2, none⟩ (.int .i64 xn) = q := ⟨_, rfl⟩
        rw [hw5] at HNX ⊢
        clear HCON HT4 HT5 cg4 fg4 hw5
      case' inr.inr.inr.inr =>
        have hcon : ∀ o, Calls Try.prog 11 #[.pointer (some ⟨g, 0, none⟩), .slice Ak qk ck] (wr.alloc o) fun e w' => e = .returned (.tuple #[]) ∧ PutP (wr.alloc o) w' F1 g (nrm (resF s x.keep)) := fun o => restart_at (HT0.out o).d Ak qk ck x.keep HQK.out (Kd.C_below (by rw [← HQK.out]; exact HCK.out) (HT0.out o).bl) (fun h0 ad e hF => by have h1 := C_lt HCK.out (by rw [HQK.out]; exact h0) ad e; have h2 := (HT0.out o).bF _ hF; omega) (fun h0 ad e => Nat.lt_of_lt_of_le (C_lt HCK.out (by rw [HQK.out]; exact h0) ad e) (HT0.out o).bl.size)
        have HCON := Aside0.mk hcon
        have hcon2 : ∀ (W : World) (F2 : Nat → Prop), Two w W F2 G1 g gr (nrm (resF s x.keep)) s → Calls Try.prog 20 #[.pointer (some ⟨gr, 0, none⟩), .slice Ak qk ck] W fun e w' => e = .returned (.tuple #[]) ∧ RPutP W w' G1 gr (resF s x.keep) := fun W F2 ht => rres_all ht.r Ak qk ck x.keep HQK.out (Kd.C_below (by rw [← HQK.out]; exact HCK.out) ht.bl) (fun h0 ad e hF => by have h1 := C_lt HCK.out (by rw [HQK.out]; exact h0) ad e; have h2 := ht.bG _ hF; omega) (fun h0 ad e => Nat.lt_of_lt_of_le (C_lt HCK.out (by rw [HQK.out]; exact h0) ad e) ht.bl.size) (q := c0) HC0.out (by have := HC1.out; omega)
        have HCON2 := Aside0.mk hcon2
        clear hcon hcon2
        go_wp2_with (first | (go_at_call 11; (with_reducible refine (HCON.out _).mono ?_); rintro e w4 ⟨rfl, hp⟩; have hbx := (box_far HS.out.two hp).trans (blk_new wr (.cells #[.int .i64 what, .int .i64 xn, .slice Al ql cl, .slice Ak qk ck] 46)); have cb1 := blk_cell hbx 1; have cb2 := blk_cell hbx 2; have cb3 := blk_cell hbx 3; obtain ⟨F2, ht⟩ := (HT0.out _).onD hp; have HT4 := Aside0.mk ht; clear hp ht hbx) | (go_at_call 20; (with_reducible refine (HCON2.out _ _ HT4.out).mono ?_); rintro e w5 ⟨rfl, hp⟩; obtain ⟨G2, ht⟩ := HT4.out.onR hp; have HT5 := Aside0.mk ht; clear hp ht))
        have HNX : Aside0 (PSt w w5 F2 G2 g gr n l1 (k + 1) (resF s x.keep)) := ⟨HS.out.next HX.out HT5.out (resF_len s x.keep) (fun c hc => (resF_cap s x.keep).mono (by omega))⟩
        clear HCON HCON2 HT4 HT5
      all_goals
        clear HX HCL HCK HQL HQK HXN HXNL HC0 HC1 HLO HT0 HS
        obtain ⟨F5, G5, s5, HN5⟩ : ∃ F5 G5 s5, Aside0 (PSt w w5 F5 G5 g gr n l1 (k + 1) s5) := ⟨_, _, _, HNX⟩
        clear HNX
        obtain ⟨W0, rfl⟩ : ∃ W0 : World, W0 = w5 := ⟨_, rfl⟩
        obtain ⟨gL, gO, cL, cO, CL, CO, hxr⟩ := HN5.out.two.r
        have HXR := Aside0.mk hxr
        clear hxr
        go_loopg [16] 12 (fun gj j w' => ∃ m : Nat, m ≤ n ∧ m ≤ 12 ∧ 12 - m ≤ gj ∧ j = .int .i64 m ∧ Aside0 (Below W0.heap.size W0 w'))
        case atStart => exact ⟨0, Nat.zero_le _, Nat.zero_le _, Nat.le_refl _, rfl, ⟨Below.refl _ _⟩⟩
        case round =>
          obtain ⟨m, hmn, hm12, hgm, rfl, HBW⟩ := hrel
          by_cases hm : m < n ∧ m < 12
          · obtain ⟨hm1, hm2⟩ := hm
            have b3 : decide (m < n) = true := decide_eq_true hm1
            have b4 : decide ((m : Int) < 12) = true := decide_eq_true (by omega)
            obtain ⟨b, hb⟩ : ∃ b, s5.bs[m]? = some b := ⟨_, List.getElem?_eq_getElem (by have := HN5.out.len; omega)⟩
            obtain ⟨q, hq⟩ : ∃ q, b.opn.length = q := ⟨_, rfl⟩
            have hxw := HXR.out.below HBW.out
            obtain ⟨v, hv, hr⟩ := hxw.vO m b hb
            obtain ⟨Av, cv, rfl⟩ := Kd.R_slice hr
            have cg := blk_cell hxw.hg 1
            rw [HN5.out.len] at cg
            have cb := (blk_cell hxw.hO m).trans hv
            rw [List.length_map, hq] at cb
            have hopn : ∀ W, Below W0.heap.size W0 W → Calls Try.prog 13 #[.pointer (some ⟨g, 0, none⟩), .int .i64 (m : Int)] W fun e w' => e = .returned (.int .i64 (q : Int)) ∧ W = w' := fun W hW => open_at (HN5.out.two.below hW).d (i := m) (b := b) (m : Int) rfl hb (q : Int) (by rw [hq])
            have HOPN := Aside0.mk hopn
            have hmz : (0 : Int) ≤ (m : Int) := by omega
            have hmn2 : (m : Int) < (n : Int) := by omega
            have HM := Aside0.mk hgm
            clear hb hq hxw hv hr hopn hgm
            go_wp2_with fail
            go_quiet ((go_at_call 13; refine Calls.quiet_of_same ((HOPN.out _ (pw_below_drewN HBW.out _)).mono fun e w' h => ⟨h.1, h.2.symm⟩)))
            go_wp2_with fail
            go_roundg (12 - (m + 1))
            case measure => have := HM.out; omega
            case rel => exact ⟨m + 1, by omega, by omega, Nat.le_refl _, by go_num, ⟨pw_below_drewN HBW.out _⟩⟩
          · by_cases hm1 : m < n
            case' pos =>
              have b3 : decide (m < n) = true := decide_eq_true hm1
              have b4 : decide ((m : Int) < 12) = false := decide_eq_false (by omega)
            case' neg => have b3 : decide (m < n) = false := decide_eq_false hm1
            all_goals
              have HN6 := Aside0.mk (PSt.mk (HN5.out.two.below HBW.out) HN5.out.len HN5.out.cap)
              clear hm hm1 HXR HN5 HBW
              go_wp2_with fail
              go_roundg (100 - (k + 1))
              case measure => have := HK.out.2; omega
              case rel => exact ⟨k + 1, F5, G5, s5, by have := HK.out.1; omega, by have := HK.out.2; omega, Nat.le_refl _, by go_num, HN6⟩
    · have hopn1 := dopen_no HS.out.two.d (-1) (.inl (by omega))
      have hopn2 := dopen_no HS.out.two.d (n : Int) (.inr (by rw [show (nrm s).bs.length = n from HS.out.len]; exact Int.le_refl _))
      have hbl := blocks_at HS.out.two.d (n : Int) (by rw [show (nrm s).bs.length = n from HS.out.len])
      have HO1 := Aside0.mk hopn1
      have HO2 := Aside0.mk hopn2
      have HBK := Aside0.mk hbl
      clear hopn1 hopn2 hbl
      by_cases hk2 : k < n1
      case' pos =>
        have b1 : decide (k < n1) = true := decide_eq_true hk2
        have b2 : decide ((k : Int) < 100) = false := decide_eq_false (by omega)
      case' neg => have b1 : decide (k < n1) = false := decide_eq_false hk2
      all_goals
        clear hall hk2
        go_wp2_with (first | (go_at_call 13; (with_reducible refine HO1.out.mono ?_); rintro e w6 ⟨rfl, rfl⟩) | (go_at_call 13; (with_reducible refine HO2.out.mono ?_); rintro e w6 ⟨rfl, rfl⟩) | (go_at_call 21; (with_reducible refine HBK.out.mono ?_); rintro e w6 ⟨rfl, rfl⟩))
        go_ret
        exact ⟨rfl, HS.out.two.bl⟩
theorem plays_calls (a0 : Int) (A1 : Option Addr) (c1 : Nat) (l1 : List Ac) (w : World) (hC : Kd.C kAc w A1 l1.length l1) (hsum : rest l1 0 ≤ 1048576) (hwf : ∀ x ∈ l1, x.n ≤ 9223372036854775807) :
    Calls Try.prog 5 #[.int .i64 a0, .slice A1 l1.length c1] w fun e w' => e = .returned (.bool true) ∧ Below w.heap.size w w' := by
  by_cases h : a0 < 1 ∨ 480 < a0
  · exact plays_no a0 A1 l1.length c1 w h
  · obtain ⟨n, rfl⟩ : ∃ n : Nat, a0 = (n : Int) := ⟨a0.toNat, by omega⟩
    exact plays_yes n A1 c1 l1 w (by omega) (by omega) hC hsum hwf
end Go.Proofs.Ytiengbimednonaa.Disk
