-- Printed out of the translation by a program; functions that were proved by hand stand among them. Lean checks it.
import Derived.Test.YtnccbebjligpdaaPAllx0
import Derived.Test.YtnccbebjligpdaaPAllx2
import Derived.Test.YtnccbebjligpdaaPAllx3
import Derived.Test.YtnccbebjligpdaaPAllx5
namespace Go.Proofs.Ytnccbebjligpdaa.PAll
open Go.RowKit Go.Proofs.YtnccbebjligpdaaW.PrintWords Go.Proofs.YtnccbebjligpdaaW.PrintLast Go.Proofs.YtnccbebjligpdaaW.PrintMore
attribute [local go_sem] max2_int min2_int max_two min_two max_three min_three max_four min_four   -- for this text's walks alone
set_option linter.unusedVariables false
set_option linter.unusedSimpArgs false

/-! ### drydockref10_Encode: function 13 -/
def ref_Encode.row (x : S41) : List Int := [x.f0, (x.f1.size : Int)] ++ bytesOf x.f1 ++ List.replicate (17 - x.f1.size) 0
def ref_Encode.rows (l : List S41) : List Int := l.flatMap ref_Encode.row
theorem ref_Encode.row_len (x : S41) (h : x.f1.size ≤ 17) : (ref_Encode.row x).length = 19 := by
  unfold ref_Encode.row
  rw [List.length_append, List.length_append, bytesOf_length, List.length_replicate]
  simp; omega
theorem ref_Encode.rows_len : ∀ (l : List S41), (∀ x ∈ l, x.f1.size ≤ 17) → (ref_Encode.rows l).length = 19 * l.length
  | [], _ => rfl
  | x :: r, h => by
    unfold ref_Encode.rows
    rw [List.flatMap_cons, List.length_append, ref_Encode.row_len x (h x (List.mem_cons_self ..))]
    have := ref_Encode.rows_len r (fun y hy => h y (List.mem_cons_of_mem _ hy))
    unfold ref_Encode.rows at this
    rw [this, List.length_cons]; omega
def ref_Encode.body (l : List S41) (k : Nat) : List Int := [(l.length : Int), 0] ++ ref_Encode.rows (l.take k)
theorem ref_Encode.body_len (l : List S41) (h : ∀ x ∈ l, x.f1.size ≤ 17) (k : Nat) (hk : k ≤ l.length) : (ref_Encode.body l k).length = 2 + 19 * k := by
  unfold ref_Encode.body
  rw [List.length_append, ref_Encode.rows_len _ (fun x hx => h x (List.mem_of_mem_take hx)), List.length_take, Nat.min_eq_left hk]
  simp
theorem ref_Encode.body_succ (l : List S41) (k : Nat) (h : k < l.length) : ref_Encode.body l (k + 1) = ref_Encode.body l k ++ [l[k].f0, (l[k].f1.size : Int)] ++ bytesOf l[k].f1 ++ List.replicate (17 - l[k].f1.size) 0 := by
  unfold ref_Encode.body ref_Encode.rows
  rw [List.take_succ_eq_append_getElem h, List.flatMap_append, List.flatMap_singleton]
  unfold ref_Encode.row
  simp only [List.append_assoc]
def drydockref10_Encode.f (k : Nat) (l0 : List S41) : Option (List Int × Int) := (drydockref10_Sound.f k [l0]).bind fun b => (if b = true then (if l0.length ≤ 3 ∧ ∀ x ∈ l0, (0 ≤ x.f0 ∧ x.f0 < 256) ∧ x.f1.size ≤ 17 then (drydockref04_Seal.f (ref_Encode.body l0 l0.length)).bind fun r => some (r, 0) else none) else some ([], 2))
theorem drydockref10_Encode.mono : ∀ a0 k, LeO (drydockref10_Encode.f k a0) (drydockref10_Encode.f (k + 1) a0) := by
  intro a0 k
  unfold drydockref10_Encode.f
  exact LeO.bind (drydockref10_Sound.mono _ _) (fun b => LeO.refl _)
theorem ref_Encode.two (w : World) (a b : Int) : ReadsRow (fun (x : Int) cs => cs = [Value.int .u8 x]) 1 (w.alloc (.cells #[.int .u8 a, .int .u8 b] 5)).drew (some ⟨w.heap.size, 0, none⟩) 2 [a, b] := by
  have hb : (w.alloc (.cells #[.int .u8 a, .int .u8 b] 5)).drew.heap[w.heap.size]? = some (.cells #[.int .u8 a, .int .u8 b] 5 (0, 0)) := Array.getElem?_push_size
  refine ⟨rfl, by decide, fun _ => ⟨_, rfl, fun j p hj => ⟨[.int .u8 p], rfl, rfl, fun i u hi => ?_⟩⟩⟩
  cases i with
  | succ i => simp at hi
  | zero =>
    obtain rfl : Value.int .u8 p = u := by simpa using hi
    match j, hj with
    | 0, hj =>
      obtain rfl : a = p := by simpa using hj
      exact blk_cell hb 0
    | 1, hj =>
      obtain rfl : b = p := by simpa using hj
      exact blk_cell hb 1
    | j + 2, hj => simp at hj
set_option maxRecDepth 100000 in
set_option maxHeartbeats 8000000 in
theorem drydockref10_Encode.calls (k : Nat) (A0 : Option Addr) (c0 : Nat) (l0 : List S41) (r1 : List Int) (r2 : Int) (w : World) (hr0 : Kd.C k41 w A0 l0.length l0) (hc0 : l0.length ≤ c0) (h : drydockref10_Encode.f k l0 = some (r1, r2)) :
    Calls Try.prog 13 #[.slice A0 l0.length c0] w fun e w' => ∃ v0_ : Value, e = .returned (.tuple #[v0_, .int .i64 r2]) ∧ Kd.R (Kd.int .u8) 5 w' w.heap.size (fun _ => True) v0_ r1 ∧ Below w.heap.size w w' := by
  unfold drydockref10_Encode.f at h
  obtain ⟨b, hb, h⟩ := Option.bind_eq_some_iff.1 h
  have HR := Aside0.mk hr0
  have HC := Aside0.mk hc0
  have HA := Aside0.mk (below_alloc (Below.refl w.heap.size w) (.cells #[.slice A0 l0.length c0] 22))
  have HS := Aside0.mk (drydockref10_Sound.calls k (some ⟨w.heap.size, 0, none⟩) 1 [l0] b (w.alloc (.cells #[.slice A0 l0.length c0] 22)) (entry_Encode.one (Kd.C_alloc hr0 _) hc0 Array.getElem?_push_size) (Nat.le_refl _) hb)
  change Aside0 (Calls _ _ #[.slice _ 1 1] _ _) at HS
  clear hr0 hc0 hb
  cases b with
  | false =>
    rw [if_neg (by decide)] at h
    obtain ⟨rfl, rfl⟩ := Prod.mk.inj (Option.some.inj h)
    clear h
    go_enter Try.func13, Try.ntmps13
    go_wp2_with fail
    ((with_reducible refine HS.out.mono ?_); rintro e w1 ⟨rfl, hb1⟩)
    have HB := Aside0.mk (HA.out.trans (hb1.mono HA.out.size))
    clear hb1
    go_wp2
    go_ret2
    exact ⟨_, rfl, Kd.R_nil _ _ _ _ _, HB.out⟩
  | true =>
  rw [if_pos rfl] at h
  split at h
  case isFalse => cases h
  rename_i hbd
  obtain ⟨h3, hsz⟩ := hbd
  obtain ⟨rr, hrr, h⟩ := Option.bind_eq_some_iff.1 h
  obtain ⟨rfl, rfl⟩ := Prod.mk.inj (Option.some.inj h)
  have HX := Aside0.mk hsz
  have HSL := Aside0.mk hrr
  have HBL := Aside0.mk (ref_Encode.body_len l0 (fun x hx => (hsz x hx).2))
  obtain ⟨n, hn⟩ : ∃ n, l0.length = n := ⟨_, rfl⟩
  have HN0 := Aside0.mk hn
  rw [hn] at h3 HS HC HA ⊢
  clear h hsz hrr hn
  go_enter Try.func13, Try.ntmps13
  go_wp2_with fail
  ((with_reducible refine HS.out.mono ?_); rintro e w1 ⟨rfl, hb1⟩)
  have HB := Aside0.mk (HA.out.trans (hb1.mono HA.out.size))
  clear hb1
  go_wp2_with (first | ((with_reducible refine gate_dst (N := 13) rfl ?_); (try (refine gate_guard (by rfl) ?_; dsimp only)); refine Kd.R_lit (Kd.int .u8) _ 5 ?hg (N := 13) ?hd (xs := ([(n : Int), 0] : List Int)) (inner := [.int .u8 (n : Int), .int .u8 0]) (ok := fun _ => True) (okp := fun _ => True) ?hr ?hp (fun _ hk => hk) trivial (Below.refl _ _) (Nat.le_refl _) (by simp) ?_; (case hd => rfl); (case hg => rfl); (case hr => first | (go_simp; done) | (go_simp; rfl)); (case hp => exact (Reps.one rfl (Reps.one rfl (Reps.none _ _)))); intro v2 w2 ho hb hg_ hnew_; clear hg_ hnew_; have HO := Aside0.mk (Kd.R_lower ho (below_size HB.out)); have HB2 := Aside0.mk (HB.out.trans (hb.mono HB.out.size)); clear ho hb))
  clear HB
  have HO2 : Aside0 (Kd.R (Kd.int .u8) 5 w2 w.heap.size (fun _ => True) v2 (ref_Encode.body l0 0)) := ⟨by
    have e : ref_Encode.body l0 0 = [(n : Int), 0] := by unfold ref_Encode.body; rw [HN0.out]; rfl
    rw [e]; exact HO.out⟩
  clear HO
  go_loopg [4, 5] n (fun gg v i wr => ∃ k : Nat, k ≤ n ∧ n - k ≤ gg ∧ i = .int .i64 k ∧ Aside0 (Kd.R (Kd.int .u8) 5 wr w.heap.size (fun _ => True) v (ref_Encode.body l0 k)) ∧ Aside0 (Below w.heap.size w wr))
  case atStart => exact ⟨0, Nat.zero_le _, by omega, rfl, HO2, HB2⟩
  case round =>
    clear HO2 HB2
    obtain ⟨k, hk, hgo, rfl, HO, HB⟩ := hrel
    by_cases hlt : k < n
    · have hkl : k < l0.length := by have := HN0.out; omega
      obtain ⟨ad, hA, hx0', hx1'⟩ := at_T41 HR.out (k : Int) (by omega) (by have := HN0.out; omega)
      rw [entry_sound.getT_nat l0 k hkl] at hx0' hx1'
      subst hA
      rw [Int.toNat_natCast] at hx0' hx1'
      have hb0 := Aside0.mk (World.block_lt_of_cell? w _ hx0')
      have hb1 := Aside0.mk (World.block_lt_of_cell? w _ hx1')
      have hfx := HX.out _ (List.getElem_mem hkl)
      have hbs := ref_Encode.body_succ l0 k hkl
      obtain ⟨x, hxe⟩ : ∃ x, l0[k] = x := ⟨_, rfl⟩
      rw [hxe] at hx0' hx1' hfx hbs
      obtain ⟨⟨hf0, hf1⟩, hf2⟩ := hfx
      have hx0 := Aside0.mk hx0'
      have hx1 := Aside0.mk hx1'
      have hy0 := (HB.out.cell hb0.out).trans hx0'
      have hy1 := (HB.out.cell hb1.out).trans hx1'
      have HBS := Aside0.mk hbs
      have hw0 : Aside0 (IntKind.wrap .u8 x.f0 = x.f0) := ⟨by unfold IntKind.wrap; simp [IntKind.bits, IntKind.signed]; omega⟩
      have hw1 : Aside0 (IntKind.wrap .u8 (x.f1.size : Int) = (x.f1.size : Int)) := ⟨by unfold IntKind.wrap; simp [IntKind.bits, IntKind.signed]; omega⟩
      obtain ⟨L, hL⟩ : ∃ L, ref_Encode.body l0 k = L := ⟨_, rfl⟩
      have HLL : Aside0 (L.length = 2 + 19 * k) := ⟨by rw [← hL]; exact HBL.out k (by have := HN0.out; omega)⟩
      rw [hL] at HO
      have HKL := Aside0.mk hL
      obtain ⟨Av, cv, ev⟩ := Kd.R_slice HO.out
      subst ev
      have hltz : (k : Int) < (n : Int) := by omega
      clear hx0' hx1' hxe hL hbs hkl
      go_wp2_with fail

      -- REGION encode
      refine start_ (n := 17) (S := fun w' => w'.cell? (ad.add (k * 2)) = some (.int .i64 x.f0) ∧ w'.cell? ⟨(ad.add (k * 2)).block, (ad.add (k * 2)).off + 1, none⟩ = some (.string x.f1)) (ds := []) #[false, false, false, false, false, false, false, false, false, false, false, false, false, false, false, false, false] (by kernel_rfl) rfl rfl ⟨((below_drew HB.out).cell hb0.out).trans hx0.out, (Below.cell (p := ⟨(ad.add (k * 2)).block, (ad.add (k * 2)).off + 1, none⟩) (below_drew HB.out) hb1.out).trans hx1.out⟩ (fun hHeld => ?_)
      refine pure_ (i := 0) (N := some 20) (v := ?_) (a' := ?_) #[true, false, false, false, false, false, false, false, false, false, false, false, false, false, false, false, false] rfl rfl (by kernel_rfl) (fun _ _ _ h => h) (Or.inl ⟨by rfl, ?_⟩) ?_ ?_
      rotate_left
      · intro w'
        go_simp
        with_reducible rfl
      rotate_left
      · simp only [Act.put, List.setIfInBounds_toArray, List.set_cons_zero, List.set_cons_succ, i64_w, i32_w]
        rfl
      refine pure_ (i := 1) (N := some 21) (v := ?_) (a' := ?_) #[true, true, false, false, false, false, false, false, false, false, false, false, false, false, false, false, false] rfl rfl (by kernel_rfl) (fun _ _ _ h => h) (Or.inl ⟨by rfl, ?_⟩) ?_ ?_
      rotate_left
      · intro w'
        go_simp
        with_reducible rfl
      rotate_left
      · simp only [Act.put, List.setIfInBounds_toArray, List.set_cons_zero, List.set_cons_succ, i64_w, i32_w]
        rfl
      refine pure_ (i := 2) (N := some 22) (v := ?_) (a' := ?_) #[true, true, true, false, false, false, false, false, false, false, false, false, false, false, false, false, false] rfl rfl (by kernel_rfl) (fun _ _ _ h => h) (Or.inl ⟨by rfl, ?_⟩) ?_ ?_
      rotate_left
      · intro w'
        go_simp
        with_reducible rfl
      rotate_left
      · simp only [Act.put, List.setIfInBounds_toArray, List.set_cons_zero, List.set_cons_succ, i64_w, i32_w]
        rfl
      refine pure_ (i := 3) (N := some 23) (v := ?_) (a' := ?_) #[true, true, true, true, false, false, false, false, false, false, false, false, false, false, false, false, false] rfl rfl (by kernel_rfl) (fun _ _ _ h => h) (Or.inl ⟨by rfl, ?_⟩) ?_ ?_
      rotate_left
      · intro w'
        go_simp
        with_reducible rfl
      rotate_left
      · simp only [Act.put, List.setIfInBounds_toArray, List.set_cons_zero, List.set_cons_succ, i64_w, i32_w]
        rfl
      refine pure_ (i := 4) (N := some 24) (v := ?_) (a' := ?_) #[true, true, true, true, true, false, false, false, false, false, false, false, false, false, false, false, false] rfl rfl (by kernel_rfl) (fun _ _ _ h => h) (Or.inl ⟨by rfl, ?_⟩) ?_ ?_
      rotate_left
      · intro w'
        go_simp
        with_reducible rfl
      rotate_left
      · simp only [Act.put, List.setIfInBounds_toArray, List.set_cons_zero, List.set_cons_succ, i64_w, i32_w]
        rfl
      refine pure_ (i := 7) (N := some 27) (v := ?_) (a' := ?_) #[true, true, true, true, true, false, false, true, false, false, false, false, false, false, false, false, false] rfl rfl (by kernel_rfl) (fun _ _ _ h => h) (Or.inl ⟨by rfl, ?_⟩) ?_ ?_
      rotate_left
      · intro w'
        go_simp
        with_reducible rfl
      rotate_left
      · simp only [Act.put, List.setIfInBounds_toArray, List.set_cons_zero, List.set_cons_succ, i64_w, i32_w]
        rfl
      refine pure_ (i := 8) (N := some 28) (v := ?_) (a' := ?_) #[true, true, true, true, true, false, false, true, true, false, false, false, false, false, false, false, false] rfl rfl (by kernel_rfl) (fun _ _ _ h => h) (Or.inl ⟨by rfl, ?_⟩) ?_ ?_
      rotate_left
      · intro w'
        go_simp
        with_reducible rfl
      rotate_left
      · simp only [Act.put, List.setIfInBounds_toArray, List.set_cons_zero, List.set_cons_succ, i64_w, i32_w]
        rfl
      refine pure_ (i := 9) (N := some 29) (v := ?_) (a' := ?_) #[true, true, true, true, true, false, false, true, true, true, false, false, false, false, false, false, false] rfl rfl (by kernel_rfl) (fun _ _ _ h => h) (Or.inl ⟨by rfl, ?_⟩) ?_ ?_
      rotate_left
      · intro w'
        go_simp
        with_reducible rfl
      rotate_left
      · simp only [Act.put, List.setIfInBounds_toArray, List.set_cons_zero, List.set_cons_succ, i64_w, i32_w]
        rfl
      refine pure_ (i := 10) (N := some 30) (v := ?_) (a' := ?_) #[true, true, true, true, true, false, false, true, true, true, true, false, false, false, false, false, false] rfl rfl (by kernel_rfl) (fun _ _ _ h => h) (Or.inl ⟨by rfl, ?_⟩) ?_ ?_
      rotate_left
      · intro w'
        go_simp
        with_reducible rfl
      rotate_left
      · simp only [Act.put, List.setIfInBounds_toArray, List.set_cons_zero, List.set_cons_succ, i64_w, i32_w]
        rfl
      refine take_ (i := 5) (N := some 25) (v := ?_) (a' := ?_) #[true, true, true, true, true, true, false, true, true, true, true, false, false, false, false, false, false] rfl rfl (by kernel_rfl) (fun _ _ _ h => h) (Or.inl ⟨by rfl, ?_⟩) hHeld ?_ ?_
      rotate_left
      · rintro w' ⟨s0, s1⟩
        go_simp
        with_reducible rfl
      rotate_left
      · simp only [Act.put, List.setIfInBounds_toArray, List.set_cons_zero, List.set_cons_succ, i64_w, i32_w]
        rfl
      refine pure_ (i := 6) (N := some 26) (v := ?_) (a' := ?_) #[true, true, true, true, true, true, true, true, true, true, true, false, false, false, false, false, false] rfl rfl (by kernel_rfl) (fun _ _ _ h => h) (Or.inl ⟨by rfl, ?_⟩) ?_ ?_
      rotate_left
      · intro w'
        go_simp
        with_reducible rfl
      rotate_left
      · simp only [Act.put, List.setIfInBounds_toArray, List.set_cons_zero, List.set_cons_succ, i64_w, i32_w]
        rfl
      refine take_ (i := 11) (N := some 31) (v := ?_) (a' := ?_) #[true, true, true, true, true, true, true, true, true, true, true, true, false, false, false, false, false] rfl rfl (by kernel_rfl) (fun _ _ _ h => h) (Or.inl ⟨by rfl, ?_⟩) hHeld ?_ ?_
      rotate_left
      · rintro w' ⟨s0, s1⟩
        go_simp
        with_reducible rfl
      rotate_left
      · simp only [Act.put, List.setIfInBounds_toArray, List.set_cons_zero, List.set_cons_succ, i64_w, i32_w]
        rfl
      refine pure_ (i := 12) (N := some 32) (v := ?_) (a' := ?_) #[true, true, true, true, true, true, true, true, true, true, true, true, true, false, false, false, false] rfl rfl (by kernel_rfl) (fun _ _ _ h => h) (Or.inl ⟨by rfl, ?_⟩) ?_ ?_
      rotate_left
      · intro w'
        go_simp
        with_reducible rfl
      rotate_left
      · simp only [Act.put, List.setIfInBounds_toArray, List.set_cons_zero, List.set_cons_succ, i64_w, i32_w]
        rfl
      refine pure_ (i := 13) (N := some 33) (v := ?_) (a' := ?_) #[true, true, true, true, true, true, true, true, true, true, true, true, true, true, false, false, false] rfl rfl (by kernel_rfl) (fun _ _ _ h => h) (Or.inl ⟨by rfl, ?_⟩) ?_ ?_
      rotate_left
      · intro w'
        go_simp
        with_reducible rfl
      rotate_left
      · simp only [Act.put, List.setIfInBounds_toArray, List.set_cons_zero, List.set_cons_succ, i64_w, i32_w]
        rfl
      refine one_ (i := 14) (N := some 34) #[true, true, true, true, true, true, true, true, true, true, true, true, true, true, true, false, false] rfl rfl (by kernel_rfl) (by decide) (fun K hK => ?_)
      refine value_ (w1 := ?_) (v := ?_) (by rfl) rfl ?_ ?_
      rotate_left 2
      · go_simp
        constructor
        · rfl
        · rfl
      have HBa : Aside0 (Below w.heap.size w ((wr.alloc (.cells #[.int .u8 (IntKind.wrap .u8 x.f0), .int .u8 (IntKind.wrap .u8 (x.f1.size : Int))] 5)).drew)) := ⟨below_drew (below_alloc HB.out _)⟩
      have HOa : Aside0 (Kd.R (Kd.int .u8) 5 ((wr.alloc (.cells #[.int .u8 (IntKind.wrap .u8 x.f0), .int .u8 (IntKind.wrap .u8 (x.f1.size : Int))] 5)).drew) w.heap.size (fun _ => True) (.slice Av L.length cv) L) := ⟨Kd.R_drew (Kd.R_alloc HO.out _)⟩
      have HRa := Aside0.mk (ref_Encode.two wr (IntKind.wrap .u8 x.f0) (IntKind.wrap .u8 (x.f1.size : Int)))
      refine hK.out _ _ ⟨(HBa.out.cell hb0.out).trans hx0.out, (Below.cell (p := ⟨(ad.add (k * 2)).block, (ad.add (k * 2)).off + 1, none⟩) HBa.out hb1.out).trans hx1.out⟩ (fun hHeld => ?_)
      clear hK K
      refine norm_ (a' := ?_) ?_ ?_
      rotate_left
      · show Act.put _ (some 34) _ = _
        simp only [Act.put, List.setIfInBounds_toArray, List.set_cons_zero, List.set_cons_succ, i64_w, i32_w]
        rfl
      refine one_ (i := 15) (N := some 35) #[true, true, true, true, true, true, true, true, true, true, true, true, true, true, true, true, false] rfl rfl (by kernel_rfl) (by decide) (fun K hK => ?_)
      refine Kd.R_append_rows_step (Kd.int .u8) (w0 := w) w.heap.size (by rfl) (.tmp 20) (.tmp 34) 23 5 (.int .u8 0) 1 rfl Try.underlying23 info5 rfl (by decide) (by omega) (.slice Av L.length cv) L [IntKind.wrap .u8 x.f0, IntKind.wrap .u8 (x.f1.size : Int)] (some ⟨wr.heap.size, 0, none⟩) 2 2 (fun _ => True) (fun _ => False) rfl rfl HOa.out HRa.out (fun _ _ h => h) (fun _ hk => hk.elim) (fun _ _ => trivial) HBa.out (below_size HBa.out) ?aL ?_
      (case aL => have hL_ := HLL.out; first | omega | exact Nat.le_of_lt hL_)
      intro v1 w2 ho hb hg hat
      have HO1 := Aside0.mk ho
      have HB1 := Aside0.mk hb
      clear ho hb hg hat
      refine hK.out _ _ ⟨(HB1.out.cell hb0.out).trans hx0.out, (Below.cell (p := ⟨(ad.add (k * 2)).block, (ad.add (k * 2)).off + 1, none⟩) HB1.out hb1.out).trans hx1.out⟩ (fun hHeld => ?_)
      clear hK K
      refine norm_ (a' := ?_) ?_ ?_
      rotate_left
      · show Act.put _ (some 35) _ = _
        simp only [Act.put, List.setIfInBounds_toArray, List.set_cons_zero, List.set_cons_succ, i64_w, i32_w]
        rfl
      refine pure_ (i := 16) (N := some 4) (v := ?_) (a' := ?_) #[true, true, true, true, true, true, true, true, true, true, true, true, true, true, true, true, true] rfl rfl (by kernel_rfl) (fun _ _ _ h => h) (Or.inl ⟨by rfl, ?_⟩) ?_ ?_
      rotate_left
      · intro w'
        go_simp
        with_reducible rfl
      rotate_left
      · simp only [Act.put, List.setIfInBounds_toArray, List.set_cons_zero, List.set_cons_succ, i64_w, i32_w]
        rfl
      refine done_ (by kernel_rfl) ?_
      -- END encode
      have HOb : Aside0 (Kd.R (Kd.int .u8) 5 w2 w.heap.size (fun _ => True) v1 (L ++ [x.f0, (x.f1.size : Int)])) := ⟨by have h1 := HO1.out; rw [hw0.out, hw1.out] at h1; exact h1⟩
      obtain ⟨q1, hq1⟩ : ∃ q1, L ++ [x.f0, (x.f1.size : Int)] = q1 := ⟨_, rfl⟩
      rw [hq1] at HOb
      have HL1 : Aside0 (q1.length = 4 + 19 * k) := ⟨by rw [← hq1, List.length_append, HLL.out]; simp; omega⟩
      obtain ⟨Ab, cb, ev⟩ := Kd.R_slice HOb.out
      subst ev
      have HQ1 := Aside0.mk hq1
      have hy2 := (Below.cell (p := ad.add (k * 2)) HB1.out hb0.out).trans hx0.out
      have hy3 := (Below.cell (p := ⟨(ad.add (k * 2)).block, (ad.add (k * 2)).off + 1, none⟩) HB1.out hb1.out).trans hx1.out
      clear hy0 hy1 HO1 HO HB hHeld HBa HOa HRa hq1
      go_wp2_with (first | (at_builtin; refine print_append_str (w0 := w) w.heap.size rfl (.tmp 36) (.tmp 41) 23 9 5 rfl Try.underlying23 Try.underlying9 info5 (.slice Ab q1.length cb) q1 x.f1 rfl rfl ?aO ?aB ?aS ?aL ?_; (case aO => exact Kd.own_of_R HOb.out); (case aB => exact HB1.out); (case aS => exact below_size HB1.out); (case aL => have hL_ := HL1.out; first | omega | exact Nat.le_of_lt hL_); intro v3 w3 ho hb hg; have HO3 := Aside0.mk (Kd.R_of_own (h1 := fun _ => rfl) (ok := fun _ => True) ho (fun _ _ => trivial)); have HB3 := Aside0.mk hb; clear ho hb hg))
      have HO4 : Aside0 (Kd.R (Kd.int .u8) 5 w3 w.heap.size (fun _ => True) v3 (q1 ++ bytesOf x.f1)) := HO3
      obtain ⟨q2, hq2⟩ : ∃ q2, q1 ++ bytesOf x.f1 = q2 := ⟨_, rfl⟩
      rw [hq2] at HO4
      have HL2 : Aside0 (q2.length = 4 + 19 * k + x.f1.size) := ⟨by rw [← hq2, List.length_append, HL1.out, bytesOf_length]⟩
      have HQ2 := Aside0.mk hq2
      clear HO3 HOb HB1 hy2 hy3 hq2
      go_loopg [4] (17 - x.f1.size) (fun kq v w' => ∃ j : Nat, Aside0 (kq + j = 17 - x.f1.size) ∧ Aside0 (Kd.R (Kd.int .u8) 5 w' w.heap.size (fun _ => True) v (q2 ++ List.replicate j 0)) ∧ Aside0 (Below w.heap.size w w'))
      case atStart => exact ⟨0, ⟨by omega⟩, ⟨by rw [List.replicate_zero, List.append_nil]; exact HO4.out⟩, HB3⟩
      case round =>
        clear HO4 HB3
        obtain ⟨j, HJ, HO, HB⟩ := hrel
        obtain ⟨q, hq⟩ : ∃ q : List Int, q = q2 ++ List.replicate j 0 := ⟨_, rfl⟩
        rw [← hq] at HO
        have hlen : q.length = 4 + 19 * k + x.f1.size + j := by rw [hq, List.length_append, List.length_replicate, HL2.out]
        have HQ := Aside0.mk hq
        have HLEN := Aside0.mk hlen
        obtain ⟨A3, c3, e3⟩ := Kd.R_slice HO.out
        subst e3
        clear hq
        have ew : wrap64 (2 + wrap64 (19 * wrap64 ((k : Int) + 1))) = 21 + 19 * (k : Int) := by
          rw [show wrap64 ((k : Int) + 1) = (k : Int) + 1 from by unfold wrap64; omega, show wrap64 (19 * ((k : Int) + 1)) = 19 * ((k : Int) + 1) from by unfold wrap64; omega]
          unfold wrap64; omega
        by_cases hlt2 : q.length < 21 + 19 * k
        · have hd : decide ((q.length : Int) < wrap64 (2 + wrap64 (19 * wrap64 ((k : Int) + 1)))) = true := by rw [ew]; simp; omega
          have hd2 : (q.length : Int) < wrap64 (2 + wrap64 (19 * wrap64 ((k : Int) + 1))) := by rw [ew]; omega
          clear hlen ew
          go_wp2_with (first | ((with_reducible refine gate_builtin (b := .append) (xs := #[.tmp 50, .tmp 51]) rfl ?_); at_builtin; go_must (refine Kd.R_append (Kd.int .u8) (w0 := w) w.heap.size rfl (.tmp 50) (.tmp 51) 23 5 (.int .u8 0) 1 rfl Try.underlying23 info5 rfl (by decide) (by omega) (.slice A3 q.length c3) q 0 [.int .u8 0] (fun _ => True) (fun _ => False) rfl rfl ?aP (fun _ hk => hk.elim) (fun _ _ => trivial) HO.out HB.out (below_size HB.out) ?aL ?_); (case aP => exact rfl); (case aL => have hL_ := HLEN.out; first | omega | exact Nat.le_of_lt hL_); intro v1 w1 ho hb hg hat; have HO1 := Aside0.mk ho; have HB1 := Aside0.mk hb; clear ho hb hg hat))
          go_roundg (gk - 1)
          case measure => have := HJ.out; have := HLEN.out; omega
          case rel => exact ⟨j + 1, ⟨by have := HJ.out; have := HLEN.out; omega⟩, ⟨by rw [List.replicate_succ', ← List.append_assoc, ← HQ.out]; exact HO1.out⟩, HB1⟩
        · have hd : decide ((q.length : Int) < wrap64 (2 + wrap64 (19 * wrap64 ((k : Int) + 1)))) = false := by rw [ew]; simp; omega
          have hd2 : ¬ (q.length : Int) < wrap64 (2 + wrap64 (19 * wrap64 ((k : Int) + 1))) := by rw [ew]; omega
          have hjj : j = 17 - x.f1.size := by have := HJ.out; omega
          have hqb : q = ref_Encode.body l0 (k + 1) := by
            rw [HQ.out, ← HQ2.out, ← HQ1.out, HBS.out, HKL.out, hjj]
          have HOq : Aside0 (Kd.R (Kd.int .u8) 5 wr w.heap.size (fun _ => True) (.slice A3 q.length c3) (ref_Encode.body l0 (k + 1))) := ⟨by rw [← hqb]; exact HO.out⟩
          clear hlen ew hqb
          go_wp2
          go_roundg (n - (k + 1))
          case measure => omega
          case rel => exact ⟨k + 1, by omega, by omega, by go_num, HOq, HB⟩
    · have hltz : ¬ (k : Int) < (n : Int) := by omega
      obtain rfl : k = n := by omega
      have HOf : Aside0 (Kd.R (Kd.int .u8) 5 wr w.heap.size (fun _ => True) u4 (ref_Encode.body l0 l0.length)) := ⟨by rw [HN0.out]; exact HO.out⟩
      obtain ⟨Av, cv, ev⟩ := Kd.R_slice HOf.out
      subst ev
      have hrd := Kd.R_reads' HOf.out
      have HC2 := Aside0.mk hrd.2.1
      have HC3 := Aside0.mk hrd.2.2
      clear hrd HO
      go_wp2_with fail
      ((with_reducible refine (drydockref04_Seal.calls _ _ _ rr _ HC3.out HC2.out HSL.out).mono ?_); rintro e w5 ⟨v5, rfl, hR, hst⟩)
      have HR5 := Aside0.mk (Kd.R_lower hR (below_size HB.out))
      have HB5 := Aside0.mk (HB.out.trans (hst.mono HB.out.size))
      clear hR hst
      go_wp2
      go_ret2
      exact ⟨_, rfl, HR5.out, HB5.out⟩

/-! ### field_Sealed: function 33 -/
def field_Sealed.f (l0 : List Int) : Option (Bool) := Go.Proofs.Ytnccbebjligpdaa.Field.sealedF l0
theorem field_Sealed.calls (A0 : Option Addr) (c0 : Nat) (l0 : List Int) (r : Bool) (w : World) (hr0 : Kd.C (Kd.int .u8) w A0 l0.length l0) (hc0 : l0.length ≤ c0) (h : field_Sealed.f l0 = some r) :
    Calls Try.prog 33 #[.slice A0 l0.length c0] w fun e w' => e = .returned (.bool r) ∧ Drawn0 w w' := Go.Proofs.Ytnccbebjligpdaa.Field.sealed_calls A0 c0 l0 r w hr0 hc0 h

/-! ### bytes_Equal: function 34 -/
def bytes_Equal.f (l0 : List Int) (l1 : List Int) : Option (Bool) := some ((strOfNums l0).toList == (strOfNums l1).toList)
set_option maxHeartbeats 8000000 in
set_option maxRecDepth 100000 in
theorem bytes_Equal.calls (A0 : Option Addr) (c0 : Nat) (l0 : List Int) (A1 : Option Addr) (c1 : Nat) (l1 : List Int) (r : Bool) (w : World) (hr0 : Kd.C (Kd.int .u8) w A0 l0.length l0) (hc0 : l0.length ≤ c0) (hr1 : Kd.C (Kd.int .u8) w A1 l1.length l1) (hc1 : l1.length ≤ c1) (h : bytes_Equal.f l0 l1 = some r) :
    Calls Try.prog 34 #[.slice A0 l0.length c0, .slice A1 l1.length c1] w fun e w' => e = .returned (.bool r) ∧ Drawn0 w w' := by
  have HR0 := Aside0.mk hr0
  have HC0 := Aside0.mk hc0
  clear hr0 hc0
  have HR1 := Aside0.mk hr1
  have HC1 := Aside0.mk hc1
  clear hr1 hc1
  have H : (some ((strOfNums l0).toList == (strOfNums l1).toList)) = some r := h
  clear h
  obtain rfl := Option.some.inj H
  have hcv3 := Kd.C_string (P := Try.prog) (A := A0) (c := c0) Try.underlying23 Try.underlying5 Try.underlying9 HR0.out
  have hcv4 := Kd.C_string (P := Try.prog) (A := A1) (c := c1) Try.underlying23 Try.underlying5 Try.underlying9 HR1.out
  go_enter Try.func34, Try.ntmps34
  go_wp2
  go_ret
  exact ⟨by first | rfl | (simp; done) | (simp [*]; done), by repeat (first | exact Drawn0.refl _ | apply Drawn0.step)⟩

end Go.Proofs.Ytnccbebjligpdaa.PAll
