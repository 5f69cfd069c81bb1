-- Printed out of the translation by a program; functions that were proved by hand stand among them. Lean checks it.
import Derived.Test.YtnccbebjligpdaaPAllx0
import Derived.Test.YtnccbebjligpdaaPAllx1
namespace Go.Proofs.Ytnccbebjligpdaa.PAll
open Go.RowKit Go.Proofs.YtnccbebjligpdaaW.PrintWords Go.Proofs.YtnccbebjligpdaaW.PrintLast Go.Proofs.YtnccbebjligpdaaW.PrintMore
open Go.Proofs.YtnccbebjligpdaaW.PrintWords renaming blk_drewN → zN, blk_drew → zD, blk_alloc → zA, below_alloc → zB, pw_below_drewN → zP, below_drew1 → zE, below_set → zS
attribute [local go_sem] max2_int min2_int max_two min_two max_three min_three max_four min_four   -- for this text's walks alone
set_option linter.unusedVariables false
set_option linter.unusedSimpArgs false

-- NOT PRINTED: function 27 (field_NewPage)

-- NOT PRINTED: function 45 (field_put)

-- NOT PRINTED: function 28 (field_Page_Set)

-- NOT PRINTED: function 29 (field_Page_Text)

/-! ### field_Seal: function 46 -/
def field_Seal.f (l0 : List Int) : Option (List Int × Int) := Go.Proofs.Ytnccbebjligpdaa.Field.sealF l0
theorem field_Seal.calls (A0 : Option Addr) (c0 : Nat) (l0 : List Int) (r1 : List Int) (r2 : Int) (w : World) (hr0 : Kd.C (Kd.int .u8) w A0 l0.length l0) (hc0 : l0.length ≤ c0) (h : field_Seal.f l0 = some (r1, r2)) :
    Calls Try.prog 46 #[.slice A0 l0.length c0] w fun e w' => ∃ v0_ : Value, e = .returned (.tuple #[v0_, .int .i64 r2]) ∧ Kd.R (Kd.int .u8) 5 w' w.heap.size (fun _ => True) v0_ r1 ∧ Below w.heap.size w w' := Go.Proofs.Ytnccbebjligpdaa.Field.seal_of_calls A0 c0 l0 r1 r2 w hr0 hc0 h

-- NOT PRINTED: function 30 (field_Page_Seal)

/-! ### entry_Encode: function 12 -/
def entry_Encode.K (l : List S41) : Nat → List Int
  | 0 => Go.Proofs.Ytnccbebjligpdaa.Page.setsL (Go.Proofs.Ytnccbebjligpdaa.Text.textL (List.replicate 64 0) 0 ⟨#[]⟩) 0 1 [(l.length : Int)]
  | k + 1 => Go.Proofs.Ytnccbebjligpdaa.Text.textL (Go.Proofs.Ytnccbebjligpdaa.Page.setsL (entry_Encode.K l k) (2 + 19 * k) 1 [(l.getD k z41).f0, ((l.getD k z41).f1.size : Int)]) (4 + 19 * k) (l.getD k z41).f1
theorem entry_Encode.K_length (l : List S41) (hl : l.length ≤ 3) (hs : ∀ x ∈ l, x.f1.size ≤ 17) : ∀ k, k ≤ l.length → (entry_Encode.K l k).length = 64
  | 0, _ => by
    rw [entry_Encode.K, Go.Proofs.Ytnccbebjligpdaa.Page.setsL_length, Go.Proofs.Ytnccbebjligpdaa.Text.textL_length _ _ _ (by simp; decide)]; simp
  | k + 1, h => by
    have hk : k < l.length := h
    have hx : (l.getD k z41).f1.size ≤ 17 := by
      rw [List.getD_eq_getElem?_getD, List.getElem?_eq_getElem hk]; exact hs _ (List.getElem_mem hk)
    have ih := entry_Encode.K_length l hl hs k (by omega)
    rw [entry_Encode.K, Go.Proofs.Ytnccbebjligpdaa.Text.textL_length _ _ _ (by rw [Go.Proofs.Ytnccbebjligpdaa.Page.setsL_length, ih]; omega), Go.Proofs.Ytnccbebjligpdaa.Page.setsL_length, ih]
def entry_Encode.f (l0 : List S41) : Option (List Int × Int) := (entry_sound.f [l0]).bind fun b => (if b = true then (if l0.length ≤ 3 ∧ ∀ x ∈ l0, (0 ≤ x.f0 ∧ x.f0 < 4294967296) ∧ x.f1.size ≤ 17 then Go.Proofs.Ytnccbebjligpdaa.Field.sealF (entry_Encode.K l0 l0.length) else none) else some ([], 2))
theorem entry_Encode.one {W : World} {A0 : Option Addr} {c0 : Nat} {l0 : List S41} {s : Nat} (hr : Kd.C k41 W A0 l0.length l0) (hc : l0.length ≤ c0) (hb : W.heap[s]? = some (.cells #[.slice A0 l0.length c0] 22 (0, 0))) : Kd.C (Kd.slice 41 k41) W (some ⟨s, 0, none⟩) ([l0] : List (List S41)).length [l0] := by
  refine ⟨rfl, by simp, fun _ => ⟨_, rfl, fun j x hj => ?_⟩⟩
  cases j with
  | zero =>
    obtain rfl : l0 = x := by simpa using hj
    refine ⟨[.slice A0 l0.length c0], rfl, ⟨A0, c0, rfl, hc, hr⟩, fun i u hi => ?_⟩
    cases i with
    | zero =>
      obtain rfl : Value.slice A0 l0.length c0 = u := by simpa using hi
      exact blk_cell hb 0
    | succ i => simp at hi
  | succ j => simp at hj
set_option maxRecDepth 100000 in
set_option maxHeartbeats 8000000 in
theorem entry_Encode.calls (A0 : Option Addr) (c0 : Nat) (l0 : List S41) (r1 : List Int) (r2 : Int) (w : World) (hr0 : Kd.C k41 w A0 l0.length l0) (hc0 : l0.length ≤ c0) (h : entry_Encode.f l0 = some (r1, r2)) :
    Calls Try.prog 12 #[.slice A0 l0.length c0] w fun e w' => ∃ v0_ : Value, e = .returned (.tuple #[v0_, .int .i64 r2]) ∧ Kd.R (Kd.int .u8) 5 w' w.heap.size (fun _ => True) v0_ r1 ∧ Below w.heap.size w w' := by
  unfold entry_Encode.f at h
  obtain ⟨b, hb, h⟩ := Option.bind_eq_some_iff.1 h
  have HR := Aside0.mk hr0
  have HC := Aside0.mk hc0
  have HA := Aside0.mk (zB (Below.refl w.heap.size w) (.cells #[.slice A0 l0.length c0] 22))
  have HS := Aside0.mk (entry_sound.calls (some ⟨w.heap.size, 0, none⟩) 1 [l0] b (w.alloc (.cells #[.slice A0 l0.length c0] 22)) (entry_Encode.one (Kd.C_alloc hr0 _) hc0 Array.getElem?_push_size) (Nat.le_refl _) hb)
  change Aside0 (Calls _ _ #[.slice _ 1 1] _ _) at HS
  clear hr0 hc0 hb
  cases b with
  | false =>
    rw [if_neg (by decide)] at h
    obtain ⟨rfl, rfl⟩ := Prod.mk.inj (Option.some.inj h)
    clear h
    go_enter Try.func12, Try.ntmps12
    go_wp2_with fail
    ((with_reducible refine HS.out.mono ?_); rintro e w1 ⟨rfl, hb1⟩)
    have HB := Aside0.mk (HA.out.trans (hb1.mono HA.out.size))
    clear hb1
    go_wp2
    go_ret2
    exact ⟨_, rfl, Kd.R_nil _ _ _ _ _, HB.out⟩
  | true =>
  rw [if_pos rfl] at h
  split at h
  case isFalse => cases h
  rename_i hbd
  obtain ⟨h3, hfx⟩ := hbd
  have HX := Aside0.mk hfx
  have HSL := Aside0.mk h
  have HKL := Aside0.mk (entry_Encode.K_length l0 h3 (fun x hx => (hfx x hx).2))
  obtain ⟨n, hn⟩ : ∃ n, l0.length = n := ⟨_, rfl⟩
  have HN0 := Aside0.mk hn
  have hxn : Aside0 (∀ x ∈ [(n : Int)], 0 ≤ x ∧ x < 4294967296) := ⟨by intro x hx; simp only [List.mem_cons, List.not_mem_nil, or_false] at hx; omega⟩
  rw [hn] at h3 HS HC HA ⊢
  clear h hfx hn
  go_enter Try.func12, Try.ntmps12
  go_wp2_with fail
  ((with_reducible refine HS.out.mono ?_); rintro e w1 ⟨rfl, hb1⟩)
  have HB := Aside0.mk (HA.out.trans (hb1.mono HA.out.size))
  clear hb1
  go_wp2_with fail
  ((with_reducible refine (Go.Proofs.Ytnccbebjligpdaa.Page.newPage_calls _ (by decide) _).mono ?_); rintro e w2 ⟨p, g, rfl, hp0, hg0, hP, hst⟩)
  have HG := Aside0.mk (Nat.le_trans HB.out.size hg0)
  have HB2 := Aside0.mk (HB.out.trans (hst.mono HB.out.size))
  have HP2 := Aside0.mk (hP.below (Go.Proofs.Ytnccbebjligpdaa.Page.grown_below w2 (.cells #[.int .i64 (n : Int)] 3)) hP.lt.1 hP.lt.2)
  have HA2 := Aside0.mk (Go.Proofs.Ytnccbebjligpdaa.Page.grown_below w2 (.cells #[.int .i64 (n : Int)] 3))
  have HN2 : Aside0 (Go.Proofs.Ytnccbebjligpdaa.Page.Ns (w2.alloc (.cells #[.int .i64 (n : Int)] 3)) w2.heap.size [(n : Int)]) := ⟨Go.Proofs.Ytnccbebjligpdaa.Page.grown_ns w2 [(n : Int)]⟩
  clear hp0 hg0 hP hst HB
  go_wp2_with fail
  ((with_reducible refine (Go.Proofs.Ytnccbebjligpdaa.Page.set_at 0 1 1 p g w2.heap.size 0 1 1 _ [(n : Int)] _ rfl rfl rfl HP2.out HN2.out hxn.out (by decide) (by decide) (by simp) (Nat.le_refl _) (by simp)).mono ?_); rintro e w3 ⟨rfl, hst⟩)
  have HB3 := Aside0.mk ((HB2.out.trans (HA2.out.mono HB2.out.size)).trans (hst.below HG.out))
  have HP3 : Aside0 (Go.Proofs.Ytnccbebjligpdaa.Page.Pg w3 p g (entry_Encode.K l0 0)) := ⟨by
    have := HP2.out.wrote (Go.Proofs.Ytnccbebjligpdaa.Page.setsL_length _ _ _ _) hst
    rw [entry_Encode.K, HN0.out]
    exact this⟩
  clear HP2 HA2 HN2 HB2 hst
  go_wp2
  go_loopg [18] n (fun gg i wr => ∃ k : Nat, k ≤ n ∧ n - k ≤ gg ∧ i = .int .i64 k ∧ Aside0 (Go.Proofs.Ytnccbebjligpdaa.Page.Pg wr p g (entry_Encode.K l0 k)) ∧ Aside0 (Below w.heap.size w wr))
  case atStart => exact ⟨0, Nat.zero_le _, by omega, rfl, HP3, HB3⟩
  case round =>
    obtain ⟨k, hk, hgo, rfl, HP, HB⟩ := hrel
    by_cases hlt : k < n
    · have hkl : k < l0.length := by have := HN0.out; omega
      obtain ⟨ad, hA, hx0, hx1⟩ := at_T41 HR.out (k : Int) (by omega) (by omega)
      rw [entry_sound.getT_nat l0 k hkl] at hx0 hx1
      subst hA
      rw [Int.toNat_natCast] at hx0 hx1
      have hy0 := (HB.out.cell (World.block_lt_of_cell? w _ hx0)).trans hx0
      have hy1 := (HB.out.cell (World.block_lt_of_cell? w _ hx1)).trans hx1
      have hgd : l0.getD k z41 = l0[k] := by rw [List.getD_eq_getElem?_getD, List.getElem?_eq_getElem hkl]; rfl
      have hfx := HX.out _ (List.getElem_mem hkl)
      obtain ⟨x, hxe⟩ : ∃ x, l0[k] = x := ⟨_, rfl⟩
      rw [hxe] at hy0 hy1 hgd hfx
      have HGD := Aside0.mk hgd
      have hltz : (k : Int) < (n : Int) := by omega
      have hxs : Aside0 (∀ y ∈ [x.f0, (x.f1.size : Int)], 0 ≤ y ∧ y < 4294967296) := ⟨by intro y hy; simp only [List.mem_cons, List.not_mem_nil, or_false] at hy; omega⟩
      have ho2 : Aside0 (((2 + 19 * k : Nat) : Int) = wrap64 (2 + wrap64 (19 * (k : Int)))) := ⟨by
        rw [show wrap64 (19 * (k : Int)) = 19 * (k : Int) from by unfold wrap64; omega]; unfold wrap64; omega⟩
      have ho4 : Aside0 (((4 + 19 * k : Nat) : Int) = wrap64 (4 + wrap64 (19 * (k : Int)))) := ⟨by
        rw [show wrap64 (19 * (k : Int)) = 19 * (k : Int) from by unfold wrap64; omega]; unfold wrap64; omega⟩
      have hb2 : Aside0 (2 + 19 * k + ([x.f0, (x.f1.size : Int)] : List Int).length * 1 ≤ 64) := ⟨by simp; omega⟩
      have hb4 : Aside0 (4 + 19 * k < 64 ∧ 4 + 19 * k + x.f1.size ≤ 64) := ⟨by omega⟩
      have HBA := Aside0.mk (zB HB.out (.cells #[.int .i64 x.f0, .string x.f1] 41))
      have HPA := Aside0.mk (HP.out.below (Go.Proofs.Ytnccbebjligpdaa.Page.grown_below wr (.cells #[.int .i64 x.f0, .string x.f1] 41)) HP.out.lt.1 HP.out.lt.2)
      have HBX : Aside0 ((wr.alloc (.cells #[.int .i64 x.f0, .string x.f1] 41)).heap[wr.heap.size]? = some (.cells #[.int .i64 x.f0, .string x.f1] 41 (0, 0))) := ⟨Array.getElem?_push_size⟩
      have HSZ : Aside0 ((wr.alloc (.cells #[.int .i64 x.f0, .string x.f1] 41)).heap.size = wr.heap.size + 1) := ⟨Array.size_push _⟩
      have hgl : g < wr.heap.size := HP.out.lt.2
      clear hx0 hx1 hgd hfx hxe hkl
      go_wp2_with fail
      clear hy0 hy1
      obtain ⟨w1, hw1⟩ : ∃ w1, w1 = wr.alloc (.cells #[.int .i64 x.f0, .string x.f1] 41) := ⟨_, rfl⟩
      obtain ⟨bx, hbxe⟩ : ∃ bx, bx = wr.heap.size := ⟨_, rfl⟩
      obtain ⟨L, hL⟩ : ∃ L, entry_Encode.K l0 k = L := ⟨_, rfl⟩
      have hblk := HBX.out
      have hsz := HSZ.out
      have HB1 := HBA
      have HP1 := HPA
      rw [← hw1] at hblk hsz HB1 HP1
      rw [hL] at HP1
      rw [← hbxe] at hblk hsz hgl
      have hbx : bx < w1.heap.size := by omega
      have hng : bx ≠ g := by omega
      have hc0 : Aside0 (w1.cell? ⟨bx, 0, none⟩ = some (.int .i64 x.f0)) := ⟨blk_cell hblk 0⟩
      have hc1 : Aside0 (w1.cell? ⟨bx, 1, none⟩ = some (.string x.f1)) := ⟨blk_cell hblk 1⟩
      have HKK := Aside0.mk hL
      rw [← hw1, ← hbxe]
      clear hblk hsz hgl HBX HSZ HBA HPA HP HB hw1 hbxe hL
      -- REGION encode
      refine start_ (n := 17) (S := fun w' => w'.cell? ⟨bx, 0, none⟩ = some (.int .i64 x.f0) ∧ w'.cell? ⟨bx, 1, none⟩ = some (.string x.f1)) (ds := []) #[false, false, false, false, false, false, false, false, false, false, false, false, false, false, false, false, false] (by kernel_rfl) rfl rfl ⟨((below_drew (Below.refl _ _)).cell hbx).trans hc0.out, ((below_drew (Below.refl _ _)).cell hbx).trans hc1.out⟩ (fun hHeld => ?_)
      refine pure_ (i := 0) (N := some 23) (v := ?_) (a' := ?_) #[true, false, false, false, false, false, false, false, false, false, false, false, false, false, false, false, false] rfl rfl (by kernel_rfl) (fun _ _ _ h => h) (Or.inl ⟨by rfl, ?_⟩) ?_ ?_
      rotate_left
      · intro w'
        go_simp
        with_reducible rfl
      rotate_left
      · simp only [Act.put, List.setIfInBounds_toArray, List.set_cons_zero, List.set_cons_succ, i64_w, i32_w]
        rfl
      refine pure_ (i := 1) (N := some 24) (v := ?_) (a' := ?_) #[true, true, false, false, false, false, false, false, false, false, false, false, false, false, false, false, false] rfl rfl (by kernel_rfl) (fun _ _ _ h => h) (Or.inl ⟨by rfl, ?_⟩) ?_ ?_
      rotate_left
      · intro w'
        go_simp
        with_reducible rfl
      rotate_left
      · simp only [Act.put, List.setIfInBounds_toArray, List.set_cons_zero, List.set_cons_succ, i64_w, i32_w]
        rfl
      refine pure_ (i := 2) (N := some 25) (v := ?_) (a' := ?_) #[true, true, true, false, false, false, false, false, false, false, false, false, false, false, false, false, false] rfl rfl (by kernel_rfl) (fun _ _ _ h => h) (Or.inl ⟨by rfl, ?_⟩) ?_ ?_
      rotate_left
      · intro w'
        go_simp
        with_reducible rfl
      rotate_left
      · simp only [Act.put, List.setIfInBounds_toArray, List.set_cons_zero, List.set_cons_succ, i64_w, i32_w]
        rfl
      refine pure_ (i := 3) (N := some 26) (v := ?_) (a' := ?_) #[true, true, true, true, false, false, false, false, false, false, false, false, false, false, false, false, false] rfl rfl (by kernel_rfl) (fun _ _ _ h => h) (Or.inl ⟨by rfl, ?_⟩) ?_ ?_
      rotate_left
      · intro w'
        go_simp
        with_reducible rfl
      rotate_left
      · simp only [Act.put, List.setIfInBounds_toArray, List.set_cons_zero, List.set_cons_succ, i64_w, i32_w]
        rfl
      refine pure_ (i := 4) (N := some 27) (v := ?_) (a' := ?_) #[true, true, true, true, true, false, false, false, false, false, false, false, false, false, false, false, false] rfl rfl (by kernel_rfl) (fun _ _ _ h => h) (Or.inl ⟨by rfl, ?_⟩) ?_ ?_
      rotate_left
      · intro w'
        go_simp
        with_reducible rfl
      rotate_left
      · simp only [Act.put, List.setIfInBounds_toArray, List.set_cons_zero, List.set_cons_succ, i64_w, i32_w]
        rfl
      refine pure_ (i := 6) (N := some 29) (v := ?_) (a' := ?_) #[true, true, true, true, true, false, true, false, false, false, false, false, false, false, false, false, false] rfl rfl (by kernel_rfl) (fun _ _ _ h => h) (Or.inl ⟨by rfl, ?_⟩) ?_ ?_
      rotate_left
      · intro w'
        go_simp
        with_reducible rfl
      rotate_left
      · simp only [Act.put, List.setIfInBounds_toArray, List.set_cons_zero, List.set_cons_succ, i64_w, i32_w]
        rfl
      refine pure_ (i := 11) (N := some 34) (v := ?_) (a' := ?_) #[true, true, true, true, true, false, true, false, false, false, false, true, false, false, false, false, false] rfl rfl (by kernel_rfl) (fun _ _ _ h => h) (Or.inl ⟨by rfl, ?_⟩) ?_ ?_
      rotate_left
      · intro w'
        go_simp
        with_reducible rfl
      rotate_left
      · simp only [Act.put, List.setIfInBounds_toArray, List.set_cons_zero, List.set_cons_succ, i64_w, i32_w]
        rfl
      refine pure_ (i := 12) (N := some 35) (v := ?_) (a' := ?_) #[true, true, true, true, true, false, true, false, false, false, false, true, true, false, false, false, false] rfl rfl (by kernel_rfl) (fun _ _ _ h => h) (Or.inl ⟨by rfl, ?_⟩) ?_ ?_
      rotate_left
      · intro w'
        go_simp
        with_reducible rfl
      rotate_left
      · simp only [Act.put, List.setIfInBounds_toArray, List.set_cons_zero, List.set_cons_succ, i64_w, i32_w]
        rfl
      refine pure_ (i := 13) (N := some 36) (v := ?_) (a' := ?_) #[true, true, true, true, true, false, true, false, false, false, false, true, true, true, false, false, false] rfl rfl (by kernel_rfl) (fun _ _ _ h => h) (Or.inl ⟨by rfl, ?_⟩) ?_ ?_
      rotate_left
      · intro w'
        go_simp
        with_reducible rfl
      rotate_left
      · simp only [Act.put, List.setIfInBounds_toArray, List.set_cons_zero, List.set_cons_succ, i64_w, i32_w]
        rfl
      refine pure_ (i := 14) (N := some 37) (v := ?_) (a' := ?_) #[true, true, true, true, true, false, true, false, false, false, false, true, true, true, true, false, false] rfl rfl (by kernel_rfl) (fun _ _ _ h => h) (Or.inl ⟨by rfl, ?_⟩) ?_ ?_
      rotate_left
      · intro w'
        go_simp
        with_reducible rfl
      rotate_left
      · simp only [Act.put, List.setIfInBounds_toArray, List.set_cons_zero, List.set_cons_succ, i64_w, i32_w]
        rfl
      refine take_ (i := 5) (N := some 28) (v := ?_) (a' := ?_) #[true, true, true, true, true, true, true, false, false, false, false, true, true, true, true, false, false] rfl rfl (by kernel_rfl) (fun _ _ _ h => h) (Or.inl ⟨by rfl, ?_⟩) hHeld ?_ ?_
      rotate_left
      · rintro w' ⟨s0, s1⟩
        go_simp
        with_reducible rfl
      rotate_left
      · simp only [Act.put, List.setIfInBounds_toArray, List.set_cons_zero, List.set_cons_succ, i64_w, i32_w]
        rfl
      refine take_ (i := 7) (N := some 30) (v := ?_) (a' := ?_) #[true, true, true, true, true, true, true, true, false, false, false, true, true, true, true, false, false] rfl rfl (by kernel_rfl) (fun _ _ _ h => h) (Or.inl ⟨by rfl, ?_⟩) hHeld ?_ ?_
      rotate_left
      · rintro w' ⟨s0, s1⟩
        go_simp
        with_reducible rfl
      rotate_left
      · simp only [Act.put, List.setIfInBounds_toArray, List.set_cons_zero, List.set_cons_succ, i64_w, i32_w]
        rfl
      refine pure_ (i := 8) (N := some 31) (v := ?_) (a' := ?_) #[true, true, true, true, true, true, true, true, true, false, false, true, true, true, true, false, false] rfl rfl (by kernel_rfl) (fun _ _ _ h => h) (Or.inl ⟨by rfl, ?_⟩) ?_ ?_
      rotate_left
      · intro w'
        go_simp
        with_reducible rfl
      rotate_left
      · simp only [Act.put, List.setIfInBounds_toArray, List.set_cons_zero, List.set_cons_succ, i64_w, i32_w]
        rfl
      refine take_ (i := 15) (N := some 38) (v := ?_) (a' := ?_) #[true, true, true, true, true, true, true, true, true, false, false, true, true, true, true, true, false] rfl rfl (by kernel_rfl) (fun _ _ _ h => h) (Or.inl ⟨by rfl, ?_⟩) hHeld ?_ ?_
      rotate_left
      · rintro w' ⟨s0, s1⟩
        go_simp
        with_reducible rfl
      rotate_left
      · simp only [Act.put, List.setIfInBounds_toArray, List.set_cons_zero, List.set_cons_succ, i64_w, i32_w]
        rfl
      refine one_ (i := 9) (N := some 32) #[true, true, true, true, true, true, true, true, true, true, false, true, true, true, true, true, false] rfl rfl (by kernel_rfl) (by decide) (fun K hK => ?_)
      refine value_ (w1 := ?_) (v := ?_) (by rfl) rfl ?_ ?_
      rotate_left 2
      · go_simp
        constructor
        · rfl
        · rfl
      have HBa : Aside0 (Below w1.heap.size w1 ((w1.alloc (.cells #[.int .i64 x.f0, .int .i64 (x.f1.size : Int)] 3)).drew)) := ⟨below_drew (zB (Below.refl _ _) _)⟩
      have HN : Aside0 (Go.Proofs.Ytnccbebjligpdaa.Page.Ns ((w1.alloc (.cells #[.int .i64 x.f0, .int .i64 (x.f1.size : Int)] 3)).drew) w1.heap.size [x.f0, (x.f1.size : Int)]) := ⟨Go.Proofs.Ytnccbebjligpdaa.Page.grown_ns w1 [x.f0, (x.f1.size : Int)]⟩
      have HPa : Aside0 (Go.Proofs.Ytnccbebjligpdaa.Page.Pg ((w1.alloc (.cells #[.int .i64 x.f0, .int .i64 (x.f1.size : Int)] 3)).drew) p g L) := ⟨HP1.out.below HBa.out HP1.out.lt.1 HP1.out.lt.2⟩
      refine hK.out _ _ ⟨(HBa.out.cell hbx).trans hc0.out, (HBa.out.cell hbx).trans hc1.out⟩ (fun hHeld => ?_)
      clear hK K
      refine norm_ (a' := ?_) ?_ ?_
      rotate_left
      · show Act.put _ (some 32) _ = _
        simp only [Act.put, List.setIfInBounds_toArray, List.set_cons_zero, List.set_cons_succ, i64_w, i32_w]
        rfl
      refine one_ (i := 10) (N := some 33) #[true, true, true, true, true, true, true, true, true, true, true, true, true, true, true, true, false] rfl rfl (by kernel_rfl) (by decide) (fun K hK => ?_)
      refine goes_ Try.func28 (by kernel_rfl) rfl #[.pointer (some ⟨p, 0, none⟩), .int .i64 (wrap64 (2 + wrap64 (19 * (k : Int)))), .int .i64 1, .slice (some ⟨w1.heap.size, 0, none⟩) 2 2] (by rfl) rfl rfl (by (try simp only [List.map_toArray, List.map_cons, List.map_nil]); first | done | rfl) ?_
      with_reducible refine (Go.Proofs.Ytnccbebjligpdaa.Page.set_at (wrap64 (2 + wrap64 (19 * (k : Int)))) 1 2 p g w1.heap.size (2 + 19 * k) 1 2 _ [x.f0, (x.f1.size : Int)] _ ho2.out rfl rfl HPa.out HN.out hxs.out (by decide) (by decide) hb2.out (Nat.le_refl _) (by simp)).mono ?_
      rintro e w3 ⟨rfl, hst⟩
      refine ⟨_, rfl, ?_⟩
      have HW3 := Aside0.mk hst
      have HPb := Aside0.mk (HPa.out.wrote (Go.Proofs.Ytnccbebjligpdaa.Page.setsL_length _ _ _ _) hst)
      clear hst
      refine hK.out _ _ ⟨(HW3.out.cell_far hng).trans ((HBa.out.cell hbx).trans hc0.out), (HW3.out.cell_far hng).trans ((HBa.out.cell hbx).trans hc1.out)⟩ (fun hHeld => ?_)
      clear hK K
      refine norm_ (a' := ?_) ?_ ?_
      rotate_left
      · show Act.put _ (some 33) _ = _
        simp only [Act.put, List.setIfInBounds_toArray, List.set_cons_zero, List.set_cons_succ, i64_w, i32_w]
        rfl
      refine one_ (i := 16) (N := some 39) #[true, true, true, true, true, true, true, true, true, true, true, true, true, true, true, true, true] rfl rfl (by kernel_rfl) (by decide) (fun K hK => ?_)
      refine goes_ Try.func29 (by kernel_rfl) rfl #[.pointer (some ⟨p, 0, none⟩), .int .i64 (wrap64 (4 + wrap64 (19 * (k : Int)))), .string x.f1] (by rfl) rfl rfl (by (try simp only [List.map_toArray, List.map_cons, List.map_nil]); first | done | rfl) ?_
      with_reducible refine (Go.Proofs.Ytnccbebjligpdaa.Page.pageText_at (wrap64 (4 + wrap64 (19 * (k : Int)))) p g (4 + 19 * k) x.f1 _ _ ho4.out HPb.out hb4.out.1 hb4.out.2).mono ?_
      rintro e w4 ⟨rfl, hst⟩
      refine ⟨_, rfl, ?_⟩
      have HW4 := Aside0.mk hst
      have HPc := Aside0.mk (HPb.out.wrote (Go.Proofs.Ytnccbebjligpdaa.Text.textL_length _ _ _ (by have h1 := hb4.out.2; have h2 := HPb.out.len; omega)) hst)
      clear hst
      refine hK.out _ _ ⟨(HW4.out.cell_far hng).trans ((HW3.out.cell_far hng).trans ((HBa.out.cell hbx).trans hc0.out)), (HW4.out.cell_far hng).trans ((HW3.out.cell_far hng).trans ((HBa.out.cell hbx).trans hc1.out))⟩ (fun hHeld => ?_)
      clear hK K
      refine norm_ (a' := ?_) ?_ ?_
      rotate_left
      · show Act.put _ (some 39) _ = _
        simp only [Act.put, List.setIfInBounds_toArray, List.set_cons_zero, List.set_cons_succ, i64_w, i32_w]
        rfl
      refine done_ (by kernel_rfl) ?_
      -- END encode
      go_wp2
      go_roundg (n - (k + 1))
      case measure => omega
      case rel =>
        have HBx := HB1.out.trans (HBa.out.mono HB1.out.size)
        exact ⟨k + 1, by omega, by omega, by go_num, ⟨by rw [entry_Encode.K, HGD.out, HKK.out]; exact HPc.out⟩, ⟨(HBx.trans (HW3.out.below HG.out)).trans (HW4.out.below HG.out)⟩⟩
    · have hltz : ¬ (k : Int) < (n : Int) := by omega
      obtain rfl : k = n := by omega
      have HSL2 := HSL
      rw [HN0.out] at HSL2
      have hz : r2 = 0 := by
        have h4 := HSL2.out
        unfold Go.Proofs.Ytnccbebjligpdaa.Field.sealF at h4
        rw [if_pos HP.out.len] at h4
        obtain ⟨y, _, hy⟩ := Option.bind_eq_some_iff.1 h4
        exact (Prod.mk.inj (Option.some.inj hy)).2.symm
      subst hz
      go_wp2_with fail
      ((with_reducible refine (Go.Proofs.Ytnccbebjligpdaa.Page.pageSeal_calls p g _ _ _ _ HP.out HSL2.out).mono ?_); rintro e w5 ⟨v4, rfl, hR, hst⟩)
      have HR4 := Aside0.mk hR
      have HB4 := Aside0.mk (HB.out.trans (hst.mono HB.out.size))
      have HL4 := Aside0.mk HB.out.size
      clear hR hst
      go_wp2
      go_ret2
      exact ⟨_, rfl, Kd.R_of_own (own_weaken (Kd.own_of_R HR4.out) HL4.out) (fun _ _ => trivial), HB4.out⟩

/-! ### field_Sealed: function 33 -/
def field_Sealed.f (l0 : List Int) : Option (Bool) := Go.Proofs.Ytnccbebjligpdaa.Field.sealedF l0
theorem field_Sealed.calls (A0 : Option Addr) (c0 : Nat) (l0 : List Int) (r : Bool) (w : World) (hr0 : Kd.C (Kd.int .u8) w A0 l0.length l0) (hc0 : l0.length ≤ c0) (h : field_Sealed.f l0 = some r) :
    Calls Try.prog 33 #[.slice A0 l0.length c0] w fun e w' => e = .returned (.bool r) ∧ Drawn0 w w' := Go.Proofs.Ytnccbebjligpdaa.Field.sealed_calls A0 c0 l0 r w hr0 hc0 h

/-! ### bytes_Equal: function 34 -/
def bytes_Equal.f (l0 : List Int) (l1 : List Int) : Option (Bool) := some ((strOfNums l0).toList == (strOfNums l1).toList)
set_option maxHeartbeats 8000000 in
set_option maxRecDepth 100000 in
theorem bytes_Equal.calls (A0 : Option Addr) (c0 : Nat) (l0 : List Int) (A1 : Option Addr) (c1 : Nat) (l1 : List Int) (r : Bool) (w : World) (hr0 : Kd.C (Kd.int .u8) w A0 l0.length l0) (hc0 : l0.length ≤ c0) (hr1 : Kd.C (Kd.int .u8) w A1 l1.length l1) (hc1 : l1.length ≤ c1) (h : bytes_Equal.f l0 l1 = some r) :
    Calls Try.prog 34 #[.slice A0 l0.length c0, .slice A1 l1.length c1] w fun e w' => e = .returned (.bool r) ∧ Drawn0 w w' := by
  have HR0 := Aside0.mk hr0
  have HC0 := Aside0.mk hc0
  clear hr0 hc0
  have HR1 := Aside0.mk hr1
  have HC1 := Aside0.mk hc1
  clear hr1 hc1
  have H : (some ((strOfNums l0).toList == (strOfNums l1).toList)) = some r := h
  clear h
  obtain rfl := Option.some.inj H
  have hcv3 := Kd.C_string (P := Try.prog) (A := A0) (c := c0) Try.underlying23 Try.underlying5 Try.underlying9 HR0.out
  have hcv4 := Kd.C_string (P := Try.prog) (A := A1) (c := c1) Try.underlying23 Try.underlying5 Try.underlying9 HR1.out
  go_enter Try.func34, Try.ntmps34
  go_wp2
  go_ret
  exact ⟨by first | rfl | (simp; done) | (simp [*]; done), by repeat (first | exact Drawn0.refl _ | apply Drawn0.step)⟩

end Go.Proofs.Ytnccbebjligpdaa.PAll
