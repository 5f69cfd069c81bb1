/- Walks of log.End and log.Begin: the blocks that they make. -/
import Derived.ScopeJumps
import Derived.WalkMore
import Derived.Deep.LoopGhost
import Derived.Test.YtcihfmehbmficaaPageRow
namespace Go.Proofs.Ytcihfmehbmficaa.Log
open Go Go.RowKit Go.Proofs.YtcihfmehbmficaaW.PrintWords Go.Proofs.YtcihfmehbmficaaW.PrintLast Go.Proofs.YtcihfmehbmficaaW.PrintMore Go.Proofs.Ytcihfmehbmficaa.Field Go.Proofs.Ytcihfmehbmficaa.Page Go.Proofs.Ytcihfmehbmficaa.Text Go.Proofs.Ytcihfmehbmficaa.Spin
set_option linter.unusedVariables false
set_option maxRecDepth 100000
set_option linter.unusedSimpArgs false
def endB (a0 a1 : Int) : Bool := decide (1 ≤ a0) && decide (a0 ≤ 1073741824) && decide (1 ≤ a1) && decide (a1 ≤ 20)
def endP (a0 a1 : Int) : List Int := setsL (setsL (textL (List.replicate 64 0) 0 ⟨#[68, 79, 78, 69]⟩) 4 4 [a0]) 8 1 [a1]
theorem end_no (a0 a1 : Int) (h : endB a0 a1 = false) (w : World) :
    Calls Try.prog 22 #[.int .i64 a0, .int .i64 a1] w fun e w' => e = .returned (.tuple #[.slice none 0 0, .int .i64 2]) ∧ w = w' := by
  have key : a0 < 1 ∨ (¬ a0 < 1 ∧ 1073741824 < a0) ∨ (¬ a0 < 1 ∧ ¬ 1073741824 < a0 ∧ a1 < 1) ∨ (¬ a0 < 1 ∧ ¬ 1073741824 < a0 ∧ ¬ a1 < 1 ∧ 20 < a1) := by
    by_cases h1 : a0 < 1
    · exact .inl h1
    by_cases h2 : 1073741824 < a0
    · exact .inr (.inl ⟨h1, h2⟩)
    by_cases h3 : a1 < 1
    · exact .inr (.inr (.inl ⟨h1, h2, h3⟩))
    by_cases h4 : 20 < a1
    · exact .inr (.inr (.inr ⟨h1, h2, h3, h4⟩))
    exfalso
    have : endB a0 a1 = true := by simp only [endB, Bool.and_eq_true, decide_eq_true_eq]; omega
    rw [this] at h
    cases h
  clear h
  rcases key with h1 | ⟨h1, h2⟩ | ⟨h1, h2, h3⟩ | ⟨h1, h2, h3, h4⟩
  · have d1 : decide (a0 < 1) = true := decide_eq_true h1
    go_enter Try.func22, Try.ntmps22
    go_wp2
    go_ret2
    exact ⟨rfl, rfl⟩
  · have d1 : decide (a0 < 1) = false := decide_eq_false h1
    have d2 : decide (1073741824 < a0) = true := decide_eq_true h2
    go_enter Try.func22, Try.ntmps22
    go_wp2
    go_ret2
    exact ⟨rfl, rfl⟩
  · have d1 : decide (a0 < 1) = false := decide_eq_false h1
    have d2 : decide (1073741824 < a0) = false := decide_eq_false h2
    have d3 : decide (a1 < 1) = true := decide_eq_true h3
    go_enter Try.func22, Try.ntmps22
    go_wp2
    go_ret2
    exact ⟨rfl, rfl⟩
  · have d1 : decide (a0 < 1) = false := decide_eq_false h1
    have d2 : decide (1073741824 < a0) = false := decide_eq_false h2
    have d3 : decide (a1 < 1) = false := decide_eq_false h3
    have d4 : decide (20 < a1) = true := decide_eq_true h4
    go_enter Try.func22, Try.ntmps22
    go_wp2
    go_ret2
    exact ⟨rfl, rfl⟩

set_option maxHeartbeats 8000000 in
theorem end_yes (a0 a1 : Int) (h : endB a0 a1 = true) (r1 : List Int) (hsl : sealF (endP a0 a1) = some (r1, 0)) (w1 : World) :
    Calls Try.prog 22 #[.int .i64 a0, .int .i64 a1] w1 fun e w' => ∃ v0_ : Value, e = .returned (.tuple #[v0_, .int .i64 0]) ∧ Kd.R B 5 w' w1.heap.size (fun _ => True) v0_ r1 ∧ Below w1.heap.size w1 w' := by
  unfold endP at hsl
  have hseal := Aside0.mk hsl
  have hr := h
  simp only [endB, Bool.and_eq_true, decide_eq_true_eq] at hr
  have hx0 : Aside0 (∀ x ∈ [a0], 0 ≤ x ∧ x < 4294967296) := ⟨by intro x hx; simp only [List.mem_cons, List.not_mem_nil, or_false] at hx; omega⟩
  have hx1 : Aside0 (∀ x ∈ [a1], 0 ≤ x ∧ x < 4294967296) := ⟨by intro x hx; simp only [List.mem_cons, List.not_mem_nil, or_false] at hx; omega⟩
  have d1 : decide (a0 < 1) = false := decide_eq_false (by omega)
  have d2 : decide (1073741824 < a0) = false := decide_eq_false (by omega)
  have d3 : decide (a1 < 1) = false := decide_eq_false (by omega)
  have d4 : decide (20 < a1) = false := decide_eq_false (by omega)
  clear hsl hr h
  go_enter Try.func22, Try.ntmps22
  go_wp2_with fail
  clear d1 d2 d3 d4
  (with_reducible refine (newPage_calls _ (by decide) _).mono ?_); rintro e w2 ⟨p, g, rfl, hp0, hg0, hP, hst⟩
  have HG := Aside0.mk hg0
  have HB := Aside0.mk hst
  have HP := Aside0.mk (hP.below (grown_below w2 (.cells #[.int .i64 a0] 3)) hP.lt.1 hP.lt.2)
  have HA := Aside0.mk (grown_below w2 (.cells #[.int .i64 a0] 3))
  have HN : Aside0 (Ns (w2.alloc (.cells #[.int .i64 a0] 3)) w2.heap.size [a0]) := ⟨grown_ns w2 [a0]⟩
  clear hp0 hg0 hP hst
  go_wp2_with fail
  (with_reducible refine (set_at 4 4 1 p g w2.heap.size 4 4 1 _ [a0] _ rfl rfl rfl HP.out HN.out hx0.out (by decide) (by decide) (by simp) (Nat.le_refl _) (by simp)).mono ?_); rintro e w3 ⟨rfl, hst⟩
  have HB2 := Aside0.mk ((HB.out.trans (HA.out.mono HB.out.size)).trans (hst.below HG.out))
  have hP := HP.out.wrote (setsL_length _ _ _ _) hst
  have HP2 := Aside0.mk (hP.below (grown_below w3 (.cells #[.int .i64 a1] 3)) hP.lt.1 hP.lt.2)
  have HA2 := Aside0.mk (grown_below w3 (.cells #[.int .i64 a1] 3))
  have HN2 : Aside0 (Ns (w3.alloc (.cells #[.int .i64 a1] 3)) w3.heap.size [a1]) := ⟨grown_ns w3 [a1]⟩
  clear HP HA HN HB hst hP
  go_wp2_with fail
  (with_reducible refine (set_at 8 1 1 p g w3.heap.size 8 1 1 _ [a1] _ rfl rfl rfl HP2.out HN2.out hx1.out (by decide) (by decide) (by simp) (Nat.le_refl _) (by simp)).mono ?_); rintro e w4 ⟨rfl, hst⟩
  have HB3 := Aside0.mk ((HB2.out.trans (HA2.out.mono HB2.out.size)).trans (hst.below HG.out))
  have HP3 := Aside0.mk (HP2.out.wrote (setsL_length _ _ _ _) hst)
  clear HP2 HA2 HN2 HB2 hst
  go_wp2_with fail
  (with_reducible refine (pageSeal_calls p g _ _ _ _ HP3.out hseal.out).mono ?_); rintro e w5 ⟨v4, rfl, hR, hst⟩
  have HR4 := Aside0.mk hR
  have HB4 := Aside0.mk (HB3.out.trans (hst.mono HB3.out.size))
  have HL4 := Aside0.mk HB3.out.size
  clear hR hst
  go_wp2
  go_ret2
  exact ⟨_, rfl, Kd.R_of_own (own_weaken (Kd.own_of_R HR4.out) HL4.out) (fun _ _ => trivial), HB4.out⟩

theorem setsL64 (t : ByteArray) (h : t.size ≤ 64) : (textL (List.replicate 64 0) 0 t).length = 64 := by
  rw [textL_length _ _ _ (by simp; omega)]; simp
theorem sealF_zero {l r1 : List Int} {r2 : Int} (hl : l.length = 64) (h : sealF l = some (r1, r2)) : r2 = 0 := by
  unfold sealF at h
  rw [if_pos hl] at h
  obtain ⟨x, _, hx⟩ := Option.bind_eq_some_iff.1 h
  exact (Prod.mk.inj (Option.some.inj hx)).2.symm
/-- What End gives. -/
def endF (a0 a1 : Int) : Option (List Int × Int) := if endB a0 a1 = true then (sealF (endP a0 a1)) else some ([], 2)
theorem end_of_calls (a0 a1 : Int) (r1 : List Int) (r2 : Int) (w : World) (h : endF a0 a1 = some (r1, r2)) :
    Calls Try.prog 22 #[.int .i64 a0, .int .i64 a1] w fun e w' => ∃ v0_ : Value, e = .returned (.tuple #[v0_, .int .i64 r2]) ∧ Kd.R B 5 w' w.heap.size (fun _ => True) v0_ r1 ∧ Below w.heap.size w w' := by
  unfold endF at h
  split at h
  · rename_i hb
    obtain rfl := sealF_zero (by unfold endP; rw [setsL_length, setsL_length, setsL64 _ (by decide)]) h
    exact end_yes a0 a1 hb r1 h w
  · rename_i hb
    obtain ⟨rfl, rfl⟩ := Prod.mk.inj (Option.some.inj h)
    exact (end_no a0 a1 (by simpa using hb) w).mono fun e w' ⟨he, hw⟩ => ⟨_, he, Kd.R_nil _ _ _ _ _, hw ▸ Below.refl _ _⟩

def beginP (a0 : Int) (l0 : List Int) : List Int := setsL (setsL (setsL (textL (List.replicate 64 0) 0 ⟨#[66, 69, 71, 78]⟩) 4 4 [a0]) 8 1 [(l0.length : Int)]) 10 2 l0
theorem begin_long (a0 : Int) (A0 : Option Addr) (c0 : Nat) (l0 : List Int) (h : 20 < l0.length) (w : World) :
    Calls Try.prog 21 #[.agg #[.int .i64 a0, .slice A0 l0.length c0]] w fun e w' => e = .returned (.tuple #[.slice none 0 0, .int .i64 2]) ∧ Below w.heap.size w w' := by
  have hu := Try.underlying61
  have HB := Aside0.mk (grown_below w)
  have d1 : decide (20 < (l0.length : Int)) = true := decide_eq_true (by omega)
  have d2 : decide (20 < l0.length) = true := decide_eq_true h
  clear h
  go_enter Try.func21, Try.ntmps21
  go_wp2
  go_ret2
  exact ⟨rfl, HB.out _⟩
theorem begin_no (a0 : Int) (A0 : Option Addr) (c0 : Nat) (l0 : List Int) (h : ¬ 20 < l0.length) (w : World) (hr0 : Kd.C (Kd.int .i64) w A0 l0.length l0)
    (hS : ∀ W, Kd.C (Kd.int .i64) W A0 l0.length l0 → Calls Try.prog 35 #[.agg #[.int .i64 a0, .slice A0 l0.length c0]] W fun e w' => e = .returned (.bool false) ∧ Below W.heap.size W w') :
    Calls Try.prog 21 #[.agg #[.int .i64 a0, .slice A0 l0.length c0]] w fun e w' => e = .returned (.tuple #[.slice none 0 0, .int .i64 2]) ∧ Below w.heap.size w w' := by
  have hu := Try.underlying61
  have HB := Aside0.mk (grown_below w)
  have d1 : decide (20 < (l0.length : Int)) = false := decide_eq_false (by omega)
  have d2 : decide (20 < l0.length) = false := decide_eq_false h
  have HS := Aside0.mk (hS _ (Kd.C_alloc hr0 (.cells #[.int .i64 a0, .slice A0 l0.length c0] 61)))
  clear h hr0 hS
  go_enter Try.func21, Try.ntmps21
  go_wp2_with fail
  (with_reducible refine HS.out.mono ?_); rintro e w1 ⟨rfl, hb⟩
  have HB1 := Aside0.mk ((HB.out _).trans (hb.mono (HB.out _).size))
  clear hb
  go_wp2
  go_ret2
  exact ⟨rfl, HB1.out⟩
set_option maxHeartbeats 8000000 in
theorem begin_yes (a0 : Int) (A0 : Option Addr) (c0 : Nat) (l0 : List Int) (h : ¬ 20 < l0.length) (w : World) (hr0 : Kd.C (Kd.int .i64) w A0 l0.length l0) (ha : 0 ≤ a0 ∧ a0 < 4294967296) (hx : ∀ x ∈ l0, 0 ≤ x ∧ x < 4294967296)
    (hS : ∀ W, Kd.C (Kd.int .i64) W A0 l0.length l0 → Calls Try.prog 35 #[.agg #[.int .i64 a0, .slice A0 l0.length c0]] W fun e w' => e = .returned (.bool true) ∧ Below W.heap.size W w')
    (r1 : List Int) (hsl : sealF (beginP a0 l0) = some (r1, 0)) :
    Calls Try.prog 21 #[.agg #[.int .i64 a0, .slice A0 l0.length c0]] w fun e w' => ∃ v0_ : Value, e = .returned (.tuple #[v0_, .int .i64 0]) ∧ Kd.R B 5 w' w.heap.size (fun _ => True) v0_ r1 ∧ Below w.heap.size w w' := by
  have hu := Try.underlying61
  unfold beginP at hsl
  have hseal := Aside0.mk hsl
  have hx0 : Aside0 (∀ x ∈ [a0], 0 ≤ x ∧ x < 4294967296) := ⟨by intro x hx; simp only [List.mem_cons, List.not_mem_nil, or_false] at hx; omega⟩
  have hx1 : Aside0 (∀ x ∈ [(l0.length : Int)], 0 ≤ x ∧ x < 4294967296) := ⟨by intro x hx; simp only [List.mem_cons, List.not_mem_nil, or_false] at hx; omega⟩
  have hx2 := Aside0.mk hx
  have HL : Aside0 (10 + l0.length * 2 ≤ 64) := ⟨by omega⟩
  have HB0 := Aside0.mk (grown_below w)
  have d1 : decide (20 < (l0.length : Int)) = false := decide_eq_false (by omega)
  have d2 : decide (20 < l0.length) = false := decide_eq_false h
  have hbox : (w.alloc (.cells #[.int .i64 a0, .slice A0 l0.length c0] 61)).heap[w.heap.size]? = some (.cells #[.int .i64 a0, .slice A0 l0.length c0] 61 (0, 0)) := Array.getElem?_push_size
  have HBX := Aside0.mk hbox
  have hsz : (w.alloc (.cells #[.int .i64 a0, .slice A0 l0.length c0] 61)).heap.size = w.heap.size + 1 := Array.size_push _
  have HSZ := Aside0.mk hsz
  have HR0 := Aside0.mk (Kd.C_alloc hr0 (.cells #[.int .i64 a0, .slice A0 l0.length c0] 61))
  have HS := Aside0.mk (hS _ HR0.out)
  clear hsl hbox hsz h hx ha hr0 hS
  go_enter Try.func21, Try.ntmps21
  go_wp2_with fail
  (with_reducible refine HS.out.mono ?_); rintro e w1 ⟨rfl, hb⟩
  have HR : Aside0 (Kd.C (Kd.int .i64) w1 A0 l0.length l0) := ⟨Kd.C_below HR0.out hb⟩
  have HBW := Aside0.mk ((HB0.out _).trans (hb.mono (HB0.out _).size))
  have hblk : w1.heap[w.heap.size]? = some (.cells #[.int .i64 a0, .slice A0 l0.length c0] 61 (0, 0)) := (hb.block _ (by rw [HSZ.out]; exact Nat.lt_succ_self _)).trans HBX.out
  have hbx0 : w.heap.size < w1.heap.size := Nat.lt_of_lt_of_le (by rw [HSZ.out]; exact Nat.lt_succ_self _) hb.size
  clear hb HS HR0 HB0
  go_wp2_with fail
  obtain ⟨bx, hbxe⟩ : ∃ bx, bx = w.heap.size := ⟨_, rfl⟩
  rw [← hbxe] at hblk hbx0
  have hbx : bx < w1.heap.size := hbx0
  have hc0 : Aside0 (w1.cell? ⟨bx, 0, none⟩ = some (.int .i64 a0)) := ⟨blk_cell hblk 0⟩
  have hc1 : Aside0 (w1.cell? ⟨bx, 1, none⟩ = some (.slice A0 l0.length c0)) := ⟨blk_cell hblk 1⟩
  have HB := Aside0.mk (show Below w1.heap.size w1 w1.drew from below_drew (Below.refl _ _))
  clear hblk hbx0 HSZ HBX d1 d2
  rw [← hbxe]
  clear hbxe
  -- REGION begin
  refine start_ (n := 16) (S := fun w' => w'.cell? ⟨bx, 0, none⟩ = some (.int .i64 a0) ∧ w'.cell? ⟨bx, 1, none⟩ = some (.slice A0 l0.length c0)) (ds := []) #[false, false, false, false, false, false, false, false, false, false, false, false, false, false, false, false] (by kernel_rfl) rfl rfl ⟨((below_drew (Below.refl _ _)).cell hbx).trans hc0.out, ((below_drew (Below.refl _ _)).cell hbx).trans hc1.out⟩ (fun hHeld => ?_)
  refine pure_ (i := 1) (N := some 14) (v := ?_) (a' := ?_) #[false, true, false, false, false, false, false, false, false, false, false, false, false, false, false, false] rfl rfl (by kernel_rfl) (fun _ _ _ h => h) (Or.inl ⟨by rfl, ?_⟩) ?_ ?_
  rotate_left
  · intro w'
    go_simp
    with_reducible rfl
  rotate_left
  · simp only [Act.put, List.setIfInBounds_toArray, List.set_cons_zero, List.set_cons_succ, i64_w, i32_w]
    rfl
  refine pure_ (i := 5) (N := some 18) (v := ?_) (a' := ?_) #[false, true, false, false, false, true, false, false, false, false, false, false, false, false, false, false] rfl rfl (by kernel_rfl) (fun _ _ _ h => h) (Or.inl ⟨by rfl, ?_⟩) ?_ ?_
  rotate_left
  · intro w'
    go_simp
    with_reducible rfl
  rotate_left
  · simp only [Act.put, List.setIfInBounds_toArray, List.set_cons_zero, List.set_cons_succ, i64_w, i32_w]
    rfl
  refine pure_ (i := 10) (N := some 23) (v := ?_) (a' := ?_) #[false, true, false, false, false, true, false, false, false, false, true, false, false, false, false, false] rfl rfl (by kernel_rfl) (fun _ _ _ h => h) (Or.inl ⟨by rfl, ?_⟩) ?_ ?_
  rotate_left
  · intro w'
    go_simp
    with_reducible rfl
  rotate_left
  · simp only [Act.put, List.setIfInBounds_toArray, List.set_cons_zero, List.set_cons_succ, i64_w, i32_w]
    rfl
  refine take_ (i := 2) (N := some 15) (v := ?_) (a' := ?_) #[false, true, true, false, false, true, false, false, false, false, true, false, false, false, false, false] rfl rfl (by kernel_rfl) (fun _ _ _ h => h) (Or.inl ⟨by rfl, ?_⟩) hHeld ?_ ?_
  rotate_left
  · rintro w' ⟨s0, s1⟩
    go_simp
    with_reducible rfl
  rotate_left
  · simp only [Act.put, List.setIfInBounds_toArray, List.set_cons_zero, List.set_cons_succ, i64_w, i32_w]
    rfl
  refine take_ (i := 6) (N := some 19) (v := ?_) (a' := ?_) #[false, true, true, false, false, true, true, false, false, false, true, false, false, false, false, false] rfl rfl (by kernel_rfl) (fun _ _ _ h => h) (Or.inl ⟨by rfl, ?_⟩) hHeld ?_ ?_
  rotate_left
  · rintro w' ⟨s0, s1⟩
    go_simp
    with_reducible rfl
  rotate_left
  · simp only [Act.put, List.setIfInBounds_toArray, List.set_cons_zero, List.set_cons_succ, i64_w, i32_w]
    rfl
  refine pure_ (i := 7) (N := some 20) (v := ?_) (a' := ?_) #[false, true, true, false, false, true, true, true, false, false, true, false, false, false, false, false] rfl rfl (by kernel_rfl) (fun _ _ _ h => h) (Or.inl ⟨by rfl, ?_⟩) ?_ ?_
  rotate_left
  · intro w'
    go_simp
    with_reducible rfl
  rotate_left
  · simp only [Act.put, List.setIfInBounds_toArray, List.set_cons_zero, List.set_cons_succ, i64_w, i32_w]
    rfl
  refine take_ (i := 11) (N := some 24) (v := ?_) (a' := ?_) #[false, true, true, false, false, true, true, true, false, false, true, true, false, false, false, false] rfl rfl (by kernel_rfl) (fun _ _ _ h => h) (Or.inl ⟨by rfl, ?_⟩) hHeld ?_ ?_
  rotate_left
  · rintro w' ⟨s0, s1⟩
    go_simp
    with_reducible rfl
  rotate_left
  · simp only [Act.put, List.setIfInBounds_toArray, List.set_cons_zero, List.set_cons_succ, i64_w, i32_w]
    rfl
  refine join_ (σ := Nat × Nat × Nat × Nat) 5 #[true, true, true, true, true, true, true, true, true, false, true, true, false, false, false, false] (fun s => [(13, .pointer (some ⟨s.1, 0, none⟩)), (16, .slice (some ⟨s.2.2.1, 0, none⟩) 1 1), (17, .pointer (some ⟨s.1, 0, none⟩)), (21, .slice (some ⟨s.2.2.2, 0, none⟩) 1 1)]) (fun s w' => Below w1.heap.size w1 w' ∧ w1.heap.size ≤ s.2.1 ∧ Pg w' s.1 s.2.1 (setsL (textL (List.replicate 64 0) 0 ⟨#[66, 69, 71, 78]⟩) 4 4 [a0]) ∧ Ns w' s.2.2.1 [a0] ∧ Ns w' s.2.2.2 [(l0.length : Int)]) ?_ ?_
  rotate_left
  · intro hJ0_3_4_8
    refine join_ (σ := Nat × Nat × Nat) 6 #[true, true, true, true, true, true, true, true, false, false, true, true, false, false, false, false] (fun s => [(13, .pointer (some ⟨s.1, 0, none⟩)), (16, .slice (some ⟨s.2.2, 0, none⟩) 1 1), (17, .pointer (some ⟨s.1, 0, none⟩))]) (fun s w' => Below w1.heap.size w1 w' ∧ w1.heap.size ≤ s.2.1 ∧ Pg w' s.1 s.2.1 (setsL (textL (List.replicate 64 0) 0 ⟨#[66, 69, 71, 78]⟩) 4 4 [a0]) ∧ Ns w' s.2.2 [a0]) ?_ ?_
    rotate_left
    · intro hJ0_3_4
      refine join_ (σ := Nat × Nat × Nat × Nat) 6 #[true, true, true, true, false, true, true, true, true, false, true, true, false, false, false, false] (fun s => [(13, .pointer (some ⟨s.1, 0, none⟩)), (16, .slice (some ⟨s.2.2.1, 0, none⟩) 1 1), (21, .slice (some ⟨s.2.2.2, 0, none⟩) 1 1)]) (fun s w' => Below w1.heap.size w1 w' ∧ w1.heap.size ≤ s.2.1 ∧ Pg w' s.1 s.2.1 (textL (List.replicate 64 0) 0 ⟨#[66, 69, 71, 78]⟩) ∧ Ns w' s.2.2.1 [a0] ∧ Ns w' s.2.2.2 [(l0.length : Int)]) ?_ ?_
      rotate_left
      · intro hJ0_3_8
        refine join_ (σ := Nat × Nat × Nat) 7 #[true, true, true, true, false, true, true, true, false, false, true, true, false, false, false, false] (fun s => [(13, .pointer (some ⟨s.1, 0, none⟩)), (16, .slice (some ⟨s.2.2, 0, none⟩) 1 1)]) (fun s w' => Below w1.heap.size w1 w' ∧ w1.heap.size ≤ s.2.1 ∧ Pg w' s.1 s.2.1 (textL (List.replicate 64 0) 0 ⟨#[66, 69, 71, 78]⟩) ∧ Ns w' s.2.2 [a0]) ?_ ?_
        rotate_left
        · intro hJ0_3
          refine join_ (σ := Nat × Nat × Nat) 7 #[true, true, true, false, false, true, true, true, true, false, true, true, false, false, false, false] (fun s => [(13, .pointer (some ⟨s.1, 0, none⟩)), (21, .slice (some ⟨s.2.2, 0, none⟩) 1 1)]) (fun s w' => Below w1.heap.size w1 w' ∧ w1.heap.size ≤ s.2.1 ∧ Pg w' s.1 s.2.1 (textL (List.replicate 64 0) 0 ⟨#[66, 69, 71, 78]⟩) ∧ Ns w' s.2.2 [(l0.length : Int)]) ?_ ?_
          rotate_left
          · intro hJ0_8
            refine join_ (σ := Nat × Nat) 7 #[false, true, true, true, false, true, true, true, true, false, true, true, false, false, false, false] (fun s => [(16, .slice (some ⟨s.1, 0, none⟩) 1 1), (21, .slice (some ⟨s.2, 0, none⟩) 1 1)]) (fun s w' => Below w1.heap.size w1 w' ∧ Ns w' s.1 [a0] ∧ Ns w' s.2 [(l0.length : Int)]) ?_ ?_
            rotate_left
            · intro hJ3_8
              refine join_ (σ := Nat × Nat) 8 #[true, true, true, false, false, true, true, true, false, false, true, true, false, false, false, false] (fun s => [(13, .pointer (some ⟨s.1, 0, none⟩))]) (fun s w' => Below w1.heap.size w1 w' ∧ w1.heap.size ≤ s.2 ∧ Pg w' s.1 s.2 (textL (List.replicate 64 0) 0 ⟨#[66, 69, 71, 78]⟩)) ?_ ?_
              rotate_left
              · intro hJ0
                refine join_ (σ := Nat) 8 #[false, true, true, true, false, true, true, true, false, false, true, true, false, false, false, false] (fun s => [(16, .slice (some ⟨s, 0, none⟩) 1 1)]) (fun s w' => Below w1.heap.size w1 w' ∧ Ns w' s [a0]) ?_ ?_
                rotate_left
                · intro hJ3
                  refine join_ (σ := Nat) 8 #[false, true, true, false, false, true, true, true, true, false, true, true, false, false, false, false] (fun s => [(21, .slice (some ⟨s, 0, none⟩) 1 1)]) (fun s w' => Below w1.heap.size w1 w' ∧ Ns w' s [(l0.length : Int)]) ?_ ?_
                  rotate_left
                  · intro hJ8
                    refine three_ (i := 0) (j := 3) (k := 8) (Ni := some 13) (Nj := some 16) (Nk := some 21) #[true, true, true, false, false, true, true, true, false, false, true, true, false, false, false, false] #[false, true, true, true, false, true, true, true, false, false, true, true, false, false, false, false] #[false, true, true, false, false, true, true, true, true, false, true, true, false, false, false, false] rfl rfl rfl rfl rfl rfl (by kernel_rfl) (by decide) (by decide) (by decide) (fun K hK => ?_) (fun K hK => ?_) (fun K hK => ?_)
                    · skip
                      refine goes_ Try.func36 (by kernel_rfl) rfl #[.string ⟨#[66, 69, 71, 78]⟩] (by rfl) rfl rfl (by (try simp only [List.map_toArray, List.map_cons, List.map_nil]); first | done | rfl) ?_
                      with_reducible refine (newPage_calls ⟨#[66, 69, 71, 78]⟩ (by decide) _).mono ?_
                      rintro e w3 ⟨p, g, rfl, hp0, hg0, hP, hst⟩
                      refine ⟨_, rfl, ?_⟩
                      have HST := Aside0.mk hst
                      have HP := Aside0.mk hP
                      have HG := Aside0.mk (Nat.le_trans HB.out.size hg0)
                      have HB3 := Aside0.mk (HB.out.trans (hst.mono HB.out.size))
                      clear hst hP hp0 hg0
                      refine hK.out _ _ ⟨((HB3.out).cell hbx).trans hc0.out, ((HB3.out).cell hbx).trans hc1.out⟩ (fun hHeld => ?_)
                      clear hK K
                      refine norm_ (a' := ?_) ?_ ?_
                      rotate_left
                      · show Act.put _ (some 13) _ = _
                        simp only [Act.put, List.setIfInBounds_toArray, List.set_cons_zero, List.set_cons_succ, i64_w, i32_w]
                        rfl
                      exact norm_ (by first | (simp only [putAll, Act.put, List.setIfInBounds_toArray, List.set_cons_zero, List.set_cons_succ]; done) | (simp only [putAll, Act.put, List.setIfInBounds_toArray, List.set_cons_zero, List.set_cons_succ]; rfl)) (hJ0 (p, g) _ ⟨HB3.out, HG.out, HP.out⟩)
                    · skip
                      refine value_ (w1 := ?_) (v := ?_) (by rfl) rfl ?_ ?_
                      rotate_left 2
                      · go_simp
                        constructor
                        · rfl
                        · rfl
                      refine hK.out _ _ ⟨((HB.out.trans ((grown_below _ _).mono HB.out.size)).cell hbx).trans hc0.out, ((HB.out.trans ((grown_below _ _).mono HB.out.size)).cell hbx).trans hc1.out⟩ (fun hHeld => ?_)
                      clear hK K
                      refine norm_ (a' := ?_) ?_ ?_
                      rotate_left
                      · show Act.put _ (some 16) _ = _
                        simp only [Act.put, List.setIfInBounds_toArray, List.set_cons_zero, List.set_cons_succ, i64_w, i32_w]
                        rfl
                      exact norm_ (by first | (simp only [putAll, Act.put, List.setIfInBounds_toArray, List.set_cons_zero, List.set_cons_succ]; done) | (simp only [putAll, Act.put, List.setIfInBounds_toArray, List.set_cons_zero, List.set_cons_succ]; rfl)) (hJ3 _ _ ⟨HB.out.trans ((grown_below _ _).mono HB.out.size), grown_ns _ [a0]⟩)
                    · skip
                      refine value_ (w1 := ?_) (v := ?_) (by rfl) rfl ?_ ?_
                      rotate_left 2
                      · go_simp
                        constructor
                        · rfl
                        · rfl
                      refine hK.out _ _ ⟨((HB.out.trans ((grown_below _ _).mono HB.out.size)).cell hbx).trans hc0.out, ((HB.out.trans ((grown_below _ _).mono HB.out.size)).cell hbx).trans hc1.out⟩ (fun hHeld => ?_)
                      clear hK K
                      refine norm_ (a' := ?_) ?_ ?_
                      rotate_left
                      · show Act.put _ (some 21) _ = _
                        simp only [Act.put, List.setIfInBounds_toArray, List.set_cons_zero, List.set_cons_succ, i64_w, i32_w]
                        rfl
                      exact norm_ (by first | (simp only [putAll, Act.put, List.setIfInBounds_toArray, List.set_cons_zero, List.set_cons_succ]; done) | (simp only [putAll, Act.put, List.setIfInBounds_toArray, List.set_cons_zero, List.set_cons_succ]; rfl)) (hJ8 _ _ ⟨HB.out.trans ((grown_below _ _).mono HB.out.size), grown_ns _ [(l0.length : Int)]⟩)
                  · skip
                    rintro s1 w2 ⟨hB, hN1⟩
                    have HB := Aside0.mk hB
                    have HN1 := Aside0.mk hN1
                    have hHeld : (fun w' => w'.cell? ⟨bx, 0, none⟩ = some (.int .i64 a0) ∧ w'.cell? ⟨bx, 1, none⟩ = some (.slice A0 l0.length c0)) w2 := ⟨((HB.out).cell hbx).trans hc0.out, ((HB.out).cell hbx).trans hc1.out⟩
                    clear hB hN1
                    refine norm_ (a' := ?_) ?_ ?_
                    rotate_left
                    · simp only [putAll, Act.put, List.setIfInBounds_toArray, List.set_cons_zero, List.set_cons_succ]
                      rfl
                    refine two_ (i := 0) (j := 3) (Ni := some 13) (Nj := some 16) #[true, true, true, false, false, true, true, true, true, false, true, true, false, false, false, false] #[false, true, true, true, false, true, true, true, true, false, true, true, false, false, false, false] rfl rfl rfl rfl (by kernel_rfl) (by decide) (by decide) (fun K hK => ?_) (fun K hK => ?_)
                    · skip
                      refine goes_ Try.func36 (by kernel_rfl) rfl #[.string ⟨#[66, 69, 71, 78]⟩] (by rfl) rfl rfl (by (try simp only [List.map_toArray, List.map_cons, List.map_nil]); first | done | rfl) ?_
                      with_reducible refine (newPage_calls ⟨#[66, 69, 71, 78]⟩ (by decide) _).mono ?_
                      rintro e w3 ⟨p, g, rfl, hp0, hg0, hP, hst⟩
                      refine ⟨_, rfl, ?_⟩
                      have HST := Aside0.mk hst
                      have HP := Aside0.mk hP
                      have HG := Aside0.mk (Nat.le_trans HB.out.size hg0)
                      have HB3 := Aside0.mk (HB.out.trans (hst.mono HB.out.size))
                      clear hst hP hp0 hg0
                      refine hK.out _ _ ⟨((HB3.out).cell hbx).trans hc0.out, ((HB3.out).cell hbx).trans hc1.out⟩ (fun hHeld => ?_)
                      clear hK K
                      refine norm_ (a' := ?_) ?_ ?_
                      rotate_left
                      · show Act.put _ (some 13) _ = _
                        simp only [Act.put, List.setIfInBounds_toArray, List.set_cons_zero, List.set_cons_succ, i64_w, i32_w]
                        rfl
                      exact norm_ (by first | (simp only [putAll, Act.put, List.setIfInBounds_toArray, List.set_cons_zero, List.set_cons_succ]; done) | (simp only [putAll, Act.put, List.setIfInBounds_toArray, List.set_cons_zero, List.set_cons_succ]; rfl)) (hJ0_8 (p, g, s1) _ ⟨HB3.out, HG.out, HP.out, HN1.out.below HST.out HN1.out.lt⟩)
                    · skip
                      refine value_ (w1 := ?_) (v := ?_) (by rfl) rfl ?_ ?_
                      rotate_left 2
                      · go_simp
                        constructor
                        · rfl
                        · rfl
                      refine hK.out _ _ ⟨((HB.out.trans ((grown_below _ _).mono HB.out.size)).cell hbx).trans hc0.out, ((HB.out.trans ((grown_below _ _).mono HB.out.size)).cell hbx).trans hc1.out⟩ (fun hHeld => ?_)
                      clear hK K
                      refine norm_ (a' := ?_) ?_ ?_
                      rotate_left
                      · show Act.put _ (some 16) _ = _
                        simp only [Act.put, List.setIfInBounds_toArray, List.set_cons_zero, List.set_cons_succ, i64_w, i32_w]
                        rfl
                      exact norm_ (by first | (simp only [putAll, Act.put, List.setIfInBounds_toArray, List.set_cons_zero, List.set_cons_succ]; done) | (simp only [putAll, Act.put, List.setIfInBounds_toArray, List.set_cons_zero, List.set_cons_succ]; rfl)) (hJ3_8 (_, s1) _ ⟨HB.out.trans ((grown_below _ _).mono HB.out.size), grown_ns _ [a0], HN1.out.below (grown_below _ _) HN1.out.lt⟩)
                · skip
                  rintro s0 w2 ⟨hB, hN0⟩
                  have HB := Aside0.mk hB
                  have HN0 := Aside0.mk hN0
                  have hHeld : (fun w' => w'.cell? ⟨bx, 0, none⟩ = some (.int .i64 a0) ∧ w'.cell? ⟨bx, 1, none⟩ = some (.slice A0 l0.length c0)) w2 := ⟨((HB.out).cell hbx).trans hc0.out, ((HB.out).cell hbx).trans hc1.out⟩
                  clear hB hN0
                  refine norm_ (a' := ?_) ?_ ?_
                  rotate_left
                  · simp only [putAll, Act.put, List.setIfInBounds_toArray, List.set_cons_zero, List.set_cons_succ]
                    rfl
                  refine two_ (i := 0) (j := 8) (Ni := some 13) (Nj := some 21) #[true, true, true, true, false, true, true, true, false, false, true, true, false, false, false, false] #[false, true, true, true, false, true, true, true, true, false, true, true, false, false, false, false] rfl rfl rfl rfl (by kernel_rfl) (by decide) (by decide) (fun K hK => ?_) (fun K hK => ?_)
                  · skip
                    refine goes_ Try.func36 (by kernel_rfl) rfl #[.string ⟨#[66, 69, 71, 78]⟩] (by rfl) rfl rfl (by (try simp only [List.map_toArray, List.map_cons, List.map_nil]); first | done | rfl) ?_
                    with_reducible refine (newPage_calls ⟨#[66, 69, 71, 78]⟩ (by decide) _).mono ?_
                    rintro e w3 ⟨p, g, rfl, hp0, hg0, hP, hst⟩
                    refine ⟨_, rfl, ?_⟩
                    have HST := Aside0.mk hst
                    have HP := Aside0.mk hP
                    have HG := Aside0.mk (Nat.le_trans HB.out.size hg0)
                    have HB3 := Aside0.mk (HB.out.trans (hst.mono HB.out.size))
                    clear hst hP hp0 hg0
                    refine hK.out _ _ ⟨((HB3.out).cell hbx).trans hc0.out, ((HB3.out).cell hbx).trans hc1.out⟩ (fun hHeld => ?_)
                    clear hK K
                    refine norm_ (a' := ?_) ?_ ?_
                    rotate_left
                    · show Act.put _ (some 13) _ = _
                      simp only [Act.put, List.setIfInBounds_toArray, List.set_cons_zero, List.set_cons_succ, i64_w, i32_w]
                      rfl
                    exact norm_ (by first | (simp only [putAll, Act.put, List.setIfInBounds_toArray, List.set_cons_zero, List.set_cons_succ]; done) | (simp only [putAll, Act.put, List.setIfInBounds_toArray, List.set_cons_zero, List.set_cons_succ]; rfl)) (hJ0_3 (p, g, s0) _ ⟨HB3.out, HG.out, HP.out, HN0.out.below HST.out HN0.out.lt⟩)
                  · skip
                    refine value_ (w1 := ?_) (v := ?_) (by rfl) rfl ?_ ?_
                    rotate_left 2
                    · go_simp
                      constructor
                      · rfl
                      · rfl
                    refine hK.out _ _ ⟨((HB.out.trans ((grown_below _ _).mono HB.out.size)).cell hbx).trans hc0.out, ((HB.out.trans ((grown_below _ _).mono HB.out.size)).cell hbx).trans hc1.out⟩ (fun hHeld => ?_)
                    clear hK K
                    refine norm_ (a' := ?_) ?_ ?_
                    rotate_left
                    · show Act.put _ (some 21) _ = _
                      simp only [Act.put, List.setIfInBounds_toArray, List.set_cons_zero, List.set_cons_succ, i64_w, i32_w]
                      rfl
                    exact norm_ (by first | (simp only [putAll, Act.put, List.setIfInBounds_toArray, List.set_cons_zero, List.set_cons_succ]; done) | (simp only [putAll, Act.put, List.setIfInBounds_toArray, List.set_cons_zero, List.set_cons_succ]; rfl)) (hJ3_8 (s0, _) _ ⟨HB.out.trans ((grown_below _ _).mono HB.out.size), HN0.out.below (grown_below _ _) HN0.out.lt, grown_ns _ [(l0.length : Int)]⟩)
              · skip
                rintro ⟨p, g⟩ w2 ⟨hB, hg, hP⟩
                have HB := Aside0.mk hB
                have HG := Aside0.mk hg
                have HP := Aside0.mk hP
                have hHeld : (fun w' => w'.cell? ⟨bx, 0, none⟩ = some (.int .i64 a0) ∧ w'.cell? ⟨bx, 1, none⟩ = some (.slice A0 l0.length c0)) w2 := ⟨((HB.out).cell hbx).trans hc0.out, ((HB.out).cell hbx).trans hc1.out⟩
                clear hB hg hP
                refine norm_ (a' := ?_) ?_ ?_
                rotate_left
                · simp only [putAll, Act.put, List.setIfInBounds_toArray, List.set_cons_zero, List.set_cons_succ]
                  rfl
                refine two_ (i := 3) (j := 8) (Ni := some 16) (Nj := some 21) #[true, true, true, true, false, true, true, true, false, false, true, true, false, false, false, false] #[true, true, true, false, false, true, true, true, true, false, true, true, false, false, false, false] rfl rfl rfl rfl (by kernel_rfl) (by decide) (by decide) (fun K hK => ?_) (fun K hK => ?_)
                · skip
                  refine value_ (w1 := ?_) (v := ?_) (by rfl) rfl ?_ ?_
                  rotate_left 2
                  · go_simp
                    constructor
                    · rfl
                    · rfl
                  refine hK.out _ _ ⟨((HB.out.trans ((grown_below _ _).mono HB.out.size)).cell hbx).trans hc0.out, ((HB.out.trans ((grown_below _ _).mono HB.out.size)).cell hbx).trans hc1.out⟩ (fun hHeld => ?_)
                  clear hK K
                  refine norm_ (a' := ?_) ?_ ?_
                  rotate_left
                  · show Act.put _ (some 16) _ = _
                    simp only [Act.put, List.setIfInBounds_toArray, List.set_cons_zero, List.set_cons_succ, i64_w, i32_w]
                    rfl
                  exact norm_ (by first | (simp only [putAll, Act.put, List.setIfInBounds_toArray, List.set_cons_zero, List.set_cons_succ]; done) | (simp only [putAll, Act.put, List.setIfInBounds_toArray, List.set_cons_zero, List.set_cons_succ]; rfl)) (hJ0_3 (p, g, _) _ ⟨HB.out.trans ((grown_below _ _).mono HB.out.size), HG.out, HP.out.below (grown_below _ _) HP.out.lt.1 HP.out.lt.2, grown_ns _ [a0]⟩)
                · skip
                  refine value_ (w1 := ?_) (v := ?_) (by rfl) rfl ?_ ?_
                  rotate_left 2
                  · go_simp
                    constructor
                    · rfl
                    · rfl
                  refine hK.out _ _ ⟨((HB.out.trans ((grown_below _ _).mono HB.out.size)).cell hbx).trans hc0.out, ((HB.out.trans ((grown_below _ _).mono HB.out.size)).cell hbx).trans hc1.out⟩ (fun hHeld => ?_)
                  clear hK K
                  refine norm_ (a' := ?_) ?_ ?_
                  rotate_left
                  · show Act.put _ (some 21) _ = _
                    simp only [Act.put, List.setIfInBounds_toArray, List.set_cons_zero, List.set_cons_succ, i64_w, i32_w]
                    rfl
                  exact norm_ (by first | (simp only [putAll, Act.put, List.setIfInBounds_toArray, List.set_cons_zero, List.set_cons_succ]; done) | (simp only [putAll, Act.put, List.setIfInBounds_toArray, List.set_cons_zero, List.set_cons_succ]; rfl)) (hJ0_8 (p, g, _) _ ⟨HB.out.trans ((grown_below _ _).mono HB.out.size), HG.out, HP.out.below (grown_below _ _) HP.out.lt.1 HP.out.lt.2, grown_ns _ [(l0.length : Int)]⟩)
            · skip
              rintro ⟨s0, s1⟩ w2 ⟨hB, hN0, hN1⟩
              have HB := Aside0.mk hB
              have HN0 := Aside0.mk hN0
              have HN1 := Aside0.mk hN1
              have hHeld : (fun w' => w'.cell? ⟨bx, 0, none⟩ = some (.int .i64 a0) ∧ w'.cell? ⟨bx, 1, none⟩ = some (.slice A0 l0.length c0)) w2 := ⟨((HB.out).cell hbx).trans hc0.out, ((HB.out).cell hbx).trans hc1.out⟩
              clear hB hN0 hN1
              refine norm_ (a' := ?_) ?_ ?_
              rotate_left
              · simp only [putAll, Act.put, List.setIfInBounds_toArray, List.set_cons_zero, List.set_cons_succ]
                rfl
              refine one_ (i := 0) (N := some 13) #[true, true, true, true, false, true, true, true, true, false, true, true, false, false, false, false] rfl rfl (by kernel_rfl) (by decide) (fun K hK => ?_)
              refine goes_ Try.func36 (by kernel_rfl) rfl #[.string ⟨#[66, 69, 71, 78]⟩] (by rfl) rfl rfl (by (try simp only [List.map_toArray, List.map_cons, List.map_nil]); first | done | rfl) ?_
              with_reducible refine (newPage_calls ⟨#[66, 69, 71, 78]⟩ (by decide) _).mono ?_
              rintro e w3 ⟨p, g, rfl, hp0, hg0, hP, hst⟩
              refine ⟨_, rfl, ?_⟩
              have HST := Aside0.mk hst
              have HP := Aside0.mk hP
              have HG := Aside0.mk (Nat.le_trans HB.out.size hg0)
              have HB3 := Aside0.mk (HB.out.trans (hst.mono HB.out.size))
              clear hst hP hp0 hg0
              refine hK.out _ _ ⟨((HB3.out).cell hbx).trans hc0.out, ((HB3.out).cell hbx).trans hc1.out⟩ (fun hHeld => ?_)
              clear hK K
              refine norm_ (a' := ?_) ?_ ?_
              rotate_left
              · show Act.put _ (some 13) _ = _
                simp only [Act.put, List.setIfInBounds_toArray, List.set_cons_zero, List.set_cons_succ, i64_w, i32_w]
                rfl
              exact norm_ (by first | (simp only [putAll, Act.put, List.setIfInBounds_toArray, List.set_cons_zero, List.set_cons_succ]; done) | (simp only [putAll, Act.put, List.setIfInBounds_toArray, List.set_cons_zero, List.set_cons_succ]; rfl)) (hJ0_3_8 (p, g, s0, s1) _ ⟨HB3.out, HG.out, HP.out, HN0.out.below HST.out HN0.out.lt, HN1.out.below HST.out HN1.out.lt⟩)
          · skip
            rintro ⟨p, g, s1⟩ w2 ⟨hB, hg, hP, hN1⟩
            have HB := Aside0.mk hB
            have HG := Aside0.mk hg
            have HP := Aside0.mk hP
            have HN1 := Aside0.mk hN1
            have hHeld : (fun w' => w'.cell? ⟨bx, 0, none⟩ = some (.int .i64 a0) ∧ w'.cell? ⟨bx, 1, none⟩ = some (.slice A0 l0.length c0)) w2 := ⟨((HB.out).cell hbx).trans hc0.out, ((HB.out).cell hbx).trans hc1.out⟩
            clear hB hg hP hN1
            refine norm_ (a' := ?_) ?_ ?_
            rotate_left
            · simp only [putAll, Act.put, List.setIfInBounds_toArray, List.set_cons_zero, List.set_cons_succ]
              rfl
            refine one_ (i := 3) (N := some 16) #[true, true, true, true, false, true, true, true, true, false, true, true, false, false, false, false] rfl rfl (by kernel_rfl) (by decide) (fun K hK => ?_)
            refine value_ (w1 := ?_) (v := ?_) (by rfl) rfl ?_ ?_
            rotate_left 2
            · go_simp
              constructor
              · rfl
              · rfl
            refine hK.out _ _ ⟨((HB.out.trans ((grown_below _ _).mono HB.out.size)).cell hbx).trans hc0.out, ((HB.out.trans ((grown_below _ _).mono HB.out.size)).cell hbx).trans hc1.out⟩ (fun hHeld => ?_)
            clear hK K
            refine norm_ (a' := ?_) ?_ ?_
            rotate_left
            · show Act.put _ (some 16) _ = _
              simp only [Act.put, List.setIfInBounds_toArray, List.set_cons_zero, List.set_cons_succ, i64_w, i32_w]
              rfl
            exact norm_ (by first | (simp only [putAll, Act.put, List.setIfInBounds_toArray, List.set_cons_zero, List.set_cons_succ]; done) | (simp only [putAll, Act.put, List.setIfInBounds_toArray, List.set_cons_zero, List.set_cons_succ]; rfl)) (hJ0_3_8 (p, g, _, s1) _ ⟨HB.out.trans ((grown_below _ _).mono HB.out.size), HG.out, HP.out.below (grown_below _ _) HP.out.lt.1 HP.out.lt.2, grown_ns _ [a0], HN1.out.below (grown_below _ _) HN1.out.lt⟩)
        · skip
          rintro ⟨p, g, s0⟩ w2 ⟨hB, hg, hP, hN0⟩
          have HB := Aside0.mk hB
          have HG := Aside0.mk hg
          have HP := Aside0.mk hP
          have HN0 := Aside0.mk hN0
          have hHeld : (fun w' => w'.cell? ⟨bx, 0, none⟩ = some (.int .i64 a0) ∧ w'.cell? ⟨bx, 1, none⟩ = some (.slice A0 l0.length c0)) w2 := ⟨((HB.out).cell hbx).trans hc0.out, ((HB.out).cell hbx).trans hc1.out⟩
          clear hB hg hP hN0
          refine norm_ (a' := ?_) ?_ ?_
          rotate_left
          · simp only [putAll, Act.put, List.setIfInBounds_toArray, List.set_cons_zero, List.set_cons_succ]
            rfl
          refine two_ (i := 4) (j := 8) (Ni := some 17) (Nj := some 21) #[true, true, true, true, true, true, true, true, false, false, true, true, false, false, false, false] #[true, true, true, true, false, true, true, true, true, false, true, true, false, false, false, false] rfl rfl rfl rfl (by kernel_rfl) (by decide) (by decide) (fun K hK => ?_) (fun K hK => ?_)
          · skip
            refine goes_ Try.func37 (by kernel_rfl) rfl #[.pointer (some ⟨p, 0, none⟩), .int .i64 4, .int .i64 4, .slice (some ⟨s0, 0, none⟩) 1 1] (by rfl) rfl rfl (by (try simp only [List.map_toArray, List.map_cons, List.map_nil]); first | done | rfl) ?_
            with_reducible refine (set_at 4 4 1 p g s0 4 4 1 _ [a0] _ rfl rfl rfl HP.out HN0.out hx0.out (by decide) (by decide) (by simp) (Nat.le_refl _) (by simp)).mono ?_
            rintro e w3 ⟨rfl, hst⟩
            refine ⟨_, rfl, ?_⟩
            have HST := Aside0.mk hst
            have HB3 := Aside0.mk (HB.out.trans (hst.below HG.out))
            clear hst
            refine hK.out _ _ ⟨((HB3.out).cell hbx).trans hc0.out, ((HB3.out).cell hbx).trans hc1.out⟩ (fun hHeld => ?_)
            clear hK K
            refine norm_ (a' := ?_) ?_ ?_
            rotate_left
            · show Act.put _ (some 17) _ = _
              simp only [Act.put, List.setIfInBounds_toArray, List.set_cons_zero, List.set_cons_succ, i64_w, i32_w]
              rfl
            exact norm_ (by first | (simp only [putAll, Act.put, List.setIfInBounds_toArray, List.set_cons_zero, List.set_cons_succ]; done) | (simp only [putAll, Act.put, List.setIfInBounds_toArray, List.set_cons_zero, List.set_cons_succ]; rfl)) (hJ0_3_4 (p, g, s0) _ ⟨HB3.out, HG.out, HP.out.wrote (setsL_length _ _ _ _) HST.out, HN0.out.wrote (HN0.out.ne HP.out) HST.out⟩)
          · skip
            refine value_ (w1 := ?_) (v := ?_) (by rfl) rfl ?_ ?_
            rotate_left 2
            · go_simp
              constructor
              · rfl
              · rfl
            refine hK.out _ _ ⟨((HB.out.trans ((grown_below _ _).mono HB.out.size)).cell hbx).trans hc0.out, ((HB.out.trans ((grown_below _ _).mono HB.out.size)).cell hbx).trans hc1.out⟩ (fun hHeld => ?_)
            clear hK K
            refine norm_ (a' := ?_) ?_ ?_
            rotate_left
            · show Act.put _ (some 21) _ = _
              simp only [Act.put, List.setIfInBounds_toArray, List.set_cons_zero, List.set_cons_succ, i64_w, i32_w]
              rfl
            exact norm_ (by first | (simp only [putAll, Act.put, List.setIfInBounds_toArray, List.set_cons_zero, List.set_cons_succ]; done) | (simp only [putAll, Act.put, List.setIfInBounds_toArray, List.set_cons_zero, List.set_cons_succ]; rfl)) (hJ0_3_8 (p, g, s0, _) _ ⟨HB.out.trans ((grown_below _ _).mono HB.out.size), HG.out, HP.out.below (grown_below _ _) HP.out.lt.1 HP.out.lt.2, HN0.out.below (grown_below _ _) HN0.out.lt, grown_ns _ [(l0.length : Int)]⟩)
      · skip
        rintro ⟨p, g, s0, s1⟩ w2 ⟨hB, hg, hP, hN0, hN1⟩
        have HB := Aside0.mk hB
        have HG := Aside0.mk hg
        have HP := Aside0.mk hP
        have HN0 := Aside0.mk hN0
        have HN1 := Aside0.mk hN1
        have hHeld : (fun w' => w'.cell? ⟨bx, 0, none⟩ = some (.int .i64 a0) ∧ w'.cell? ⟨bx, 1, none⟩ = some (.slice A0 l0.length c0)) w2 := ⟨((HB.out).cell hbx).trans hc0.out, ((HB.out).cell hbx).trans hc1.out⟩
        clear hB hg hP hN0 hN1
        refine norm_ (a' := ?_) ?_ ?_
        rotate_left
        · simp only [putAll, Act.put, List.setIfInBounds_toArray, List.set_cons_zero, List.set_cons_succ]
          rfl
        refine one_ (i := 4) (N := some 17) #[true, true, true, true, true, true, true, true, true, false, true, true, false, false, false, false] rfl rfl (by kernel_rfl) (by decide) (fun K hK => ?_)
        refine goes_ Try.func37 (by kernel_rfl) rfl #[.pointer (some ⟨p, 0, none⟩), .int .i64 4, .int .i64 4, .slice (some ⟨s0, 0, none⟩) 1 1] (by rfl) rfl rfl (by (try simp only [List.map_toArray, List.map_cons, List.map_nil]); first | done | rfl) ?_
        with_reducible refine (set_at 4 4 1 p g s0 4 4 1 _ [a0] _ rfl rfl rfl HP.out HN0.out hx0.out (by decide) (by decide) (by simp) (Nat.le_refl _) (by simp)).mono ?_
        rintro e w3 ⟨rfl, hst⟩
        refine ⟨_, rfl, ?_⟩
        have HST := Aside0.mk hst
        have HB3 := Aside0.mk (HB.out.trans (hst.below HG.out))
        clear hst
        refine hK.out _ _ ⟨((HB3.out).cell hbx).trans hc0.out, ((HB3.out).cell hbx).trans hc1.out⟩ (fun hHeld => ?_)
        clear hK K
        refine norm_ (a' := ?_) ?_ ?_
        rotate_left
        · show Act.put _ (some 17) _ = _
          simp only [Act.put, List.setIfInBounds_toArray, List.set_cons_zero, List.set_cons_succ, i64_w, i32_w]
          rfl
        exact norm_ (by first | (simp only [putAll, Act.put, List.setIfInBounds_toArray, List.set_cons_zero, List.set_cons_succ]; done) | (simp only [putAll, Act.put, List.setIfInBounds_toArray, List.set_cons_zero, List.set_cons_succ]; rfl)) (hJ0_3_4_8 (p, g, s0, s1) _ ⟨HB3.out, HG.out, HP.out.wrote (setsL_length _ _ _ _) HST.out, HN0.out.wrote (HN0.out.ne HP.out) HST.out, HN1.out.wrote (HN1.out.ne HP.out) HST.out⟩)
    · skip
      rintro ⟨p, g, s0⟩ w2 ⟨hB, hg, hP, hN0⟩
      have HB := Aside0.mk hB
      have HG := Aside0.mk hg
      have HP := Aside0.mk hP
      have HN0 := Aside0.mk hN0
      have hHeld : (fun w' => w'.cell? ⟨bx, 0, none⟩ = some (.int .i64 a0) ∧ w'.cell? ⟨bx, 1, none⟩ = some (.slice A0 l0.length c0)) w2 := ⟨((HB.out).cell hbx).trans hc0.out, ((HB.out).cell hbx).trans hc1.out⟩
      clear hB hg hP hN0
      refine norm_ (a' := ?_) ?_ ?_
      rotate_left
      · simp only [putAll, Act.put, List.setIfInBounds_toArray, List.set_cons_zero, List.set_cons_succ]
        rfl
      refine one_ (i := 8) (N := some 21) #[true, true, true, true, true, true, true, true, true, false, true, true, false, false, false, false] rfl rfl (by kernel_rfl) (by decide) (fun K hK => ?_)
      refine value_ (w1 := ?_) (v := ?_) (by rfl) rfl ?_ ?_
      rotate_left 2
      · go_simp
        constructor
        · rfl
        · rfl
      refine hK.out _ _ ⟨((HB.out.trans ((grown_below _ _).mono HB.out.size)).cell hbx).trans hc0.out, ((HB.out.trans ((grown_below _ _).mono HB.out.size)).cell hbx).trans hc1.out⟩ (fun hHeld => ?_)
      clear hK K
      refine norm_ (a' := ?_) ?_ ?_
      rotate_left
      · show Act.put _ (some 21) _ = _
        simp only [Act.put, List.setIfInBounds_toArray, List.set_cons_zero, List.set_cons_succ, i64_w, i32_w]
        rfl
      exact norm_ (by first | (simp only [putAll, Act.put, List.setIfInBounds_toArray, List.set_cons_zero, List.set_cons_succ]; done) | (simp only [putAll, Act.put, List.setIfInBounds_toArray, List.set_cons_zero, List.set_cons_succ]; rfl)) (hJ0_3_4_8 (p, g, s0, _) _ ⟨HB.out.trans ((grown_below _ _).mono HB.out.size), HG.out, HP.out.below (grown_below _ _) HP.out.lt.1 HP.out.lt.2, HN0.out.below (grown_below _ _) HN0.out.lt, grown_ns _ [(l0.length : Int)]⟩)
  rintro ⟨p, g, s0, s1⟩ w2 ⟨hB, hg, hP, hN0, hN1⟩
  have HB := Aside0.mk hB
  have HG := Aside0.mk hg
  have HP := Aside0.mk hP
  have HN0 := Aside0.mk hN0
  have HN1 := Aside0.mk hN1
  have hHeld : (fun w' => w'.cell? ⟨bx, 0, none⟩ = some (.int .i64 a0) ∧ w'.cell? ⟨bx, 1, none⟩ = some (.slice A0 l0.length c0)) w2 := ⟨((HB.out).cell hbx).trans hc0.out, ((HB.out).cell hbx).trans hc1.out⟩
  clear hB hg hP hN0 hN1
  refine norm_ (a' := ?_) ?_ ?_
  rotate_left
  · simp only [putAll, Act.put, List.setIfInBounds_toArray, List.set_cons_zero, List.set_cons_succ]
    rfl
  refine one_ (i := 9) (N := some 22) #[true, true, true, true, true, true, true, true, true, true, true, true, false, false, false, false] rfl rfl (by kernel_rfl) (by decide) (fun K hK => ?_)
  refine goes_ Try.func37 (by kernel_rfl) rfl #[.pointer (some ⟨p, 0, none⟩), .int .i64 8, .int .i64 1, .slice (some ⟨s1, 0, none⟩) 1 1] (by rfl) rfl rfl (by (try simp only [List.map_toArray, List.map_cons, List.map_nil]); first | done | rfl) ?_
  with_reducible refine (set_at 8 1 1 p g s1 8 1 1 _ [(l0.length : Int)] _ rfl rfl rfl HP.out HN1.out hx1.out (by decide) (by decide) (by simp) (Nat.le_refl _) (by simp)).mono ?_
  rintro e w3 ⟨rfl, hst⟩
  refine ⟨_, rfl, ?_⟩
  have HST := Aside0.mk hst
  have HB3 := Aside0.mk (HB.out.trans (hst.below HG.out))
  clear hst
  have HP_ := Aside0.mk (HP.out.wrote (setsL_length _ _ _ _) HST.out)
  clear HP HST
  have HP := HP_
  clear HP_ HB
  have HB := HB3
  clear HB3
  refine hK.out _ _ ⟨((HB.out).cell hbx).trans hc0.out, ((HB.out).cell hbx).trans hc1.out⟩ (fun hHeld => ?_)
  clear hK K
  refine norm_ (a' := ?_) ?_ ?_
  rotate_left
  · show Act.put _ (some 22) _ = _
    simp only [Act.put, List.setIfInBounds_toArray, List.set_cons_zero, List.set_cons_succ, i64_w, i32_w]
    rfl
  refine one_ (i := 12) (N := some 25) #[true, true, true, true, true, true, true, true, true, true, true, true, true, false, false, false] rfl rfl (by kernel_rfl) (by decide) (fun K hK => ?_)
  refine goes_ Try.func37 (by kernel_rfl) rfl #[.pointer (some ⟨p, 0, none⟩), .int .i64 10, .int .i64 2, .slice A0 l0.length c0] (by rfl) rfl rfl (by (try simp only [List.map_toArray, List.map_cons, List.map_nil]); first | done | rfl) ?_
  with_reducible refine (setRow_at 10 2 p g 10 2 c0 A0 _ l0 _ rfl rfl HP.out (Kd.C_below HR.out HB.out) hx2.out (by decide) (by decide) HL.out).mono ?_
  rintro e w3 ⟨rfl, hst⟩
  refine ⟨_, rfl, ?_⟩
  have HST := Aside0.mk hst
  have HB3 := Aside0.mk (HB.out.trans (hst.below HG.out))
  clear hst
  have HP3 := Aside0.mk (HP.out.wrote (setsL_length _ _ _ _) HST.out)
  refine hK.out _ _ ⟨((HB3.out).cell hbx).trans hc0.out, ((HB3.out).cell hbx).trans hc1.out⟩ (fun hHeld => ?_)
  clear hK K
  refine norm_ (a' := ?_) ?_ ?_
  rotate_left
  · show Act.put _ (some 25) _ = _
    simp only [Act.put, List.setIfInBounds_toArray, List.set_cons_zero, List.set_cons_succ, i64_w, i32_w]
    rfl
  refine one_ (i := 13) (N := some 26) #[true, true, true, true, true, true, true, true, true, true, true, true, true, true, false, false] rfl rfl (by kernel_rfl) (by decide) (fun K hK => ?_)
  refine goes_ Try.func38 (by kernel_rfl) rfl #[.pointer (some ⟨p, 0, none⟩)] (by rfl) rfl rfl (by (try simp only [List.map_toArray, List.map_cons, List.map_nil]); first | done | rfl) ?_
  with_reducible refine (pageSeal_calls p g _ _ _ _ HP3.out hseal.out).mono ?_
  rintro e w4 ⟨v4, rfl, hR, hst⟩
  refine ⟨_, rfl, ?_⟩
  have HR4 := Aside0.mk hR
  have HB4 := Aside0.mk (HB3.out.trans (hst.mono HB3.out.size))
  have HL4 := Aside0.mk HB3.out.size
  clear hR hst
  refine hK.out _ _ ⟨((HB4.out).cell hbx).trans hc0.out, ((HB4.out).cell hbx).trans hc1.out⟩ (fun hHeld => ?_)
  clear hK K
  refine norm_ (a' := ?_) ?_ ?_
  rotate_left
  · show Act.put _ (some 26) _ = _
    simp only [Act.put, List.setIfInBounds_toArray, List.set_cons_zero, List.set_cons_succ, i64_w, i32_w]
    rfl
  refine pure_ (i := 14) (N := some 2) (v := ?_) (a' := ?_) #[true, true, true, true, true, true, true, true, true, true, true, true, true, true, true, false] rfl rfl (by kernel_rfl) (fun _ _ _ h => h) (Or.inl ⟨by rfl, ?_⟩) ?_ ?_
  rotate_left
  · intro w'
    go_simp
    with_reducible rfl
  rotate_left
  · simp only [Act.put, List.setIfInBounds_toArray, List.set_cons_zero, List.set_cons_succ, i64_w, i32_w]
    rfl
  refine pure_ (i := 15) (N := some 3) (v := ?_) (a' := ?_) #[true, true, true, true, true, true, true, true, true, true, true, true, true, true, true, true] rfl rfl (by kernel_rfl) (fun _ _ _ h => h) (Or.inl ⟨by rfl, ?_⟩) ?_ ?_
  rotate_left
  · intro w'
    go_simp
    with_reducible rfl
  rotate_left
  · simp only [Act.put, List.setIfInBounds_toArray, List.set_cons_zero, List.set_cons_succ, i64_w, i32_w]
    rfl
  refine done_ (by kernel_rfl) ?_
  -- END begin
  go_wp2
  go_ret2
  exact ⟨_, rfl, Kd.R_of_own (own_weaken (Kd.own_of_R HR4.out) (Nat.le_trans HBW.out.size HL4.out)) (fun _ _ => trivial), HBW.out.trans (HB4.out.mono HBW.out.size)⟩
end Go.Proofs.Ytcihfmehbmficaa.Log
