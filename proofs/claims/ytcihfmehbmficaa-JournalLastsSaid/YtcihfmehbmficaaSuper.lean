/- Walks of super.Encode and super.PutHead. -/
import Derived.Test.YtcihfmehbmficaaBase
import Derived.Test.YtcihfmehbmficaaWFour
namespace Go.Proofs.Ytcihfmehbmficaa.Super
open Go Go.RowKit Go.Proofs.YtcihfmehbmficaaW.PrintWords Go.Proofs.YtcihfmehbmficaaW.PrintLast Go.Proofs.YtcihfmehbmficaaW.PrintMore Go.Proofs.Ytcihfmehbmficaa.Field Go.Proofs.Ytcihfmehbmficaa.Text Go.Proofs.Ytcihfmehbmficaa.Spin Go.Proofs.Ytcihfmehbmficaa.Page
set_option linter.unusedVariables false
set_option maxRecDepth 100000
set_option linter.unusedSimpArgs false

def inB (n lo hi : Int) : Bool := decide (lo ≤ n) && decide (n ≤ hi)
theorem in_calls (n lo hi : Int) (w : World) :
    Calls Try.prog 50 #[.int .i64 n, .int .i64 lo, .int .i64 hi] w fun e w' => e = .returned (.bool (inB n lo hi)) ∧ w = w' := by
  unfold inB
  cases h : decide (lo ≤ n) with
  | true =>
    go_enter Try.func50, Try.ntmps50
    go_wp2
    go_ret
    exact ⟨by simp, rfl⟩
  | false =>
    go_enter Try.func50, Try.ntmps50
    go_wp2
    go_ret
    exact ⟨by simp, rfl⟩

def headB (a0 a1 : Int) : Bool := inB a0 0 39 && inB a1 1 1073741824
def headP (a0 a1 : Int) : List Int := setsL (setsL (textL (List.replicate 64 0) 0 ⟨#[72, 69, 65, 68]⟩) 4 1 [a0]) 8 4 [a1]

theorem head_no (a0 a1 : Int) (h : headB a0 a1 = false) (w : World) :
    Calls Try.prog 39 #[.agg #[.int .i64 a0, .int .i64 a1]] w fun e w' => e = .returned (.tuple #[.slice none 0 0, .int .i64 2]) ∧ Below w.heap.size w w' := by
  have hu := Try.underlying46
  have HB := Aside0.mk (grown_below w)
  unfold headB at h
  cases h1 : inB a0 0 39 with
  | false =>
    clear h
    go_enter Try.func39, Try.ntmps39
    go_wp2_with ((with_reducible refine (in_calls _ _ _ _).mono ?_); rintro e w1 ⟨rfl, rfl⟩; try rw [h1])
    go_ret2
    exact ⟨rfl, HB.out _⟩
  | true =>
    rw [h1, Bool.true_and] at h
    go_enter Try.func39, Try.ntmps39
    go_wp2_with ((with_reducible refine (in_calls _ _ _ _).mono ?_); rintro e w1 ⟨rfl, rfl⟩; first | rw [h1] | rw [h])
    go_ret2
    exact ⟨rfl, HB.out _⟩

set_option maxHeartbeats 8000000 in
theorem head_yes (a0 a1 : Int) (h : headB a0 a1 = true) (r1 : List Int) (hsl : sealF (headP a0 a1) = some (r1, 0)) (w : World) :
    Calls Try.prog 39 #[.agg #[.int .i64 a0, .int .i64 a1]] w fun e w' => ∃ v0_ : Value, e = .returned (.tuple #[v0_, .int .i64 0]) ∧ Kd.R B 5 w' w.heap.size (fun _ => True) v0_ r1 ∧ Below w.heap.size w w' := by
  have hu := Try.underlying46
  unfold headP at hsl
  have hseal := Aside0.mk hsl
  have hr := h
  simp only [headB, inB, Bool.and_eq_true, decide_eq_true_eq] at hr
  have hx0 : Aside0 (∀ x ∈ [a0], 0 ≤ x ∧ x < 4294967296) := ⟨by intro x hx; simp only [List.mem_cons, List.not_mem_nil, or_false] at hx; omega⟩
  have hx1 : Aside0 (∀ x ∈ [a1], 0 ≤ x ∧ x < 4294967296) := ⟨by intro x hx; simp only [List.mem_cons, List.not_mem_nil, or_false] at hx; omega⟩
  have HB0 := Aside0.mk (grown_below w)
  unfold headB at h
  rw [Bool.and_eq_true] at h
  obtain ⟨h1, h2⟩ := h
  have hbox : (w.alloc (.cells #[.int .i64 a0, .int .i64 a1] 46)).heap[w.heap.size]? = some (.cells #[.int .i64 a0, .int .i64 a1] 46 (0, 0)) := Array.getElem?_push_size
  have HBX := Aside0.mk hbox
  have hsz : (w.alloc (.cells #[.int .i64 a0, .int .i64 a1] 46)).heap.size = w.heap.size + 1 := Array.size_push _
  have HSZ := Aside0.mk hsz
  clear hsl hr hbox hsz
  go_enter Try.func39, Try.ntmps39
  go_wp2_with ((with_reducible refine (in_calls _ _ _ _).mono ?_); rintro e w1 ⟨rfl, rfl⟩; first | rw [h1] | rw [h2])
  obtain ⟨w1, hw1⟩ : ∃ w1, w1 = w.alloc (.cells #[.int .i64 a0, .int .i64 a1] 46) := ⟨_, rfl⟩
  obtain ⟨bx, hbxe⟩ : ∃ bx, bx = w.heap.size := ⟨_, rfl⟩
  have HSZ1 := HSZ.out
  have hblk := HBX.out
  have hB1 := HB0.out (.cells #[.int .i64 a0, .int .i64 a1] 46)
  rw [← hw1] at HSZ1 hblk hB1
  rw [← hbxe] at hblk
  have hbx : bx < w1.heap.size := by rw [HSZ1, hbxe]; exact Nat.lt_succ_self _
  have hc0 : Aside0 (w1.cell? ⟨bx, 0, none⟩ = some (.int .i64 a0)) := ⟨blk_cell hblk 0⟩
  have hc1 : Aside0 (w1.cell? ⟨bx, 1, none⟩ = some (.int .i64 a1)) := ⟨blk_cell hblk 1⟩
  have HBW := Aside0.mk hB1
  have HB := Aside0.mk (show Below w1.heap.size w1 w1.drew from below_drew (Below.refl _ _))
  clear hblk hB1 HSZ1 HSZ HBX
  rw [← hw1, ← hbxe]
  clear hbxe hw1
  -- REGION head
  refine start_ (n := 12) (S := fun w' => w'.cell? ⟨bx, 0, none⟩ = some (.int .i64 a0) ∧ w'.cell? ⟨bx, 1, none⟩ = some (.int .i64 a1)) (ds := []) #[false, false, false, false, false, false, false, false, false, false, false, false] (by kernel_rfl) rfl rfl ⟨((below_drew (Below.refl _ _)).cell hbx).trans hc0.out, ((below_drew (Below.refl _ _)).cell hbx).trans hc1.out⟩ (fun hHeld => ?_)
  refine pure_ (i := 1) (N := some 15) (v := ?_) (a' := ?_) #[false, true, false, false, false, false, false, false, false, false, false, false] rfl rfl (by kernel_rfl) (fun _ _ _ h => h) (Or.inl ⟨by rfl, ?_⟩) ?_ ?_
  rotate_left
  · intro w'
    go_simp
    with_reducible rfl
  rotate_left
  · simp only [Act.put, List.setIfInBounds_toArray, List.set_cons_zero, List.set_cons_succ, i64_w, i32_w]
    rfl
  refine pure_ (i := 5) (N := some 19) (v := ?_) (a' := ?_) #[false, true, false, false, false, true, false, false, false, false, false, false] rfl rfl (by kernel_rfl) (fun _ _ _ h => h) (Or.inl ⟨by rfl, ?_⟩) ?_ ?_
  rotate_left
  · intro w'
    go_simp
    with_reducible rfl
  rotate_left
  · simp only [Act.put, List.setIfInBounds_toArray, List.set_cons_zero, List.set_cons_succ, i64_w, i32_w]
    rfl
  refine take_ (i := 2) (N := some 16) (v := ?_) (a' := ?_) #[false, true, true, false, false, true, false, false, false, false, false, false] rfl rfl (by kernel_rfl) (fun _ _ _ h => h) (Or.inl ⟨by rfl, ?_⟩) hHeld ?_ ?_
  rotate_left
  · rintro w' ⟨s0, s1⟩
    go_simp
    with_reducible rfl
  rotate_left
  · simp only [Act.put, List.setIfInBounds_toArray, List.set_cons_zero, List.set_cons_succ, i64_w, i32_w]
    rfl
  refine take_ (i := 6) (N := some 20) (v := ?_) (a' := ?_) #[false, true, true, false, false, true, true, false, false, false, false, false] rfl rfl (by kernel_rfl) (fun _ _ _ h => h) (Or.inl ⟨by rfl, ?_⟩) hHeld ?_ ?_
  rotate_left
  · rintro w' ⟨s0, s1⟩
    go_simp
    with_reducible rfl
  rotate_left
  · simp only [Act.put, List.setIfInBounds_toArray, List.set_cons_zero, List.set_cons_succ, i64_w, i32_w]
    rfl
  refine join_ (σ := Nat × Nat × Nat × Nat) 4 #[true, true, true, true, true, true, true, true, false, false, false, false] (fun s => [(14, .pointer (some ⟨s.1, 0, none⟩)), (17, .slice (some ⟨s.2.2.1, 0, none⟩) 1 1), (18, .pointer (some ⟨s.1, 0, none⟩)), (21, .slice (some ⟨s.2.2.2, 0, none⟩) 1 1)]) (fun s w' => Below w1.heap.size w1 w' ∧ w1.heap.size ≤ s.2.1 ∧ Pg w' s.1 s.2.1 (setsL (textL (List.replicate 64 0) 0 ⟨#[72, 69, 65, 68]⟩) 4 1 [a0]) ∧ Ns w' s.2.2.1 [a0] ∧ Ns w' s.2.2.2 [a1]) ?_ ?_
  rotate_left
  · intro hJ0_3_4_7
    refine join_ (σ := Nat × Nat × Nat) 5 #[true, true, true, true, true, true, true, false, false, false, false, false] (fun s => [(14, .pointer (some ⟨s.1, 0, none⟩)), (17, .slice (some ⟨s.2.2, 0, none⟩) 1 1), (18, .pointer (some ⟨s.1, 0, none⟩))]) (fun s w' => Below w1.heap.size w1 w' ∧ w1.heap.size ≤ s.2.1 ∧ Pg w' s.1 s.2.1 (setsL (textL (List.replicate 64 0) 0 ⟨#[72, 69, 65, 68]⟩) 4 1 [a0]) ∧ Ns w' s.2.2 [a0]) ?_ ?_
    rotate_left
    · intro hJ0_3_4
      refine join_ (σ := Nat × Nat × Nat × Nat) 5 #[true, true, true, true, false, true, true, true, false, false, false, false] (fun s => [(14, .pointer (some ⟨s.1, 0, none⟩)), (17, .slice (some ⟨s.2.2.1, 0, none⟩) 1 1), (21, .slice (some ⟨s.2.2.2, 0, none⟩) 1 1)]) (fun s w' => Below w1.heap.size w1 w' ∧ w1.heap.size ≤ s.2.1 ∧ Pg w' s.1 s.2.1 (textL (List.replicate 64 0) 0 ⟨#[72, 69, 65, 68]⟩) ∧ Ns w' s.2.2.1 [a0] ∧ Ns w' s.2.2.2 [a1]) ?_ ?_
      rotate_left
      · intro hJ0_3_7
        refine join_ (σ := Nat × Nat × Nat) 6 #[true, true, true, true, false, true, true, false, false, false, false, false] (fun s => [(14, .pointer (some ⟨s.1, 0, none⟩)), (17, .slice (some ⟨s.2.2, 0, none⟩) 1 1)]) (fun s w' => Below w1.heap.size w1 w' ∧ w1.heap.size ≤ s.2.1 ∧ Pg w' s.1 s.2.1 (textL (List.replicate 64 0) 0 ⟨#[72, 69, 65, 68]⟩) ∧ Ns w' s.2.2 [a0]) ?_ ?_
        rotate_left
        · intro hJ0_3
          refine join_ (σ := Nat × Nat × Nat) 6 #[true, true, true, false, false, true, true, true, false, false, false, false] (fun s => [(14, .pointer (some ⟨s.1, 0, none⟩)), (21, .slice (some ⟨s.2.2, 0, none⟩) 1 1)]) (fun s w' => Below w1.heap.size w1 w' ∧ w1.heap.size ≤ s.2.1 ∧ Pg w' s.1 s.2.1 (textL (List.replicate 64 0) 0 ⟨#[72, 69, 65, 68]⟩) ∧ Ns w' s.2.2 [a1]) ?_ ?_
          rotate_left
          · intro hJ0_7
            refine join_ (σ := Nat × Nat) 6 #[false, true, true, true, false, true, true, true, false, false, false, false] (fun s => [(17, .slice (some ⟨s.1, 0, none⟩) 1 1), (21, .slice (some ⟨s.2, 0, none⟩) 1 1)]) (fun s w' => Below w1.heap.size w1 w' ∧ Ns w' s.1 [a0] ∧ Ns w' s.2 [a1]) ?_ ?_
            rotate_left
            · intro hJ3_7
              refine join_ (σ := Nat × Nat) 7 #[true, true, true, false, false, true, true, false, false, false, false, false] (fun s => [(14, .pointer (some ⟨s.1, 0, none⟩))]) (fun s w' => Below w1.heap.size w1 w' ∧ w1.heap.size ≤ s.2 ∧ Pg w' s.1 s.2 (textL (List.replicate 64 0) 0 ⟨#[72, 69, 65, 68]⟩)) ?_ ?_
              rotate_left
              · intro hJ0
                refine join_ (σ := Nat) 7 #[false, true, true, true, false, true, true, false, false, false, false, false] (fun s => [(17, .slice (some ⟨s, 0, none⟩) 1 1)]) (fun s w' => Below w1.heap.size w1 w' ∧ Ns w' s [a0]) ?_ ?_
                rotate_left
                · intro hJ3
                  refine join_ (σ := Nat) 7 #[false, true, true, false, false, true, true, true, false, false, false, false] (fun s => [(21, .slice (some ⟨s, 0, none⟩) 1 1)]) (fun s w' => Below w1.heap.size w1 w' ∧ Ns w' s [a1]) ?_ ?_
                  rotate_left
                  · intro hJ7
                    refine three_ (i := 0) (j := 3) (k := 7) (Ni := some 14) (Nj := some 17) (Nk := some 21) #[true, true, true, false, false, true, true, false, false, false, false, false] #[false, true, true, true, false, true, true, false, false, false, false, false] #[false, true, true, false, false, true, true, true, false, false, false, false] rfl rfl rfl rfl rfl rfl (by kernel_rfl) (by decide) (by decide) (by decide) (fun K hK => ?_) (fun K hK => ?_) (fun K hK => ?_)
                    · skip
                      refine goes_ Try.func36 (by kernel_rfl) rfl #[.string ⟨#[72, 69, 65, 68]⟩] (by rfl) rfl rfl (by (try simp only [List.map_toArray, List.map_cons, List.map_nil]); first | done | rfl) ?_
                      with_reducible refine (newPage_calls ⟨#[72, 69, 65, 68]⟩ (by decide) _).mono ?_
                      rintro e w3 ⟨p, g, rfl, hp0, hg0, hP, hst⟩
                      refine ⟨_, rfl, ?_⟩
                      have HST := Aside0.mk hst
                      have HP := Aside0.mk hP
                      have HG := Aside0.mk (Nat.le_trans HB.out.size hg0)
                      have HB3 := Aside0.mk (HB.out.trans (hst.mono HB.out.size))
                      clear hst hP hp0 hg0
                      refine hK.out _ _ ⟨((HB3.out).cell hbx).trans hc0.out, ((HB3.out).cell hbx).trans hc1.out⟩ (fun hHeld => ?_)
                      clear hK K
                      refine norm_ (a' := ?_) ?_ ?_
                      rotate_left
                      · show Act.put _ (some 14) _ = _
                        simp only [Act.put, List.setIfInBounds_toArray, List.set_cons_zero, List.set_cons_succ, i64_w, i32_w]
                        rfl
                      exact norm_ (by first | (simp only [putAll, Act.put, List.setIfInBounds_toArray, List.set_cons_zero, List.set_cons_succ]; done) | (simp only [putAll, Act.put, List.setIfInBounds_toArray, List.set_cons_zero, List.set_cons_succ]; rfl)) (hJ0 (p, g) _ ⟨HB3.out, HG.out, HP.out⟩)
                    · skip
                      refine value_ (w1 := ?_) (v := ?_) (by rfl) rfl ?_ ?_
                      rotate_left 2
                      · go_simp
                        constructor
                        · rfl
                        · rfl
                      refine hK.out _ _ ⟨((HB.out.trans ((grown_below _ _).mono HB.out.size)).cell hbx).trans hc0.out, ((HB.out.trans ((grown_below _ _).mono HB.out.size)).cell hbx).trans hc1.out⟩ (fun hHeld => ?_)
                      clear hK K
                      refine norm_ (a' := ?_) ?_ ?_
                      rotate_left
                      · show Act.put _ (some 17) _ = _
                        simp only [Act.put, List.setIfInBounds_toArray, List.set_cons_zero, List.set_cons_succ, i64_w, i32_w]
                        rfl
                      exact norm_ (by first | (simp only [putAll, Act.put, List.setIfInBounds_toArray, List.set_cons_zero, List.set_cons_succ]; done) | (simp only [putAll, Act.put, List.setIfInBounds_toArray, List.set_cons_zero, List.set_cons_succ]; rfl)) (hJ3 _ _ ⟨HB.out.trans ((grown_below _ _).mono HB.out.size), grown_ns _ [a0]⟩)
                    · skip
                      refine value_ (w1 := ?_) (v := ?_) (by rfl) rfl ?_ ?_
                      rotate_left 2
                      · go_simp
                        constructor
                        · rfl
                        · rfl
                      refine hK.out _ _ ⟨((HB.out.trans ((grown_below _ _).mono HB.out.size)).cell hbx).trans hc0.out, ((HB.out.trans ((grown_below _ _).mono HB.out.size)).cell hbx).trans hc1.out⟩ (fun hHeld => ?_)
                      clear hK K
                      refine norm_ (a' := ?_) ?_ ?_
                      rotate_left
                      · show Act.put _ (some 21) _ = _
                        simp only [Act.put, List.setIfInBounds_toArray, List.set_cons_zero, List.set_cons_succ, i64_w, i32_w]
                        rfl
                      exact norm_ (by first | (simp only [putAll, Act.put, List.setIfInBounds_toArray, List.set_cons_zero, List.set_cons_succ]; done) | (simp only [putAll, Act.put, List.setIfInBounds_toArray, List.set_cons_zero, List.set_cons_succ]; rfl)) (hJ7 _ _ ⟨HB.out.trans ((grown_below _ _).mono HB.out.size), grown_ns _ [a1]⟩)
                  · skip
                    rintro s1 w2 ⟨hB, hN1⟩
                    have HB := Aside0.mk hB
                    have HN1 := Aside0.mk hN1
                    have hHeld : (fun w' => w'.cell? ⟨bx, 0, none⟩ = some (.int .i64 a0) ∧ w'.cell? ⟨bx, 1, none⟩ = some (.int .i64 a1)) w2 := ⟨((HB.out).cell hbx).trans hc0.out, ((HB.out).cell hbx).trans hc1.out⟩
                    clear hB hN1
                    refine norm_ (a' := ?_) ?_ ?_
                    rotate_left
                    · simp only [putAll, Act.put, List.setIfInBounds_toArray, List.set_cons_zero, List.set_cons_succ]
                      rfl
                    refine two_ (i := 0) (j := 3) (Ni := some 14) (Nj := some 17) #[true, true, true, false, false, true, true, true, false, false, false, false] #[false, true, true, true, false, true, true, true, false, false, false, false] rfl rfl rfl rfl (by kernel_rfl) (by decide) (by decide) (fun K hK => ?_) (fun K hK => ?_)
                    · skip
                      refine goes_ Try.func36 (by kernel_rfl) rfl #[.string ⟨#[72, 69, 65, 68]⟩] (by rfl) rfl rfl (by (try simp only [List.map_toArray, List.map_cons, List.map_nil]); first | done | rfl) ?_
                      with_reducible refine (newPage_calls ⟨#[72, 69, 65, 68]⟩ (by decide) _).mono ?_
                      rintro e w3 ⟨p, g, rfl, hp0, hg0, hP, hst⟩
                      refine ⟨_, rfl, ?_⟩
                      have HST := Aside0.mk hst
                      have HP := Aside0.mk hP
                      have HG := Aside0.mk (Nat.le_trans HB.out.size hg0)
                      have HB3 := Aside0.mk (HB.out.trans (hst.mono HB.out.size))
                      clear hst hP hp0 hg0
                      refine hK.out _ _ ⟨((HB3.out).cell hbx).trans hc0.out, ((HB3.out).cell hbx).trans hc1.out⟩ (fun hHeld => ?_)
                      clear hK K
                      refine norm_ (a' := ?_) ?_ ?_
                      rotate_left
                      · show Act.put _ (some 14) _ = _
                        simp only [Act.put, List.setIfInBounds_toArray, List.set_cons_zero, List.set_cons_succ, i64_w, i32_w]
                        rfl
                      exact norm_ (by first | (simp only [putAll, Act.put, List.setIfInBounds_toArray, List.set_cons_zero, List.set_cons_succ]; done) | (simp only [putAll, Act.put, List.setIfInBounds_toArray, List.set_cons_zero, List.set_cons_succ]; rfl)) (hJ0_7 (p, g, s1) _ ⟨HB3.out, HG.out, HP.out, HN1.out.below HST.out HN1.out.lt⟩)
                    · skip
                      refine value_ (w1 := ?_) (v := ?_) (by rfl) rfl ?_ ?_
                      rotate_left 2
                      · go_simp
                        constructor
                        · rfl
                        · rfl
                      refine hK.out _ _ ⟨((HB.out.trans ((grown_below _ _).mono HB.out.size)).cell hbx).trans hc0.out, ((HB.out.trans ((grown_below _ _).mono HB.out.size)).cell hbx).trans hc1.out⟩ (fun hHeld => ?_)
                      clear hK K
                      refine norm_ (a' := ?_) ?_ ?_
                      rotate_left
                      · show Act.put _ (some 17) _ = _
                        simp only [Act.put, List.setIfInBounds_toArray, List.set_cons_zero, List.set_cons_succ, i64_w, i32_w]
                        rfl
                      exact norm_ (by first | (simp only [putAll, Act.put, List.setIfInBounds_toArray, List.set_cons_zero, List.set_cons_succ]; done) | (simp only [putAll, Act.put, List.setIfInBounds_toArray, List.set_cons_zero, List.set_cons_succ]; rfl)) (hJ3_7 (_, s1) _ ⟨HB.out.trans ((grown_below _ _).mono HB.out.size), grown_ns _ [a0], HN1.out.below (grown_below _ _) HN1.out.lt⟩)
                · skip
                  rintro s0 w2 ⟨hB, hN0⟩
                  have HB := Aside0.mk hB
                  have HN0 := Aside0.mk hN0
                  have hHeld : (fun w' => w'.cell? ⟨bx, 0, none⟩ = some (.int .i64 a0) ∧ w'.cell? ⟨bx, 1, none⟩ = some (.int .i64 a1)) w2 := ⟨((HB.out).cell hbx).trans hc0.out, ((HB.out).cell hbx).trans hc1.out⟩
                  clear hB hN0
                  refine norm_ (a' := ?_) ?_ ?_
                  rotate_left
                  · simp only [putAll, Act.put, List.setIfInBounds_toArray, List.set_cons_zero, List.set_cons_succ]
                    rfl
                  refine two_ (i := 0) (j := 7) (Ni := some 14) (Nj := some 21) #[true, true, true, true, false, true, true, false, false, false, false, false] #[false, true, true, true, false, true, true, true, false, false, false, false] rfl rfl rfl rfl (by kernel_rfl) (by decide) (by decide) (fun K hK => ?_) (fun K hK => ?_)
                  · skip
                    refine goes_ Try.func36 (by kernel_rfl) rfl #[.string ⟨#[72, 69, 65, 68]⟩] (by rfl) rfl rfl (by (try simp only [List.map_toArray, List.map_cons, List.map_nil]); first | done | rfl) ?_
                    with_reducible refine (newPage_calls ⟨#[72, 69, 65, 68]⟩ (by decide) _).mono ?_
                    rintro e w3 ⟨p, g, rfl, hp0, hg0, hP, hst⟩
                    refine ⟨_, rfl, ?_⟩
                    have HST := Aside0.mk hst
                    have HP := Aside0.mk hP
                    have HG := Aside0.mk (Nat.le_trans HB.out.size hg0)
                    have HB3 := Aside0.mk (HB.out.trans (hst.mono HB.out.size))
                    clear hst hP hp0 hg0
                    refine hK.out _ _ ⟨((HB3.out).cell hbx).trans hc0.out, ((HB3.out).cell hbx).trans hc1.out⟩ (fun hHeld => ?_)
                    clear hK K
                    refine norm_ (a' := ?_) ?_ ?_
                    rotate_left
                    · show Act.put _ (some 14) _ = _
                      simp only [Act.put, List.setIfInBounds_toArray, List.set_cons_zero, List.set_cons_succ, i64_w, i32_w]
                      rfl
                    exact norm_ (by first | (simp only [putAll, Act.put, List.setIfInBounds_toArray, List.set_cons_zero, List.set_cons_succ]; done) | (simp only [putAll, Act.put, List.setIfInBounds_toArray, List.set_cons_zero, List.set_cons_succ]; rfl)) (hJ0_3 (p, g, s0) _ ⟨HB3.out, HG.out, HP.out, HN0.out.below HST.out HN0.out.lt⟩)
                  · skip
                    refine value_ (w1 := ?_) (v := ?_) (by rfl) rfl ?_ ?_
                    rotate_left 2
                    · go_simp
                      constructor
                      · rfl
                      · rfl
                    refine hK.out _ _ ⟨((HB.out.trans ((grown_below _ _).mono HB.out.size)).cell hbx).trans hc0.out, ((HB.out.trans ((grown_below _ _).mono HB.out.size)).cell hbx).trans hc1.out⟩ (fun hHeld => ?_)
                    clear hK K
                    refine norm_ (a' := ?_) ?_ ?_
                    rotate_left
                    · show Act.put _ (some 21) _ = _
                      simp only [Act.put, List.setIfInBounds_toArray, List.set_cons_zero, List.set_cons_succ, i64_w, i32_w]
                      rfl
                    exact norm_ (by first | (simp only [putAll, Act.put, List.setIfInBounds_toArray, List.set_cons_zero, List.set_cons_succ]; done) | (simp only [putAll, Act.put, List.setIfInBounds_toArray, List.set_cons_zero, List.set_cons_succ]; rfl)) (hJ3_7 (s0, _) _ ⟨HB.out.trans ((grown_below _ _).mono HB.out.size), HN0.out.below (grown_below _ _) HN0.out.lt, grown_ns _ [a1]⟩)
              · skip
                rintro ⟨p, g⟩ w2 ⟨hB, hg, hP⟩
                have HB := Aside0.mk hB
                have HG := Aside0.mk hg
                have HP := Aside0.mk hP
                have hHeld : (fun w' => w'.cell? ⟨bx, 0, none⟩ = some (.int .i64 a0) ∧ w'.cell? ⟨bx, 1, none⟩ = some (.int .i64 a1)) w2 := ⟨((HB.out).cell hbx).trans hc0.out, ((HB.out).cell hbx).trans hc1.out⟩
                clear hB hg hP
                refine norm_ (a' := ?_) ?_ ?_
                rotate_left
                · simp only [putAll, Act.put, List.setIfInBounds_toArray, List.set_cons_zero, List.set_cons_succ]
                  rfl
                refine two_ (i := 3) (j := 7) (Ni := some 17) (Nj := some 21) #[true, true, true, true, false, true, true, false, false, false, false, false] #[true, true, true, false, false, true, true, true, false, false, false, false] rfl rfl rfl rfl (by kernel_rfl) (by decide) (by decide) (fun K hK => ?_) (fun K hK => ?_)
                · skip
                  refine value_ (w1 := ?_) (v := ?_) (by rfl) rfl ?_ ?_
                  rotate_left 2
                  · go_simp
                    constructor
                    · rfl
                    · rfl
                  refine hK.out _ _ ⟨((HB.out.trans ((grown_below _ _).mono HB.out.size)).cell hbx).trans hc0.out, ((HB.out.trans ((grown_below _ _).mono HB.out.size)).cell hbx).trans hc1.out⟩ (fun hHeld => ?_)
                  clear hK K
                  refine norm_ (a' := ?_) ?_ ?_
                  rotate_left
                  · show Act.put _ (some 17) _ = _
                    simp only [Act.put, List.setIfInBounds_toArray, List.set_cons_zero, List.set_cons_succ, i64_w, i32_w]
                    rfl
                  exact norm_ (by first | (simp only [putAll, Act.put, List.setIfInBounds_toArray, List.set_cons_zero, List.set_cons_succ]; done) | (simp only [putAll, Act.put, List.setIfInBounds_toArray, List.set_cons_zero, List.set_cons_succ]; rfl)) (hJ0_3 (p, g, _) _ ⟨HB.out.trans ((grown_below _ _).mono HB.out.size), HG.out, HP.out.below (grown_below _ _) HP.out.lt.1 HP.out.lt.2, grown_ns _ [a0]⟩)
                · skip
                  refine value_ (w1 := ?_) (v := ?_) (by rfl) rfl ?_ ?_
                  rotate_left 2
                  · go_simp
                    constructor
                    · rfl
                    · rfl
                  refine hK.out _ _ ⟨((HB.out.trans ((grown_below _ _).mono HB.out.size)).cell hbx).trans hc0.out, ((HB.out.trans ((grown_below _ _).mono HB.out.size)).cell hbx).trans hc1.out⟩ (fun hHeld => ?_)
                  clear hK K
                  refine norm_ (a' := ?_) ?_ ?_
                  rotate_left
                  · show Act.put _ (some 21) _ = _
                    simp only [Act.put, List.setIfInBounds_toArray, List.set_cons_zero, List.set_cons_succ, i64_w, i32_w]
                    rfl
                  exact norm_ (by first | (simp only [putAll, Act.put, List.setIfInBounds_toArray, List.set_cons_zero, List.set_cons_succ]; done) | (simp only [putAll, Act.put, List.setIfInBounds_toArray, List.set_cons_zero, List.set_cons_succ]; rfl)) (hJ0_7 (p, g, _) _ ⟨HB.out.trans ((grown_below _ _).mono HB.out.size), HG.out, HP.out.below (grown_below _ _) HP.out.lt.1 HP.out.lt.2, grown_ns _ [a1]⟩)
            · skip
              rintro ⟨s0, s1⟩ w2 ⟨hB, hN0, hN1⟩
              have HB := Aside0.mk hB
              have HN0 := Aside0.mk hN0
              have HN1 := Aside0.mk hN1
              have hHeld : (fun w' => w'.cell? ⟨bx, 0, none⟩ = some (.int .i64 a0) ∧ w'.cell? ⟨bx, 1, none⟩ = some (.int .i64 a1)) w2 := ⟨((HB.out).cell hbx).trans hc0.out, ((HB.out).cell hbx).trans hc1.out⟩
              clear hB hN0 hN1
              refine norm_ (a' := ?_) ?_ ?_
              rotate_left
              · simp only [putAll, Act.put, List.setIfInBounds_toArray, List.set_cons_zero, List.set_cons_succ]
                rfl
              refine one_ (i := 0) (N := some 14) #[true, true, true, true, false, true, true, true, false, false, false, false] rfl rfl (by kernel_rfl) (by decide) (fun K hK => ?_)
              refine goes_ Try.func36 (by kernel_rfl) rfl #[.string ⟨#[72, 69, 65, 68]⟩] (by rfl) rfl rfl (by (try simp only [List.map_toArray, List.map_cons, List.map_nil]); first | done | rfl) ?_
              with_reducible refine (newPage_calls ⟨#[72, 69, 65, 68]⟩ (by decide) _).mono ?_
              rintro e w3 ⟨p, g, rfl, hp0, hg0, hP, hst⟩
              refine ⟨_, rfl, ?_⟩
              have HST := Aside0.mk hst
              have HP := Aside0.mk hP
              have HG := Aside0.mk (Nat.le_trans HB.out.size hg0)
              have HB3 := Aside0.mk (HB.out.trans (hst.mono HB.out.size))
              clear hst hP hp0 hg0
              refine hK.out _ _ ⟨((HB3.out).cell hbx).trans hc0.out, ((HB3.out).cell hbx).trans hc1.out⟩ (fun hHeld => ?_)
              clear hK K
              refine norm_ (a' := ?_) ?_ ?_
              rotate_left
              · show Act.put _ (some 14) _ = _
                simp only [Act.put, List.setIfInBounds_toArray, List.set_cons_zero, List.set_cons_succ, i64_w, i32_w]
                rfl
              exact norm_ (by first | (simp only [putAll, Act.put, List.setIfInBounds_toArray, List.set_cons_zero, List.set_cons_succ]; done) | (simp only [putAll, Act.put, List.setIfInBounds_toArray, List.set_cons_zero, List.set_cons_succ]; rfl)) (hJ0_3_7 (p, g, s0, s1) _ ⟨HB3.out, HG.out, HP.out, HN0.out.below HST.out HN0.out.lt, HN1.out.below HST.out HN1.out.lt⟩)
          · skip
            rintro ⟨p, g, s1⟩ w2 ⟨hB, hg, hP, hN1⟩
            have HB := Aside0.mk hB
            have HG := Aside0.mk hg
            have HP := Aside0.mk hP
            have HN1 := Aside0.mk hN1
            have hHeld : (fun w' => w'.cell? ⟨bx, 0, none⟩ = some (.int .i64 a0) ∧ w'.cell? ⟨bx, 1, none⟩ = some (.int .i64 a1)) w2 := ⟨((HB.out).cell hbx).trans hc0.out, ((HB.out).cell hbx).trans hc1.out⟩
            clear hB hg hP hN1
            refine norm_ (a' := ?_) ?_ ?_
            rotate_left
            · simp only [putAll, Act.put, List.setIfInBounds_toArray, List.set_cons_zero, List.set_cons_succ]
              rfl
            refine one_ (i := 3) (N := some 17) #[true, true, true, true, false, true, true, true, false, false, false, false] rfl rfl (by kernel_rfl) (by decide) (fun K hK => ?_)
            refine value_ (w1 := ?_) (v := ?_) (by rfl) rfl ?_ ?_
            rotate_left 2
            · go_simp
              constructor
              · rfl
              · rfl
            refine hK.out _ _ ⟨((HB.out.trans ((grown_below _ _).mono HB.out.size)).cell hbx).trans hc0.out, ((HB.out.trans ((grown_below _ _).mono HB.out.size)).cell hbx).trans hc1.out⟩ (fun hHeld => ?_)
            clear hK K
            refine norm_ (a' := ?_) ?_ ?_
            rotate_left
            · show Act.put _ (some 17) _ = _
              simp only [Act.put, List.setIfInBounds_toArray, List.set_cons_zero, List.set_cons_succ, i64_w, i32_w]
              rfl
            exact norm_ (by first | (simp only [putAll, Act.put, List.setIfInBounds_toArray, List.set_cons_zero, List.set_cons_succ]; done) | (simp only [putAll, Act.put, List.setIfInBounds_toArray, List.set_cons_zero, List.set_cons_succ]; rfl)) (hJ0_3_7 (p, g, _, s1) _ ⟨HB.out.trans ((grown_below _ _).mono HB.out.size), HG.out, HP.out.below (grown_below _ _) HP.out.lt.1 HP.out.lt.2, grown_ns _ [a0], HN1.out.below (grown_below _ _) HN1.out.lt⟩)
        · skip
          rintro ⟨p, g, s0⟩ w2 ⟨hB, hg, hP, hN0⟩
          have HB := Aside0.mk hB
          have HG := Aside0.mk hg
          have HP := Aside0.mk hP
          have HN0 := Aside0.mk hN0
          have hHeld : (fun w' => w'.cell? ⟨bx, 0, none⟩ = some (.int .i64 a0) ∧ w'.cell? ⟨bx, 1, none⟩ = some (.int .i64 a1)) w2 := ⟨((HB.out).cell hbx).trans hc0.out, ((HB.out).cell hbx).trans hc1.out⟩
          clear hB hg hP hN0
          refine norm_ (a' := ?_) ?_ ?_
          rotate_left
          · simp only [putAll, Act.put, List.setIfInBounds_toArray, List.set_cons_zero, List.set_cons_succ]
            rfl
          refine two_ (i := 4) (j := 7) (Ni := some 18) (Nj := some 21) #[true, true, true, true, true, true, true, false, false, false, false, false] #[true, true, true, true, false, true, true, true, false, false, false, false] rfl rfl rfl rfl (by kernel_rfl) (by decide) (by decide) (fun K hK => ?_) (fun K hK => ?_)
          · skip
            refine goes_ Try.func37 (by kernel_rfl) rfl #[.pointer (some ⟨p, 0, none⟩), .int .i64 4, .int .i64 1, .slice (some ⟨s0, 0, none⟩) 1 1] (by rfl) rfl rfl (by (try simp only [List.map_toArray, List.map_cons, List.map_nil]); first | done | rfl) ?_
            with_reducible refine (set_at 4 1 1 p g s0 4 1 1 _ [a0] _ rfl rfl rfl HP.out HN0.out hx0.out (by decide) (by decide) (by simp) (Nat.le_refl _) (by simp)).mono ?_
            rintro e w3 ⟨rfl, hst⟩
            refine ⟨_, rfl, ?_⟩
            have HST := Aside0.mk hst
            have HB3 := Aside0.mk (HB.out.trans (hst.below HG.out))
            clear hst
            refine hK.out _ _ ⟨((HB3.out).cell hbx).trans hc0.out, ((HB3.out).cell hbx).trans hc1.out⟩ (fun hHeld => ?_)
            clear hK K
            refine norm_ (a' := ?_) ?_ ?_
            rotate_left
            · show Act.put _ (some 18) _ = _
              simp only [Act.put, List.setIfInBounds_toArray, List.set_cons_zero, List.set_cons_succ, i64_w, i32_w]
              rfl
            exact norm_ (by first | (simp only [putAll, Act.put, List.setIfInBounds_toArray, List.set_cons_zero, List.set_cons_succ]; done) | (simp only [putAll, Act.put, List.setIfInBounds_toArray, List.set_cons_zero, List.set_cons_succ]; rfl)) (hJ0_3_4 (p, g, s0) _ ⟨HB3.out, HG.out, HP.out.wrote (setsL_length _ _ _ _) HST.out, HN0.out.wrote (HN0.out.ne HP.out) HST.out⟩)
          · skip
            refine value_ (w1 := ?_) (v := ?_) (by rfl) rfl ?_ ?_
            rotate_left 2
            · go_simp
              constructor
              · rfl
              · rfl
            refine hK.out _ _ ⟨((HB.out.trans ((grown_below _ _).mono HB.out.size)).cell hbx).trans hc0.out, ((HB.out.trans ((grown_below _ _).mono HB.out.size)).cell hbx).trans hc1.out⟩ (fun hHeld => ?_)
            clear hK K
            refine norm_ (a' := ?_) ?_ ?_
            rotate_left
            · show Act.put _ (some 21) _ = _
              simp only [Act.put, List.setIfInBounds_toArray, List.set_cons_zero, List.set_cons_succ, i64_w, i32_w]
              rfl
            exact norm_ (by first | (simp only [putAll, Act.put, List.setIfInBounds_toArray, List.set_cons_zero, List.set_cons_succ]; done) | (simp only [putAll, Act.put, List.setIfInBounds_toArray, List.set_cons_zero, List.set_cons_succ]; rfl)) (hJ0_3_7 (p, g, s0, _) _ ⟨HB.out.trans ((grown_below _ _).mono HB.out.size), HG.out, HP.out.below (grown_below _ _) HP.out.lt.1 HP.out.lt.2, HN0.out.below (grown_below _ _) HN0.out.lt, grown_ns _ [a1]⟩)
      · skip
        rintro ⟨p, g, s0, s1⟩ w2 ⟨hB, hg, hP, hN0, hN1⟩
        have HB := Aside0.mk hB
        have HG := Aside0.mk hg
        have HP := Aside0.mk hP
        have HN0 := Aside0.mk hN0
        have HN1 := Aside0.mk hN1
        have hHeld : (fun w' => w'.cell? ⟨bx, 0, none⟩ = some (.int .i64 a0) ∧ w'.cell? ⟨bx, 1, none⟩ = some (.int .i64 a1)) w2 := ⟨((HB.out).cell hbx).trans hc0.out, ((HB.out).cell hbx).trans hc1.out⟩
        clear hB hg hP hN0 hN1
        refine norm_ (a' := ?_) ?_ ?_
        rotate_left
        · simp only [putAll, Act.put, List.setIfInBounds_toArray, List.set_cons_zero, List.set_cons_succ]
          rfl
        refine one_ (i := 4) (N := some 18) #[true, true, true, true, true, true, true, true, false, false, false, false] rfl rfl (by kernel_rfl) (by decide) (fun K hK => ?_)
        refine goes_ Try.func37 (by kernel_rfl) rfl #[.pointer (some ⟨p, 0, none⟩), .int .i64 4, .int .i64 1, .slice (some ⟨s0, 0, none⟩) 1 1] (by rfl) rfl rfl (by (try simp only [List.map_toArray, List.map_cons, List.map_nil]); first | done | rfl) ?_
        with_reducible refine (set_at 4 1 1 p g s0 4 1 1 _ [a0] _ rfl rfl rfl HP.out HN0.out hx0.out (by decide) (by decide) (by simp) (Nat.le_refl _) (by simp)).mono ?_
        rintro e w3 ⟨rfl, hst⟩
        refine ⟨_, rfl, ?_⟩
        have HST := Aside0.mk hst
        have HB3 := Aside0.mk (HB.out.trans (hst.below HG.out))
        clear hst
        refine hK.out _ _ ⟨((HB3.out).cell hbx).trans hc0.out, ((HB3.out).cell hbx).trans hc1.out⟩ (fun hHeld => ?_)
        clear hK K
        refine norm_ (a' := ?_) ?_ ?_
        rotate_left
        · show Act.put _ (some 18) _ = _
          simp only [Act.put, List.setIfInBounds_toArray, List.set_cons_zero, List.set_cons_succ, i64_w, i32_w]
          rfl
        exact norm_ (by first | (simp only [putAll, Act.put, List.setIfInBounds_toArray, List.set_cons_zero, List.set_cons_succ]; done) | (simp only [putAll, Act.put, List.setIfInBounds_toArray, List.set_cons_zero, List.set_cons_succ]; rfl)) (hJ0_3_4_7 (p, g, s0, s1) _ ⟨HB3.out, HG.out, HP.out.wrote (setsL_length _ _ _ _) HST.out, HN0.out.wrote (HN0.out.ne HP.out) HST.out, HN1.out.wrote (HN1.out.ne HP.out) HST.out⟩)
    · skip
      rintro ⟨p, g, s0⟩ w2 ⟨hB, hg, hP, hN0⟩
      have HB := Aside0.mk hB
      have HG := Aside0.mk hg
      have HP := Aside0.mk hP
      have HN0 := Aside0.mk hN0
      have hHeld : (fun w' => w'.cell? ⟨bx, 0, none⟩ = some (.int .i64 a0) ∧ w'.cell? ⟨bx, 1, none⟩ = some (.int .i64 a1)) w2 := ⟨((HB.out).cell hbx).trans hc0.out, ((HB.out).cell hbx).trans hc1.out⟩
      clear hB hg hP hN0
      refine norm_ (a' := ?_) ?_ ?_
      rotate_left
      · simp only [putAll, Act.put, List.setIfInBounds_toArray, List.set_cons_zero, List.set_cons_succ]
        rfl
      refine one_ (i := 7) (N := some 21) #[true, true, true, true, true, true, true, true, false, false, false, false] rfl rfl (by kernel_rfl) (by decide) (fun K hK => ?_)
      refine value_ (w1 := ?_) (v := ?_) (by rfl) rfl ?_ ?_
      rotate_left 2
      · go_simp
        constructor
        · rfl
        · rfl
      refine hK.out _ _ ⟨((HB.out.trans ((grown_below _ _).mono HB.out.size)).cell hbx).trans hc0.out, ((HB.out.trans ((grown_below _ _).mono HB.out.size)).cell hbx).trans hc1.out⟩ (fun hHeld => ?_)
      clear hK K
      refine norm_ (a' := ?_) ?_ ?_
      rotate_left
      · show Act.put _ (some 21) _ = _
        simp only [Act.put, List.setIfInBounds_toArray, List.set_cons_zero, List.set_cons_succ, i64_w, i32_w]
        rfl
      exact norm_ (by first | (simp only [putAll, Act.put, List.setIfInBounds_toArray, List.set_cons_zero, List.set_cons_succ]; done) | (simp only [putAll, Act.put, List.setIfInBounds_toArray, List.set_cons_zero, List.set_cons_succ]; rfl)) (hJ0_3_4_7 (p, g, s0, _) _ ⟨HB.out.trans ((grown_below _ _).mono HB.out.size), HG.out, HP.out.below (grown_below _ _) HP.out.lt.1 HP.out.lt.2, HN0.out.below (grown_below _ _) HN0.out.lt, grown_ns _ [a1]⟩)
  rintro ⟨p, g, s0, s1⟩ w2 ⟨hB, hg, hP, hN0, hN1⟩
  have HB := Aside0.mk hB
  have HG := Aside0.mk hg
  have HP := Aside0.mk hP
  have HN0 := Aside0.mk hN0
  have HN1 := Aside0.mk hN1
  have hHeld : (fun w' => w'.cell? ⟨bx, 0, none⟩ = some (.int .i64 a0) ∧ w'.cell? ⟨bx, 1, none⟩ = some (.int .i64 a1)) w2 := ⟨((HB.out).cell hbx).trans hc0.out, ((HB.out).cell hbx).trans hc1.out⟩
  clear hB hg hP hN0 hN1
  refine norm_ (a' := ?_) ?_ ?_
  rotate_left
  · simp only [putAll, Act.put, List.setIfInBounds_toArray, List.set_cons_zero, List.set_cons_succ]
    rfl
  refine one_ (i := 8) (N := some 22) #[true, true, true, true, true, true, true, true, true, false, false, false] rfl rfl (by kernel_rfl) (by decide) (fun K hK => ?_)
  refine goes_ Try.func37 (by kernel_rfl) rfl #[.pointer (some ⟨p, 0, none⟩), .int .i64 8, .int .i64 4, .slice (some ⟨s1, 0, none⟩) 1 1] (by rfl) rfl rfl (by (try simp only [List.map_toArray, List.map_cons, List.map_nil]); first | done | rfl) ?_
  with_reducible refine (set_at 8 4 1 p g s1 8 4 1 _ [a1] _ rfl rfl rfl HP.out HN1.out hx1.out (by decide) (by decide) (by simp) (Nat.le_refl _) (by simp)).mono ?_
  rintro e w3 ⟨rfl, hst⟩
  refine ⟨_, rfl, ?_⟩
  have HST := Aside0.mk hst
  have HB3 := Aside0.mk (HB.out.trans (hst.below HG.out))
  clear hst
  have HP3 := Aside0.mk (HP.out.wrote (setsL_length _ _ _ _) HST.out)
  refine hK.out _ _ ⟨((HB3.out).cell hbx).trans hc0.out, ((HB3.out).cell hbx).trans hc1.out⟩ (fun hHeld => ?_)
  clear hK K
  refine norm_ (a' := ?_) ?_ ?_
  rotate_left
  · show Act.put _ (some 22) _ = _
    simp only [Act.put, List.setIfInBounds_toArray, List.set_cons_zero, List.set_cons_succ, i64_w, i32_w]
    rfl
  refine one_ (i := 9) (N := some 23) #[true, true, true, true, true, true, true, true, true, true, false, false] rfl rfl (by kernel_rfl) (by decide) (fun K hK => ?_)
  refine goes_ Try.func38 (by kernel_rfl) rfl #[.pointer (some ⟨p, 0, none⟩)] (by rfl) rfl rfl (by (try simp only [List.map_toArray, List.map_cons, List.map_nil]); first | done | rfl) ?_
  with_reducible refine (pageSeal_calls p g _ _ _ _ HP3.out hseal.out).mono ?_
  rintro e w4 ⟨v4, rfl, hR, hst⟩
  refine ⟨_, rfl, ?_⟩
  have HR4 := Aside0.mk hR
  have HB4 := Aside0.mk (HB3.out.trans (hst.mono HB3.out.size))
  have HL4 := Aside0.mk HB3.out.size
  clear hR hst
  refine hK.out _ _ ⟨((HB4.out).cell hbx).trans hc0.out, ((HB4.out).cell hbx).trans hc1.out⟩ (fun hHeld => ?_)
  clear hK K
  refine norm_ (a' := ?_) ?_ ?_
  rotate_left
  · show Act.put _ (some 23) _ = _
    simp only [Act.put, List.setIfInBounds_toArray, List.set_cons_zero, List.set_cons_succ, i64_w, i32_w]
    rfl
  refine pure_ (i := 10) (N := some 2) (v := ?_) (a' := ?_) #[true, true, true, true, true, true, true, true, true, true, true, false] rfl rfl (by kernel_rfl) (fun _ _ _ h => h) (Or.inl ⟨by rfl, ?_⟩) ?_ ?_
  rotate_left
  · intro w'
    go_simp
    with_reducible rfl
  rotate_left
  · simp only [Act.put, List.setIfInBounds_toArray, List.set_cons_zero, List.set_cons_succ, i64_w, i32_w]
    rfl
  refine pure_ (i := 11) (N := some 3) (v := ?_) (a' := ?_) #[true, true, true, true, true, true, true, true, true, true, true, true] rfl rfl (by kernel_rfl) (fun _ _ _ h => h) (Or.inl ⟨by rfl, ?_⟩) ?_ ?_
  rotate_left
  · intro w'
    go_simp
    with_reducible rfl
  rotate_left
  · simp only [Act.put, List.setIfInBounds_toArray, List.set_cons_zero, List.set_cons_succ, i64_w, i32_w]
    rfl
  refine done_ (by kernel_rfl) ?_
  -- END head
  go_wp2
  go_ret2
  exact ⟨_, rfl, Kd.R_of_own (own_weaken (Kd.own_of_R HR4.out) (Nat.le_trans HBW.out.size HL4.out)) (fun _ _ => trivial), HBW.out.trans (HB4.out.mono HBW.out.size)⟩

theorem setsL64 (t : ByteArray) (h : t.size ≤ 64) : (textL (List.replicate 64 0) 0 t).length = 64 := by
  rw [textL_length _ _ _ (by simp; omega)]; simp
theorem sealF_zero {l r1 : List Int} {r2 : Int} (hl : l.length = 64) (h : sealF l = some (r1, r2)) : r2 = 0 := by
  unfold sealF at h
  rw [if_pos hl] at h
  obtain ⟨x, _, hx⟩ := Option.bind_eq_some_iff.1 h
  exact (Prod.mk.inj (Option.some.inj hx)).2.symm
/-- What PutHead gives. -/
def headF (a0 a1 : Int) : Option (List Int × Int) := if headB a0 a1 = true then (sealF (headP a0 a1)) else some ([], 2)
theorem head_of_calls (a0 a1 : Int) (r1 : List Int) (r2 : Int) (w : World) (h : headF a0 a1 = some (r1, r2)) :
    Calls Try.prog 39 #[.agg #[.int .i64 a0, .int .i64 a1]] w fun e w' => ∃ v0_ : Value, e = .returned (.tuple #[v0_, .int .i64 r2]) ∧ Kd.R B 5 w' w.heap.size (fun _ => True) v0_ r1 ∧ Below w.heap.size w w' := by
  unfold headF at h
  split at h
  · rename_i hb
    obtain rfl := sealF_zero (by unfold headP; rw [setsL_length, setsL_length, setsL64 _ (by decide)]) h
    exact head_yes a0 a1 hb r1 h w
  · rename_i hb
    obtain ⟨rfl, rfl⟩ := Prod.mk.inj (Option.some.inj h)
    exact (head_no a0 a1 (by simpa using hb) w).mono fun e w' ⟨he, hw⟩ => ⟨_, he, Kd.R_nil _ _ _ _ _, hw⟩
end Go.Proofs.Ytcihfmehbmficaa.Super
