/- For all worlds: the law JournalArgs. Conditions: the bytes can be read. -/
import Derived.Test.YtcihfmehbmficaaJrn14
import Derived.Test.YtcihfmehbmficaaDiskTexts
import Derived.Laws.CopyOwn
namespace Go.Proofs.Ytcihfmehbmficaa.Jrn
open Go Go.RowKit Go.Maps Go.Proofs.YtcihfmehbmficaaW.PrintWords Go.Proofs.YtcihfmehbmficaaW.PrintLast Go.Proofs.YtcihfmehbmficaaW.PrintMore Go.Proofs.Ytcihfmehbmficaa.Disk
set_option linter.unusedVariables false
set_option linter.unusedSimpArgs false
set_option maxRecDepth 100000
/-! ### a new disk to which a head is written -/
theorem mod_length {n : Nat} {l : List Int} : ((newS n).bs.modify 1 (push l)).length = n := by rw [List.length_modify]; exact List.length_replicate
theorem newS_zB {n i : Nat} (h : i < n) : (newS n).bs[i]? = some zB := by
  show (List.replicate n _)[i]? = _
  rw [List.getElem?_replicate, if_pos h]; rfl
theorem mod_at {n : Nat} {l : List Int} (h : 1 < n) : ((newS n).bs.modify 1 (push l))[1]? = some (push l zB) := by
  rw [List.getElem?_modify, newS_zB h]; simp
theorem mod_cur {n : Nat} {l : List Int} : ((newS n).bs.modify 1 (push l)).map curB = (freshB n l).map curB := by
  apply List.ext_getElem?
  intro i
  rw [List.getElem?_map, List.getElem?_map, List.getElem?_modify]
  by_cases hi : i < n
  · rw [newS_zB hi, freshB_at i hi]
    by_cases h1 : 1 = i
    · subst h1; simp [cur_push]; rfl
    · rw [if_neg (Ne.symm h1)]; simp [h1]
  · rw [List.getElem?_eq_none (by show (List.replicate n _).length ≤ i; rw [List.length_replicate]; omega), List.getElem?_eq_none (by rw [freshB_length]; omega)]; rfl
theorem mod_bytes {n : Nat} {l : List Int} (h : Go.Proofs.Ytcihfmehbmficaa.Spin.Bytes l) : ∀ b ∈ (newS n).bs.modify 1 (push l), Go.Proofs.Ytcihfmehbmficaa.Spin.Bytes (curB b) := fun b hb => by
  have h1 : curB b ∈ ((newS n).bs.modify 1 (push l)).map curB := List.mem_map.2 ⟨b, hb, rfl⟩
  rw [mod_cur] at h1
  obtain ⟨b', hb', e⟩ := List.mem_map.1 h1
  rw [← e]
  exact fresh_bytes h b' hb'
theorem new_bytes (n : Nat) : ∀ b ∈ (newS n).bs, Go.Proofs.Ytcihfmehbmficaa.Spin.Bytes (curB b) := fun b hb => by
  obtain rfl := List.eq_of_mem_replicate hb
  exact zr64_bytes
theorem zr_noH : ¬ Go.Proofs.Ytcihfmehbmficaa.Pure.okH zr64 := fun h => by
  have h1 := h.2.1
  simp only [Go.Proofs.Ytcihfmehbmficaa.Super.headB, Go.Proofs.Ytcihfmehbmficaa.Super.inB, Bool.and_eq_true, decide_eq_true_eq] at h1
  have h2 : Go.Proofs.Ytcihfmehbmficaa.Pure.numI zr64 8 4 = 0 := by
    rw [Go.Proofs.Ytcihfmehbmficaa.Pure.num4 zr64 8 (by decide)]
    have h : ∀ j : Nat, j < 64 → rd zr64 (j : Int) = 0 := fun j hj => by
      show zr64.getD (j : Int).toNat 0 = 0
      rw [Int.toNat_natCast, List.getD_eq_getElem?_getD, zr64, List.getElem?_replicate, if_pos hj]; rfl
    rw [h 8 (by omega), h (8 + 1) (by omega), h (8 + 2) (by omega), h (8 + 3) (by omega)]
    rfl
  omega
theorem head_no {l : List Int} (h : ¬ Go.Proofs.Ytcihfmehbmficaa.Pure.okH l) : Go.Proofs.Ytcihfmehbmficaa.Pure.headI l = (0, 0, 2) := by unfold Go.Proofs.Ytcihfmehbmficaa.Pure.headI; rw [if_neg h]
theorem new_head (n : Nat) (h : 1 < n) : Go.Proofs.Ytcihfmehbmficaa.Pure.headI (((newS n).bs.map curB).getD 1 []) = (0, 0, 2) := by
  rw [List.getD_eq_getElem?_getD, List.getElem?_map, newS_zB h]
  exact head_no zr_noH
theorem pad_bytes {l : List Int} (h : Go.Proofs.Ytcihfmehbmficaa.Spin.Bytes l) : Go.Proofs.Ytcihfmehbmficaa.Spin.Bytes (pad l) := Go.Proofs.Ytcihfmehbmficaa.Field.bytes_append (Go.Proofs.Ytcihfmehbmficaa.Field.bytes_take h _) (Go.Proofs.Ytcihfmehbmficaa.Field.bytes_replicate _)
theorem rget_at {l : List Int} (hb : Go.Proofs.Ytcihfmehbmficaa.Spin.Bytes l) (hl : l.length = 64) {a q x : Int} (hh : Go.Proofs.Ytcihfmehbmficaa.Pure.headI l = (a, q, x)) {W : World} {A : Option Addr} {c : Nat} (hC : B.C W A 64 l) (hc : 64 ≤ c) : Calls Try.prog 15 #[.slice A 64 c] W fun e w' => e = .returned (.tuple #[.agg #[.int .i64 a, .int .i64 q], .int .i64 x]) ∧ Below W.heap.size W w' := by
  have h1 : Go.Proofs.Ytcihfmehbmficaa.PAll.drydockref08_GetHead.f 6 l = some (a, q, x) := by
    have h2 := Go.Proofs.Ytcihfmehbmficaa.Pure.refGetHead_eq hb 0
    rw [hh] at h2
    exact h2
  have h := Go.Proofs.Ytcihfmehbmficaa.PAll.drydockref08_GetHead.calls 6 A c l a q x W (by rw [hl]; exact hC) (by rw [hl]; exact hc) h1
  rw [hl] at h
  exact h
theorem copy_from {w : World} {A : Option Addr} {m g : Nat} {x : List Int} (h : B.C w A m x) (hm : x.length = m) : 0 < (nums .u8 (x.take 64)).length → (some (⟨g, 0, none⟩ : Addr)) = some ⟨g, 0, none⟩ ∧ ∃ ad, A = some ad ∧ ∀ j v, (nums .u8 (x.take 64))[j]? = some v → w.cell? (ad.add j) = some v := by
  intro h0
  have hm0 : 0 < m := by
    rw [Go.Proofs.YtcihfmehbmficaaW.PrintWords.nums_length, List.length_take] at h0; omega
  obtain ⟨ad, e, _⟩ := Kd.at_int h 0 (by omega) (by omega)
  refine ⟨rfl, ad, e, fun j v hv => ?_⟩
  unfold nums at hv
  rw [List.getElem?_map, List.getElem?_take] at hv
  by_cases hj : j < 64
  · rw [if_pos hj] at hv
    cases hx : x[j]? with
    | none => rw [hx] at hv; cases hv
    | some y =>
      rw [hx] at hv
      obtain rfl := Option.some.inj hv
      have hjl : j < m := by rw [← hm]; exact (List.getElem?_eq_some_iff.1 hx).1
      obtain ⟨ad', e', hc⟩ := Kd.at_int h (j : Int) (by omega) (by omega)
      obtain rfl : ad = ad' := Option.some.inj (e.symm.trans e')
      rw [Int.toNat_natCast] at hc
      rw [hc]
      show some (Value.int .u8 (x.getD (j : Int).toNat 0)) = _
      rw [Int.toNat_natCast, List.getD_eq_getElem?_getD, hx]; rfl
  · rw [if_neg hj] at hv; cases hv
/-- The writes of the first k texts. -/
def wsN (m : Int) (ts : List (List Int)) (at_ : List Int) (k : Nat) : List Wr := (List.range k).map fun i : Nat => ⟨at_.getD i 0 % m, pad (ts.getD i [])⟩
theorem below_le {w w1 w4 : World} {n : Nat} (h1 : Below n w w1) (h4 : Below n w w4) : True := trivial
theorem pad_RW {w0 w6 : World} {F : Nat → Prop} {g gz : Nat} {s s' : DS} {l : List Int} (h0 : DW w0 F g s) (h6 : DW w6 F g s') (hg : w6.heap[gz]? = some (.cells (nums .u8 l).toArray 5 (0, 0))) (_ : True) (hl : l.length = 64) (hz : ¬ F gz) :
    RW (w6.alloc (.cells #[.int .i64 1, .slice (some ⟨gz, 0, none⟩) 64 64] 35)) F (some ⟨w6.heap.size, 0, none⟩) [⟨1, l⟩] := by
  have hb := below_alloc (Below.refl w6.heap.size w6) (.cells #[.int .i64 1, .slice (some ⟨gz, 0, none⟩) 64 64] 35)
  exact RW.one (blk_new w6 _) hl (Nat.le_refl _) (Kd.C_below (C_blk hg rfl hl (by omega)) hb) (by rw [World.size_alloc]; have := blk_lt hg; omega) (fun hn => by have := h6.lt _ hn; omega) hz
theorem nums_one (l : List Int) : ∀ u ∈ nums .u8 l, u.oneCell' = true := fun u hu => by
  obtain ⟨x, _, rfl⟩ := List.mem_map.1 hu
  rfl
/-! ### frames -/
theorem below_F {w w7 w8 : World} {F F8 : Nat → Prop} (hb : Below w.heap.size w w7) (hF : ∀ k, F k → w.heap.size ≤ k) (hc : Ch w7 w8 F F8) : ∀ k, F8 k → w.heap.size ≤ k := fun k hk => (hc.new k hk).elim (hF k) (fun a => Nat.le_trans hb.size a)
theorem below_end0 {w w7 w8 w9 : World} {F F8 : Nat → Prop} (hb : Below w.heap.size w w7) (hF : ∀ k, F k → w.heap.size ≤ k) (hc : Ch w7 w8 F F8) (h9 : Below w8.heap.size w8 w9) : Below w.heap.size w w9 :=
  below_step (hb.trans (hc.below hF hb.size)) h9
theorem below_end {w w7 w8 w9 w11 : World} {F F8 : Nat → Prop} (hb : Below w.heap.size w w7) (hF : ∀ k, F k → w.heap.size ≤ k) (hc : Ch w7 w8 F F8) (h9 : Below w8.heap.size w8 w9) (h11 : Below w.heap.size w9 w11) : Below w.heap.size w w11 :=
  (below_end0 hb hF hc h9).trans h11
set_option maxHeartbeats 2000000 in
theorem args_no (n : Int) (hn : n < 1 ∨ 480 < n) (A1 : Option Addr) (c1 m1 : Nat) (A2 : Option Addr) (n2 c2 : Nat) (w : World) :
    Calls Try.prog 4 #[.int .i64 n, .slice A1 m1 c1, .slice A2 n2 c2] w fun e w' => e = .returned (.bool true) ∧ Below w.heap.size w w' := by
  go_enter Try.func4, Try.ntmps4
  go_wp2_with (first | (go_at_call 12; (with_reducible refine (Disk.new_no n hn _).mono ?_); rintro e w1 ⟨rfl, rfl⟩) | (go_at_call 11; (with_reducible refine (read_nil 0 _).mono ?_); rintro e wr ⟨rfl, rfl⟩) | (go_at_call 8; (with_reducible refine (commit_nil _ _ _ _).mono ?_); rintro e w1 ⟨rfl, hb⟩; have HB1 := Aside0.mk (below_step (Below.refl w.heap.size w) hb); clear hb) | (go_at_call 13; (with_reducible refine (head_nil _).mono ?_); rintro e w2 ⟨rfl, hb⟩; have HB2 := Aside0.mk (below_step HB1.out hb); clear hb) | (go_at_call 14; (with_reducible refine (Look_err 1 (by decide) (look_nil _)).mono ?_); rintro e w3 ⟨rfl, hb⟩; have HB3 := Aside0.mk (below_step HB2.out hb); clear hb) | (go_at_call 10; (with_reducible refine (Open_err 1 (by decide) (look_nil _)).mono ?_); rintro e w4 ⟨rfl, hb⟩; have HB4 := Aside0.mk (below_step HB3.out hb); clear hb) | (go_at_call 7; (with_reducible refine (awake_calls _).mono ?_); rintro e w5 ⟨rfl, hb⟩; have HB5 := Aside0.mk (below_step HB4.out hb); clear hb))
  go_ret
  exact ⟨rfl, HB5.out⟩
/-- The disk is as it was where nothing of it was touched. -/
theorem new_lt {w w0 : World} {F : Nat → Prop} {g : Nat} {s : DS} (h : DW w0 F g s) : ∀ k, F k → k < w0.heap.size := h.lt
set_option maxHeartbeats 2000000 in
theorem args_small (n : Nat) (h1 : 1 ≤ n) (h64 : n < 64) (A1 : Option Addr) (c1 m1 : Nat) (A2 : Option Addr) (n2 c2 : Nat) (w : World) :
    Calls Try.prog 4 #[.int .i64 (n : Int), .slice A1 m1 c1, .slice A2 n2 c2] w fun e w' => e = .returned (.bool true) ∧ Below w.heap.size w w' := by
  have H1 := Aside0.mk h1
  have H2 : Aside0 (n ≤ 480) := ⟨by omega⟩
  have HL : Aside0 ((newS n).bs.length < 64) := ⟨by rw [show (newS n).bs.length = n from List.length_replicate]; exact h64⟩
  have bn1 : decide ((n : Int) < 64) = true := decide_eq_true (by omega)
  have bn2 : decide (n < 64) = true := decide_eq_true h64
  clear h1 h64
  go_enter Try.func4, Try.ntmps4
  go_wp2_with (first | (go_at_call 12; (with_reducible refine (Disk.new_at n (n : Int) rfl H1.out H2.out _).mono ?_); rintro e w0 ⟨g, F, rfl, hd, hF, hb⟩; have HD0 : Aside0 (DW w0 F g ⟨false, -1, (newS n).bs⟩) := ⟨hd⟩; have HF0 := Aside0.mk hF; have HB0 := Aside0.mk hb; clear hd hF hb) | (go_at_call 11; (with_reducible refine (read_nil 0 _).mono ?_); rintro e wr ⟨rfl, rfl⟩) | (go_at_call 8; (with_reducible refine (commit_nil _ _ _ _).mono ?_); rintro e w1 ⟨rfl, hb⟩; have HB1 := Aside0.mk (below_step HB0.out hb); have HD1 := Aside0.mk (HD0.out.below hb); clear hb) | (go_at_call 13; (with_reducible refine (head_nil _).mono ?_); rintro e w2 ⟨rfl, hb⟩; have HB2 := Aside0.mk (below_step HB1.out hb); have HD2 := Aside0.mk (HD1.out.below hb); clear hb) | (go_at_call 14; (with_reducible refine (Look_err 1 (by decide) (look_small HD2.out HL.out)).mono ?_); rintro e w3 ⟨rfl, hb⟩; have HB3 := Aside0.mk (below_step HB2.out hb); have HD3 := Aside0.mk (HD2.out.below hb); clear hb) | (go_at_call 10; (with_reducible refine (Open_err 1 (by decide) (look_small HD3.out HL.out)).mono ?_); rintro e w4 ⟨rfl, hb⟩; have HB4 := Aside0.mk (below_step HB3.out hb); clear hb) | (go_at_call 7; (with_reducible refine (awake_calls _).mono ?_); rintro e w5 ⟨rfl, hb⟩; have HB5 := Aside0.mk (below_step HB4.out hb); clear hb))
  go_ret
  exact ⟨rfl, HB5.out⟩
set_option maxHeartbeats 4000000 in
theorem args_bad (n : Nat) (h64 : 64 ≤ n) (h480 : n ≤ 480) (A1 : Option Addr) (c1 m1 : Nat) (l1 : List Int) (hm : l1.length = m1) (A2 : Option Addr) (n2 c2 : Nat) (w : World) (hr1 : B.C w A1 m1 l1) (hc1 : m1 ≤ c1) (hby : Go.Proofs.Ytcihfmehbmficaa.Spin.Bytes l1) (a q : Int) (hh : Go.Proofs.Ytcihfmehbmficaa.Pure.headI (pad l1) = (a, q, 2)) (haq : a = 0 ∧ q = 0) :
    Calls Try.prog 4 #[.int .i64 (n : Int), .slice A1 m1 c1, .slice A2 n2 c2] w fun e w' => e = .returned (.bool true) ∧ Below w.heap.size w w' := by
  have hpb := pad_bytes hby
  have H1 : Aside0 (1 ≤ n) := ⟨by omega⟩
  have H2 := Aside0.mk h480
  have bn1 : decide ((n : Int) < 64) = false := decide_eq_false (by omega)
  have bn2 : decide (n < 64) = false := decide_eq_false (by omega)
  have HL0 : Aside0 (∀ (W : World) (F : Nat → Prop) (g : Nat), DW W F g ⟨false, -1, (newS n).bs⟩ → Calls Try.prog 27 #[.pointer (some ⟨g, 0, none⟩)] W fun e w' => e = .returned (.tuple #[.slice none 0 0, .slice none 0 0, .agg #[.int .i64 0, .int .i64 0], .int .i64 2]) ∧ Below W.heap.size W w') := ⟨fun W F g hd => look_bad hd (by rw [show (newS n).bs.length = n from List.length_replicate]; omega) (new_bytes n) (new_head n (by omega))⟩
  have HL1 : Aside0 (∀ (W : World) (F : Nat → Prop) (g : Nat), DW W F g ⟨false, -1, (newS n).bs.modify 1 (push (pad l1))⟩ → Calls Try.prog 27 #[.pointer (some ⟨g, 0, none⟩)] W fun e w' => e = .returned (.tuple #[.slice none 0 0, .slice none 0 0, .agg #[.int .i64 0, .int .i64 0], .int .i64 2]) ∧ Below W.heap.size W w') := ⟨fun W F g hd => look_bad hd (by rw [mod_length]; omega) (mod_bytes hpb) (by rw [mod_cur, fresh_head (by omega), hh, haq.1, haq.2])⟩
  have HL2 : Aside0 (1 < ((newS n).bs.modify 1 (push (pad l1))).length) := ⟨by rw [mod_length]; omega⟩
  have HCP : Aside0 (Cap ((newS n).bs.modify 1 (push (pad l1))) 1000) := ⟨((new_cap n).push ⟨1, pad l1⟩).mono (by omega)⟩
  have HI1 : Aside0 (((newS n).bs.modify 1 (push (pad l1)))[1]? = some (push (pad l1) zB)) := ⟨mod_at (by omega)⟩
  have HFIT : Aside0 (Fit (newS n).bs.length [⟨1, pad l1⟩]) := ⟨fun x hx => by
    obtain rfl := List.mem_singleton.1 hx
    refine ⟨pad_length l1, show (0 : Int) ≤ 1 by decide, ?_⟩
    rw [show (newS n).bs.length = n from List.length_replicate]
    show (1 : Int) < n
    omega⟩
  have HGH : Aside0 (∀ (W : World) (A : Option Addr) (c : Nat), B.C W A 64 (pad l1) → 64 ≤ c → Calls Try.prog 15 #[.slice A 64 c] W fun e w' => e = .returned (.tuple #[.agg #[.int .i64 a, .int .i64 q], .int .i64 2]) ∧ Below W.heap.size W w') := ⟨fun W A c hC hc => rget_at hpb (pad_length l1) hh hC hc⟩
  have HR1 := Aside0.mk hr1
  have HM := Aside0.mk hm
  have HTL : Aside0 ((l1.take 64).length = Nat.min m1 64) := ⟨by rw [List.length_take, ← hm]; exact Nat.min_comm _ _⟩
  have hmk := mk64
  generalize hZ : Array.replicate 64 (Value.int .u8 0) = Z at hmk
  have HZ : Aside0 (Z.toList = nums .u8 z64) := ⟨by subst hZ; rfl⟩
  have HFA : Aside0 (0 + (nums .u8 (l1.take 64)).length ≤ Z.toList.length) := ⟨by rw [HZ.out, Go.Proofs.YtcihfmehbmficaaW.PrintWords.nums_length, Go.Proofs.YtcihfmehbmficaaW.PrintWords.nums_length, HTL.out]; show 0 + Nat.min m1 64 ≤ 64; rw [Nat.zero_add]; exact Nat.min_le_right _ _⟩
  clear h64 h480 hm hr1 hc1 hby hpb hh hZ haq
  go_enter Try.func4, Try.ntmps4
  go_wp2_with (first | (go_at_call 12; (with_reducible refine (Disk.new_at n (n : Int) rfl H1.out H2.out _).mono ?_); rintro e w0 ⟨g, F, rfl, hd, hF, hb⟩; have HD0 : Aside0 (DW w0 F g ⟨false, -1, (newS n).bs⟩) := ⟨hd⟩; have HF0 := Aside0.mk hF; have HB0 := Aside0.mk hb; clear hd hF hb) | (go_at_call 11; (with_reducible refine (read_nil 0 _).mono ?_); rintro e wr ⟨rfl, rfl⟩) | (go_at_call 8; (with_reducible refine (commit_nil _ _ _ _).mono ?_); rintro e w1 ⟨rfl, hb⟩; have HB1 := Aside0.mk (below_step HB0.out hb); have HD1 := Aside0.mk (HD0.out.below hb); clear hb) | (go_at_call 13; (with_reducible refine (head_nil _).mono ?_); rintro e w2 ⟨rfl, hb⟩; have HB2 := Aside0.mk (below_step HB1.out hb); have HD2 := Aside0.mk (HD1.out.below hb); clear hb) | (go_at_call 14; (with_reducible refine (Look_err 2 (by decide) (HL0.out _ _ _ HD2.out)).mono ?_); rintro e w3 ⟨rfl, hb⟩; have HB3 := Aside0.mk (below_step HB2.out hb); have HD3 := Aside0.mk (HD2.out.below hb); clear hb) | (go_at_call 10; (with_reducible refine (Open_err 2 (by decide) (HL0.out _ _ _ HD3.out)).mono ?_); rintro e w4 ⟨rfl, hb⟩; have HB4 := Aside0.mk (below_step HB3.out hb); have HD4 := Aside0.mk (HD3.out.below hb); clear hb) | (with_reducible refine wpList_copy_splice (o := ⟨some 78, _, _, _, _, _⟩) ?ca (.tmp 76) (.tmp 77) 23 23 ?co 5 ?cu ?ci (some ⟨w4.heap.size, 0, none⟩) A1 64 64 m1 c1 ?cd ?cs w4.heap.size 0 Z.toList 5 ?cg (nums .u8 (l1.take 64)) ?cn ?cp ?cf ?c1 w4.heap.size w4 ?cb ?cl ?_; (case ca => rfl); (case co => rfl); (case cu => exact Try.underlying23); (case ci => kernel_rfl); (case cd => with_unfolding_all rfl); (case cs => with_unfolding_all rfl); (case cl => exact Nat.le_refl _); (case cg => exact blk_new w4 _); (case cn => rw [Go.Proofs.YtcihfmehbmficaaW.PrintWords.nums_length]; exact HTL.out); (case cp => exact copy_from (Kd.C_alloc (Kd.C_below HR1.out HB4.out) _) HM.out); (case cf => exact HFA.out); (case c1 => exact nums_one _); (case cb => exact grown_below _ _); intro w5 hw5 hb5; have hg5 := hw5.out; rw [pad_splice HZ.out] at hg5; have HG5 := Aside0.mk hg5; have HB5 := Aside0.mk (below_step HB4.out hb5); have HD5 := Aside0.mk (HD4.out.below hb5); clear hw5 hb5 hg5) | (go_at_call 15; (with_reducible refine (HGH.out _ _ _ (C_blk HG5.out rfl (pad_length l1) (by omega)) (by omega)).mono ?_); rintro e w6 ⟨rfl, hb⟩; have HB6 := Aside0.mk (below_alloc (below_step HB5.out hb) (.cells #[.int .i64 a, .int .i64 q] 46)); have HG6 := Aside0.mk (blk_alloc (blk_below HG5.out hb) (.cells #[.int .i64 a, .int .i64 q] 46)); have HD6 := Aside0.mk ((HD5.out.below hb).below (below_alloc (Below.refl _ _) (.cells #[.int .i64 a, .int .i64 q] 46))); have HD7 := Aside0.mk (HD6.out.below (below_alloc (Below.refl _ _) (.cells #[.int .i64 1, .slice (some ⟨w4.heap.size, 0, none⟩) 64 64] 35))); have HB7 := Aside0.mk (below_alloc HB6.out (.cells #[.int .i64 1, .slice (some ⟨w4.heap.size, 0, none⟩) 64 64] 35)); have hrw := pad_RW HD0.out HD6.out HG6.out trivial (pad_length l1) (fun hn => by have h1 := HD4.out.lt _ hn; omega); rw [World.size_alloc] at hrw; have HRW := Aside0.mk hrw; clear hb hrw) | (go_at_call 16; (with_reducible refine (put_ever (bs := (newS n).bs) HD7.out (new_cap n) _ 1 1 [⟨1, pad l1⟩] rfl HRW.out HFIT.out (by omega)).mono ?_); rintro e w8 ⟨rfl, F8, hd8, hc8⟩; have HD8 : Aside0 (DW w8 F8 g ⟨false, -1, (newS n).bs.modify 1 (push (pad l1))⟩) := ⟨hd8⟩; have HC8 := Aside0.mk hc8; clear hd8 hc8) | (go_at_call 14; (with_reducible refine (Look_err 2 (by decide) (HL1.out _ _ _ HD8.out)).mono ?_); rintro e w9 ⟨rfl, hb⟩; have HB9 := Aside0.mk hb; have HD9 := Aside0.mk (HD8.out.below hb); clear hb) | (go_at_call 17; (with_reducible refine (Disk.open_at HD9.out (i := 1) (b := push (pad l1) zB) 1 rfl HI1.out 1 rfl).mono ?_); rintro e w10 ⟨rfl, rfl⟩) | (go_at_call 10; (with_reducible refine (Open_err 2 (by decide) (HL1.out _ _ _ HD9.out)).mono ?_); rintro e w11 ⟨rfl, hb⟩; have HB11 := Aside0.mk (below_step (below_end0 HB7.out HF0.out HC8.out HB9.out) hb); clear hb) | (go_at_call 7; (with_reducible refine (awake_calls _).mono ?_); rintro e w12 ⟨rfl, hb⟩; have HB12 := Aside0.mk (below_step HB11.out hb); clear hb))
  go_ret
  exact ⟨rfl, HB12.out⟩
set_option maxHeartbeats 4000000 in
theorem args_good (n : Nat) (h64 : 64 ≤ n) (h480 : n ≤ 480) (A1 : Option Addr) (c1 m1 : Nat) (l1 : List Int) (hm : l1.length = m1) (A2 : Option Addr) (n2 c2 : Nat) (w : World) (hr1 : B.C w A1 m1 l1) (hc1 : m1 ≤ c1) (hby : Go.Proofs.Ytcihfmehbmficaa.Spin.Bytes l1) (a q : Int) (hh : Go.Proofs.Ytcihfmehbmficaa.Pure.headI (pad l1) = (a, q, 0)) (hB : Go.Proofs.Ytcihfmehbmficaa.Super.headB a q = true) :
    Calls Try.prog 4 #[.int .i64 (n : Int), .slice A1 m1 c1, .slice A2 n2 c2] w fun e w' => e = .returned (.bool true) ∧ Below w.heap.size w w' := by
  have hpb := pad_bytes hby
  have H1 : Aside0 (1 ≤ n) := ⟨by omega⟩
  have H2 := Aside0.mk h480
  have bn1 : decide ((n : Int) < 64) = false := decide_eq_false (by omega)
  have bn2 : decide (n < 64) = false := decide_eq_false (by omega)
  have HL0 : Aside0 (∀ (W : World) (F : Nat → Prop) (g : Nat), DW W F g ⟨false, -1, (newS n).bs⟩ → Calls Try.prog 27 #[.pointer (some ⟨g, 0, none⟩)] W fun e w' => e = .returned (.tuple #[.slice none 0 0, .slice none 0 0, .agg #[.int .i64 0, .int .i64 0], .int .i64 2]) ∧ Below W.heap.size W w') := ⟨fun W F g hd => look_bad hd (by rw [show (newS n).bs.length = n from List.length_replicate]; omega) (new_bytes n) (new_head n (by omega))⟩
  have HL1 : Aside0 (∀ (W : World) (F : Nat → Prop) (g : Nat), DW W F g ⟨false, -1, (newS n).bs.modify 1 (push (pad l1))⟩ → Calls Try.prog 27 #[.pointer (some ⟨g, 0, none⟩)] W fun e w' => ∃ vb, e = .returned (.tuple #[vb, .slice none 0 0, .agg #[.int .i64 a, .int .i64 q], .int .i64 0]) ∧ kY.R 23 w' W.heap.size (fun _ => True) vb (((newS n).bs.modify 1 (push (pad l1))).map curB) ∧ Below W.heap.size W w') := ⟨fun W F g hd => look_none hd (by rw [mod_length]; omega) (mod_bytes hpb) (by rw [mod_cur, fresh_head (by omega)]; exact hh) (by rw [mod_cur, fresh_log (by omega)]; exact find_zero a q hB)⟩
  have HHB := Aside0.mk hB
  have HL2 : Aside0 (1 < ((newS n).bs.modify 1 (push (pad l1))).length) := ⟨by rw [mod_length]; omega⟩
  have HCP : Aside0 (Cap ((newS n).bs.modify 1 (push (pad l1))) 1000) := ⟨((new_cap n).push ⟨1, pad l1⟩).mono (by omega)⟩
  have HI1 : Aside0 (((newS n).bs.modify 1 (push (pad l1)))[1]? = some (push (pad l1) zB)) := ⟨mod_at (by omega)⟩
  have HFIT : Aside0 (Fit (newS n).bs.length [⟨1, pad l1⟩]) := ⟨fun x hx => by
    obtain rfl := List.mem_singleton.1 hx
    refine ⟨pad_length l1, show (0 : Int) ≤ 1 by decide, ?_⟩
    rw [show (newS n).bs.length = n from List.length_replicate]
    show (1 : Int) < n
    omega⟩
  have HGH : Aside0 (∀ (W : World) (A : Option Addr) (c : Nat), B.C W A 64 (pad l1) → 64 ≤ c → Calls Try.prog 15 #[.slice A 64 c] W fun e w' => e = .returned (.tuple #[.agg #[.int .i64 a, .int .i64 q], .int .i64 0]) ∧ Below W.heap.size W w') := ⟨fun W A c hC hc => rget_at hpb (pad_length l1) hh hC hc⟩
  have HR1 := Aside0.mk hr1
  have HM := Aside0.mk hm
  have HTL : Aside0 ((l1.take 64).length = Nat.min m1 64) := ⟨by rw [List.length_take, ← hm]; exact Nat.min_comm _ _⟩
  have hmk := mk64
  generalize hZ : Array.replicate 64 (Value.int .u8 0) = Z at hmk
  have HZ : Aside0 (Z.toList = nums .u8 z64) := ⟨by subst hZ; rfl⟩
  have HFA : Aside0 (0 + (nums .u8 (l1.take 64)).length ≤ Z.toList.length) := ⟨by rw [HZ.out, Go.Proofs.YtcihfmehbmficaaW.PrintWords.nums_length, Go.Proofs.YtcihfmehbmficaaW.PrintWords.nums_length, HTL.out]; show 0 + Nat.min m1 64 ≤ 64; rw [Nat.zero_add]; exact Nat.min_le_right _ _⟩
  clear h64 h480 hm hr1 hc1 hby hpb hh hZ hB
  go_enter Try.func4, Try.ntmps4
  go_wp2_with (first | (go_at_call 12; (with_reducible refine (Disk.new_at n (n : Int) rfl H1.out H2.out _).mono ?_); rintro e w0 ⟨g, F, rfl, hd, hF, hb⟩; have HD0 : Aside0 (DW w0 F g ⟨false, -1, (newS n).bs⟩) := ⟨hd⟩; have HF0 := Aside0.mk hF; have HB0 := Aside0.mk hb; clear hd hF hb) | (go_at_call 11; (with_reducible refine (read_nil 0 _).mono ?_); rintro e wr ⟨rfl, rfl⟩) | (go_at_call 8; (with_reducible refine (commit_nil _ _ _ _).mono ?_); rintro e w1 ⟨rfl, hb⟩; have HB1 := Aside0.mk (below_step HB0.out hb); have HD1 := Aside0.mk (HD0.out.below hb); clear hb) | (go_at_call 13; (with_reducible refine (head_nil _).mono ?_); rintro e w2 ⟨rfl, hb⟩; have HB2 := Aside0.mk (below_step HB1.out hb); have HD2 := Aside0.mk (HD1.out.below hb); clear hb) | (go_at_call 14; (with_reducible refine (Look_err 2 (by decide) (HL0.out _ _ _ HD2.out)).mono ?_); rintro e w3 ⟨rfl, hb⟩; have HB3 := Aside0.mk (below_step HB2.out hb); have HD3 := Aside0.mk (HD2.out.below hb); clear hb) | (go_at_call 10; (with_reducible refine (Open_err 2 (by decide) (HL0.out _ _ _ HD3.out)).mono ?_); rintro e w4 ⟨rfl, hb⟩; have HB4 := Aside0.mk (below_step HB3.out hb); have HD4 := Aside0.mk (HD3.out.below hb); clear hb) | (with_reducible refine wpList_copy_splice (o := ⟨some 78, _, _, _, _, _⟩) ?ca (.tmp 76) (.tmp 77) 23 23 ?co 5 ?cu ?ci (some ⟨w4.heap.size, 0, none⟩) A1 64 64 m1 c1 ?cd ?cs w4.heap.size 0 Z.toList 5 ?cg (nums .u8 (l1.take 64)) ?cn ?cp ?cf ?c1 w4.heap.size w4 ?cb ?cl ?_; (case ca => rfl); (case co => rfl); (case cu => exact Try.underlying23); (case ci => kernel_rfl); (case cd => with_unfolding_all rfl); (case cs => with_unfolding_all rfl); (case cl => exact Nat.le_refl _); (case cg => exact blk_new w4 _); (case cn => rw [Go.Proofs.YtcihfmehbmficaaW.PrintWords.nums_length]; exact HTL.out); (case cp => exact copy_from (Kd.C_alloc (Kd.C_below HR1.out HB4.out) _) HM.out); (case cf => exact HFA.out); (case c1 => exact nums_one _); (case cb => exact grown_below _ _); intro w5 hw5 hb5; have hg5 := hw5.out; rw [pad_splice HZ.out] at hg5; have HG5 := Aside0.mk hg5; have HB5 := Aside0.mk (below_step HB4.out hb5); have HD5 := Aside0.mk (HD4.out.below hb5); clear hw5 hb5 hg5) | (go_at_call 15; (with_reducible refine (HGH.out _ _ _ (C_blk HG5.out rfl (pad_length l1) (by omega)) (by omega)).mono ?_); rintro e w6 ⟨rfl, hb⟩; have HB6 := Aside0.mk (below_alloc (below_step HB5.out hb) (.cells #[.int .i64 a, .int .i64 q] 46)); have HG6 := Aside0.mk (blk_alloc (blk_below HG5.out hb) (.cells #[.int .i64 a, .int .i64 q] 46)); have HD6 := Aside0.mk ((HD5.out.below hb).below (below_alloc (Below.refl _ _) (.cells #[.int .i64 a, .int .i64 q] 46))); have HD7 := Aside0.mk (HD6.out.below (below_alloc (Below.refl _ _) (.cells #[.int .i64 1, .slice (some ⟨w4.heap.size, 0, none⟩) 64 64] 35))); have HB7 := Aside0.mk (below_alloc HB6.out (.cells #[.int .i64 1, .slice (some ⟨w4.heap.size, 0, none⟩) 64 64] 35)); have hrw := pad_RW HD0.out HD6.out HG6.out trivial (pad_length l1) (fun hn => by have h1 := HD4.out.lt _ hn; omega); rw [World.size_alloc] at hrw; have HRW := Aside0.mk hrw; clear hb hrw) | (go_at_call 16; (with_reducible refine (put_ever (bs := (newS n).bs) HD7.out (new_cap n) _ 1 1 [⟨1, pad l1⟩] rfl HRW.out HFIT.out (by omega)).mono ?_); rintro e w8 ⟨rfl, F8, hd8, hc8⟩; have HD8 : Aside0 (DW w8 F8 g ⟨false, -1, (newS n).bs.modify 1 (push (pad l1))⟩) := ⟨hd8⟩; have HC8 := Aside0.mk hc8; clear hd8 hc8) | (go_at_call 14; (with_reducible refine (Look_none (HL1.out _ _ _ HD8.out)).mono ?_); rintro e w9 ⟨v9, rfl, _, hb⟩; have HB9 := Aside0.mk hb; have HD9 := Aside0.mk (HD8.out.below hb); clear hb) | (go_at_call 17; (with_reducible refine (Disk.open_at HD9.out (i := 1) (b := push (pad l1) zB) 1 rfl HI1.out 1 rfl).mono ?_); rintro e w10 ⟨rfl, rfl⟩) | (go_at_call 10; (with_reducible refine (open_none HD9.out (HL1.out _ _ _ HD9.out) HHB.out HL2.out HCP.out).mono ?_); rintro e w11 ⟨gj, F11, rfl, _, hc⟩; have HC11 := Aside0.mk hc; clear hc) | (go_at_call 7; (with_reducible refine (awake_calls _).mono ?_); rintro e w12 ⟨rfl, hb⟩; have HB12 := Aside0.mk (below_step (below_end HB7.out HF0.out HC8.out HB9.out (HC11.out.below (fun k hk => below_F HB7.out HF0.out HC8.out k hk) (below_end0 HB7.out HF0.out HC8.out HB9.out).size)) hb); clear hb))
  go_ret
  exact ⟨rfl, HB12.out⟩
theorem bytes_wf {l : List Int} (h : ∀ x ∈ l, (Lit.int .u8 x).wf = true) : Go.Proofs.Ytcihfmehbmficaa.Spin.Bytes l := fun x hx => by
  have h1 := h x hx
  simp [Lit.wf, IntKind.min, IntKind.max, IntKind.signed, IntKind.bits] at h1
  omega
theorem args_row (n : Int) (A1 : Option Addr) (c1 : Nat) (l1 : List Int) (A2 : Option Addr) (n2 c2 : Nat) (w : World) (hr1 : B.C w A1 l1.length l1) (hc1 : l1.length ≤ c1) (hw1 : ∀ x ∈ l1, (Lit.int .u8 x).wf = true) :
    Calls Try.prog 4 #[.int .i64 n, .slice A1 l1.length c1, .slice A2 n2 c2] w fun e w' => e = .returned (.bool true) ∧ Below w.heap.size w w' := by
  by_cases h : n < 1 ∨ 480 < n
  · exact args_no n h A1 c1 l1.length A2 n2 c2 w
  · obtain ⟨m, rfl⟩ : ∃ m : Nat, n = (m : Int) := ⟨n.toNat, by omega⟩
    by_cases h64 : m < 64
    · exact args_small m (by omega) h64 A1 c1 l1.length A2 n2 c2 w
    · by_cases hk : Go.Proofs.Ytcihfmehbmficaa.Pure.okH (pad l1)
      · exact args_good m (by omega) (by omega) A1 c1 _ l1 rfl A2 n2 c2 w hr1 hc1 (bytes_wf hw1) _ _ (by unfold Go.Proofs.Ytcihfmehbmficaa.Pure.headI; rw [if_pos hk]) hk.2.1
      · exact args_bad m (by omega) (by omega) A1 c1 _ l1 rfl A2 n2 c2 w hr1 hc1 (bytes_wf hw1) 0 0 (head_no hk) ⟨rfl, rfl⟩
end Go.Proofs.Ytcihfmehbmficaa.Jrn
