/- Walks of package field that the print does not take, and of bytes.Clone. -/
import Derived.Test.YtnccbebjligpdaaProg
import Derived.Test.YtnccbebjligpdaaWWords
import Derived.Test.YtnccbebjligpdaaWMore
import Derived.Test.YtnccbebjligpdaaSpin
import Derived.WalkKit
import Derived.KernelRfl
import Derived.Laws.Cover3
import Derived.Laws.BitsLemmas
import Derived.WalkSpells
import Derived.Deep.QuietTactic
import Derived.BigQuiet
import Derived.Deep.LoopGhost
import Derived.StillTailTactics
import Derived.Outline
namespace Go.Proofs.Ytnccbebjligpdaa.Field
open Go Go.RowKit Go.Proofs.YtnccbebjligpdaaW.PrintWords Go.Proofs.YtnccbebjligpdaaW.PrintMore
set_option linter.unusedVariables false
set_option linter.unusedSimpArgs false

abbrev B : Kd Int := Kd.int .u8
abbrev tb : Nat := 5

/-- One block has turned, nothing else. -/
structure Wrote (g : Nat) (cs : Array Value) (w w' : World) : Prop where
  blk : w'.heap[g]? = some (.cells cs 5 (0, 0))
  size : w'.heap.size = w.heap.size
  far : ∀ j, j ≠ g → w'.heap[j]? = w.heap[j]?
  os : w'.os = w.os
  tape : w'.tape = w.tape
  output : w'.output = w.output

theorem Wrote.refl {g : Nat} {cs : Array Value} {w : World} (h : w.heap[g]? = some (.cells cs 5 (0, 0))) : Wrote g cs w w := ⟨h, rfl, fun _ _ => rfl, rfl, rfl, rfl⟩
theorem Wrote.set {g : Nat} {cs : Array Value} {w w' : World} (h : Wrote g cs w w') (i : Nat) (v : Value) : Wrote g (cs.setIfInBounds i v) w (w'.setCell ⟨g, i, none⟩ v) :=
  ⟨blk_set h.blk i v, by rw [World.size_setCell]; exact h.size, fun j hj => (Below.heap_setCell w' ⟨g, i, none⟩ v j hj).trans (h.far j hj), h.os, h.tape, h.output⟩
theorem Wrote.drewN {g : Nat} {cs : Array Value} {w w' : World} (h : Wrote g cs w w') (n : Nat) : Wrote g cs w (w'.drewN n) := ⟨h.blk, h.size, h.far, h.os, h.tape, h.output⟩
theorem Wrote.trans {g : Nat} {cs cs' : Array Value} {w w1 w2 : World} (h : Wrote g cs w w1) (k : Wrote g cs' w1 w2) : Wrote g cs' w w2 :=
  ⟨k.blk, k.size.trans h.size, fun j hj => (k.far j hj).trans (h.far j hj), k.os.trans h.os, k.tape.trans h.tape, k.output.trans h.output⟩
theorem Wrote.below {g B : Nat} {cs : Array Value} {w w' : World} (h : Wrote g cs w w') (hg : B ≤ g) : Below B w w' :=
  ⟨h.os, h.tape, h.output, Nat.le_of_eq h.size.symm, fun k hk => h.far k (by omega)⟩

/-- What put leaves in a block: m bytes of n from place o on. -/
def putC (cs : Array Value) (o : Nat) (n : Int) : Nat → Array Value
  | 0 => cs
  | k + 1 => (putC cs o n k).setIfInBounds (o + k) (.int .u8 (n / 2 ^ (8 * k) % 256))
theorem putC_size (cs : Array Value) (o : Nat) (n : Int) : ∀ k, (putC cs o n k).size = cs.size
  | 0 => rfl
  | k + 1 => by rw [putC, Array.size_setIfInBounds, putC_size cs o n k]

theorem put_calls (g o m c : Nat) (n : Int) (cs : Array Value) (hn0 : 0 ≤ n) (hn1 : n < 4294967296) (hm : m ≤ 4) (ho : o + m ≤ cs.size) (hc : cs.size ≤ 9223372036854775807) (w : World) (hw : w.heap[g]? = some (.cells cs 5 (0, 0))) :
    Calls Try.prog 45 #[.slice (some ⟨g, o, none⟩) m c, .int .u32 n] w fun e w' => e = .returned (.tuple #[]) ∧ Wrote g (putC cs o n m) w w' := by
  have HW := Aside0.mk hw
  clear hw
  go_enter Try.func45, Try.ntmps45
  go_wp2
  go_loopw [7] (fun i wr => ∃ k : Nat, k ≤ m ∧ i = .int .i64 k ∧ Aside0 (Wrote g (putC cs o n k) w wr)) (fun i _ => m - (intOf i).toNat)
  case atStart => exact ⟨0, Nat.zero_le _, rfl, ⟨Wrote.refl HW.out⟩⟩
  case round =>
    obtain ⟨k, hk, rfl, HR⟩ := hrel
    by_cases hlt : k < m
    · obtain ⟨u, hu⟩ : ∃ u, (putC cs o n k)[o + k]? = some u := ⟨_, Array.getElem?_eq_getElem (by rw [putC_size]; omega)⟩
      have hc1 : wr.cell? ⟨g, o + k, none⟩ = some u := (blk_cell HR.out.blk (o + k)).trans hu
      have hf1 := blk_frozen HR.out.blk (o + k)
      clear hu
      go_wp2
      go_roundw
      case rel => exact ⟨k + 1, by omega, by go_num, ⟨HR.out.set _ _⟩⟩
      case measure => simp [intOf]; omega
    · go_wp2
      first | go_end0 | ((try simp only [Exit.inBlock, Exit.then]); refine bodyPost_ret (results_none rfl _ _ _) rfl ?_)
      obtain rfl : k = m := by omega
      exact ⟨rfl, HR.out⟩

theorem infob : (Try.prog.info? 5).map (fun i => (i.zero, i.size, i.bytes)) = some (some (.int .u8 0), 1, 1) := by kernel_rfl

/-- What bytes.Clone gives. -/
def cloneF (l : List Int) : Option (List Int) := if l.length < 140737488355328 then some l else none

theorem clone_calls (A0 : Option Addr) (c0 : Nat) (l0 : List Int) (r : List Int) (w : World) (hr0 : Kd.C B w A0 l0.length l0) (hc0 : l0.length ≤ c0) (h : cloneF l0 = some r) :
    Calls Try.prog 57 #[.slice A0 l0.length c0] w fun e w' => ∃ v0_ : Value, e = .returned (v0_) ∧ Kd.R B 5 w' w.heap.size (fun _ => True) v0_ r ∧ Below w.heap.size w w' := by
  unfold cloneF at h
  split at h
  · rename_i hlen
    obtain rfl := Option.some.inj h
    clear h
    cases A0 with
    | none =>
      have hl0 : l0 = [] := by
        rcases l0 with _ | ⟨x, xs⟩
        · rfl
        · obtain ⟨ad, h, _⟩ := hr0.2.2 (by simp)
          cases h
      subst hl0
      clear hr0 hlen
      have he : ∀ W : World, (binOp .eql 23 (.slice none 0 c0) (.slice none 0 0)).run Try.prog W = .ok (.bool true) W := fun W => Lib.run_eql_slice_nil W _ _ _ _ _ _ _ Try.underlying23
      go_enter Try.func57, Try.ntmps57
      go_wp2
      go_ret
      exact ⟨_, rfl, Kd.R_nil _ _ _ _ _, Below.refl _ _⟩
    | some ad =>
      have he : ∀ W : World, (binOp .eql 23 (.slice (some ad) l0.length c0) (.slice none 0 0)).run Try.prog W = .ok (.bool false) W := fun W => Lib.run_eql_slice_nil W _ _ _ _ _ _ _ Try.underlying23
      have HR0 := Aside0.mk hr0
      have HC0 := Aside0.mk hc0
      have HL := Aside0.mk hlen
      clear hr0 hc0 hlen
      go_enter Try.func57, Try.ntmps57
      go_wp2_with (first | ((with_reducible refine gate_dst (N := 5) rfl ?_); (try (refine gate_guard (by rfl) ?_; dsimp only)); refine Kd.R_lit B _ 5 ?hg (N := 5) ?hd (xs := ([] : List Int)) (inner := []) (ok := fun _ => True) (okp := fun _ => True) ?hr ?hp (fun _ hk => hk) trivial (Below.refl _ _) (Nat.le_refl _) (by simp) ?_; (case hd => rfl); (case hg => rfl); (case hr => first | (go_simp; done) | (go_simp; rfl)); (case hp => exact (Reps.none _ _)); intro v1 w1 ho1 hb1 hg1 hn1; clear hg1 hn1; have HO := Aside0.mk ho1; have HB := Aside0.mk hb1; clear ho1 hb1) | ((with_reducible refine gate_builtin (b := .append) (xs := #[.tmp 5, .tmp 6]) rfl ?_); (try (refine gate_guard (by rfl) ?_; dsimp only)); at_builtin; refine Kd.R_append_rows B (w0 := w) w.heap.size rfl (.tmp 5) (.tmp 6) 23 5 (.int .u8 0) 1 rfl Try.underlying23 infob rfl (by decide) (by omega) v1 [] l0 _ _ _ (fun _ => True) (fun _ => False) rfl rfl HO.out (Kd.C_below HR0.out HB.out) (fun _ _ h => h) (fun _ h => h.elim) (fun _ _ => trivial) HB.out (below_size HB.out) ?aL ?_; (case aL => have := HL.out; simp only [List.length_nil]; omega); intro v2 w2 ho hb hg hat; have HO2 := Aside0.mk ho; have HB2 := Aside0.mk hb; clear ho hb hg hat))
      go_ret
      exact ⟨_, rfl, HO2.out, HB2.out⟩
  · cases h

/-- What check tells. -/
def checkI (n : Nat) (a1 a2 a3 : Int) : Int := if n = 64 then (if a2 < 1 then 1 else if a3 < a2 then 1 else if a1 < 0 then 1 else if 60 - a2 < a1 then 1 else 0) else 2

/-- What put leaves, as a list. -/
def putL (l : List Int) (o : Nat) (n : Int) : Nat → List Int
  | 0 => l
  | k + 1 => (putL l o n k).set (o + k) (n / 2 ^ (8 * k) % 256)
theorem putL_length (l : List Int) (o : Nat) (n : Int) : ∀ k, (putL l o n k).length = l.length
  | 0 => rfl
  | k + 1 => by rw [putL, List.length_set, putL_length l o n k]
theorem putC_take (cs : Array Value) (l : List Int) (o m : Nat) (n : Int) (h : cs.toList.take m = nums .u8 l) : ∀ k, (putC cs o n k).toList.take m = nums .u8 (putL l o n k)
  | 0 => h
  | k + 1 => by
    rw [putC, putL, Array.toList_setIfInBounds, List.take_set, putC_take cs l o m n h k]
    simp [nums, List.map_set]

/-- A row of the call's own, laid open: its block. -/
theorem R_open {w : World} {base : Nat} {ok : Nat → Prop} {v : Value} {l : List Int} (h : Kd.R B 5 w base ok v l) (hp : 0 < l.length) :
    ∃ g cap cs, v = .slice (some ⟨g, 0, none⟩) l.length cap ∧ base ≤ g ∧ w.heap[g]? = some (.cells cs 5 (0, 0)) ∧ l.length ≤ cap ∧ cap ≤ maxLen ∧ cs.size = cap ∧ cs.toList.take l.length = nums .u8 l ∧ ok g := by
  have ho := Kd.own_of_R h
  rcases ho.2 with ⟨_, h0⟩ | ⟨g, cap, cs, hv, hg, hh, hn, hc, hs, ht⟩
  · omega
  · refine ⟨g, cap, cs, hv, hg, hh, hn, hc, by rw [hs, Nat.mul_one], by rw [Nat.mul_one] at ht; exact ht, h.1 g (by rw [hv]; rfl)⟩

/-- .. and put together again. -/
theorem R_shut {w : World} {base g cap : Nat} {ok : Nat → Prop} {cs : Array Value} {l : List Int} (hg : base ≤ g) (hh : w.heap[g]? = some (.cells cs 5 (0, 0))) (hn : l.length ≤ cap) (hc : cap ≤ maxLen) (hs : cs.size = cap) (ht : cs.toList.take l.length = nums .u8 l) (hok : ok g) :
    Kd.R B 5 w base ok (.slice (some ⟨g, 0, none⟩) l.length cap) l := by
  refine Kd.R_of_own ⟨by rw [encs_length, Nat.mul_one], .inr ⟨g, cap, cs, rfl, hg, hh, hn, hc, by rw [hs, Nat.mul_one], by rw [Nat.mul_one, ht]; rfl⟩⟩ (fun k hk => ?_)
  have : g = k := by simpa [Value.ownBlock] using hk
  subst this
  exact hok

theorem R_wrote {w w' : World} {base g cap : Nat} {ok : Nat → Prop} {cs : Array Value} {l : List Int} (hg : base ≤ g) (hn : l.length ≤ cap) (hc : cap ≤ maxLen) (hs : cs.size = cap) (ht : cs.toList.take l.length = nums .u8 l) (hok : ok g) (o m : Nat) (n : Int)
    (hw : Wrote g (putC cs o n m) w w') : Kd.R B 5 w' base ok (.slice (some ⟨g, 0, none⟩) l.length cap) (putL l o n m) := by
  have h := R_shut (ok := ok) (l := putL l o n m) hg hw.blk (by rw [putL_length]; exact hn) hc (by rw [putC_size]; exact hs) (by rw [putL_length]; exact putC_take cs l o _ n ht m) hok
  rw [putL_length] at h
  exact h

/-- What Set gives. -/
def setF (l : List Int) (a1 a2 a3 : Int) : Option (List Int × Int) :=
  if checkI l.length a1 a2 4 = 0 then (if 0 ≤ a3 ∧ a3 / 2 ^ (8 * a2).toNat = 0 then some (putL l a1.toNat a3 a2.toNat, 0) else some ([], 7)) else some ([], checkI l.length a1 a2 4)

theorem checkI_zero {n : Nat} {a1 a2 a3 : Int} (h : checkI n a1 a2 a3 = 0) : n = 64 ∧ 1 ≤ a2 ∧ a2 ≤ a3 ∧ 0 ≤ a1 ∧ a1 + a2 ≤ 60 := by
  unfold checkI at h
  repeat' split at h
  all_goals omega

/-- What Seal gives. -/
def sealF (l : List Int) : Option (List Int × Int) :=
  if l.length = 64 then (Spin.sumF (l.take 60)).bind fun s => some (putL l 60 s 4, 0) else some ([], 2)

theorem seal_no (A0 : Option Addr) (c0 n : Nat) (hn : n ≠ 64) (w : World) :
    Calls Try.prog 46 #[.slice A0 n c0] w fun e w' => e = .returned (.tuple #[.slice none 0 0, .int .i64 2]) ∧ w = w' := by
  have d5 : ((n : Int) != 64) = true := by simp; omega
  go_enter Try.func46, Try.ntmps46
  go_wp2
  go_ret2
  exact ⟨rfl, rfl⟩

theorem sum_range {l : List Int} {s : Int} (h : Spin.sumF l = some s) : 0 ≤ s ∧ s < 4294967296 := by
  obtain ⟨_, _, _, _, rfl⟩ := Spin.moreF_some h
  obtain ⟨h1, h2, h3, h4⟩ := Spin.Ok_run (Spin.Ok_start 65536) l
  unfold Spin.tellI
  omega

theorem seal_yes (A0 : Option Addr) (c0 : Nat) (l0 : List Int) (s : Int) (h64 : l0.length = 64) (hs : Spin.sumF (l0.take 60) = some s) (w : World) (hr0 : Kd.C B w A0 l0.length l0) (hc0 : l0.length ≤ c0) :
    Calls Try.prog 46 #[.slice A0 l0.length c0] w fun e w' => ∃ v0_ : Value, e = .returned (.tuple #[v0_, .int .i64 0]) ∧ Kd.R B 5 w' w.heap.size (fun _ => True) v0_ (putL l0 60 s 4) ∧ Below w.heap.size w w' := by
  obtain ⟨hs0, hs1⟩ := sum_range hs
  have HS0 := Aside0.mk hs
  have HR0 := Aside0.mk hr0
  have HC0 := Aside0.mk hc0
  have HL := Aside0.mk h64
  have hcc : 64 ≤ c0 := by omega
  have d5 : ((l0.length : Int) != 64) = false := by rw [h64]; rfl
  clear hr0 hc0 h64 hs
  go_enter Try.func46, Try.ntmps46
  go_wp2_with fail
  ((with_reducible refine (clone_calls _ _ _ l0 _ HR0.out HC0.out (by unfold cloneF; rw [if_pos (by have := HL.out; omega)])).mono ?_); rintro e w1 ⟨v1, rfl, hR, hB⟩)
  obtain ⟨g, cap, cs, rfl, hg, hh, hn, hcap, hsz, ht, _⟩ := R_open hR (by have := HL.out; omega)
  have HT := Aside0.mk ht
  have HH := Aside0.mk hh
  have HS := Aside0.mk hsz
  have HB1 := Aside0.mk hB
  clear ht hh hR hsz hB
  have h64c : 64 ≤ cap := by have := HL.out; omega
  have h64l : 64 ≤ l0.length := by have := HL.out; omega
  have hmax : cap ≤ 9223372036854775807 := hcap
  go_wp2_with fail
  refine wp_region_still_tail 5 (by kernel_rfl) (by kernel_rfl) ?_
  simp only [List.take_succ_cons, List.take_zero, List.drop_succ_cons, List.drop_zero]
  have k1 : ((60 : Int) ≤ (l0.length : Int)) = True := eq_true (by omega)
  have k2 : (cap = 60) = False := eq_false (by omega)
  have k3 : ((60 : Int) ≤ (c0 : Int)) = True := eq_true (by omega)
  have hsum : ∀ W : World, Kd.C B W A0 l0.length l0 → Calls Try.prog 52 #[.slice A0 60 c0] W fun e w' => e = .returned (.int .u32 s) ∧ w' = W := fun W hC => by
    have e60 : (l0.take 60).length = 60 := by rw [List.length_take]; have := HL.out; omega
    have h := Spin.sum_still A0 c0 (l0.take 60) s W (Kd.C_take hC (by omega)) (by omega) HS0.out
    rw [e60] at h
    exact h
  have HSUM := Aside0.mk hsum
  clear hsum
  still_step
  still_step
  still_step
  still_step
  still_call (HSUM.out _ (Kd.C_drew (Kd.C_below HR0.out HB1.out)))
  refine wpStill_nil ?_
  change wpList _ _ _ _ _ w1.drew
  have HH2 : Aside0 (w1.drew.heap[g]? = some (.cells cs 5 (0, 0))) := ⟨HH.out⟩
  go_wp2_with fail
  ((with_reducible refine (put_calls g 60 (l0.length - 60) (cap - 60) s cs hs0 hs1 (by have := HL.out; omega) (by have := HS.out; have := HL.out; omega) (by have := HS.out; omega) w1.drew HH2.out).mono ?_); rintro e w2 ⟨rfl, hwr⟩)
  have HWR := Aside0.mk hwr
  clear hwr
  go_wp2
  go_ret2
  have e1 : l0.length - 60 = 4 := by have := HL.out; omega
  have hw := HWR.out
  rw [e1] at hw
  exact ⟨_, rfl, R_wrote hg hn hcap HS.out HT.out trivial _ _ _ hw, (below_drew HB1.out).trans (hw.below hg)⟩

theorem seal_of_calls (A0 : Option Addr) (c0 : Nat) (l0 : List Int) (r1 : List Int) (r2 : Int) (w : World) (hr0 : Kd.C B w A0 l0.length l0) (hc0 : l0.length ≤ c0) (h : sealF l0 = some (r1, r2)) :
    Calls Try.prog 46 #[.slice A0 l0.length c0] w fun e w' => ∃ v0_ : Value, e = .returned (.tuple #[v0_, .int .i64 r2]) ∧ Kd.R B 5 w' w.heap.size (fun _ => True) v0_ r1 ∧ Below w.heap.size w w' := by
  unfold sealF at h
  split at h
  · rename_i h64
    obtain ⟨s, hs, h2⟩ := Option.bind_eq_some_iff.1 h
    obtain ⟨rfl, rfl⟩ := Prod.mk.inj (Option.some.inj h2)
    exact seal_yes A0 c0 l0 s h64 hs w hr0 hc0
  · rename_i hz
    obtain ⟨rfl, rfl⟩ := Prod.mk.inj (Option.some.inj h)
    exact (seal_no A0 c0 _ hz w).mono fun e w' ⟨he, hw⟩ => ⟨_, he, hw ▸ Kd.R_nil _ _ _ _ _, hw ▸ Below.refl _ _⟩

/-- The number that bytes are, the least one first. -/
def getI : List Int → Int
  | [] => 0
  | x :: r => x + 256 * getI r
theorem getI_snoc (l : List Int) (x : Int) : getI (l ++ [x]) = getI l + 256 ^ l.length * x := by
  induction l with
  | nil => simp [getI]
  | cons y r ih =>
    simp only [List.cons_append, getI, ih, List.length_cons, Int.pow_succ]
    rw [Int.mul_add, Int.mul_comm (256 ^ r.length) 256, Int.mul_assoc, Int.add_assoc]
theorem getI_range (l : List Int) (h : Spin.Bytes l) : 0 ≤ getI l ∧ getI l < 256 ^ l.length := by
  induction l with
  | nil => simp [getI]
  | cons y r ih =>
    have hy := h y (by simp)
    have hr := ih (fun x hx => h x (by simp [hx]))
    simp only [getI, List.length_cons, Int.pow_succ]
    omega
def getF (l : List Int) : Option Int := if Spin.Bytes l ∧ l.length ≤ 7 then some (getI l) else none

theorem wraps_i64 (n : Int) (h₀ : 0 ≤ n) (h₁ : n < 2 ^ 62) : IntKind.i64.wrap n = n := by
  rw [IntKind.wrap_i64]
  have : (2 : Int) ^ 62 = 4611686018427387904 := by decide
  omega

theorem or_step (n x : Int) (k : Nat) (hk : k ≤ 6) (hn0 : 0 ≤ n) (hn1 : n < 256 ^ k) (hx0 : 0 ≤ x) (hx1 : x < 256) : bits .or .i64 n (wrap64 (x * 2 ^ (8 * k))) = n + 256 ^ k * x := by
  obtain ⟨a, rfl⟩ := Int.eq_ofNat_of_zero_le hn0
  obtain ⟨b, rfl⟩ := Int.eq_ofNat_of_zero_le hx0
  have e256 : (256 : Nat) ^ k = 2 ^ (8 * k) := by rw [Nat.pow_mul]
  have ha : a < 2 ^ (8 * k) := by
    have h : ((a : Nat) : Int) < ((256 ^ k : Nat) : Int) := by simpa using hn1
    rw [e256] at h
    exact Int.ofNat_lt.1 h
  have hb : b < 2 ^ 8 := by omega
  have hp : 2 ^ (8 * k) ≤ 2 ^ 48 := Nat.pow_le_pow_right (by decide) (by omega)
  have hprod : b * 2 ^ (8 * k) < 2 ^ 56 := by
    have h1 : b * 2 ^ (8 * k) ≤ 255 * 2 ^ (8 * k) := Nat.mul_le_mul_right _ (by omega)
    have h2 : (2 : Nat) ^ 56 = 256 * 2 ^ 48 := by decide
    omega
  have ecast : ((b : Int) * 2 ^ (8 * k)) = ((b * 2 ^ (8 * k) : Nat) : Int) := by simp
  have ew : wrap64 (((b * 2 ^ (8 * k) : Nat) : Int)) = ((b * 2 ^ (8 * k) : Nat) : Int) := by
    have : (2 : Nat) ^ 56 = 72057594037927936 := by decide
    unfold wrap64
    omega
  have h62 : (2 : Nat) ^ 56 ≤ 2 ^ 62 := Nat.pow_le_pow_right (by decide) (by decide)
  have h48 : (2 : Nat) ^ 48 ≤ 2 ^ 62 := Nat.pow_le_pow_right (by decide) (by decide)
  rw [ecast, ew, (bits_nat .i64 62 (by decide) wraps_i64 a (b * 2 ^ (8 * k)) (by omega) (by omega)).2, Nat.or_comm, Nat.mul_comm b, ← Nat.two_pow_add_eq_or_of_lt ha b]
  have e2 : ((256 : Int) ^ k) = ((2 ^ (8 * k) : Nat) : Int) := by rw [← e256]; simp
  rw [e2]
  simp only [Int.natCast_add, Int.natCast_mul]
  omega

theorem get_still (A0 : Option Addr) (c0 : Nat) (l0 : List Int) (r : Int) (w : World) (hr0 : Kd.C B w A0 l0.length l0) (hc0 : l0.length ≤ c0) (h : getF l0 = some r) :
    Calls Try.prog 51 #[.slice A0 l0.length c0] w fun e w' => e = .returned (.int .i64 r) ∧ w' = w := by
  unfold getF at h
  split at h
  · rename_i g
    obtain ⟨hb, h7⟩ := g
    obtain rfl := Option.some.inj h
    clear h
    have HR0 := Aside0.mk hr0
    have HC0 := Aside0.mk hc0
    have HB := Aside0.mk hb
    clear hr0 hc0 hb
    go_enter Try.func51, Try.ntmps51
    go_wp2
    go_loop [3, 8] (fun n i => ∃ k : Nat, k ≤ l0.length ∧ i = .int .i64 k ∧ n = .int .i64 (getI (l0.take k))) (fun _ i => l0.length - (intOf i).toNat)
    case atStart => exact ⟨0, Nat.zero_le _, rfl, rfl⟩
    case round =>
      obtain ⟨k, hk, rfl, rfl⟩ := hrel
      by_cases hlt : k < l0.length
      · obtain ⟨ad, e, hx⟩ := Kd.at_int HR0.out (k : Int) (by omega) (by omega)
        cases e
        rw [Int.toNat_natCast] at hx
        obtain ⟨hc1, hc2⟩ := HB.out _ (Spin.rd_mem hlt)
        have hrng := getI_range (l0.take k) (fun x hx => HB.out x (List.mem_of_mem_take hx))
        rw [List.length_take, Nat.min_eq_left (by omega)] at hrng
        have hstep := or_step (getI (l0.take k)) (rd l0 k) k (by omega) hrng.1 hrng.2 hc1 hc2
        have hsn := getI_snoc (l0.take k) (rd l0 k)
        rw [← Spin.take_rd l0 k hlt, List.length_take, Nat.min_eq_left (by omega)] at hsn
        rw [← hsn] at hstep
        have HST := Aside0.mk hstep
        clear hstep hsn hrng
        go_wp2
        go_round
        case rel => exact ⟨k + 1, by omega, by go_num, by rw [HST.out]⟩
        case measure => simp [intOf]; omega
      · go_wp2
        go_ret
        exact ⟨by rw [List.take_of_length_le (by omega)]; rfl, rfl⟩
  · cases h

theorem get_of_calls (A0 : Option Addr) (c0 : Nat) (l0 : List Int) (r : Int) (w : World) (hr0 : Kd.C B w A0 l0.length l0) (hc0 : l0.length ≤ c0) (h : getF l0 = some r) :
    Calls Try.prog 51 #[.slice A0 l0.length c0] w fun e w' => e = .returned (.int .i64 r) ∧ Drawn0 w w' :=
  (get_still A0 c0 l0 r w hr0 hc0 h).mono fun _ _ ⟨he, hw⟩ => ⟨he, hw ▸ Drawn0.refl _⟩

/-- What Sealed tells. -/
def sealedF (l : List Int) : Option Bool :=
  if l.length = 64 then (getF (l.drop 60)).bind fun a => (Spin.sumF (l.take 60)).bind fun b => some (a == b) else some false

set_option maxHeartbeats 1000000 in
theorem sealed_calls (A0 : Option Addr) (c0 : Nat) (l0 : List Int) (r : Bool) (w : World) (hr0 : Kd.C B w A0 l0.length l0) (hc0 : l0.length ≤ c0) (h : sealedF l0 = some r) :
    Calls Try.prog 33 #[.slice A0 l0.length c0] w fun e w' => e = .returned (.bool r) ∧ Drawn0 w w' := by
  unfold sealedF at h
  split at h
  · rename_i h64
    obtain ⟨x, hx, h2⟩ := Option.bind_eq_some_iff.1 h
    obtain ⟨y, hy, h3⟩ := Option.bind_eq_some_iff.1 h2
    obtain rfl := Option.some.inj h3
    clear h h2 h3
    obtain ⟨hy0, hy1⟩ := sum_range hy
    obtain ⟨ad, rfl⟩ : ∃ ad, A0 = some ad := by
      obtain ⟨ad, h, _⟩ := hr0.2.2 (by omega)
      exact ⟨ad, h⟩
    have EW := Aside0.mk (show IntKind.i64.wrap y = y by rw [IntKind.wrap_i64]; omega)
    have HX := Aside0.mk hx
    have HY := Aside0.mk hy
    have HR0 := Aside0.mk hr0
    have HC0 := Aside0.mk hc0
    have HL := Aside0.mk h64
    have hcc : 64 ≤ c0 := by omega
    have hll : 60 ≤ l0.length := by omega
    have d5 : ((l0.length : Int) == 64) = true := by rw [h64]; rfl
    have k2 : (c0 = 60) = False := eq_false (by omega)
    have k3 : ((60 : Int) ≤ (c0 : Int)) = True := eq_true (by omega)
    have k4 : ((60 : Int) ≤ (l0.length : Int)) = True := eq_true (by omega)
    have hsum : ∀ W : World, Kd.C B W (some ad) l0.length l0 → Calls Try.prog 52 #[.slice (some ad) 60 c0] W fun e w' => e = .returned (.int .u32 y) ∧ w' = W := fun W hC => by
      have e60 : (l0.take 60).length = 60 := by rw [List.length_take]; omega
      have h := Spin.sum_still (some ad) c0 (l0.take 60) y W (Kd.C_take hC (by omega)) (by omega) hy
      rw [e60] at h
      exact h
    have hget : ∀ W : World, Kd.C B W (some ad) l0.length l0 → Calls Try.prog 51 #[.slice (some (ad.add 60)) (l0.length - 60) (c0 - 60)] W fun e w' => e = .returned (.int .i64 x) ∧ w' = W := fun W hC => by
      have hd := Kd.C_drop (c := c0) (m := 60) hC (by omega) (by omega)
      rw [if_neg (by omega)] at hd
      have hd2 : Kd.C B W (some (ad.add 60)) (l0.drop 60).length (l0.drop 60) := hd
      have h := get_still (some (ad.add 60)) (c0 - 60) (l0.drop 60) x W hd2 (by rw [List.length_drop]; omega) hx
      rw [List.length_drop] at h
      exact h
    have HSUM := Aside0.mk hsum
    have HGET := Aside0.mk hget
    clear hr0 hc0 h64 hx hy hsum hget
    go_enter Try.func33, Try.ntmps33
    go_wp2_with fail
    refine wp_region_still_lit (by kernel_rfl) (by kernel_rfl) ?_
    still_step
    still_step
    still_step
    still_step
    still_step
    still_step
    still_call (HGET.out _ (Kd.C_drew HR0.out))
    still_step
    still_step
    still_call (HSUM.out _ (Kd.C_drew HR0.out))
    iterate 4 still_step
    refine wpStill_nil ?_
    go_wp2
    go_ret
    exact ⟨by show Ending.returned (.bool (x == IntKind.i64.wrap y)) = _; rw [EW.out], ⟨1, rfl⟩⟩
  · rename_i h64
    obtain rfl := Option.some.inj h
    have d5 : ((l0.length : Int) == 64) = false := by simp; omega
    clear hr0 h h64
    go_enter Try.func33, Try.ntmps33
    go_wp2
    go_quiet (fail)
    go_wp2
    go_ret
    exact ⟨rfl, ⟨_, rfl⟩⟩
end Go.Proofs.Ytnccbebjligpdaa.Field
