/- For all worlds: each call of a disk, and of the reference disk, as one function of the state; two disks side by side. Conditions: the blocks are as the states say. -/
import Derived.Test.YtiengbimednonaaDiskRef5
namespace Go.Proofs.Ytiengbimednonaa.Disk
open Go Go.RowKit Go.Proofs.YtiengbimednonaaW.PrintWords Go.Proofs.YtiengbimednonaaW.PrintLast Go.Proofs.YtiengbimednonaaW.PrintMore
set_option linter.unusedVariables false
set_option linter.unusedSimpArgs false
/-! ### The calls as functions -/
def noB : Blk := ⟨[], []⟩
def getF (s : DS) (i : Int) : List Int × Int := if s.off = true then ([], 8) else if i < 0 ∨ (s.bs.length : Int) ≤ i then ([], 7) else (curB (s.bs.getD i.toNat noB), 0)
def barF (s : DS) : DS × Int := if s.off = true then (s, 8) else if s.left = 0 then (⟨true, 0, s.bs⟩, 8) else (⟨false, (spendS false s.left).2.1, s.bs.map kb⟩, 0)
def resF (s : DS) (l : List Int) : DS := ⟨false, -1, s.bs.mapIdx (fun i b => keepB b (l.getD i 0))⟩
/-- The state of package disk: whatever is below -1 is -1. -/
def nrm (s : DS) : DS := ⟨s.off, max s.left (-1), s.bs⟩
theorem nrm_put : ∀ (ws : List Wr) (off : Bool) (left : Int) (bs : List Blk), putRun off (max left (-1)) bs ws = (nrm (putRun off left bs ws).1, (putRun off left bs ws).2)
  | [], off, left, bs => rfl
  | x :: ws, off, left, bs => by
    by_cases h0 : left = 0
    · subst h0
      rfl
    · have h1 : max left (-1) ≠ 0 := by omega
      rw [putRun, if_neg h1, putRun, if_neg h0, ← nrm_put ws]
      congr 1
      unfold spendS
      rw [if_neg h1, if_neg h0]
      by_cases h2 : 0 < left
      · rw [if_pos h2, if_pos (by omega)]
        show max left (-1) - 1 = max (left - 1) (-1)
        omega
      · rw [if_neg h2, if_neg (by omega)]
theorem putF_nrm (s : DS) (ws : List Wr) : putF (nrm s) ws = (nrm (putF s ws).1, (putF s ws).2) := by
  unfold putF
  show (if s.off = true then _ else _) = _
  by_cases h1 : s.off = true
  · rw [if_pos h1, if_pos h1]
  · rw [if_neg h1, if_neg h1]
    by_cases h2 : badLen ws = true
    · rw [if_pos h2, if_pos h2]
    · rw [if_neg h2, if_neg h2]
      show (if badTo s.bs.length ws = true then _ else _) = _
      by_cases h3 : badTo s.bs.length ws = true
      · rw [if_pos h3, if_pos h3]
      · rw [if_neg h3, if_neg h3]
        exact nrm_put ws s.off s.left s.bs
theorem barF_nrm (s : DS) : barF (nrm s) = (nrm (barF s).1, (barF s).2) := by
  unfold barF
  show (if s.off = true then _ else if max s.left (-1) = 0 then _ else _) = _
  by_cases h1 : s.off = true
  · rw [if_pos h1, if_pos h1]
  · rw [if_neg h1, if_neg h1]
    by_cases h2 : s.left = 0
    · rw [if_pos h2, if_pos (by omega)]
      rfl
    · rw [if_neg h2, if_neg (by omega)]
      show ((⟨false, (spendS false (max s.left (-1))).2.1, s.bs.map kb⟩ : DS), (0 : Int)) = (⟨false, max (spendS false s.left).2.1 (-1), s.bs.map kb⟩, 0)
      congr 2
      unfold spendS
      rw [if_neg h2, if_neg (by omega)]
      by_cases h3 : 0 < s.left
      · rw [if_pos h3, if_pos (by omega)]
        show max s.left (-1) - 1 = max (s.left - 1) (-1)
        omega
      · rw [if_neg h3, if_neg (by omega)]
/-! ### How many writes may not last -/
/-- No block has more than c open writes. -/
def Cap (s : DS) (c : Nat) : Prop := ∀ (i : Nat) (b : Blk), s.bs[i]? = some b → b.opn.length ≤ c
theorem Cap.mono {s : DS} {c c' : Nat} (h : Cap s c) (hc : c ≤ c') : Cap s c' := fun i b hi => Nat.le_trans (h i b hi) hc
theorem putRun_len : ∀ (ws : List Wr) (off : Bool) (left : Int) (bs : List Blk), (putRun off left bs ws).1.bs.length = bs.length
  | [], _, _, _ => rfl
  | x :: ws, off, left, bs => by
    rw [putRun]
    split
    · rfl
    · rw [putRun_len ws, List.length_modify]
theorem putRun_cap : ∀ (ws : List Wr) (off : Bool) (left : Int) (bs : List Blk) (c : Nat), (∀ (i : Nat) (b : Blk), bs[i]? = some b → b.opn.length ≤ c) → Cap (putRun off left bs ws).1 (c + ws.length)
  | [], _, _, _, _, h => h
  | x :: ws, off, left, bs, c, h => by
    rw [putRun]
    split
    · exact fun i b hi => by have := h i b hi; rw [List.length_cons]; omega
    · have h1 := putRun_cap ws off (spendS off left).2.1 (bs.modify x.tgt.toNat (push x.data)) (c + 1) (fun i b' hi => by
        obtain ⟨b, hb, rfl⟩ := modify_at hi
        have := h i b hb
        split
        · simp [push]; omega
        · omega)
      exact h1.mono (by rw [List.length_cons]; omega)
theorem putF_len (s : DS) (ws : List Wr) : (putF s ws).1.bs.length = s.bs.length := by
  unfold putF
  split
  · rfl
  · split
    · rfl
    · split
      · rfl
      · exact putRun_len ws s.off s.left s.bs
theorem putF_cap {s : DS} {c : Nat} (h : Cap s c) (ws : List Wr) : Cap (putF s ws).1 (c + ws.length) := by
  unfold putF
  split
  · exact h.mono (by omega)
  · split
    · exact h.mono (by omega)
    · split
      · exact h.mono (by omega)
      · exact putRun_cap ws s.off s.left s.bs c h
theorem barF_len (s : DS) : (barF s).1.bs.length = s.bs.length := by
  unfold barF
  split
  · rfl
  · split
    · rfl
    · exact List.length_map ..
theorem barF_cap {s : DS} {c : Nat} (h : Cap s c) : Cap (barF s).1 c := by
  unfold barF
  split
  · exact h
  · split
    · exact h
    · intro i b hi
      have hi' : (s.bs.map kb)[i]? = some b := hi
      rw [List.getElem?_map] at hi'
      cases e : s.bs[i]? with
      | none => rw [e] at hi'; cases hi'
      | some b0 =>
        rw [e] at hi'
        obtain rfl := Option.some.inj hi'
        rw [kb_eq]
        exact Nat.zero_le _
theorem resF_len (s : DS) (l : List Int) : (resF s l).bs.length = s.bs.length := List.length_mapIdx ..
theorem resF_cap (s : DS) (l : List Int) : Cap (resF s l) 0 := fun i b hi => by
  have hi' : (s.bs.mapIdx (fun i b => keepB b (l.getD i 0)))[i]? = some b := hi
  rw [List.getElem?_mapIdx] at hi'
  cases e : s.bs[i]? with
  | none => rw [e] at hi'; cases hi'
  | some b0 =>
    rw [e] at hi'
    obtain rfl := Option.some.inj hi'
    exact Nat.le_refl _
/-! ### Package disk -/
section
variable {w : World} {F : Nat → Prop} {g : Nat} {s : DS}
theorem dput_all (h : DW w F g s) (hlo : s.left ≤ 9223372036854775807) (A : Option Addr) (c n : Nat) (ws : List Wr) (hn : ws.length = n) (hC : RW w F A ws) (hn63 : n ≤ 9223372036854775807) {q : Nat} (hq : Cap s q) (hcap : q + n ≤ 2199023255551) :
    Calls Try.prog 10 #[.pointer (some ⟨g, 0, none⟩), .slice A n c] w fun e w' => e = .returned (.int .i64 (putF s ws).2) ∧ PutP w w' F g (putF s ws).1 := by
  cases ho : s.off with
  | false => exact put_at h ho hlo A c n ws hn hC hn63 (fun i b hi => by have := hq i b hi; omega)
  | true =>
    obtain ⟨gb, C, v, f, hx⟩ := h
    have e : putF s ws = (s, 8) := by unfold putF; rw [if_pos ho]
    rw [e]
    refine (put_off hx ho A n c).mono fun e w' he => ?_
    obtain ⟨he, rfl⟩ := he
    exact ⟨he, F, ⟨gb, C, v, f, hx⟩, Ch.refl _ _⟩
theorem dget_all (h : DW w F g s) (i : Int) : Calls Try.prog 12 #[.pointer (some ⟨g, 0, none⟩), .int .i64 i] w fun e w' => ∃ v0_ : Value, e = .returned (.tuple #[v0_, .int .i64 (getF s i).2]) ∧ Kd.R B 5 w' w.heap.size (fun _ => True) v0_ (getF s i).1 ∧ Below w.heap.size w w' := by
  obtain ⟨gb, C, v, f, hx⟩ := h
  cases ho : s.off with
  | true =>
    have e : getF s i = ([], 8) := by unfold getF; rw [if_pos ho]
    rw [e]
    refine (get_off hx ho i).mono fun e w' he => ?_
    obtain ⟨he, rfl⟩ := he
    exact ⟨_, he, Kd.R_nil _ _ _ _ _, Below.refl _ _⟩
  | false =>
    by_cases hi : i < 0 ∨ (s.bs.length : Int) ≤ i
    · have e : getF s i = ([], 7) := by unfold getF; rw [if_neg (by rw [ho]; decide), if_pos hi]
      rw [e]
      refine (get_range hx ho i hi).mono fun e w' he => ?_
      obtain ⟨he, rfl⟩ := he
      exact ⟨_, he, Kd.R_nil _ _ _ _ _, Below.refl _ _⟩
    · obtain ⟨k, rfl⟩ : ∃ k : Nat, i = (k : Int) := ⟨i.toNat, by omega⟩
      obtain ⟨b, hb⟩ : ∃ b, s.bs[k]? = some b := ⟨_, List.getElem?_eq_getElem (by omega)⟩
      have e : getF s (k : Int) = (curB b, 0) := by
        unfold getF
        rw [if_neg (by rw [ho]; decide), if_neg hi, Int.toNat_natCast, List.getD_eq_getElem?_getD, hb]; rfl
      rw [e]
      exact get_yes hx ho hb
theorem dbar_all (h : DW w F g s) (hlo : s.left ≤ 9223372036854775807) : Calls Try.prog 14 #[.pointer (some ⟨g, 0, none⟩)] w fun e w' => e = .returned (.int .i64 (barF s).2) ∧ PutP w w' F g (barF s).1 := by
  cases ho : s.off with
  | true =>
    have e : barF s = (s, 8) := by unfold barF; rw [if_pos ho]
    rw [e]
    refine (barrier_off_at h ho).mono fun e w' he => ?_
    obtain ⟨he, rfl⟩ := he
    exact ⟨he, F, h, Ch.refl _ _⟩
  | false =>
    by_cases hl : s.left = 0
    · have e : barF s = (⟨true, 0, s.bs⟩, 8) := by unfold barF; rw [if_neg (by rw [ho]; decide), if_pos hl]
      rw [e]
      exact barrier_power_at h ho hl
    · have e : barF s = (⟨false, (spendS false s.left).2.1, s.bs.map kb⟩, 0) := by unfold barF; rw [if_neg (by rw [ho]; decide), if_neg hl]
      rw [e]
      exact barrier_at h ho hl hlo
/-! ### The reference disk -/
theorem rput_all (h : RD w F g s) (A : Option Addr) (c n : Nat) (ws : List Wr) (hn : ws.length = n) (hC : RW w F A ws) (hn63 : n ≤ 9223372036854775807) {q : Nat} (hq : Cap s q) (hcap : q + n ≤ 2199023255551) :
    Calls Try.prog 16 #[.pointer (some ⟨g, 0, none⟩), .slice A n c] w fun e w' => e = .returned (.int .i64 (putF s ws).2) ∧ RPutP w w' F g (putF s ws).1 := by
  obtain ⟨gL, gO, cL, cO, CL, CO, hx⟩ := h
  subst hn
  cases ho : s.off with
  | false => exact rput_on hx ho A c ws hC hn63 (fun i b hi => by have := hq i b hi; omega)
  | true =>
    have e : putF s ws = (s, 8) := by unfold putF; rw [if_pos ho]
    rw [e]
    refine (rput_off hx ho A ws.length c).mono fun e w' he => ?_
    obtain ⟨he, rfl⟩ := he
    exact ⟨he, F, ⟨gL, gO, cL, cO, CL, CO, hx⟩, Ch.refl _ _⟩
theorem rget_all (h : RD w F g s) (i : Int) {q : Nat} (hq : Cap s q) (hcap : q ≤ 2199023255551) : Calls Try.prog 17 #[.pointer (some ⟨g, 0, none⟩), .int .i64 i] w fun e w' => e = .returned (.tuple #[.string (str (getF s i).1), .int .i64 (getF s i).2]) ∧ Below w.heap.size w w' := by
  obtain ⟨gL, gO, cL, cO, CL, CO, hx⟩ := h
  cases ho : s.off with
  | true =>
    have e : getF s i = ([], 8) := by unfold getF; rw [if_pos ho]
    rw [e]
    refine (rget_off hx ho i).mono fun e w' he => ?_
    obtain ⟨he, rfl⟩ := he
    exact ⟨he, Below.refl _ _⟩
  | false =>
    by_cases hi : i < 0 ∨ (s.bs.length : Int) ≤ i
    · have e : getF s i = ([], 7) := by unfold getF; rw [if_neg (by rw [ho]; decide), if_pos hi]
      rw [e]
      refine (rget_bad hx ho i hi).mono fun e w' he => ?_
      obtain ⟨he, rfl⟩ := he
      exact ⟨he, Below.refl _ _⟩
    · obtain ⟨k, rfl⟩ : ∃ k : Nat, i = (k : Int) := ⟨i.toNat, by omega⟩
      obtain ⟨b, hb⟩ : ∃ b, s.bs[k]? = some b := ⟨_, List.getElem?_eq_getElem (by omega)⟩
      have e : getF s (k : Int) = (curB b, 0) := by
        unfold getF
        rw [if_neg (by rw [ho]; decide), if_neg hi, Int.toNat_natCast, List.getD_eq_getElem?_getD, hb]; rfl
      rw [e]
      exact rget_yes hx ho hb (Nat.le_trans (hq k b hb) hcap)
theorem Ch.of_grown {w w' : World} {F : Nat → Prop} {g : Nat} (h : w.grownBy w' (some g)) (hg : F g) : Ch w w' F F :=
  ⟨h.os, h.tape, h.output, h.size, fun k hk hn => h.block k hk (fun e => hn (by rw [Option.some.inj e]; exact hg)), fun k hk => .inl hk⟩
theorem rbar_all (h : RD w F g s) {q : Nat} (hq : Cap s q) (hcap : q ≤ 2199023255551) : Calls Try.prog 18 #[.pointer (some ⟨g, 0, none⟩)] w fun e w' => e = .returned (.int .i64 (barF s).2) ∧ RPutP w w' F g (barF s).1 := by
  obtain ⟨gL, gO, cL, cO, CL, CO, hx⟩ := h
  cases ho : s.off with
  | true =>
    have e : barF s = (s, 8) := by unfold barF; rw [if_pos ho]
    rw [e]
    refine (rbarrier_off hx ho).mono fun e w' he => ?_
    obtain ⟨he, rfl⟩ := he
    exact ⟨he, F, ⟨gL, gO, cL, cO, CL, CO, hx⟩, Ch.refl _ _⟩
  | false =>
    by_cases hl : s.left = 0
    · have e : barF s = (⟨true, 0, s.bs⟩, 8) := by unfold barF; rw [if_neg (by rw [ho]; decide), if_pos hl]
      rw [e]
      exact (rbarrier_power hx ho hl).mono fun e w' ⟨he, hr, hg⟩ => ⟨he, F, ⟨_, _, _, _, _, _, hr⟩, Ch.of_grown hg hx.fg⟩
    · have e : barF s = (⟨false, (spendS false s.left).2.1, s.bs.map kb⟩, 0) := by unfold barF; rw [if_neg (by rw [ho]; decide), if_neg hl]
      rw [e]
      exact (rbarrier_keeps hx ho hl (fun i b hi => Nat.le_trans (hq i b hi) hcap)).mono fun e w' ⟨he, ⟨CL', CO', hr⟩, hc⟩ => ⟨he, F, ⟨_, _, _, _, _, _, hr⟩, hc⟩
theorem rres_all (h : RD w F g s) (A : Option Addr) (n c : Nat) (l : List Int) (hn : l.length = n) (hr : Kd.C (Kd.int .i64) w A n l) (hA : 0 < n → ∀ ad, A = some ad → ¬ F ad.block) (hlt : 0 < n → ∀ ad, A = some ad → ad.block < w.heap.size) {q : Nat} (hq : Cap s q) (hcap : q ≤ 2199023255551) :
    Calls Try.prog 20 #[.pointer (some ⟨g, 0, none⟩), .slice A n c] w fun e w' => e = .returned (.tuple #[]) ∧ RPutP w w' F g (resF s l) := by
  obtain ⟨gL, gO, cL, cO, CL, CO, hx⟩ := h
  subst hn
  exact (rrestart_calls hx A c l hr hA hlt (fun i b hi => Nat.le_trans (hq i b hi) hcap)).mono fun e w' ⟨he, ⟨CL', CO', hr⟩, hc⟩ => ⟨he, F, ⟨_, _, _, _, _, _, hr⟩, hc⟩
/-- What is left is set. -/
theorem RD.set_left (h : RD w F g s) (n : Int) (hn : n ≤ 9223372036854775807) : RPutP w (w.setCell ⟨g, 2, none⟩ (.int .i64 n)) F g ⟨s.off, n, s.bs⟩ := by
  obtain ⟨gL, gO, cL, cO, CL, CO, hx⟩ := h
  have hg : w.grownBy (w.setCell ⟨g, 2, none⟩ (.int .i64 n)) (some g) := ⟨rfl, rfl, rfl, by rw [World.size_setCell]; exact Nat.le_refl _, fun k _ hn => heap_setCell_other _ _ _ _ (fun e => hn (by rw [e]))⟩
  exact ⟨F, ⟨gL, gO, cL, cO, CL, CO, hx.turned hg hn (blk_set hx.hg 2 _)⟩, Ch.of_grown hg hx.fg⟩
end
/-! ### Side by side -/
structure Two (w wr : World) (F G : Nat → Prop) (g gr : Nat) (sd sr : DS) : Prop where
  d : DW wr F g sd
  r : RD wr G gr sr
  dj : ∀ k, F k → ¬ G k
  bF : ∀ k, F k → w.heap.size ≤ k
  bG : ∀ k, G k → w.heap.size ≤ k
  bl : Below w.heap.size w wr
section
variable {w wr w1 : World} {F G : Nat → Prop} {g gr : Nat} {sd sr : DS}
theorem RD.kept (h : RD wr G gr sr) (hk : ∀ k, G k → w1.heap[k]? = wr.heap[k]?) (hs : wr.heap.size ≤ w1.heap.size) : RD w1 G gr sr := by
  obtain ⟨gL, gO, cL, cO, CL, CO, hx⟩ := h
  exact ⟨gL, gO, cL, cO, CL, CO, hx.kept hk hs⟩
theorem RD.lt (h : RD wr G gr sr) : ∀ k, G k → k < wr.heap.size := by
  obtain ⟨gL, gO, cL, cO, CL, CO, hx⟩ := h
  exact hx.lt
theorem Two.below (h : Two w wr F G g gr sd sr) (hb : Below wr.heap.size wr w1) : Two w w1 F G g gr sd sr :=
  ⟨h.d.below hb, h.r.kept (fun k hk => hb.block k (h.r.lt k hk)) hb.size, h.dj, h.bF, h.bG, h.bl.trans (hb.mono h.bl.size)⟩
theorem Two.onD (h : Two w wr F G g gr sd sr) {sd1 : DS} (hp : PutP wr w1 F g sd1) : ∃ F1, Two w w1 F1 G g gr sd1 sr := by
  obtain ⟨F1, hd, hc⟩ := hp
  exact ⟨F1, hd, h.r.kept (fun k hk => hc.far k (h.r.lt k hk) (fun hF => h.dj k hF hk)) hc.size, fun k hF hG => (hc.new k hF).elim (fun h1 => h.dj k h1 hG) (fun h1 => by have := h.r.lt k hG; omega),
    fun k hF => (hc.new k hF).elim (h.bF k) (fun h1 => Nat.le_trans h.bl.size h1), h.bG, h.bl.trans (hc.below h.bF h.bl.size)⟩
theorem Two.onR (h : Two w wr F G g gr sd sr) {sr1 : DS} (hp : RPutP wr w1 G gr sr1) : ∃ G1, Two w w1 F G1 g gr sd sr1 := by
  obtain ⟨G1, hr, hc⟩ := hp
  exact ⟨G1, h.d.kept (fun k hk => hc.far k (h.d.lt k hk) (fun hG => h.dj k hk hG)) hc.size, hr, fun k hF hG => (hc.new k hG).elim (fun h1 => h.dj k hF h1) (fun h1 => by have := h.d.lt k hF; omega),
    h.bF, fun k hG => (hc.new k hG).elim (h.bG k) (fun h1 => Nat.le_trans h.bl.size h1), h.bl.trans (hc.below h.bG h.bl.size)⟩
/-- Writes that came in can be read at any time. -/
theorem RW.of_C {A : Option Addr} {n : Nat} {ws : List Wr} (h : kW.C w A n ws) (hb : Below w.heap.size w wr) (hF : ∀ k, F k → w.heap.size ≤ k) : RW wr F A ws := fun i x hi => by
  obtain ⟨ad, A1, c1, e, ca, cd, hl, hC⟩ := at_W h hi
  have hlt : ad.block < w.heap.size := by
    have h1 := World.block_lt_of_cell? _ _ ca
    rwa [add_block] at h1
  refine ⟨ad, A1, c1, e, Nat.lt_of_lt_of_le hlt hb.size, fun hf => by have := hF _ hf; omega, pw_cell_below hb ca, pw_cell_below hb cd, hl, Kd.C_below hC hb, fun h0 ad1 e1 => ?_⟩
  subst e1
  obtain ⟨ad', e', hx⟩ := Kd.at_int hC 0 (by omega) (by omega)
  obtain rfl := Option.some.inj e'
  have h1 := World.block_lt_of_cell? _ _ hx
  rw [add_block] at h1
  exact ⟨Nat.lt_of_lt_of_le h1 hb.size, fun hf => by have := hF _ hf; omega⟩
theorem C_lt {A : Option Addr} {n : Nat} {l : List Int} (h : Kd.C (Kd.int .i64) w A n l) (h0 : 0 < n) (ad : Addr) (e : A = some ad) : ad.block < w.heap.size := by
  obtain ⟨ad', e', hx⟩ := Kd.at_int h 0 (by omega) (by omega)
  obtain rfl := Option.some.inj (e.symm.trans e')
  have h1 := World.block_lt_of_cell? _ _ hx
  rwa [add_block] at h1
end
end Go.Proofs.Ytiengbimednonaa.Disk
