/- Package disk: contracts at a disk whose inner places are not named; lists of writes that a law makes. -/
import Derived.Test.YtiengbimednonaaDisk8
namespace Go.Proofs.Ytiengbimednonaa.Disk
open Go Go.RowKit Go.Proofs.YtiengbimednonaaW.PrintWords Go.Proofs.YtiengbimednonaaW.PrintLast Go.Proofs.YtiengbimednonaaW.PrintMore
set_option linter.unusedVariables false
set_option linter.unusedSimpArgs false

theorem Kpt.put {w w1 : World} {F : Nat → Prop} {g gb : Nat} {f : Nat → Nat} {s : DS} (h : Kpt w w1 F g gb f s) : PutP w w1 F g s := by
  obtain ⟨⟨C, v, hd⟩, hc⟩ := h; exact ⟨F, ⟨gb, C, v, f, hd⟩, hc⟩
section
variable {w : World} {F : Nat → Prop} {g : Nat} {s : DS}
theorem fail_at (h : DW w F g s) (n q : Int) (hq : max n (-1) = q) : Calls Try.prog 19 #[.pointer (some ⟨g, 0, none⟩), .int .i64 n] w fun e w' => e = .returned (.tuple #[]) ∧ PutP w w' F g ⟨s.off, q, s.bs⟩ := by
  subst hq; obtain ⟨gb, C, v, f, h⟩ := h; exact (fail_calls h n).mono fun e w' ⟨he, hk⟩ => ⟨he, hk.put⟩
theorem barrier_off_at (h : DW w F g s) (ho : s.off = true) : Calls Try.prog 14 #[.pointer (some ⟨g, 0, none⟩)] w fun e w' => e = .returned (.int .i64 8) ∧ w = w' := by
  obtain ⟨gb, C, v, f, h⟩ := h; exact barrier_off h ho
theorem barrier_power_at (h : DW w F g s) (ho : s.off = false) (hl : s.left = 0) : Calls Try.prog 14 #[.pointer (some ⟨g, 0, none⟩)] w fun e w' => e = .returned (.int .i64 8) ∧ PutP w w' F g ⟨true, 0, s.bs⟩ := by
  obtain ⟨gb, C, v, f, h⟩ := h; exact (barrier_power h ho hl).mono fun e w' ⟨he, hk⟩ => ⟨he, hk.put⟩
theorem barrier_at (h : DW w F g s) (ho : s.off = false) (hl : s.left ≠ 0) (hlo : s.left ≤ 9223372036854775807) : Calls Try.prog 14 #[.pointer (some ⟨g, 0, none⟩)] w fun e w' => e = .returned (.int .i64 0) ∧ PutP w w' F g ⟨false, (spendS false s.left).2.1, s.bs.map kb⟩ := by
  obtain ⟨gb, C, v, f, h⟩ := h; exact (barrier_calls h ho hl hlo).mono fun e w' ⟨he, hk⟩ => ⟨he, hk.put⟩
theorem restart_at (h : DW w F g s) (A : Option Addr) (n c : Nat) (l : List Int) (hn : l.length = n) (hr : Kd.C (Kd.int .i64) w A n l) (hA : 0 < n → ∀ ad, A = some ad → ¬ F ad.block) (hlt : 0 < n → ∀ ad, A = some ad → ad.block < w.heap.size) :
    Calls Try.prog 11 #[.pointer (some ⟨g, 0, none⟩), .slice A n c] w fun e w' => e = .returned (.tuple #[]) ∧ PutP w w' F g ⟨false, -1, s.bs.mapIdx (fun i b => keepB b (l.getD i 0))⟩ := by
  subst hn; obtain ⟨gb, C, v, f, h⟩ := h; exact (restart_calls h A c l hr hA hlt).mono fun e w' ⟨he, hk⟩ => ⟨he, hk.put⟩
theorem restart_none (h : DW w F g s) : Calls Try.prog 11 #[.pointer (some ⟨g, 0, none⟩), .slice none 0 0] w fun e w' => e = .returned (.tuple #[]) ∧ PutP w w' F g ⟨false, -1, s.bs.mapIdx (fun i b => keepB b (([] : List Int).getD i 0))⟩ :=
  restart_at h none 0 0 [] rfl (Kd.C_nil _ _) (fun h => absurd h (by decide)) (fun h => absurd h (by decide))
theorem get_off_at (h : DW w F g s) (ho : s.off = true) (i : Int) : Calls Try.prog 12 #[.pointer (some ⟨g, 0, none⟩), .int .i64 i] w fun e w' => e = .returned (.tuple #[.slice none 0 0, .int .i64 8]) ∧ w = w' := by
  obtain ⟨gb, C, v, f, h⟩ := h; exact get_off h ho i
end
/-! ### A list of writes that was made -/
theorem kW_openM {w : World} {base : Nat} {ok : Nat → Prop} {x : Wr} {cs : List Value} (h : kW.M w base ok x cs) : ∃ v1, cs = [.int .i64 x.tgt, v1] ∧ B.R 5 w base ok v1 x.data := by
  obtain ⟨_, _, rfl, rfl, ⟨v1, rfl, g1⟩⟩ := h
  exact ⟨v1, rfl, g1⟩
theorem kW_mkM (w : World) (base : Nat) (ok : Nat → Prop) (x : Wr) {v1 : Value} (g1 : B.R 5 w base ok v1 x.data) : kW.M w base ok x [.int .i64 x.tgt, v1] := ⟨[.int .i64 x.tgt], [v1], rfl, rfl, ⟨v1, rfl, g1⟩⟩
theorem infoW : (Try.prog.info? 34).map (fun i => (i.zero, i.size, i.bytes)) = some (some (.agg #[.int .i64 0, .slice none 0 0]), 2, 32) := by kernel_rfl
theorem R_blk {w : World} {base gz n : Nat} {ok : Nat → Prop} {cs : Array Value} {l : List Int} (hb : w.heap[gz]? = some (.cells cs 5 (0, 0))) (hl : cs.toList = nums .u8 l) (hn : l.length = n) (hbase : base ≤ gz) (hok : ok gz) (hm : n ≤ maxLen) :
    B.R 5 w base ok (.slice (some ⟨gz, 0, none⟩) n n) l := by
  subst hn
  have hsz : cs.size = l.length := by rw [← Array.length_toList, hl, Go.Proofs.YtiengbimednonaaW.PrintWords.nums_length]
  refine Kd.R_of_own (enc := Value.int .u8) (h1 := fun _ => rfl) ⟨by rw [encs_length, Nat.mul_one], .inr ⟨gz, l.length, cs, rfl, hbase, hb, Nat.le_refl _, hm, by rw [hsz, Nat.mul_one], ?_⟩⟩ (fun k hk => by
    have : gz = k := by simpa [Value.ownBlock] using hk
    exact this ▸ hok)
  rw [Nat.mul_one, List.take_of_length_le (by rw [Array.length_toList, hsz]; exact Nat.le_refl _), hl]
  rfl
theorem RW.of_R {w : World} {F : Nat → Prop} {base n c : Nat} {ok : Nat → Prop} {A : Option Addr} {ws : List Wr} (h : kW.R 34 w base ok (.slice A n c) ws) (hF : ∀ k, base ≤ k → ok k → ¬ F k) : RW w F A ws := fun i x hi => by
  have hil : i < ws.length := (List.getElem?_eq_some_iff.1 hi).1
  have hn := (Kd.R_reads' h).1
  obtain ⟨g, cap, e, hb, hg, _⟩ := Kd.R_form h (by omega)
  injection e with e1 _ e3
  subst e1; subst e3
  obtain ⟨cs, _, hM, hc⟩ := Kd.R_get h zW (i : Int) (by omega) (by omega)
  have hx : ws.getD ((i : Int)).toNat zW = x := by rw [Int.toNat_natCast, List.getD_eq_getElem?_getD, hi]; rfl
  rw [hx] at hM
  obtain ⟨v1, rfl, hR1⟩ := kW_openM hM
  obtain ⟨A1, c1, rfl⟩ := Kd.R_slice hR1
  have hC1 := Kd.R_reads' hR1
  have hgF : ¬ F g := hF g hb (h.1 g (by simp [Value.ownBlock]))
  refine ⟨⟨g, 0, none⟩, A1, c1, rfl, hg, hgF, hc 0 _ rfl, by rw [← add_field _ _ 1 (by omega)]; exact hc 1 _ rfl, hC1.2.1, hC1.2.2, fun _ ad1 e1 => ?_⟩
  subst e1
  exact ⟨Kd.R_lt hR1 _ rfl, hF _ (Kd.R_base hR1 _ rfl) (hR1.1 _ rfl).1⟩
theorem W_nil (w : World) (base : Nat) (hb : base ≤ w.heap.size) : kW.R 34 (w.alloc (.cells #[] 34)) base (fun _ => True) (.slice (some ⟨w.heap.size, 0, none⟩) 0 0) [] :=
  ⟨fun _ _ => trivial, [], ⟨rfl, .inr ⟨w.heap.size, 0, #[], rfl, hb, blk_new w _, Nat.le_refl _, Nat.zero_le _, rfl, rfl⟩⟩, Reps.none _ _⟩
/-! ### Some writes one behind the other -/
theorem putRun_short : ∀ (ws : List Wr) (L : Nat) (bs : List Blk), L < ws.length → ∃ bs', putRun false (L : Int) bs ws = (⟨true, 0, bs'⟩, 8) ∧ bs'.length = bs.length
  | [], L, bs, h => absurd h (Nat.not_lt_zero _)
  | x :: ws, 0, bs, h => ⟨bs, rfl, rfl⟩
  | x :: ws, L + 1, bs, h => by
    obtain ⟨bs', h1, h2⟩ := putRun_short ws L (bs.modify x.tgt.toNat (push x.data)) (by rw [List.length_cons] at h; omega)
    refine ⟨bs', ?_, by rw [h2, List.length_modify]⟩
    rw [putRun, if_neg (by omega), ← h1]
    congr 1
    unfold spendS
    rw [if_neg (by omega), if_pos (by omega)]
    show ((L + 1 : Nat) : Int) - 1 = _
    omega
theorem modify_at {bs : List Blk} {t i : Nat} {x : List Int} {b' : Blk} (h : (bs.modify t (push x))[i]? = some b') : ∃ b, bs[i]? = some b ∧ b' = if t = i then push x b else b := by
  rw [List.getElem?_modify] at h
  cases hb : bs[i]? with
  | none => rw [hb] at h; cases h
  | some b =>
    rw [hb] at h
    refine ⟨b, rfl, ?_⟩
    by_cases e : t = i
    · rw [if_pos e]; simpa [e] using h.symm
    · rw [if_neg e]; simpa [e] using h.symm
theorem putRun_long : ∀ (ws : List Wr) (L : Nat) (bs : List Blk), ws.length ≤ L → ∃ bs', putRun false (L : Int) bs ws = (⟨false, ((L - ws.length : Nat) : Int), bs'⟩, 0) ∧ bs'.length = bs.length ∧ ∀ (i : Nat) (b' : Blk), bs'[i]? = some b' → ∃ b, bs[i]? = some b ∧ b'.opn.length ≤ b.opn.length + ws.length
  | [], L, bs, h => ⟨bs, rfl, rfl, fun i b h => ⟨b, h, Nat.le_refl _⟩⟩
  | x :: ws, 0, bs, h => by rw [List.length_cons] at h; omega
  | x :: ws, L + 1, bs, h => by
    rw [List.length_cons] at h
    obtain ⟨bs', h1, h2, h3⟩ := putRun_long ws L (bs.modify x.tgt.toNat (push x.data)) (by omega)
    refine ⟨bs', ?_, by rw [h2, List.length_modify], fun i b' hi => ?_⟩
    · rw [putRun, if_neg (by omega)]
      have e : (spendS false ((L + 1 : Nat) : Int)).2.1 = (L : Int) := by
        unfold spendS
        rw [if_neg (by omega), if_pos (by omega)]
        show ((L + 1 : Nat) : Int) - 1 = _
        omega
      rw [e, h1, List.length_cons, show L + 1 - (ws.length + 1) = L - ws.length by omega]
    · obtain ⟨b1, hb1, hle⟩ := h3 i b' hi
      obtain ⟨b, hb, rfl⟩ := modify_at hb1
      refine ⟨b, hb, ?_⟩
      rw [List.length_cons]
      split at hle
      · have : (push x.data b).opn.length = b.opn.length + 1 := by simp [push]
        omega
      · omega
end Go.Proofs.Ytiengbimednonaa.Disk
