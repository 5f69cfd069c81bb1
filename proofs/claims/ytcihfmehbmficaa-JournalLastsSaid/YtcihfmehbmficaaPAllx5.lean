-- Printed out of the translation by a program; functions that were proved by hand stand among them. Lean checks it.
import Derived.Test.YtcihfmehbmficaaPAllx0
import Derived.Test.YtcihfmehbmficaaPAllx1
import Derived.Test.YtcihfmehbmficaaPAllx3
import Derived.Test.YtcihfmehbmficaaPAllx4
namespace Go.Proofs.Ytcihfmehbmficaa.PAll
open Go.RowKit Go.Proofs.YtcihfmehbmficaaW.PrintWords Go.Proofs.YtcihfmehbmficaaW.PrintLast Go.Proofs.YtcihfmehbmficaaW.PrintMore
attribute [local go_sem] max2_int min2_int max_two min_two max_three min_three max_four min_four   -- for this text's walks alone
set_option linter.unusedVariables false
set_option linter.unusedSimpArgs false

def rd_L2 (xs : List (List Int)) (i : Int) : (List Int) := xs.getD i.toNat ([] : List Int)
theorem at_L2 {w : World} {A : Option Addr} {n : Nat} {xs : List (List Int)} (h : Kd.C (Kd.slice 5 (Kd.int .u8)) w A n xs) (i : Int) (h0 : 0 ≤ i) (h1 : i < n) : ∃ ad A0 c0, A = some ad ∧ w.cell? (ad.add i.toNat) = some (.slice A0 (rd_L2 xs i).length c0) ∧ (rd_L2 xs i).length ≤ c0 ∧ (Kd.int .u8).C w A0 (rd_L2 xs i).length (rd_L2 xs i) := by
  obtain ⟨ad, c, e, _, hK, hc0⟩ := Kd.C_get h ([] : List Int) i h0 h1
  have hc : ∀ j u, c[j]? = some u → w.cell? (ad.add (i.toNat * 1 + j)) = some u := hc0
  obtain ⟨A0, c0, rfl, l0, g0⟩ := hK
  exact ⟨ad, A0, c0, e, by have hq := hc 0 _ rfl; rwa [Nat.mul_one, Nat.add_zero] at hq, l0, g0⟩

structure S35 where
  f0 : Int
  f1 : (List Int)
def z35 : S35 := ⟨(0 : Int), ([] : List Int)⟩
def k35 : Kd S35 := Kd.iso (Kd.pair (Kd.int .i64) (Kd.slice 5 (Kd.int .u8))) (fun x : S35 => (x.f0, x.f1))
theorem k35_open {w : World} {x : S35} {cs : List Value} (h : k35.K w x cs) : ∃ A1 c1, cs = [.int .i64 x.f0, .slice A1 x.f1.length c1] ∧ x.f1.length ≤ c1 ∧ (Kd.int .u8).C w A1 x.f1.length x.f1 := by
  obtain ⟨_, _, rfl, rfl, ⟨A1, c1, rfl, l1, g1⟩⟩ := h
  exact ⟨A1, c1, rfl, l1, g1⟩
theorem k35_openM {w : World} {base : Nat} {ok : Nat → Prop} {x : S35} {cs : List Value} (h : k35.M w base ok x cs) : ∃ v1, cs = [.int .i64 x.f0, v1] ∧ (Kd.int .u8).R 5 w base ok v1 x.f1 := by
  obtain ⟨_, _, rfl, rfl, ⟨v1, rfl, g1⟩⟩ := h
  exact ⟨v1, rfl, g1⟩
theorem k35_mk (w : World) (x : S35) {A1 : Option Addr} {c1 : Nat} (l1 : x.f1.length ≤ c1) (g1 : (Kd.int .u8).C w A1 x.f1.length x.f1) : k35.K w x [.int .i64 x.f0, .slice A1 x.f1.length c1] := ⟨[.int .i64 x.f0], [.slice A1 x.f1.length c1], rfl, rfl, ⟨A1, c1, rfl, l1, g1⟩⟩
theorem k35_mkM (w : World) (base : Nat) (ok : Nat → Prop) (x : S35) {v1 : Value} (g1 : (Kd.int .u8).R 5 w base ok v1 x.f1) : k35.M w base ok x [.int .i64 x.f0, v1] := ⟨[.int .i64 x.f0], [v1], rfl, rfl, ⟨v1, rfl, g1⟩⟩
def rd_T35 (xs : List S35) (i : Int) : S35 := xs.getD i.toNat z35
theorem at_T35 {w : World} {A : Option Addr} {n : Nat} {xs : List S35} (h : Kd.C k35 w A n xs) (i : Int) (h0 : 0 ≤ i) (h1 : i < n) : ∃ ad A1 c1, A = some ad ∧ w.cell? (ad.add (i.toNat * 2)) = some (.int .i64 (rd_T35 xs i).f0) ∧ w.cell? ⟨(ad.add (i.toNat * 2)).block, (ad.add (i.toNat * 2)).off + 1, none⟩ = some (.slice A1 (rd_T35 xs i).f1.length c1) ∧ (rd_T35 xs i).f1.length ≤ c1 ∧ (Kd.int .u8).C w A1 (rd_T35 xs i).f1.length (rd_T35 xs i).f1 := by
  obtain ⟨ad, c, e, _, hK, hc0⟩ := Kd.C_get h z35 i h0 h1
  have hc : ∀ j u, c[j]? = some u → w.cell? (ad.add (i.toNat * 2 + j)) = some u := hc0
  obtain ⟨A1, c1, rfl, l1, g1⟩ := k35_open hK
  exact ⟨ad, A1, c1, e, hc 0 _ rfl, by rw [← add_field _ _ 1 (by omega)]; exact hc 1 _ rfl, l1, g1⟩

def rd_L4 (xs : List (List S35)) (i : Int) : (List S35) := xs.getD i.toNat ([] : List S35)
theorem at_L4 {w : World} {A : Option Addr} {n : Nat} {xs : List (List S35)} (h : Kd.C (Kd.slice 35 k35) w A n xs) (i : Int) (h0 : 0 ≤ i) (h1 : i < n) : ∃ ad A0 c0, A = some ad ∧ w.cell? (ad.add i.toNat) = some (.slice A0 (rd_L4 xs i).length c0) ∧ (rd_L4 xs i).length ≤ c0 ∧ k35.C w A0 (rd_L4 xs i).length (rd_L4 xs i) := by
  obtain ⟨ad, c, e, _, hK, hc0⟩ := Kd.C_get h ([] : List S35) i h0 h1
  have hc : ∀ j u, c[j]? = some u → w.cell? (ad.add (i.toNat * 1 + j)) = some u := hc0
  obtain ⟨A0, c0, rfl, l0, g0⟩ := hK
  exact ⟨ad, A0, c0, e, by have hq := hc 0 _ rfl; rwa [Nat.mul_one, Nat.add_zero] at hq, l0, g0⟩

/-! ### a scope with a label that is jumped back to, and one at its end -/
def Exit.jump2 (l : Nat) (J : Act → World → Prop) (m : Nat) (D : Act → World → Prop) (Q : Exit → Act → World → Prop) : Exit → Act → World → Prop
  | .goto l', a, w => (l' = l ∧ J a w) ∨ (l' = m ∧ D a w)
  | e, a, w => Q e a w
theorem wp_scope_jumps2 {P : Program} {a : Act} {w : World} {Q : Exit → Act → World → Prop} {c rest fin : Code} (l m : Nat) (J D : Act → World → Prop) (μ : Act → World → Nat) (hf : findLabel c l = some rest) (hm : findLabel c m = some fin)
    (first : c.wp P (Exit.jump2 l J m D Q) a w)
    (pass : ∀ a w, J a w → rest.wp P (Exit.jump2 l (fun a' w' => J a' w' ∧ μ a' w' < μ a w) m D Q) a w)
    (last : ∀ a w, D a w → fin.wp P (Exit.jump2 l (fun _ _ => False) m (fun _ _ => False) Q) a w) : (Code.scope c).wp P Q a w := by
  intro b k cs
  have hg : gotoIn l (.inScope c :: k) = some (.code rest :: .inScope c :: k) := by simp [gotoIn, hf]
  have hgm : gotoIn m (.inScope c :: k) = some (.code fin :: .inScope c :: k) := by simp [gotoIn, hm]
  have done : ∀ a w, D a w → ∃ e a' w', Q e a' w' ∧ Arrives P (lone (b.at a (.code fin :: .inScope c :: k)) cs w) b k cs e a' w' := by
    intro a w hD
    obtain ⟨e, a₁, w₁, hq, harr⟩ := last a w hD b (.inScope c :: k) cs
    cases e with
    | normal => exact ⟨.normal, a₁, w₁, hq, Steps.trans harr (.one step_inScope)⟩
    | exit id => exact ⟨.exit id, a₁, w₁, hq, fun k' hk => harr k' (by simp [exitTo, hk])⟩
    | goto l' => rcases hq with ⟨_, h⟩ | ⟨_, h⟩ <;> exact h.elim
    | ret => exact ⟨_, a₁, w₁, hq, harr⟩
    | panic ch => exact ⟨_, a₁, w₁, hq, harr⟩
    | outgrown => exact ⟨_, a₁, w₁, hq, harr⟩
  have key : ∀ n a w, μ a w = n → J a w → ∃ e a' w', Q e a' w' ∧ Arrives P (lone (b.at a (.code rest :: .inScope c :: k)) cs w) b k cs e a' w' := by
    intro n
    induction n using Nat.strongRecOn with
    | _ n ih =>
      intro a w hn hJ
      obtain ⟨e, a₁, w₁, hq, harr⟩ := pass a w hJ b (.inScope c :: k) cs
      cases e with
      | normal => exact ⟨.normal, a₁, w₁, hq, Steps.trans harr (.one step_inScope)⟩
      | exit id => exact ⟨.exit id, a₁, w₁, hq, fun k' hk => harr k' (by simp [exitTo, hk])⟩
      | goto l' =>
        rcases hq with ⟨rfl, hJ', hlt⟩ | ⟨rfl, hD⟩
        · obtain ⟨e₂, a₂, w₂, hq₂, harr₂⟩ := ih _ (by omega) a₁ w₁ rfl hJ'
          exact ⟨e₂, a₂, w₂, hq₂, .of_steps (harr _ hg) harr₂⟩
        · obtain ⟨e₂, a₂, w₂, hq₂, harr₂⟩ := done a₁ w₁ hD
          exact ⟨e₂, a₂, w₂, hq₂, .of_steps (harr _ hgm) harr₂⟩
      | ret => exact ⟨_, a₁, w₁, hq, harr⟩
      | panic ch => exact ⟨_, a₁, w₁, hq, harr⟩
      | outgrown => exact ⟨_, a₁, w₁, hq, harr⟩
  obtain ⟨e, a₁, w₁, hq, harr⟩ := first b (.inScope c :: k) cs
  cases e with
  | normal => exact ⟨.normal, a₁, w₁, hq, .head step_scope (Steps.trans harr (.one step_inScope))⟩
  | exit id => exact ⟨.exit id, a₁, w₁, hq, fun k' hk => .head step_scope (harr k' (by simp [exitTo, hk]))⟩
  | goto l' =>
    rcases hq with ⟨rfl, hJ'⟩ | ⟨rfl, hD⟩
    · obtain ⟨e₂, a₂, w₂, hq₂, harr₂⟩ := key _ a₁ w₁ rfl hJ'
      exact ⟨e₂, a₂, w₂, hq₂, .of_steps (.head step_scope (harr _ hg)) harr₂⟩
    · obtain ⟨e₂, a₂, w₂, hq₂, harr₂⟩ := done a₁ w₁ hD
      exact ⟨e₂, a₂, w₂, hq₂, .of_steps (.head step_scope (harr _ hgm)) harr₂⟩
  | ret => exact ⟨_, a₁, w₁, hq, .of_steps (.one step_scope) harr⟩
  | panic ch => exact ⟨_, a₁, w₁, hq, .of_steps (.one step_scope) harr⟩
  | outgrown => exact ⟨_, a₁, w₁, hq, .of_steps (.one step_scope) harr⟩
theorem wp_scope_pass2 {P : Program} {a : Act} {w : World} {Q : Exit → Act → World → Prop} {c rest fin : Code} (l m : Nat) (J D : Act → World → Prop) (μ : Act → World → Nat) (hf : findLabel c l = some (Code.skip.seq rest)) (hm : findLabel c m = some (Code.skip.seq fin))
    (pass : ∀ a w, J a w → rest.wp P (Exit.jump2 l (fun a' w' => J a' w' ∧ μ a' w' < μ a w) m D Q) a w)
    (last : ∀ a w, D a w → fin.wp P (Exit.jump2 l (fun _ _ => False) m (fun _ _ => False) Q) a w)
    (first : (∀ a w, J a w → rest.wp P (Exit.jump2 l J m D Q) a w) → c.wp P (Exit.jump2 l J m D Q) a w) : (Code.scope c).wp P Q a w :=
  wp_scope_jumps2 l m J D μ hf hm (first fun a w hJ => Code.wp_mono (fun e a' w' h => by
    cases e <;> first
    | exact h
    | (rcases h with h | h
       · exact .inl ⟨h.1, h.2.1⟩
       · exact .inr h)) (pass a w hJ)) (fun a w hJ => wp_seq (wp_skip (pass a w hJ))) (fun a w hD => wp_seq (wp_skip (last a w hD)))
/-- Three results, of which the second lies in memory. -/
theorem log_Find.results_tct {P : Program} {fn : Func} {p u v : Tmp} {ty : TypeId} (h : fn.results = #[.tmp u, .cell p ty, .tmp v]) (tmps : Array Value) (w : World) (g : Nat) (t : TypeId) (cs : Array Value) (fr : Nat × Nat) (d : TypeDesc)
    (hp : tmps.getD p undef = .pointer (some ⟨g, 0, none⟩)) (hg : w.heap[g]? = some (.cells cs t fr))
    (hu : P.underlying ty = some d) (hd : (match d with | .struct _ | .array _ _ => true | _ => false) = true) (hi : (P.info? ty).map (·.size) = some cs.size) :
    (results fn tmps).run P w = .ok (.tuple #[tmps.getD u undef, .agg cs, tmps.getD v undef]) w := by
  have hp' : tmps[p]?.getD undef = .pointer (some ⟨g, 0, none⟩) := by simpa using hp
  simp [results, h, hp', asAddr, run_loadVar_row w g t ty cs fr d hg hu hd hi]
/-! ### log.Find: its two closures, slices.ContainsFunc -/
theorem log_Find.getL2 (l : List (List Int)) (k : Nat) (h : k < l.length) : rd_L2 l (k : Int) = l[k] := by
  show l.getD (k : Int).toNat _ = _
  rw [Int.toNat_natCast, List.getD_eq_getElem?_getD, List.getElem?_eq_getElem h]; rfl
/-- The block that lies i behind a. -/
def log_Find.bk (bl : List (List Int)) (i : Nat) : List Int := bl.getD (i % 40) []
set_option maxHeartbeats 4000000 in
theorem log_Find.at_calls (A : Option Addr) (c n : Nat) (bl : List (List Int)) (N a i : Nat) (w : World) (hn : bl.length = n) (h40 : n = 40) (hC : Kd.C (Kd.slice 5 (Kd.int .u8)) w A bl.length bl)
    (h2 : w.cell? ⟨N, 0, none⟩ = some (.slice A n c)) (h3 : w.cell? ⟨N + 1, 0, none⟩ = some (.int .i64 (a : Int))) (ha : a < 40) (hi : i ≤ 100) :
    Calls Try.prog 54 #[.int .i64 (i : Int), .pointer (some ⟨N, 0, none⟩), .pointer (some ⟨N + 1, 0, none⟩)] w fun e w' => ∃ (A1 : Option Addr) (c1 : Nat), e = .returned (.slice A1 (log_Find.bk bl (a + i)).length c1) ∧ Kd.C (Kd.int .u8) w A1 (log_Find.bk bl (a + i)).length (log_Find.bk bl (a + i)) ∧ (log_Find.bk bl (a + i)).length ≤ c1 ∧ w' = w := by
  obtain ⟨ad, A1, c1, hA, hx, hl, hc1⟩ := at_L2 hC (((a + i) % 40 : Nat) : Int) (by omega) (by omega)
  have hrd : rd_L2 bl (((a + i) % 40 : Nat) : Int) = log_Find.bk bl (a + i) := by
    show bl.getD (((a + i) % 40 : Nat) : Int).toNat _ = _
    rw [Int.toNat_natCast]
    rfl
  rw [hrd] at hx hl hc1
  rw [Int.toNat_natCast] at hx
  subst hA
  have HC1 := Aside0.mk hc1
  have HL := Aside0.mk hl
  have hlt : (a + i) % 40 < n := by omega
  have hlz : ((a : Int) + (i : Int)) % 40 < (n : Int) := by omega
  have h0z : 0 ≤ ((a : Int) + (i : Int)) % 40 := by omega
  have hn40 : (40 : Int) ≤ (n : Int) := by omega
  clear hn h40 hC hrd hl hc1
  go_enter Try.func54, Try.ntmps54
  go_wp2
  go_ret
  exact ⟨_, _, rfl, HC1.out, HL.out, rfl⟩
def log_Find.badB (bl : List (List Int)) : Bool := bl.any fun b => decide (b.length ≠ 64)
theorem log_Find.len_calls (A : Option Addr) (m c : Nat) (w : World) : Calls Try.prog 56 #[.slice A m c] w fun e w' => e = .returned (.bool (decide (m ≠ 64))) ∧ w = w' := by
  by_cases h : m = 64
  · have d1 : ((m : Int) != 64) = false := by rw [bne_eq_false_iff_eq]; omega
    have d2 : decide (m ≠ 64) = false := decide_eq_false (fun g => g h)
    have d3 : ((m : Int) == 64) = true := by rw [beq_iff_eq]; omega
    clear h
    go_enter Try.func56, Try.ntmps56
    go_wp2
    go_ret
    first | exact ⟨by rw [d2]; rfl, rfl⟩ | exact ⟨by simp [d2], rfl⟩ | exact ⟨rfl, rfl⟩
  · have d1 : ((m : Int) != 64) = true := by rw [bne_iff_ne]; omega
    have d2 : decide (m ≠ 64) = true := decide_eq_true h
    have d3 : ((m : Int) == 64) = false := by rw [beq_eq_false_iff_ne]; omega
    clear h
    go_enter Try.func56, Try.ntmps56
    go_wp2
    go_ret
    first | exact ⟨by rw [d2]; rfl, rfl⟩ | exact ⟨by simp [d2], rfl⟩ | exact ⟨rfl, rfl⟩
set_option maxHeartbeats 4000000 in
theorem log_Find.idx_calls (A0 : Option Addr) (c0 : Nat) (l0 : List (List Int)) (w : World) (hr0 : Kd.C (Kd.slice 5 (Kd.int .u8)) w A0 l0.length l0) :
    Calls Try.prog 64 #[.slice A0 l0.length c0, .func (.func 56) #[] #[]] w fun e w' => ∃ r : Int, e = .returned (.int .i64 r) ∧ (decide (0 ≤ r) = log_Find.badB l0) ∧ w = w' := by
  have HR := Aside0.mk hr0
  have hlm : l0.length ≤ 9223372036854775807 := hr0.2.1
  obtain ⟨n, hn⟩ : ∃ n, l0.length = n := ⟨_, rfl⟩
  have HN := Aside0.mk hn
  rw [hn] at hlm ⊢
  clear hr0 hn
  go_enter Try.func64, Try.ntmps64
  go_wp2
  go_loopg [5, 8] n (fun gg _ s8 wr => ∃ k : Nat, k ≤ n ∧ n - k ≤ gg ∧ s8 = .int .i64 k ∧ wr = w ∧ Aside0 (∀ j, j < k → ∀ hj : j < l0.length, decide (l0[j].length ≠ 64) = false))
  case atStart => exact ⟨0, Nat.zero_le _, by omega, rfl, rfl, ⟨fun j hj => absurd hj (Nat.not_lt_zero _)⟩⟩
  case round =>
    obtain ⟨k, hk, hgo, rfl, rfl, HM⟩ := hrel
    by_cases hlt : k < n
    · have hkl : k < l0.length := by have := HN.out; omega
      obtain ⟨ad, Ab, cb, hA, hcell, hlc, hCb⟩ := at_L2 HR.out (k : Int) (by omega) (by have := HN.out; omega)
      rw [log_Find.getL2 l0 k hkl] at hcell hlc hCb
      subst hA
      rw [Int.toNat_natCast] at hcell
      obtain ⟨b, hb⟩ : ∃ b, l0[k] = b := ⟨_, rfl⟩
      have HX := Aside0.mk hb
      rw [hb] at hcell hlc hCb
      obtain ⟨m, hm⟩ : ∃ m, b.length = m := ⟨_, rfl⟩
      have HBM := Aside0.mk hm
      rw [hm] at hcell
      have hcall := Aside0.mk (log_Find.len_calls Ab m cb wr)
      have hltz : (k : Int) < (n : Int) := by omega
      clear hb hCb hlc hm
      cases hq : decide (m ≠ 64) with
      | true =>
        rw [hq] at hcall
        go_wp2_with fail
        (with_reducible refine hcall.out.mono ?_)
        rintro e w2 ⟨rfl, rfl⟩
        go_wp2
        go_ret
        refine ⟨(k : Int), rfl, ?_, rfl⟩
        rw [decide_eq_true (show (0 : Int) ≤ (k : Int) by omega)]
        unfold log_Find.badB
        exact (List.any_eq_true.2 ⟨l0[k], List.getElem_mem hkl, by rw [HX.out, HBM.out]; exact hq⟩).symm
      | false =>
        rw [hq] at hcall
        go_wp2_with fail
        (with_reducible refine hcall.out.mono ?_)
        rintro e w2 ⟨rfl, rfl⟩
        go_wp2
        go_roundg (n - (k + 1))
        case measure => omega
        case rel =>
          refine ⟨k + 1, by omega, by omega, by go_num, rfl, ⟨fun j hj hj2 => ?_⟩⟩
          by_cases e : j = k
          · subst e
            rw [HX.out, HBM.out]; exact hq
          · exact HM.out j (by omega) hj2
    · have hltz : ¬ (k : Int) < (n : Int) := by omega
      obtain rfl : k = n := by omega
      go_wp2
      go_ret
      refine ⟨-1, rfl, ?_, rfl⟩
      rw [decide_eq_false (show ¬ (0 : Int) ≤ -1 by omega)]
      unfold log_Find.badB
      refine (List.any_eq_false.2 (fun x hx => ?_)).symm
      obtain ⟨j, hj, rfl⟩ := List.mem_iff_getElem.1 hx
      rw [HM.out j (by have := HN.out; omega) hj]
      decide
theorem log_Find.con_calls (A0 : Option Addr) (c0 : Nat) (l0 : List (List Int)) (w : World) (hr0 : Kd.C (Kd.slice 5 (Kd.int .u8)) w A0 l0.length l0) :
    Calls Try.prog 55 #[.slice A0 l0.length c0, .func (.func 56) #[] #[]] w fun e w' => e = .returned (.bool (log_Find.badB l0)) ∧ w = w' := by
  have hi := Aside0.mk (log_Find.idx_calls A0 c0 l0 w hr0)
  clear hr0
  go_enter Try.func55, Try.ntmps55
  go_wp2_with fail
  (with_reducible refine hi.out.mono ?_)
  rintro e w' ⟨r, rfl, hb, rfl⟩
  have HB := Aside0.mk hb
  clear hb hi
  go_wp2
  go_ret
  exact ⟨by rw [← HB.out]; rfl, rfl⟩
/-! ### log_Find: function 43 -/
theorem log_Find.infoWr : (Try.prog.info? 35).map (fun i => (i.zero, i.size, i.bytes)) = some (some (.agg #[.int .i64 0, .slice none 0 0]), 2, 32) := by kernel_rfl
theorem log_Find.infoWs : (Try.prog.info? 42).map (fun i => (i.zero, i.size, i.bytes)) = some (some (.slice none 0 0), 1, 24) := by kernel_rfl
/-- The writes of the first j blocks of a transaction. -/
def log_Find.list (bl : List (List Int)) (a : Nat) (ds : List Int) (j : Nat) : List S35 := (List.range j).map fun i => ⟨ds.getD i 0, log_Find.bk bl (a + (i + 1))⟩
def log_Find.l0 : Nat → List (List Int) → List (List S35) → Nat → Int → Option (List (List S35) × Int × Int × Int)
  | 0, _, _, _, _ => none
  | k + 1, bl, out, a, q => if q ≥ 1073741824 then some (out, (a : Int), q, 0) else ((log_Begins.f k (log_Find.bk bl a)).bind fun d => (if d.2.2 = 0 ∧ d.1 = q then (if d.2.1.length ≤ 20 then ((log_Ends.f (log_Find.bk bl (a + (d.2.1.length + 1)))).bind fun e => (if e.2.2 = 0 ∧ e.1 = q ∧ e.2.1 = (d.2.1.length : Int) then (if out.length < 5864062014805 then log_Find.l0 k bl (out ++ [log_Find.list bl a d.2.1 d.2.1.length]) ((a + d.2.1.length + 2) % 40) (q + 1) else none) else some (out, (a : Int), q, 0))) else none) else some (out, (a : Int), q, 0)))
theorem log_Find.mono_l : ∀ k bl out a q, LeO (log_Find.l0 k bl out a q) (log_Find.l0 (k + 1) bl out a q)
  | 0, _, _, _, _ => fun r h => by simp [log_Find.l0] at h
  | k + 1, bl, out, a, q => by
    rw [log_Find.l0, log_Find.l0.eq_2 bl out a q (k + 1)]
    refine LeO.ite (LeO.refl _) (LeO.bind (log_Begins.mono _ _) (fun d => ?_))
    exact LeO.ite (LeO.ite (LeO.bind (LeO.refl _) (fun e => LeO.ite (LeO.ite (log_Find.mono_l k _ _ _ _) (LeO.none _)) (LeO.refl _))) (LeO.none _)) (LeO.refl _)
def log_Find.f (k : Nat) (l0 : List (List Int)) (a1_0 a1_1 : Int) : Option (List (List S35) × Int × Int × Int) := (Go.Proofs.Ytcihfmehbmficaa.Super.headF a1_0 a1_1).bind fun hd => (if hd.2 = 0 ∧ (0 ≤ a1_0 ∧ a1_0 < 40) ∧ (0 ≤ a1_1 ∧ a1_1 ≤ 1073741824) then (if l0.length = 40 ∧ log_Find.badB l0 = false then log_Find.l0 k l0 [] a1_0.toNat a1_1 else some ([], 0, 0, 2)) else if hd.2 = 0 then none else some ([], 0, 0, 2))
theorem log_Find.mono : ∀ a0 a1 a2 k, LeO (log_Find.f k a0 a1 a2) (log_Find.f (k + 1) a0 a1 a2) := by
  intro a0 a1 a2 k
  unfold log_Find.f
  exact LeO.bind (LeO.refl _) (fun hd => LeO.ite (LeO.ite (log_Find.mono_l k _ _ _ _) (LeO.refl _)) (LeO.refl _))
/-- The frame between two transactions. -/
def log_Find.fr (w : World) (A0 : Option Addr) (c0 n : Nat) (a1_0 a1_1 : Int) (v : Value) (U : Nat → Value) : Act := { tmps := #[.slice A0 n c0, .agg #[.int .i64 a1_0, .int .i64 a1_1], .pointer (some ⟨w.heap.size, 0, none⟩), .pointer (some ⟨w.heap.size + 1, 0, none⟩), .slice none 0 0, .pointer (some ⟨w.heap.size + 1 + 1, 0, none⟩), .int .i64 0, v, U 8, .pointer (some ⟨w.heap.size + 1 + 1 + 1, 0, none⟩), U 10, .func (.func 54) #[] #[.pointer (some ⟨w.heap.size, 0, none⟩), .pointer (some ⟨w.heap.size + 1, 0, none⟩)], U 12, U 13, U 14, U 15, U 16, U 17, U 18, U 19, U 20, U 21, U 22, U 23, U 24, U 25, U 26, U 27, U 28, U 29, U 30, U 31, U 32, U 33, U 34, U 35, U 36, U 37, U 38, U 39, U 40, U 41, U 42, U 43, U 44, U 45, U 46, U 47, U 48, U 49, U 50, U 51, U 52, U 53, U 54, U 55, U 56, U 57, U 58, U 59, U 60, U 61, U 62, U 63, U 64, U 65, U 66, U 67, U 68, U 69, U 70, U 71, U 72, U 73, U 74, U 75, U 76, U 77, U 78, U 79, U 80, U 81, U 82, U 83, U 84, U 85, U 86, U 87, U 88, U 89, U 90, U 91, U 92, U 93, U 94, U 95, U 96, U 97, U 98, U 99, U 100, U 101, U 102, U 103, U 104, U 105, U 106, U 107, U 108, U 109, U 110, U 111, U 112, U 113, U 114, U 115, U 116, U 117], defers := [] }
/-- What the memory holds between two transactions. -/
structure log_Find.St (w : World) (A0 : Option Addr) (c0 n : Nat) (w' : World) (a : Nat) (q : Int) (v : Value) (out : List (List S35)) : Prop where
  h2 : w'.heap[w.heap.size]? = some (.cells #[.slice A0 n c0] 22 (0, 0))
  h3 : w'.heap[w.heap.size + 1]? = some (.cells #[.int .i64 (a : Int), .int .i64 q] 46 (0, 0))
  h5 : w'.heap[w.heap.size + 1 + 1]? = some (.cells #[.int .i64 0, .int .i64 0] 46 (0, 0))
  h9 : ∃ x y, w'.heap[w.heap.size + 1 + 1 + 1]? = some (.cells #[x, y] 61 (0, 0))
  hv : Kd.R (Kd.slice 35 k35) 42 w' w.heap.size (fun _ => True) v out
  hb : Below w.heap.size w w'
  ha : a < 40
  hq : 0 ≤ q ∧ q ≤ 1073741824
theorem log_Find.St.below {w : World} {A0 : Option Addr} {c0 n : Nat} {w' w1 : World} {a : Nat} {q : Int} {v : Value} {out : List (List S35)} (h : log_Find.St w A0 c0 n w' a q v out) (hb : Below w'.heap.size w' w1) : log_Find.St w A0 c0 n w1 a q v out := by
  obtain ⟨h2, h3, h5, ⟨x, y, h9⟩, hv, hbb, ha, hq⟩ := h
  exact ⟨blk_below h2 hb, blk_below h3 hb, blk_below h5 hb, ⟨x, y, blk_below h9 hb⟩, Kd.R_below hv hb, hbb.trans (hb.mono hbb.size), ha, hq⟩
/-- The descriptor's variable is written. -/
theorem log_Find.St.setd {w : World} {A0 : Option Addr} {c0 n : Nat} {w1 : World} {a : Nat} {q : Int} {v : Value} {out : List (List S35)} (h : log_Find.St w A0 c0 n w1 a q v out) (x y : Value) :
    log_Find.St w A0 c0 n ((w1.setCell ⟨w.heap.size + 1 + 1 + 1, 0, none⟩ x).setCell ⟨w.heap.size + 1 + 1 + 1, 1, none⟩ y) a q v out ∧ ((w1.setCell ⟨w.heap.size + 1 + 1 + 1, 0, none⟩ x).setCell ⟨w.heap.size + 1 + 1 + 1, 1, none⟩ y).heap[w.heap.size + 1 + 1 + 1]? = some (.cells #[x, y] 61 (0, 0)) := by
  obtain ⟨h2, h3, h5, ⟨x0, y0, h9⟩, hv, hbb, ha, hq⟩ := h
  have n2 : w.heap.size ≠ w.heap.size + 1 + 1 + 1 := by omega
  have n3 : w.heap.size + 1 ≠ w.heap.size + 1 + 1 + 1 := by omega
  have n5 : w.heap.size + 1 + 1 ≠ w.heap.size + 1 + 1 + 1 := by omega
  have k1 := blk_set h9 0 x
  have k2 := blk_set k1 1 y
  have r1 := Kd.R_set hv h9 (by decide) 0 x
  have r2 := Kd.R_set r1 k1 (by decide) 1 y
  exact ⟨⟨blk_far (blk_far h2 n2 _) n2 _, blk_far (blk_far h3 n3 _) n3 _, blk_far (blk_far h5 n5 _) n5 _, ⟨x, y, k2⟩, r2, (hbb.setCell (by show _ ≤ w.heap.size + 1 + 1 + 1; omega) _).setCell (by show _ ≤ w.heap.size + 1 + 1 + 1; omega) _, ha, hq⟩, k2⟩
/-- The head is written. -/
theorem log_Find.St.seth {w : World} {A0 : Option Addr} {c0 n : Nat} {w1 : World} {a : Nat} {q : Int} {v : Value} {out : List (List S35)} (h : log_Find.St w A0 c0 n w1 a q v out) (a' : Nat) (q' : Int) (ha' : a' < 40) (hq' : 0 ≤ q' ∧ q' ≤ 1073741824) :
    log_Find.St w A0 c0 n ((w1.setCell ⟨w.heap.size + 1, 0, none⟩ (.int .i64 (a' : Int))).setCell ⟨w.heap.size + 1, 1, none⟩ (.int .i64 q')) a' q' v out := by
  obtain ⟨h2, h3, h5, ⟨x0, y0, h9⟩, hv, hbb, ha, hq⟩ := h
  have n2 : w.heap.size ≠ w.heap.size + 1 := by omega
  have n9 : w.heap.size + 1 + 1 + 1 ≠ w.heap.size + 1 := by omega
  have n5 : w.heap.size + 1 + 1 ≠ w.heap.size + 1 := by omega
  have k1 := blk_set h3 0 (.int .i64 (a' : Int))
  have k2 := blk_set k1 1 (.int .i64 q')
  have r1 := Kd.R_set hv h3 (by decide) 0 (.int .i64 (a' : Int))
  have r2 := Kd.R_set r1 k1 (by decide) 1 (.int .i64 q')
  exact ⟨blk_far (blk_far h2 n2 _) n2 _, k2, blk_far (blk_far h5 n5 _) n5 _, ⟨x0, y0, blk_far (blk_far h9 n9 _) n9 _⟩, r2, (hbb.setCell (by show _ ≤ w.heap.size + 1; omega) _).setCell (by show _ ≤ w.heap.size + 1; omega) _, ha', hq'⟩
/-- The row of transactions has grown. -/
theorem log_Find.St.grown {w : World} {A0 : Option Addr} {c0 n : Nat} {w1 w2 : World} {a : Nat} {q : Int} {v v1 : Value} {out out' : List (List S35)} (h : log_Find.St w A0 c0 n w1 a q v out) (hg : w1.grownBy w2 v.ownBlock) (hv1 : Kd.R (Kd.slice 35 k35) 42 w2 w.heap.size (fun _ => True) v1 out') :
    log_Find.St w A0 c0 n w2 a q v1 out' := by
  obtain ⟨h2, h3, h5, ⟨x0, y0, h9⟩, hv, hbb, ha, hq⟩ := h
  exact ⟨blk_grown h2 hg (Kd.R_ne hv h2 (by decide)), blk_grown h3 hg (Kd.R_ne hv h3 (by decide)), blk_grown h5 hg (Kd.R_ne hv h5 (by decide)), ⟨x0, y0, blk_grown h9 hg (Kd.R_ne hv h9 (by decide))⟩, hv1, hbb.grown hg hbb.size (fun k_ e_ => Kd.R_base hv k_ e_), ha, hq⟩
theorem log_Find.list_succ (bl : List (List Int)) (a : Nat) (ds : List Int) (j : Nat) : log_Find.list bl a ds (j + 1) = log_Find.list bl a ds j ++ [⟨rd ds (j : Int), log_Find.bk bl (a + (j + 1))⟩] := by
  unfold log_Find.list
  rw [List.range_succ, List.map_append]
  rfl
theorem log_Find.bk_mem {bl : List (List Int)} {n : Nat} (hn : bl.length = n) (h40 : n = 40) (i : Nat) : log_Find.bk bl i ∈ bl := by
  unfold log_Find.bk
  rw [List.getD_eq_getElem?_getD, List.getElem?_eq_getElem (by omega)]
  exact List.getElem_mem _
theorem log_Find.St.start (w : World) (A0 : Option Addr) (c0 n a : Nat) (q : Int) (h : a < 40 ∧ 0 ≤ q ∧ q ≤ 1073741824) :
    log_Find.St w A0 c0 n ((((w.alloc (.cells #[.slice A0 n c0] 22)).alloc (.cells #[.int .i64 (a : Int), .int .i64 q] 46)).alloc (.cells #[.int .i64 0, .int .i64 0] 46)).alloc (.cells #[.int .i64 0, .slice none 0 0] 61)) a q (.slice none 0 0) [] := by
  have s1 : (w.alloc (.cells #[.slice A0 n c0] 22)).heap.size = w.heap.size + 1 := Array.size_push _
  have s2 : ((w.alloc (.cells #[.slice A0 n c0] 22)).alloc (.cells #[.int .i64 (a : Int), .int .i64 q] 46)).heap.size = w.heap.size + 1 + 1 := by rw [← s1]; exact Array.size_push _
  have s3 : (((w.alloc (.cells #[.slice A0 n c0] 22)).alloc (.cells #[.int .i64 (a : Int), .int .i64 q] 46)).alloc (.cells #[.int .i64 0, .int .i64 0] 46)).heap.size = w.heap.size + 1 + 1 + 1 := by rw [← s2]; exact Array.size_push _
  have b1 := blk_new w (.cells #[.slice A0 n c0] 22)
  have b2 := blk_new (w.alloc (.cells #[.slice A0 n c0] 22)) (.cells #[.int .i64 (a : Int), .int .i64 q] 46)
  have b3 := blk_new ((w.alloc (.cells #[.slice A0 n c0] 22)).alloc (.cells #[.int .i64 (a : Int), .int .i64 q] 46)) (.cells #[.int .i64 0, .int .i64 0] 46)
  have b4 := blk_new (((w.alloc (.cells #[.slice A0 n c0] 22)).alloc (.cells #[.int .i64 (a : Int), .int .i64 q] 46)).alloc (.cells #[.int .i64 0, .int .i64 0] 46)) (.cells #[.int .i64 0, .slice none 0 0] 61)
  rw [s1] at b2
  rw [s2] at b3
  rw [s3] at b4
  exact ⟨blk_alloc (blk_alloc (blk_alloc b1 _) _) _, blk_alloc (blk_alloc b2 _) _, blk_alloc b3 _, ⟨_, _, b4⟩, Kd.R_nil _ _ _ _ _, below_alloc (below_alloc (below_alloc (below_alloc (Below.refl _ _) _) _) _) _, h.1, h.2⟩
set_option maxHeartbeats 16000000 in
set_option maxRecDepth 100000 in
theorem log_Find.good (k : Nat) (A0 : Option Addr) (c0 : Nat) (l0 : List (List Int)) (aa : Nat) (qq : Int) (hd1 : List Int) (hhd : Go.Proofs.Ytcihfmehbmficaa.Super.headF (aa : Int) qq = some (hd1, 0)) (hq01 : aa < 40 ∧ 0 ≤ qq ∧ qq ≤ 1073741824) (n : Nat) (hn : l0.length = n) (h40 : n = 40) (hbad : log_Find.badB l0 = false) (r1 : List (List S35)) (r2 r3 r4 : Int) (w : World) (hr0 : Kd.C (Kd.slice 5 (Kd.int .u8)) w A0 l0.length l0) (h : log_Find.l0 k l0 [] aa qq = some (r1, r2, r3, r4)) :
    Calls Try.prog 43 #[.slice A0 n c0, .agg #[.int .i64 (aa : Int), .int .i64 qq]] w fun e w' => ∃ v0_ : Value, e = .returned (.tuple #[v0_, .agg #[.int .i64 r2, .int .i64 r3], .int .i64 r4]) ∧ Kd.R (Kd.slice 35 k35) 42 w' w.heap.size (fun _ => True) v0_ r1 ∧ Below w.heap.size w w' := by
  have HR := Aside0.mk hr0
  have HN := Aside0.mk hn
  have H := Aside0.mk h
  have HHD := Aside0.mk hhd
  have HBAD := Aside0.mk hbad
  have H40 := Aside0.mk h40
  have HLEN : Aside0 (∀ b ∈ l0, b.length = 64) := ⟨fun b hb => by
    unfold log_Find.badB at hbad
    have h_ := List.any_eq_false.1 hbad b hb
    simpa using h_⟩
  clear hr0 h hn hhd hbad h40
  go_enter Try.func43, Try.ntmps43
  go_wp2
  refine wp_scope_pass2 1 0 (fun a' w' => ∃ (v : Value) (out : List (List S35)) (k a : Nat) (q : Int), a' = log_Find.fr w A0 c0 n (aa : Int) qq v (fun i => a'.tmps.getD i undef) ∧ Aside0 (log_Find.l0 k l0 out a q = some (r1, r2, r3, r4)) ∧ Aside0 (log_Find.St w A0 c0 n w' a q v out)) (fun a' w' => ∃ (v : Value) (out : List (List S35)) (k a : Nat) (q : Int), a' = log_Find.fr w A0 c0 n (aa : Int) qq v (fun i => a'.tmps.getD i undef) ∧ Aside0 (out = r1 ∧ (a : Int) = r2 ∧ q = r3 ∧ 0 = r4) ∧ Aside0 (log_Find.St w A0 c0 n w' a q v out)) (fun _ w' => match w'.cell? ⟨w.heap.size + 1, 1, none⟩ with | some (.int _ z) => (1073741824 - z).toNat | _ => 0) rfl rfl ?_ ?_ ?_
  · clear H
    rintro a' w' ⟨v, out, k, a, q, hfr, H, HS⟩
    obtain ⟨U, hU⟩ : ∃ U, a' = log_Find.fr w A0 c0 n (aa : Int) qq v U := ⟨_, hfr⟩
    clear hfr
    subst hU
    unfold log_Find.fr
    have hH := H.out
    obtain ⟨h2, h3, h5, ⟨x9, y9, h9⟩, hv, hb, ha, hq0, hq1⟩ := HS.out
    have ca := blk_cell h3 0
    have cq := blk_cell h3 1
    have cb := blk_cell h2 0
    have HMU : Aside0 ((match w'.cell? ⟨w.heap.size + 1, 1, none⟩ with | some (.int _ z) => (1073741824 - z).toNat | _ => 0) = (1073741824 - q).toNat) := ⟨by rw [cq]; rfl⟩
    cases k with
    | zero => simp [log_Find.l0] at hH
    | succ k =>
    rw [log_Find.l0] at hH
    by_cases hqq : q ≥ 1073741824
    · rw [if_pos hqq] at hH
      have dq : decide (1073741824 ≤ q) = true := decide_eq_true hqq
      have HD := Aside0.mk (Option.some.inj hH)
      clear hH hqq H h2 h3 h5 h9 hv hb
      go_wp2
      go_step3
      refine Or.inr ⟨rfl, v, out, k, a, q, rfl, ?_, ?_⟩
      · exact ⟨by simpa using HD.out⟩
      · exact HS
    · rw [if_neg hqq] at hH
      obtain ⟨⟨d1, d2, d3⟩, hBg, hH⟩ := Option.bind_eq_some_iff.1 hH
      have HBG := Aside0.mk hBg
      have HH := Aside0.mk hH
      have dq : decide (1073741824 ≤ q) = false := decide_eq_false hqq
      have hqlt : q < 1073741824 := by omega
      have hat0 : Aside0 (Calls Try.prog 54 #[.int .i64 0, .pointer (some ⟨w.heap.size, 0, none⟩), .pointer (some ⟨w.heap.size + 1, 0, none⟩)] w' fun e w'' => ∃ (A1 : Option Addr) (c1 : Nat), e = .returned (.slice A1 (log_Find.bk l0 a).length c1) ∧ Kd.C (Kd.int .u8) w' A1 (log_Find.bk l0 a).length (log_Find.bk l0 a) ∧ (log_Find.bk l0 a).length ≤ c1 ∧ w'' = w') := ⟨log_Find.at_calls A0 c0 n l0 w.heap.size a 0 w' HN.out H40.out (Kd.C_below HR.out hb) cb ca ha (by omega)⟩
      clear hH hBg hqq H h2 h3 h5 h9 hv hb
      go_wp2_with fail
      (with_reducible refine hat0.out.mono ?_)
      rintro e w1 ⟨A1, c1, rfl, hC1, hl1, rfl⟩
      have HC1 := Aside0.mk hC1
      have HL1 := Aside0.mk hl1
      clear hC1 hl1 hat0
      go_wp2_with fail
      ((with_reducible refine (log_Begins.calls k A1 c1 (log_Find.bk l0 a) d1 d2 d3 _ HC1.out HL1.out HBG.out).mono ?_); rintro e w2 ⟨vd, rfl, hRd, hbd⟩)
      have HS2 := Aside0.mk (HS.out.below hbd)
      obtain ⟨Ad, cd, rfl⟩ := Kd.R_slice hRd
      obtain ⟨h2, h3, h5, ⟨x9, y9, h9⟩, hv, hb, _, _⟩ := HS2.out
      obtain ⟨HS3, hk9⟩ := HS2.out.setd (.int .i64 d1) (.slice Ad d2.length cd)
      have HCD := Aside0.mk (Kd.R_reads' (Kd.R_set (Kd.R_set hRd h9 (by decide) 0 (.int .i64 d1)) (blk_set h9 0 _) (by decide) 1 (.slice Ad d2.length cd))).2.2
      have hdm : d2.length ≤ 9223372036854775807 := HCD.out.2.1
      obtain ⟨m, hm⟩ : ∃ m, d2.length = m := ⟨_, rfl⟩
      have HM := Aside0.mk hm
      rw [hm] at HS3 hk9 HCD hdm
      have HS3 := Aside0.mk HS3
      have HK9 := Aside0.mk hk9
      rw [hm]
      clear ca cq cb hRd hbd hk9 hm
      have z90 := blk_cell h9 0
      have z91 := blk_cell h9 1
      have f90 := blk_frozen h9 0
      have f91 := blk_frozen h9 1
      have ca := blk_cell h3 0
      have cq := blk_cell h3 1
      have n13 : w.heap.size + 1 ≠ w.heap.size + 1 + 1 + 1 := by omega
      have n03 : w.heap.size ≠ w.heap.size + 1 + 1 + 1 := by omega
      clear h2 h3 h5 h9 hv hb
      by_cases hd3 : d3 = 0
      case neg =>
        have e1 : (d3 == 0) = false := beq_eq_false_iff_ne.2 hd3
        have e2 : (d3 != 0) = true := bne_iff_ne.2 hd3
        have HD := Aside0.mk (Option.some.inj ((if_neg (fun g => hd3 g.1)).symm.trans HH.out))
        clear hd3
        go_wp2
        go_step3
        refine Or.inr ⟨rfl, v, out, k, a, q, rfl, ?_, ?_⟩
        · exact ⟨by simpa using HD.out⟩
        · exact HS3
      case pos =>
      subst hd3
      by_cases hd1 : d1 = q
      case neg =>
        have e1 : (d1 == q) = false := beq_eq_false_iff_ne.2 hd1
        have e2 : (d1 != q) = true := bne_iff_ne.2 hd1
        have HD := Aside0.mk (Option.some.inj ((if_neg (fun g => hd1 g.2)).symm.trans HH.out))
        clear hd1
        go_wp2
        go_step3
        refine Or.inr ⟨rfl, v, out, k, a, q, rfl, ?_, ?_⟩
        · exact ⟨by simpa using HD.out⟩
        · exact HS3
      case pos =>
      have e1 : (d1 == q) = true := beq_iff_eq.2 hd1
      have e2 : (d1 != q) = false := bne_eq_false_iff_eq.2 hd1
      have hH2 := (if_pos ⟨rfl, hd1⟩).symm.trans HH.out
      clear HH hd1
      by_cases hl20 : d2.length ≤ 20
      case neg =>
        rw [if_neg hl20] at hH2
        cases hH2
      rw [if_pos hl20] at hH2
      have hm20 : m ≤ 20 := by have := HM.out; omega
      obtain ⟨⟨l1, l2, l3⟩, hEn, hH2⟩ := Option.bind_eq_some_iff.1 hH2
      rw [HM.out] at hEn
      have HEN := Aside0.mk hEn
      have HH := Aside0.mk hH2
      have hat1 : Aside0 (Calls Try.prog 54 #[.int .i64 ((m : Int) + 1), .pointer (some ⟨w.heap.size, 0, none⟩), .pointer (some ⟨w.heap.size + 1, 0, none⟩)] ((w2.setCell ⟨w.heap.size + 1 + 1 + 1, 0, none⟩ (.int .i64 d1)).setCell ⟨w.heap.size + 1 + 1 + 1, 1, none⟩ (.slice Ad m cd)) fun e w'' => ∃ (A1 : Option Addr) (c1 : Nat), e = .returned (.slice A1 (log_Find.bk l0 (a + (m + 1))).length c1) ∧ Kd.C (Kd.int .u8) ((w2.setCell ⟨w.heap.size + 1 + 1 + 1, 0, none⟩ (.int .i64 d1)).setCell ⟨w.heap.size + 1 + 1 + 1, 1, none⟩ (.slice Ad m cd)) A1 (log_Find.bk l0 (a + (m + 1))).length (log_Find.bk l0 (a + (m + 1))) ∧ (log_Find.bk l0 (a + (m + 1))).length ≤ c1 ∧ w'' = ((w2.setCell ⟨w.heap.size + 1 + 1 + 1, 0, none⟩ (.int .i64 d1)).setCell ⟨w.heap.size + 1 + 1 + 1, 1, none⟩ (.slice Ad m cd))) := ⟨log_Find.at_calls A0 c0 n l0 w.heap.size a (m + 1) _ HN.out H40.out (Kd.C_below HR.out HS3.out.hb) (blk_cell HS3.out.h2 0) (blk_cell HS3.out.h3 0) ha (by omega)⟩
      clear hH2 hEn hl20
      have cb3 := blk_cell HS3.out.h2 0
      go_wp2_with fail
      (with_reducible refine hat1.out.mono ?_)
      rintro e w3 ⟨A2, c2, rfl, hC2, hl2, rfl⟩
      have HC2 := Aside0.mk hC2
      have HL2 := Aside0.mk hl2
      clear hC2 hl2 hat1
      go_wp2_with fail
      ((with_reducible refine (log_Ends.calls A2 c2 (log_Find.bk l0 (a + (m + 1))) l1 l2 l3 _ HC2.out HL2.out HEN.out).mono ?_); rintro e w3 ⟨rfl, hbe⟩)
      have HS4 := Aside0.mk (HS3.out.below hbe)
      have HK4 := Aside0.mk (blk_below HK9.out hbe)
      have HC4 := Aside0.mk (Kd.C_below HCD.out hbe)
      clear hbe ca cq z90 z91 f90 f91 cb3 HS2 HS3 HK9 HCD
      have ca := blk_cell HS4.out.h3 0
      have cq := blk_cell HS4.out.h3 1
      have cb := blk_cell HS4.out.h2 0
      have z90 := blk_cell HK4.out 0
      have z91 := blk_cell HK4.out 1
      by_cases hl3 : l3 = 0
      case neg =>
        have e3 : (l3 == 0) = false := beq_eq_false_iff_ne.2 hl3
        have e4 : (l3 != 0) = true := bne_iff_ne.2 hl3
        have HD := Aside0.mk (Option.some.inj ((if_neg (fun g => hl3 g.1)).symm.trans HH.out))
        clear hl3
        go_wp2
        go_step3
        refine Or.inr ⟨rfl, v, out, k, a, q, rfl, ?_, ?_⟩
        · exact ⟨by simpa using HD.out⟩
        · exact HS4
      case pos =>
      subst hl3
      by_cases hl1 : l1 = q
      case neg =>
        have e3 : (l1 == q) = false := beq_eq_false_iff_ne.2 hl1
        have e4 : (l1 != q) = true := bne_iff_ne.2 hl1
        have HD := Aside0.mk (Option.some.inj ((if_neg (fun g => hl1 g.2.1)).symm.trans HH.out))
        clear hl1
        go_wp2
        go_step3
        refine Or.inr ⟨rfl, v, out, k, a, q, rfl, ?_, ?_⟩
        · exact ⟨by simpa using HD.out⟩
        · exact HS4
      case pos =>
      have e3 : (l1 == q) = true := beq_iff_eq.2 hl1
      have e4 : (l1 != q) = false := bne_eq_false_iff_eq.2 hl1
      by_cases hl2 : l2 = (m : Int)
      case neg =>
        have e5 : (l2 == (m : Int)) = false := beq_eq_false_iff_ne.2 hl2
        have e6 : (l2 != (m : Int)) = true := bne_iff_ne.2 hl2
        have HD := Aside0.mk (Option.some.inj ((if_neg (fun g => hl2 (by have := g.2.2; rw [HM.out] at this; exact this))).symm.trans HH.out))
        clear hl2 hl1
        go_wp2
        go_step3
        refine Or.inr ⟨rfl, v, out, k, a, q, rfl, ?_, ?_⟩
        · exact ⟨by simpa using HD.out⟩
        · exact HS4
      case pos =>
      have e5 : (l2 == (m : Int)) = true := beq_iff_eq.2 hl2
      have e6 : (l2 != (m : Int)) = false := bne_eq_false_iff_eq.2 hl2
      have hH3 := (if_pos ⟨rfl, hl1, by rw [HM.out]; exact hl2⟩).symm.trans HH.out
      clear HH hl1 hl2
      by_cases hlim : out.length < 5864062014805
      case neg =>
        rw [if_neg hlim] at hH3
        cases hH3
      rw [if_pos hlim, HM.out] at hH3
      have HLIM := Aside0.mk hlim
      have HH := Aside0.mk hH3
      clear hH3 hlim
      go_wp2
      clear ca cq cb z90
      go_loopg [8, 84] m (fun gg v8 s84 wr => ∃ j : Nat, j ≤ m ∧ m - j ≤ gg ∧ s84 = .int .i64 j ∧ Aside0 (Kd.R k35 35 wr w3.heap.size (fun _ => True) v8 (log_Find.list l0 a d2 j)) ∧ Aside0 (Below w3.heap.size w3 wr))
      case atStart => exact ⟨0, Nat.zero_le _, by omega, rfl, ⟨Kd.R_nil _ _ _ _ _⟩, ⟨Below.refl _ _⟩⟩
      case round =>
        obtain ⟨j, hj, hgo, rfl, HO, HBL⟩ := hrel
        have HS5 := Aside0.mk (HS4.out.below HBL.out)
        have HK5 := Aside0.mk (blk_below HK4.out HBL.out)
        clear z91
        by_cases hlt : j < m
        · obtain ⟨ad, hAd, hx⟩ := Kd.at_int (Kd.C_below HC4.out HBL.out) (j : Int) (by omega) (by omega)
          subst hAd
          rw [Int.toNat_natCast] at hx
          obtain ⟨dj, hdj⟩ : ∃ dj, rd d2 (j : Int) = dj := ⟨_, rfl⟩
          rw [hdj] at hx
          have HDJ := Aside0.mk hdj
          obtain ⟨blk, hblk⟩ : ∃ blk, log_Find.bk l0 (a + (j + 1)) = blk := ⟨_, rfl⟩
          have HBK := Aside0.mk hblk
          have HB64 : Aside0 (blk.length = 64) := ⟨by rw [← hblk]; exact HLEN.out _ (log_Find.bk_mem HN.out H40.out _)⟩
          have hat2 : Aside0 (Calls Try.prog 54 #[.int .i64 ((j : Int) + 1), .pointer (some ⟨w.heap.size, 0, none⟩), .pointer (some ⟨w.heap.size + 1, 0, none⟩)] wr fun e w'' => ∃ (A1 : Option Addr) (c1 : Nat), e = .returned (.slice A1 (log_Find.bk l0 (a + (j + 1))).length c1) ∧ Kd.C (Kd.int .u8) wr A1 (log_Find.bk l0 (a + (j + 1))).length (log_Find.bk l0 (a + (j + 1))) ∧ (log_Find.bk l0 (a + (j + 1))).length ≤ c1 ∧ w'' = wr) := ⟨log_Find.at_calls A0 c0 n l0 w.heap.size a (j + 1) wr HN.out H40.out (Kd.C_below HR.out HS5.out.hb) (blk_cell HS5.out.h2 0) (blk_cell HS5.out.h3 0) ha (by omega)⟩
          rw [hblk] at hat2
          have hltz : (j : Int) < (m : Int) := by omega
          clear hdj hblk
          go_wp2_with fail
          (with_reducible refine hat2.out.mono ?_)
          rintro e w5 ⟨A3, c3, rfl, hC3, hl3, rfl⟩
          have HC3 := Aside0.mk hC3
          have HL3 := Aside0.mk hl3
          have HCL : Aside0 (bytes_Clone.f blk = some blk) := ⟨if_pos (by rw [HB64.out]; decide)⟩
          clear hC3 hl3 hat2
          go_wp2_with fail
          ((with_reducible refine (bytes_Clone.calls A3 c3 blk blk _ HC3.out HL3.out HCL.out).mono ?_); rintro e w4 ⟨vc, rfl, hRc, hbc⟩)
          have HO4 := Aside0.mk (Kd.R_below HO.out hbc)
          have HLT := Aside0.mk (Kd.R_lt HO.out)
          have HBL4 := Aside0.mk (HBL.out.trans (hbc.mono HBL.out.size))
          have HRL := Aside0.mk (Kd.R_lower hRc HBL.out.size)
          have HRB := Aside0.mk (Kd.R_base hRc)
          obtain ⟨Ac, cc, rfl⟩ := Kd.R_slice hRc
          have HLL : Aside0 ((log_Find.list l0 a d2 j).length = j) := ⟨by unfold log_Find.list; rw [List.length_map, List.length_range]⟩
          clear hRc hbc hx HO
          go_wp2_with (first | ((with_reducible refine gate_builtin (b := .append) (xs := #[.tmp 89, .tmp 97]) rfl ?_); at_builtin; refine Kd.R_append k35 (w0 := w3) w3.heap.size rfl (.tmp 89) (.tmp 97) 42 35 (.agg #[(.int .i64 0), (.slice none 0 0)]) 32 rfl Try.underlying42 log_Find.infoWr rfl (by decide) (by omega) u8 (log_Find.list l0 a d2 j) ⟨dj, blk⟩ [.int .i64 dj, .slice Ac blk.length cc] (fun _ => True) (fun k_ => some k_ = (.slice Ac blk.length cc : Value).ownBlock) rfl rfl ?aP ?aK ?aF ?aO ?aB ?aS ?aL ?_; (case aP => exact k35_mkM _ _ _ ⟨dj, blk⟩ (Kd.R_tight rfl HRL.out)); (case aK => exact fun k_ e_ => ⟨trivial, fun e2_ => by have h1_ := HRB.out k_ e_.symm; have h2_ := HLT.out k_ e2_.symm; omega⟩); (case aF => exact fun _ _ => trivial); (case aO => exact HO4.out); (case aB => exact HBL4.out); (case aS => exact HBL4.out.size); (case aL => have hL_ := HLL.out; omega); intro v1 w5 ho hb hg hat; have HO5 := Aside0.mk ho; have HBL5 := Aside0.mk hb; clear ho hb hg hat))
          go_roundg (m - (j + 1))
          case measure => omega
          case rel =>
            refine ⟨j + 1, by omega, by omega, by go_num, ⟨?_⟩, HBL5⟩
            rw [log_Find.list_succ, HDJ.out, HBK.out]
            exact HO5.out
        · have hltz : ¬ (j : Int) < (m : Int) := by omega
          obtain rfl : j = m := by omega
          clear hlt hgo hj
          obtain ⟨Al, cl, rfl⟩ := Kd.R_slice HO.out
          have HOB := Aside0.mk (Kd.R_bound HO.out)
          have HVL := Aside0.mk (Kd.R_lt HS4.out.hv)
          have HWS := Aside0.mk (show w.heap.size ≤ w3.heap.size from HS4.out.hb.size)
          obtain ⟨ll, hll⟩ : ∃ ll, log_Find.list l0 a d2 j = ll := ⟨_, rfl⟩
          rw [hll] at HO HOB
          rw [hll]
          have HLST := Aside0.mk hll
          rw [hll] at HH
          clear hll
          go_wp2_with (first | ((with_reducible refine gate_builtin (b := .append) (xs := #[.tmp 100, .tmp 102]) rfl ?_); at_builtin; refine Kd.R_append (Kd.slice 35 k35) (w0 := w) w.heap.size rfl (.tmp 100) (.tmp 102) 90 42 (.slice none 0 0) 24 rfl Try.underlying90 log_Find.infoWs rfl (by decide) (by omega) v out ll [.slice Al ll.length cl] (fun _ => True) (fun k_ => w3.heap.size ≤ k_) rfl rfl ?aP ?aK ?aF ?aO ?aB ?aS ?aL ?_; (case aP => exact Kd.M_row (Kd.R_mono (Kd.R_lower HOB.out HWS.out) (fun k_ h_ => h_.2.1))); (case aK => exact fun k_ h_ => ⟨trivial, fun e_ => by have h2_ := HVL.out k_ e_.symm; omega⟩); (case aF => exact fun _ _ => trivial); (case aO => exact HS5.out.hv); (case aB => exact HS5.out.hb); (case aS => exact HS5.out.hb.size); (case aL => have hL_ := HLIM.out; omega); intro v1 w6 ho hb hg hat; have HS6 := Aside0.mk (HS5.out.grown hg ho); have HK6 := Aside0.mk (blk_grown HK5.out hg (Kd.R_ne HS5.out.hv HK5.out (by decide))); clear ho hb hg hat; have ca := blk_cell HS6.out.h3 0; have cq := blk_cell HS6.out.h3 1; have fa := blk_frozen HS6.out.h3 0; have fq := blk_frozen HS6.out.h3 1; have z91 := blk_cell HK6.out 1))
          have eA : ((a : Int) + (j : Int) + 2) % 40 = (((a + j + 2) % 40 : Nat) : Int) := by omega
          rw [eA]
          have HS7 := HS6.out.seth ((a + j + 2) % 40) (q + 1) (by omega) (by omega)
          have hq7 := blk_cell HS7.h3 1
          go_step3
          refine Or.inl ⟨rfl, ⟨v1, out ++ [ll], k, (a + j + 2) % 40, q + 1, rfl, HH, ⟨HS7⟩⟩, ?_⟩
          refine Nat.lt_of_lt_of_eq ?_ HMU.out.symm
          rw [hq7]
          show (1073741824 - (q + 1)).toNat < (1073741824 - q).toNat
          omega
  · clear H
    rintro a' w' ⟨v, out, k, a, q, hfr, H, HS⟩
    obtain ⟨U, hU⟩ : ∃ U, a' = log_Find.fr w A0 c0 n (aa : Int) qq v U := ⟨_, hfr⟩
    clear hfr
    subst hU
    unfold log_Find.fr
    obtain ⟨h2, h3, h5, ⟨x9, y9, h9⟩, hv, hb, ha, hq0, hq1⟩ := HS.out
    obtain ⟨rfl, rfl, rfl, rfl⟩ := H.out
    have ca := blk_cell h3 0
    have cq := blk_cell h3 1
    have z50 := blk_cell h5 0
    have z51 := blk_cell h5 1
    have f50 := blk_frozen h5 0
    have f51 := blk_frozen h5 1
    have HV := Aside0.mk hv
    have H5 := Aside0.mk h5
    have HBB := Aside0.mk hb
    clear h2 h3 h5 h9 hv hb H HS
    go_wp2
    refine start_ (n := 5) (S := fun w' => w'.cell? ⟨w.heap.size + 1, 0, none⟩ = some (.int .i64 (a : Int)) ∧ w'.cell? ⟨w.heap.size + 1, 1, none⟩ = some (.int .i64 q) ∧ w'.cell? ⟨w.heap.size + 1 + 1, 0, none⟩ = some (.int .i64 0) ∧ w'.cell? ⟨w.heap.size + 1 + 1, 1, none⟩ = some (.int .i64 0) ∧ w'.frozen? ⟨w.heap.size + 1 + 1, 0, none⟩ = false ∧ w'.frozen? ⟨w.heap.size + 1 + 1, 1, none⟩ = false) (ds := [3]) #[false, false, false, false, false] (by kernel_rfl) rfl rfl ⟨ca, cq, z50, z51, f50, f51⟩ (fun hHeld => ?_)
    refine pure_ (i := 0) (N := some 116) (v := ?_) (a' := ?_) #[true, false, false, false, false] rfl rfl (by kernel_rfl) (fun _ _ _ h => h) (Or.inl ⟨by rfl, ?_⟩) ?_ ?_
    rotate_left
    · intro w'
      go_simp
      with_reducible rfl
    rotate_left
    · simp only [Act.put, List.setIfInBounds_toArray, List.set_cons_zero, List.set_cons_succ, i64_w, i32_w]
      rfl
    refine pure_ (i := 2) (N := some 4) (v := ?_) (a' := ?_) #[true, false, true, false, false] rfl rfl (by kernel_rfl) (fun _ _ _ h => h) (Or.inl ⟨by rfl, ?_⟩) ?_ ?_
    rotate_left
    · intro w'
      go_simp
      with_reducible rfl
    rotate_left
    · simp only [Act.put, List.setIfInBounds_toArray, List.set_cons_zero, List.set_cons_succ, i64_w, i32_w]
      rfl
    refine take_ (i := 1) (N := some 117) (v := ?_) (a' := ?_) #[true, true, true, false, false] rfl rfl (by kernel_rfl) (fun _ _ _ h => h) (Or.inl ⟨by rfl, ?_⟩) hHeld ?_ ?_
    rotate_left
    · rintro w' ⟨s0, s1, s2, s3, s4, s5⟩
      go_simp
      with_reducible rfl
    rotate_left
    · simp only [Act.put, List.setIfInBounds_toArray, List.set_cons_zero, List.set_cons_succ, i64_w, i32_w]
      rfl
    refine last_ (i := 3) (N := none) #[true, true, true, true, false] rfl rfl (by kernel_rfl) (by decide) (fun K hK => ?_)
    refine skip_ (w1 := ?_) (by rfl) rfl ?_ ?_
    rotate_left
    · go_simp
      rfl
    refine hK.out _ _ ?_
    clear hK K
    refine pure_ (i := 4) (N := some 6) (v := ?_) (a' := ?_) #[true, true, true, true, true] rfl rfl (by kernel_rfl) (fun _ _ _ h => h) (Or.inl ⟨by rfl, ?_⟩) ?_ ?_
    rotate_left
    · intro w'
      go_simp
      with_reducible rfl
    rotate_left
    · simp only [Act.put, List.setIfInBounds_toArray, List.set_cons_zero, List.set_cons_succ, i64_w, i32_w]
      rfl
    refine done_ (by kernel_rfl) ?_
    go_wp2
    (try simp only [Exit.jump2])
    have k1 := blk_set H5.out 0 (.int .i64 (a : Int))
    have k2 := blk_set k1 1 (.int .i64 q)
    have r1 := Kd.R_set HV.out H5.out (by decide) 0 (.int .i64 (a : Int))
    have r2 := Kd.R_set r1 k1 (by decide) 1 (.int .i64 q)
    refine bodyPost_ret (log_Find.results_tct rfl _ _ (w.heap.size + 1 + 1) 46 #[.int .i64 (a : Int), .int .i64 q] (0, 0) _ rfl k2 Try.underlying46 rfl (by kernel_rfl)) rfl ?_
    exact ⟨_, rfl, r2, below_drew ((HBB.out.setCell (p := ⟨w.heap.size + 1 + 1, 0, none⟩) (by show _ ≤ w.heap.size + 1 + 1; omega) _).setCell (p := ⟨w.heap.size + 1 + 1, 1, none⟩) (by show _ ≤ w.heap.size + 1 + 1; omega) _)⟩
  · intro pass
    have hP := Aside0.mk pass
    have HST := Aside0.mk (log_Find.St.start w A0 c0 n aa qq hq01)
    clear pass
    go_wp2_with fail
    ((with_reducible refine (Go.Proofs.Ytcihfmehbmficaa.Super.head_of_calls (aa : Int) qq hd1 0 _ HHD.out).mono ?_); rintro e w1 ⟨vh, rfl, _, hbh⟩)
    have HS1 := Aside0.mk (HST.out.below hbh)
    clear hbh
    have cb := blk_cell HS1.out.h2 0
    have e40 : ((n : Int) != 40) = false := by rw [bne_eq_false_iff_eq]; have := H40.out; omega
    have hcon : Aside0 (Calls Try.prog 55 #[.slice A0 n c0, .func (.func 56) #[] #[]] w1 fun e w' => e = .returned (.bool false) ∧ w1 = w') := ⟨by
      have h_ := log_Find.con_calls A0 c0 l0 w1 (Kd.C_below HR.out HS1.out.hb)
      rw [HN.out, HBAD.out] at h_
      exact h_⟩
    go_wp2_with fail
    (with_reducible refine hcon.out.mono ?_)
    rintro e w2 ⟨rfl, rfl⟩
    go_wp2
    refine wp_label ?_
    rename_i hK
    refine hK _ _ ?_
    refine hP.out _ _ ?_
    exact ⟨.slice none 0 0, [], k, aa, qq, rfl, H, HS1⟩
theorem log_Find.begun (w : World) (A0 : Option Addr) (c0 n : Nat) (a q : Int) :
    ((((w.alloc (.cells #[.slice A0 n c0] 22)).alloc (.cells #[.int .i64 a, .int .i64 q] 46)).alloc (.cells #[.int .i64 0, .int .i64 0] 46)).alloc (.cells #[.int .i64 0, .slice none 0 0] 61)).heap[w.heap.size]? = some (.cells #[.slice A0 n c0] 22 (0, 0)) ∧
    ((((w.alloc (.cells #[.slice A0 n c0] 22)).alloc (.cells #[.int .i64 a, .int .i64 q] 46)).alloc (.cells #[.int .i64 0, .int .i64 0] 46)).alloc (.cells #[.int .i64 0, .slice none 0 0] 61)).heap[w.heap.size + 1 + 1]? = some (.cells #[.int .i64 0, .int .i64 0] 46 (0, 0)) ∧
    Below w.heap.size w ((((w.alloc (.cells #[.slice A0 n c0] 22)).alloc (.cells #[.int .i64 a, .int .i64 q] 46)).alloc (.cells #[.int .i64 0, .int .i64 0] 46)).alloc (.cells #[.int .i64 0, .slice none 0 0] 61)) := by
  have s1 : (w.alloc (.cells #[.slice A0 n c0] 22)).heap.size = w.heap.size + 1 := Array.size_push _
  have s2 : ((w.alloc (.cells #[.slice A0 n c0] 22)).alloc (.cells #[.int .i64 a, .int .i64 q] 46)).heap.size = w.heap.size + 1 + 1 := by rw [← s1]; exact Array.size_push _
  have b1 := blk_new w (.cells #[.slice A0 n c0] 22)
  have b3 := blk_new ((w.alloc (.cells #[.slice A0 n c0] 22)).alloc (.cells #[.int .i64 a, .int .i64 q] 46)) (.cells #[.int .i64 0, .int .i64 0] 46)
  rw [s2] at b3
  exact ⟨blk_alloc (blk_alloc (blk_alloc b1 _) _) _, blk_alloc b3 _, below_alloc (below_alloc (below_alloc (below_alloc (Below.refl _ _) _) _) _) _⟩
set_option maxHeartbeats 4000000 in
set_option maxRecDepth 100000 in
theorem log_Find.err1 (A0 : Option Addr) (c0 : Nat) (l0 : List (List Int)) (a q : Int) (hd1 : List Int) (hd2 : Int) (hhd : Go.Proofs.Ytcihfmehbmficaa.Super.headF a q = some (hd1, hd2)) (n : Nat) (hn : l0.length = n) (hnm : n ≤ 9223372036854775807) (h2 : hd2 ≠ 0) (w : World) (hr0 : Kd.C (Kd.slice 5 (Kd.int .u8)) w A0 l0.length l0) :
    Calls Try.prog 43 #[.slice A0 n c0, .agg #[.int .i64 a, .int .i64 q]] w fun e w' => ∃ v0_ : Value, e = .returned (.tuple #[v0_, .agg #[.int .i64 0, .int .i64 0], .int .i64 2]) ∧ Kd.R (Kd.slice 35 k35) 42 w' w.heap.size (fun _ => True) v0_ [] ∧ Below w.heap.size w w' := by
  have HR := Aside0.mk hr0
  have HN := Aside0.mk hn
  have HHD := Aside0.mk hhd
  have e1 : (hd2 == 0) = false := beq_eq_false_iff_ne.2 h2
  have e2 : (hd2 != 0) = true := bne_iff_ne.2 h2
  clear h2
  have HST := Aside0.mk (log_Find.begun w A0 c0 n a q)
  clear hr0 hn hhd
  go_enter Try.func43, Try.ntmps43
  go_wp2
  refine wp_scope_pass2 1 0 (fun _ _ => False) (fun _ _ => False) (fun _ _ => 0) rfl rfl (fun _ _ h => h.elim) (fun _ _ h => h.elim) (fun _ => ?_)
  go_wp2_with fail
  ((with_reducible refine (Go.Proofs.Ytcihfmehbmficaa.Super.head_of_calls a q hd1 _ _ HHD.out).mono ?_); rintro e w1 ⟨vh, rfl, _, hbh⟩)
  have HB := Aside0.mk (HST.out.2.2.trans (hbh.mono HST.out.2.2.size))
  have H5 := Aside0.mk (blk_below HST.out.2.1 hbh)
  have H2 := Aside0.mk (blk_below HST.out.1 hbh)
  clear hbh
  have cb := blk_cell H2.out 0
  have z50 := blk_cell H5.out 0
  have z51 := blk_cell H5.out 1
  have f50 := blk_frozen H5.out 0
  have f51 := blk_frozen H5.out 1
  go_wp2
  (try simp only [Exit.jump2])
  have k1 := blk_set H5.out 0 (.int .i64 0)
  have k2 := blk_set k1 1 (.int .i64 0)
  refine bodyPost_ret (log_Find.results_tct rfl _ _ (w.heap.size + 1 + 1) 46 #[.int .i64 0, .int .i64 0] (0, 0) _ rfl k2 Try.underlying46 rfl (by kernel_rfl)) rfl ?_
  exact ⟨_, rfl, Kd.R_nil _ _ _ _ _, (HB.out.setCell (p := ⟨w.heap.size + 1 + 1, 0, none⟩) (by show _ ≤ w.heap.size + 1 + 1; omega) _).setCell (p := ⟨w.heap.size + 1 + 1, 1, none⟩) (by show _ ≤ w.heap.size + 1 + 1; omega) _⟩
set_option maxHeartbeats 4000000 in
set_option maxRecDepth 100000 in
theorem log_Find.err2 (A0 : Option Addr) (c0 : Nat) (l0 : List (List Int)) (a q : Int) (hd1 : List Int) (hd2 : Int) (hhd : Go.Proofs.Ytcihfmehbmficaa.Super.headF a q = some (hd1, hd2)) (n : Nat) (hn : l0.length = n) (hnm : n ≤ 9223372036854775807) (h2 : hd2 = 0) (h40 : n ≠ 40) (w : World) (hr0 : Kd.C (Kd.slice 5 (Kd.int .u8)) w A0 l0.length l0) :
    Calls Try.prog 43 #[.slice A0 n c0, .agg #[.int .i64 a, .int .i64 q]] w fun e w' => ∃ v0_ : Value, e = .returned (.tuple #[v0_, .agg #[.int .i64 0, .int .i64 0], .int .i64 2]) ∧ Kd.R (Kd.slice 35 k35) 42 w' w.heap.size (fun _ => True) v0_ [] ∧ Below w.heap.size w w' := by
  have HR := Aside0.mk hr0
  have HN := Aside0.mk hn
  have HHD := Aside0.mk hhd
  subst h2
  have e1 : ((n : Int) == 40) = false := by rw [beq_eq_false_iff_ne]; omega
  have e2 : ((n : Int) != 40) = true := by rw [bne_iff_ne]; omega
  clear h40
  have HST := Aside0.mk (log_Find.begun w A0 c0 n a q)
  clear hr0 hn hhd
  go_enter Try.func43, Try.ntmps43
  go_wp2
  refine wp_scope_pass2 1 0 (fun _ _ => False) (fun _ _ => False) (fun _ _ => 0) rfl rfl (fun _ _ h => h.elim) (fun _ _ h => h.elim) (fun _ => ?_)
  go_wp2_with fail
  ((with_reducible refine (Go.Proofs.Ytcihfmehbmficaa.Super.head_of_calls a q hd1 _ _ HHD.out).mono ?_); rintro e w1 ⟨vh, rfl, _, hbh⟩)
  have HB := Aside0.mk (HST.out.2.2.trans (hbh.mono HST.out.2.2.size))
  have H5 := Aside0.mk (blk_below HST.out.2.1 hbh)
  have H2 := Aside0.mk (blk_below HST.out.1 hbh)
  clear hbh
  have cb := blk_cell H2.out 0
  have z50 := blk_cell H5.out 0
  have z51 := blk_cell H5.out 1
  have f50 := blk_frozen H5.out 0
  have f51 := blk_frozen H5.out 1
  go_wp2
  (try simp only [Exit.jump2])
  have k1 := blk_set H5.out 0 (.int .i64 0)
  have k2 := blk_set k1 1 (.int .i64 0)
  refine bodyPost_ret (log_Find.results_tct rfl _ _ (w.heap.size + 1 + 1) 46 #[.int .i64 0, .int .i64 0] (0, 0) _ rfl k2 Try.underlying46 rfl (by kernel_rfl)) rfl ?_
  exact ⟨_, rfl, Kd.R_nil _ _ _ _ _, (HB.out.setCell (p := ⟨w.heap.size + 1 + 1, 0, none⟩) (by show _ ≤ w.heap.size + 1 + 1; omega) _).setCell (p := ⟨w.heap.size + 1 + 1, 1, none⟩) (by show _ ≤ w.heap.size + 1 + 1; omega) _⟩
set_option maxHeartbeats 4000000 in
set_option maxRecDepth 100000 in
theorem log_Find.err3 (A0 : Option Addr) (c0 : Nat) (l0 : List (List Int)) (a q : Int) (hd1 : List Int) (hd2 : Int) (hhd : Go.Proofs.Ytcihfmehbmficaa.Super.headF a q = some (hd1, hd2)) (n : Nat) (hn : l0.length = n) (hnm : n ≤ 9223372036854775807) (h2 : hd2 = 0) (h40 : n = 40) (hbad : log_Find.badB l0 = true) (w : World) (hr0 : Kd.C (Kd.slice 5 (Kd.int .u8)) w A0 l0.length l0) :
    Calls Try.prog 43 #[.slice A0 n c0, .agg #[.int .i64 a, .int .i64 q]] w fun e w' => ∃ v0_ : Value, e = .returned (.tuple #[v0_, .agg #[.int .i64 0, .int .i64 0], .int .i64 2]) ∧ Kd.R (Kd.slice 35 k35) 42 w' w.heap.size (fun _ => True) v0_ [] ∧ Below w.heap.size w w' := by
  have HR := Aside0.mk hr0
  have HN := Aside0.mk hn
  have HHD := Aside0.mk hhd
  subst h2
  have HBAD := Aside0.mk hbad
  have e1 : ((n : Int) == 40) = true := by rw [beq_iff_eq]; omega
  have e2 : ((n : Int) != 40) = false := by rw [bne_eq_false_iff_eq]; omega
  clear h40 hbad
  have HST := Aside0.mk (log_Find.begun w A0 c0 n a q)
  clear hr0 hn hhd
  go_enter Try.func43, Try.ntmps43
  go_wp2
  refine wp_scope_pass2 1 0 (fun _ _ => False) (fun _ _ => False) (fun _ _ => 0) rfl rfl (fun _ _ h => h.elim) (fun _ _ h => h.elim) (fun _ => ?_)
  go_wp2_with fail
  ((with_reducible refine (Go.Proofs.Ytcihfmehbmficaa.Super.head_of_calls a q hd1 _ _ HHD.out).mono ?_); rintro e w1 ⟨vh, rfl, _, hbh⟩)
  have HB := Aside0.mk (HST.out.2.2.trans (hbh.mono HST.out.2.2.size))
  have H5 := Aside0.mk (blk_below HST.out.2.1 hbh)
  have H2 := Aside0.mk (blk_below HST.out.1 hbh)
  clear hbh
  have cb := blk_cell H2.out 0
  have z50 := blk_cell H5.out 0
  have z51 := blk_cell H5.out 1
  have f50 := blk_frozen H5.out 0
  have f51 := blk_frozen H5.out 1
  have hcon : Aside0 (Calls Try.prog 55 #[.slice A0 n c0, .func (.func 56) #[] #[]] w1 fun e w' => e = .returned (.bool true) ∧ w1 = w') := ⟨by
    have h_ := log_Find.con_calls A0 c0 l0 w1 (Kd.C_below HR.out HB.out)
    rw [HN.out, HBAD.out] at h_
    exact h_⟩
  go_wp2_with fail
  (with_reducible refine hcon.out.mono ?_)
  rintro e w2 ⟨rfl, rfl⟩
  go_wp2
  (try simp only [Exit.jump2])
  have k1 := blk_set H5.out 0 (.int .i64 0)
  have k2 := blk_set k1 1 (.int .i64 0)
  refine bodyPost_ret (log_Find.results_tct rfl _ _ (w.heap.size + 1 + 1) 46 #[.int .i64 0, .int .i64 0] (0, 0) _ rfl k2 Try.underlying46 rfl (by kernel_rfl)) rfl ?_
  exact ⟨_, rfl, Kd.R_nil _ _ _ _ _, (HB.out.setCell (p := ⟨w.heap.size + 1 + 1, 0, none⟩) (by show _ ≤ w.heap.size + 1 + 1; omega) _).setCell (p := ⟨w.heap.size + 1 + 1, 1, none⟩) (by show _ ≤ w.heap.size + 1 + 1; omega) _⟩
theorem log_Find.calls (k : Nat) (A0 : Option Addr) (c0 : Nat) (l0 : List (List Int)) (a1_0 a1_1 : Int) (r1 : List (List S35)) (r2 r3 r4 : Int) (w : World) (hr0 : Kd.C (Kd.slice 5 (Kd.int .u8)) w A0 l0.length l0) (hc0 : l0.length ≤ c0) (h : log_Find.f k l0 a1_0 a1_1 = some (r1, r2, r3, r4)) :
    Calls Try.prog 43 #[.slice A0 l0.length c0, .agg #[.int .i64 a1_0, .int .i64 a1_1]] w fun e w' => ∃ v0_ : Value, e = .returned (.tuple #[v0_, .agg #[.int .i64 r2, .int .i64 r3], .int .i64 r4]) ∧ Kd.R (Kd.slice 35 k35) 42 w' w.heap.size (fun _ => True) v0_ r1 ∧ Below w.heap.size w w' := by
  unfold log_Find.f at h
  obtain ⟨⟨hd1, hd2⟩, hhd, h⟩ := Option.bind_eq_some_iff.1 h
  dsimp only at h
  have hnm := hr0.2.1
  by_cases hd : hd2 = 0
  · subst hd
    by_cases hg : (0 ≤ a1_0 ∧ a1_0 < 40) ∧ (0 ≤ a1_1 ∧ a1_1 ≤ 1073741824)
    · rw [if_pos ⟨rfl, hg⟩] at h
      obtain ⟨aa, rfl⟩ : ∃ aa : Nat, a1_0 = aa := ⟨a1_0.toNat, by omega⟩
      by_cases h40 : l0.length = 40
      · cases hb : log_Find.badB l0 with
        | true =>
          rw [if_neg (fun g => by rw [hb] at g; exact absurd g.2 (by decide))] at h
          simp only [Option.some.injEq, Prod.mk.injEq] at h
          obtain ⟨rfl, rfl, rfl, rfl⟩ := h
          exact log_Find.err3 A0 c0 l0 _ _ hd1 0 hhd _ rfl hnm rfl h40 hb w hr0
        | false =>
          rw [if_pos ⟨h40, hb⟩, Int.toNat_natCast] at h
          exact log_Find.good k A0 c0 l0 aa a1_1 hd1 hhd ⟨by omega, hg.2⟩ _ rfl h40 hb r1 r2 r3 r4 w hr0 h
      · rw [if_neg (fun g => h40 g.1)] at h
        simp only [Option.some.injEq, Prod.mk.injEq] at h
        obtain ⟨rfl, rfl, rfl, rfl⟩ := h
        exact log_Find.err2 A0 c0 l0 _ _ hd1 0 hhd _ rfl hnm rfl h40 w hr0
    · rw [if_neg (fun g => hg g.2), if_pos rfl] at h
      cases h
  · rw [if_neg (fun g => hd g.1), if_neg hd] at h
    simp only [Option.some.injEq, Prod.mk.injEq] at h
    obtain ⟨rfl, rfl, rfl, rfl⟩ := h
    exact log_Find.err1 A0 c0 l0 _ _ hd1 hd2 hhd _ rfl hnm hd w hr0

end Go.Proofs.Ytcihfmehbmficaa.PAll
