/- Plain: the reference's page of pointers. -/
import Derived.Test.YtbdbjlfdnijfeaaTree24
import Derived.Test.YtbdbjlfdnijfeaaPAllx4
import Derived.Test.YtbdbjlfdnijfeaaTree21
namespace Go.Proofs.Ytbdbjlfdnijfeaa.Tree
open Go Go.RowKit Go.Proofs.Ytbdbjlfdnijfeaa.PAll Go.Proofs.YtbdbjlfdnijfeaaW.PrintWords Go.Proofs.Ytbdbjlfdnijfeaa.Ref
set_option linter.unusedVariables false
set_option linter.unusedSimpArgs false
theorem put_step (k : Nat) (x : List Int) (n : Int) (m j : Nat) (h : j < m) (hm : m ≤ 4) (h0 : 0 ≤ n) (h1 : n < 4294967296) (hx : x.length < 140737488355328) :
    drydockref04_Put.l0 (k + 1) x n m j = drydockref04_Put.l0 k (x ++ [n / 2 ^ (8 * j) % 256]) n m ((j + 1 : Nat) : Int) := by
  have e : IntKind.u64.wrap n = n := by simp [IntKind.wrap, IntKind.signed, IntKind.bits]; omega
  rw [drydockref04_Put.l0, if_pos (by omega), e]
  have hj : j = 0 ∨ j = 1 ∨ j = 2 ∨ j = 3 := by omega
  have key : wrap64 ((j : Int) + 1) = ((j + 1 : Nat) : Int) ∧ min (IntKind.u64.wrap (8 * IntKind.u64.wrap (j : Int))).toNat IntKind.u64.bits = 8 * j ∧ 0 ≤ IntKind.u64.wrap (8 * IntKind.u64.wrap (j : Int)) := by
    rcases hj with rfl | rfl | rfl | rfl <;> exact ⟨by unfold wrap64; omega, by first | decide | decide +kernel, by first | decide | decide +kernel⟩
  obtain ⟨k1, k2, k3⟩ := key
  rw [if_pos k3, if_pos hx, k1]
  unfold shr
  rw [k2]
theorem put_from (n : Int) (m : Nat) (hm : m ≤ 4) (h0 : 0 ≤ n) (h1 : n < 4294967296) (l : List Int) (hx : l.length < 140737488355000) :
    ∀ d j k : Nat, d + j = m → d < k → drydockref04_Put.l0 k (l ++ leB n j) n m j = some (l ++ leB n m)
  | 0, j, k + 1, hj, _ => by
    obtain rfl : j = m := by omega
    rw [drydockref04_Put.l0, if_neg (by omega)]
  | d + 1, j, k + 1, hj, hk => by
    rw [put_step k _ n m j (by omega) hm h0 h1 (by rw [List.length_append, leB_length]; omega), List.append_assoc]
    exact put_from n m hm h0 h1 l hx d (j + 1) k (by omega) (by omega)
theorem put_eq (k : Nat) (l : List Int) (n : Int) (m : Nat) (hm : m ≤ 4) (hk : m < k) (h0 : 0 ≤ n) (h1 : n < 4294967296) (hx : l.length < 140737488355000) : drydockref04_Put.f k l n m = some (l ++ leB n m) := by
  have h := put_from n m hm h0 h1 l hx m 0 k (by omega) hk
  rw [leB, List.append_nil] at h
  exact h
theorem page_loop (xs : List Int) (h : xs.length ≤ 30) (hx : ∀ x ∈ xs, 0 ≤ x ∧ x < 65536) : ∀ d i k : Nat, d + i = xs.length → d + 3 < k → drydockref11_page.l0 k xs (flat2 (xs.take i)) (i : Int) = some (pageL xs)
  | 0, i, k + 1, hd, hk => by
    obtain rfl : i = xs.length := by omega
    rw [drydockref11_page.l0, if_neg (by omega), List.take_of_length_le (Nat.le_refl _)]
    have hp : Ref.pad60 (flat2 xs) = (rawL xs).take 60 := by
      unfold Ref.pad60 rawL
      rw [List.take_append, List.take_append, List.take_replicate, List.take_replicate, flat2_length]
      congr 2
      omega
    have hs : drydockref04_Seal.f (flat2 xs) = some (pageL xs) := by
      show Ref.sealAF (flat2 xs) = _
      have h1 := Field.sealA_eq (rawL_bytes xs) (rawL_length xs (by omega))
      rw [pageL_raw xs (by omega), ← h1]
      unfold Ref.sealAF
      have hq : Ref.pad60 (rawL xs) = (rawL xs).take 60 := by
        unfold Ref.pad60
        rw [show 60 - (rawL xs).length = 0 by rw [rawL_length xs (by omega)], List.replicate_zero, List.append_nil]
      rw [hp, hq, if_pos (by rw [flat2_length]; omega), if_pos (by rw [rawL_length xs (by omega)]; decide)]
    rw [hs]; rfl
  | d + 1, i, k + 1, hd, hk => by
    obtain ⟨p, hp⟩ : ∃ p, xs[i]? = some p := ⟨_, List.getElem?_eq_getElem (by omega)⟩
    have hb := hx p (List.mem_of_getElem? hp)
    have hr : rd xs (i : Int) = p := by
      show xs.getD (i : Int).toNat 0 = p
      rw [Int.toNat_natCast, List.getD_eq_getElem?_getD, hp]; rfl
    rw [drydockref11_page.l0, if_pos (by omega), if_pos (by omega), hr, show (2 : Int) = ((2 : Nat) : Int) from rfl, put_eq k _ p 2 (by omega) (by omega) hb.1 (by omega) (by rw [flat2_length, List.length_take]; omega), Option.bind_some]
    have e : flat2 (xs.take i) ++ Ref.leB p 2 = flat2 (xs.take (i + 1)) := by
      rw [take_snoc hp, flat2_append]
      show _ = _ ++ (Ref.leB p 2 ++ [])
      rw [List.append_nil]
    rw [e, show wrap64 ((i : Int) + 1) = ((i + 1 : Nat) : Int) from by unfold wrap64; omega]
    exact page_loop xs h hx d (i + 1) k (by omega) (by omega)
theorem refPage_eq (xs : List Int) (h : xs.length ≤ 30) (hx : ∀ x ∈ xs, 0 ≤ x ∧ x < 65536) (k : Nat) (hk : 33 < k) : drydockref11_page.f k xs = some (pageL xs) := by
  unfold drydockref11_page.f
  exact page_loop xs h hx xs.length 0 k (by omega) (by omega)
end Go.Proofs.Ytbdbjlfdnijfeaa.Tree
/- For all worlds: the reference's Fresh. Conditions: the lists can be read and are not too long. -/
namespace Go.Proofs.Ytbdbjlfdnijfeaa.Tree
open Go Go.RowKit Go.Maps Go.Proofs.YtbdbjlfdnijfeaaW.PrintWords Go.Proofs.YtbdbjlfdnijfeaaW.PrintLast Go.Proofs.YtbdbjlfdnijfeaaW.PrintMore
open Go.Proofs.Ytbdbjlfdnijfeaa.PAll
set_option linter.unusedVariables false
set_option linter.unusedSimpArgs false
set_option maxRecDepth 100000
/-- What the reference's Fresh answers. -/
def rFresh (f : List Int) (need : Nat) (o : List Int) : Int := if f.length < need then 6 else if (f.take need).all dataB && apartB [] (o ++ f.take need) then 0 else 1
theorem I_nil {w : World} {g base : Nat} {ok : Nat → Prop} (hb : w.heap[g]? = some (.cells #[] 3 (0, 0))) (hbase : base ≤ g) (hok : ok g) : I.R 3 w base ok (.slice (some ⟨g, 0, none⟩) 0 0) [] :=
  ⟨fun k hk => by
    have : g = k := by simpa [Value.ownBlock] using hk
    exact this ▸ hok, [], ⟨rfl, .inr ⟨g, 0, #[], rfl, hbase, hb, Nat.le_refl _, by decide, rfl, rfl⟩⟩, Reps.none _ _⟩
theorem refData_calls (p : Int) (w : World) : Calls Try.prog 38 #[.int .i64 p] w fun e w' => e = .returned (.bool (dataB p)) ∧ Drawn0 w w' :=
  drydockref09_Data.calls p _ w (refData_eq p)
set_option maxHeartbeats 1000000 in
theorem refFresh_calls (A0 : Option Addr) (c0 n : Nat) (l0 : List Int) (hn : l0.length = n) (k : Nat) (kI : Int) (hkI : (k : Int) = kI) (A2 : Option Addr) (c2 n2 : Nat) (l2 : List Int) (hn2 : l2.length = n2) (w : World) (hr0 : I.C w A0 n l0) (hc0 : n ≤ c0) (hr2 : I.C w A2 n2 l2) (hl2 : n2 ≤ 500) (hk : k ≤ 400) :
    Calls Try.prog 27 #[.slice A0 n c0, .int .i64 kI, .slice A2 n2 c2] w fun e w' => e = .returned (.int .i64 (rFresh l0 k l2)) ∧ Below w.heap.size w w' := by
  subst hkI
  have HR0 := Aside0.mk hr0
  have HR2 := Aside0.mk hr2
  have HN := Aside0.mk hn
  have HN2 := Aside0.mk hn2
  have HC0 := Aside0.mk hc0
  have HL2 := Aside0.mk hl2
  have HK := Aside0.mk hk
  by_cases hnk : n < k
  · have hF : rFresh l0 k l2 = 6 := by unfold rFresh; rw [if_pos (by rw [hn]; exact hnk)]
    have b0 : decide ((n : Int) < (k : Int)) = true := decide_eq_true (by omega)
    have b0n : decide (n < k) = true := decide_eq_true hnk
    rw [hF]
    clear hr0 hr2 hn hn2 hc0 hl2 hk hF hnk
    go_enter Try.func27, Try.ntmps27
    go_wp2_with fail
    go_ret
    exact ⟨rfl, Below.refl _ _⟩
  have hF : rFresh l0 k l2 = if (l0.take k).all dataB && apartB [] (l2 ++ l0.take k) then 0 else 1 := by unfold rFresh; rw [if_neg (by rw [hn]; exact hnk)]
  have HF := Aside0.mk hF
  have HKN : Aside0 (k ≤ n) := ⟨by omega⟩
  have HTL : Aside0 ((l0.take k).length = k) := ⟨by rw [List.length_take, hn]; omega⟩
  have HTK : Aside0 (∀ W, Below w.heap.size w W → I.C W A0 k (l0.take k)) := ⟨fun W hW => C_takeI (Kd.C_below HR0.out hW) (by omega)⟩
  obtain ⟨m5, hm5⟩ : ∃ q, n2 + k = q := ⟨_, rfl⟩
  have HL5 : Aside0 ((l2 ++ l0.take k).length = m5) := ⟨by rw [List.length_append, HTL.out, hn2, hm5]⟩
  obtain ⟨ap, hap⟩ : ∃ q, apartB [] (l2 ++ l0.take k) = q := ⟨_, rfl⟩
  have HAP : Aside0 (∀ (W : World) (A : Option Addr) (c : Nat), I.C W A m5 (l2 ++ l0.take k) → (l2 ++ l0.take k).length ≤ c → Calls Try.prog 20 #[.slice A m5 c] W fun e w' => e = .returned (.bool ap) ∧ Below W.heap.size W w') := ⟨fun W A c h hc => by
    have h1 := drydockref11_Apart.calls 1000 A c (l2 ++ l0.take k) ap W (by rw [HL5.out]; exact h) hc (by rw [← hap]; exact refApart_eq _ (by rw [HL5.out]; omega) 1000 (by rw [HL5.out]; omega))
    rw [HL5.out] at h1
    exact h1⟩
  have HAE := Aside0.mk hap
  have b0 : decide ((n : Int) < (k : Int)) = false := decide_eq_false (by omega)
  have b0n : decide (n < k) = false := decide_eq_false hnk
  have hkc : (k : Int) ≤ (c0 : Int) := by omega
  have hkc2 : k ≤ c0 := by omega
  have hkz : (0 : Int) ≤ (k : Int) := by omega
  clear hr0 hr2 hn hn2 hc0 hl2 hk hF hnk hap hm5
  go_enter Try.func27, Try.ntmps27
  go_wp2_with fail
  go_loopg [7] k (fun gg i wr => ∃ j : Nat, j ≤ k ∧ k - j ≤ gg ∧ i = .int .i64 j ∧ Aside0 (Below w.heap.size w wr) ∧ Aside0 ((l0.take j).all dataB = true))
  case atStart => exact ⟨0, Nat.zero_le _, Nat.le_refl _, rfl, ⟨Below.refl _ _⟩, ⟨rfl⟩⟩
  case round =>
    obtain ⟨j, hj, hgj, rfl, HB, HA⟩ := hrel
    by_cases hlt : j < k
    · have b1 : decide (j < k) = true := decide_eq_true hlt
      have b1i : decide ((j : Int) < (k : Int)) = true := decide_eq_true (by omega)
      obtain ⟨p, hp⟩ : ∃ p, l0[j]? = some p := ⟨_, List.getElem?_eq_getElem (by have h1 := HN.out; have h2 := HKN.out; omega)⟩
      obtain ⟨ad, e, hc⟩ := at_i (Kd.C_below HR0.out HB.out) hp
      subst e
      have HP := Aside0.mk hp
      have hjz : (0 : Int) ≤ (j : Int) := by omega
      have hjn : (j : Int) < (n : Int) := by have h2 := HKN.out; omega
      have hjn2 : j < n := by have h2 := HKN.out; omega
      obtain ⟨q, hq⟩ : ∃ q, dataB p = q := ⟨_, rfl⟩
      have HQ := Aside0.mk hq
      have hcall := Aside0.mk (fun W => refData_calls p W)
      rw [hq] at hcall
      clear hp hq
      cases q with
      | false =>
        go_wp2_with (go_at_call 38; (with_reducible refine (hcall.out _).mono ?_); rintro e w2 ⟨rfl, hd⟩; have HB2 := Aside0.mk (below_step HB.out hd.below); clear hd)
        go_ret
        refine ⟨?_, HB2.out⟩
        have h1 : (l0.take k).all dataB = false := List.all_eq_false.2 ⟨p, List.mem_of_getElem? (show (l0.take k)[j]? = some p by rw [List.getElem?_take, if_pos hlt]; exact HP.out), by rw [HQ.out]; decide⟩
        rw [HF.out, h1]; rfl
      | true =>
        go_wp2_with (go_at_call 38; (with_reducible refine (hcall.out _).mono ?_); rintro e w2 ⟨rfl, hd⟩; have HB2 := Aside0.mk (below_step HB.out hd.below); clear hd)
        go_roundg (k - (j + 1))
        case measure => omega
        case rel => exact ⟨j + 1, hlt, Nat.le_refl _, by rw [show wrap64 ((j : Int) + 1) = ((j + 1 : Nat) : Int) from by have := HK.out; unfold wrap64; omega], HB2, ⟨by rw [take_snoc HP.out, List.all_append, HA.out]; simp [HQ.out]⟩⟩
    · have b1 : decide (j < k) = false := decide_eq_false hlt
      have b1i : decide ((j : Int) < (k : Int)) = false := decide_eq_false (by omega)
      have hjk : j = k := by omega
      have HAK : Aside0 ((l0.take k).all dataB = true) := ⟨by rw [← hjk]; exact HA.out⟩
      clear hlt hj hgj hjk
      go_wp2_with fail
      have HBW := Aside0.mk HB.out
      refine start_ (n := 9) (S := fun w' => True) (ds := []) #[false, false, false, false, false, false, false, false, false] (by kernel_rfl) rfl rfl trivial (fun hHeld => ?_)
      refine pure_ (i := 1) (N := some 24) (v := ?_) (a' := ?_) #[false, true, false, false, false, false, false, false, false] rfl rfl (by kernel_rfl) (fun _ _ _ h => h) (Or.inl ⟨by rfl, ?_⟩) ?_ ?_
      rotate_left
      · intro w'
        go_simp
        with_reducible rfl
      rotate_left
      · simp only [Act.put, List.setIfInBounds_toArray, List.set_cons_zero, List.set_cons_succ, i64_w, i32_w]
        rfl
      refine pure_ (i := 3) (N := some 26) (v := ?_) (a' := ?_) #[false, true, false, true, false, false, false, false, false] rfl rfl (by kernel_rfl) (fun _ _ _ h => h) (Or.inl ⟨by rfl, ?_⟩) ?_ ?_
      rotate_left
      · intro w'
        go_simp
        with_reducible rfl
      rotate_left
      · simp only [Act.put, List.setIfInBounds_toArray, List.set_cons_zero, List.set_cons_succ, i64_w, i32_w]
        rfl
      refine pure_ (i := 4) (N := some 27) (v := ?_) (a' := ?_) #[false, true, false, true, true, false, false, false, false] rfl rfl (by kernel_rfl) (fun _ _ _ h => h) (Or.inl ⟨by rfl, ?_⟩) ?_ ?_
      rotate_left
      · intro w'
        go_simp
        with_reducible rfl
      rotate_left
      · simp only [Act.put, List.setIfInBounds_toArray, List.set_cons_zero, List.set_cons_succ, i64_w, i32_w]
        rfl
      refine pure_ (i := 5) (N := some 28) (v := ?_) (a' := ?_) #[false, true, false, true, true, true, false, false, false] rfl rfl (by kernel_rfl) (fun _ _ _ h => h) (Or.inl ⟨by rfl, ?_⟩) ?_ ?_
      rotate_left
      · intro w'
        go_simp
        with_reducible rfl
      rotate_left
      · simp only [Act.put, List.setIfInBounds_toArray, List.set_cons_zero, List.set_cons_succ, i64_w, i32_w]
        rfl
      refine one_ (i := 0) (N := some 23) #[true, true, false, true, true, true, false, false, false] rfl rfl (by kernel_rfl) (by decide) (fun K hK => ?_)
      refine value_ (w1 := ?_) (v := ?_) (by rfl) rfl ?_ ?_
      rotate_left 2
      · go_simp
        constructor
        · rfl
        · rfl
      refine hK.out _ _ trivial (fun hHeld => ?_)
      clear hK K
      refine norm_ (a' := ?_) ?_ ?_
      rotate_left
      · show Act.put _ (some 23) _ = _
        simp only [Act.put, List.setIfInBounds_toArray, List.set_cons_zero, List.set_cons_succ, i64_w, i32_w]
        rfl
      refine one_ (i := 2) (N := some 25) #[true, true, true, true, true, true, false, false, false] rfl rfl (by kernel_rfl) (by decide) (fun K hK => ?_)
      refine Kd.R_append_rows_step I (w0 := w) (W := wr.drew.alloc (.cells #[] 3)) w.heap.size (by rfl) (.tmp 23) (.tmp 24) 22 3 (.int .i64 0) 8 rfl Try.underlying22 infoI (by rfl) (by decide) (by omega) (.slice (some ⟨wr.drew.heap.size, 0, none⟩) 0 0) [] l2 A2 n2 c2 (fun _ => True) (fun _ => False) ?hs ?hx ?hO ?hR (fun _ _ h => h) (fun _ h => h.elim) (fun _ _ => trivial) ?hB ?hz ?hl ?_
      case hs => rfl
      case hx => rfl
      case hO => exact I_nil (blk_new _ _) HBW.out.size trivial
      case hR => exact Kd.C_below HR2.out (below_alloc (below_drew HBW.out) _)
      case hB => exact below_alloc (below_drew HBW.out) _
      case hz => exact (below_alloc (below_drew HBW.out) _).size
      case hl => have h1 := HL2.out; simp only [List.length_nil]; omega
      intro v3 w3 ho3 hb3 hg3 hat3
      rw [List.nil_append] at ho3
      obtain ⟨A3, c3, e3⟩ := Kd.R_slice ho3
      rw [HN2.out] at e3
      subst e3
      have HO3 := Aside0.mk ho3
      have HB3 := Aside0.mk hb3
      clear ho3 hb3 hg3 hat3
      refine hK.out _ _ trivial (fun hHeld => ?_)
      clear hK K
      refine norm_ (a' := ?_) ?_ ?_
      rotate_left
      · show Act.put _ (some 25) _ = _
        simp only [Act.put, List.setIfInBounds_toArray, List.set_cons_zero, List.set_cons_succ, i64_w, i32_w]
        rfl
      refine one_ (i := 6) (N := some 29) #[true, true, true, true, true, true, true, false, false] rfl rfl (by kernel_rfl) (by decide) (fun K hK => ?_)
      refine Kd.R_append_rows_step I (w0 := w) (W := w3) w.heap.size (by rfl) (.tmp 25) (.tmp 28) 22 3 (.int .i64 0) 8 rfl Try.underlying22 infoI (by rfl) (by decide) (by omega) (.slice A3 n2 c3) l2 (l0.take k) A0 k c0 (fun _ => True) (fun _ => False) ?hs ?hx ?hO ?hR (fun _ _ h => h) (fun _ h => h.elim) (fun _ _ => trivial) ?hB ?hz ?hl ?_
      case hs => rfl
      case hx => rfl
      case hO => exact HO3.out
      case hR => exact HTK.out _ HB3.out
      case hB => exact HB3.out
      case hz => exact (HB3.out).size
      case hl => have h1 := HL2.out; have h2 := HK.out; have h3 := HN2.out; omega
      intro v5 w5 ho5 hb5 hg5 hat5
      obtain ⟨A5, c5, e5⟩ := Kd.R_slice ho5
      rw [HL5.out] at e5
      subst e5
      have HO5 := Aside0.mk ho5
      have HB5 := Aside0.mk hb5
      clear ho5 hb5 hg5 hat5
      refine hK.out _ _ trivial (fun hHeld => ?_)
      clear hK K
      refine norm_ (a' := ?_) ?_ ?_
      rotate_left
      · show Act.put _ (some 29) _ = _
        simp only [Act.put, List.setIfInBounds_toArray, List.set_cons_zero, List.set_cons_succ, i64_w, i32_w]
        rfl
      refine one_ (i := 7) (N := some 30) #[true, true, true, true, true, true, true, true, false] rfl rfl (by kernel_rfl) (by decide) (fun K hK => ?_)
      refine goes_ Try.func20 (by kernel_rfl) rfl #[.slice A5 m5 c5] (by rfl) rfl rfl (by (try simp only [List.map_toArray, List.map_cons, List.map_nil]); first | done | rfl) ?_
      with_reducible refine (HAP.out _ _ _ (by have h := (Kd.R_reads' HO5.out).2.2; rw [HL5.out] at h; exact h) (by rw [HL5.out]; exact (Kd.R_reads' HO5.out).2.1)).mono ?_
      rintro e w6 ⟨rfl, hb6⟩
      refine ⟨_, rfl, ?_⟩
      have HB6 := Aside0.mk (below_step HB5.out hb6)
      clear hb6
      refine hK.out _ _ trivial (fun hHeld => ?_)
      clear hK K
      refine norm_ (a' := ?_) ?_ ?_
      rotate_left
      · show Act.put _ (some 30) _ = _
        simp only [Act.put, List.setIfInBounds_toArray, List.set_cons_zero, List.set_cons_succ, i64_w, i32_w]
        rfl
      refine pure_ (i := 8) (N := some 31) (v := ?_) (a' := ?_) #[true, true, true, true, true, true, true, true, true] rfl rfl (by kernel_rfl) (fun _ _ _ h => h) (Or.inl ⟨by rfl, ?_⟩) ?_ ?_
      rotate_left
      · intro w'
        go_simp
        with_reducible rfl
      rotate_left
      · simp only [Act.put, List.setIfInBounds_toArray, List.set_cons_zero, List.set_cons_succ, i64_w, i32_w]
        rfl
      refine done_ (by kernel_rfl) ?_

      have hb := HB6.out
      cases ap with
      | false =>
        go_wp2_with fail
        go_ret
        exact ⟨by rw [HF.out, HAK.out, HAE.out]; rfl, hb⟩
      | true =>
        go_wp2_with fail
        go_ret
        exact ⟨by rw [HF.out, HAK.out, HAE.out]; rfl, hb⟩
end Go.Proofs.Ytbdbjlfdnijfeaa.Tree
/- Plain: the reference's Fresh answers as the program's. -/
namespace Go.Proofs.Ytbdbjlfdnijfeaa.Tree
open Go Go.RowKit
set_option linter.unusedVariables false
set_option linter.unusedSimpArgs false
theorem apartB_app : ∀ (a b seen : List Int), apartB seen (a ++ b) = (apartB seen a && apartB (seen ++ a) b)
  | [], b, seen => by rw [List.nil_append, List.append_nil]; rfl
  | x :: a, b, seen => by
    rw [List.cons_append, apartB, apartB, apartB_app a b, Bool.and_assoc, List.append_assoc]
    rfl
theorem fresh_apart (o : List Int) : ∀ (t s : List Int), (t.all dataB && apartB (o ++ s) t) = freshB o s t
  | [], _ => rfl
  | p :: r, s => by
    rw [List.all_cons, apartB, freshB, ← fresh_apart o r (s ++ [p]), List.append_assoc]
    unfold takeB okP
    cases hd : dataB p with
    | false => simp
    | true =>
      have h0 : (p == 0) = false := beq_eq_false_iff_ne.2 (fun e => by rw [e] at hd; exact absurd hd (by decide))
      have hc : (o ++ s).contains p = (o.contains p || s.contains p) := by
        rw [List.contains_eq_any_beq, List.any_append, List.contains_eq_any_beq, List.contains_eq_any_beq]
      rw [h0, hc]
      cases o.contains p <;> cases s.contains p <;> simp
theorem rFresh_eq (f : List Int) (need : Nat) (o : List Int) (h : apartB [] o = true) : rFresh f need o = freshF f need o := by
  unfold rFresh freshF
  split
  · rfl
  · rw [apartB_app, h, Bool.true_and, List.nil_append]
    have e := fresh_apart o (f.take need) []
    rw [List.append_nil] at e
    rw [e]
end Go.Proofs.Ytbdbjlfdnijfeaa.Tree
/- Plain: a plan's writes in the reference's order: each with its data at once. -/
namespace Go.Proofs.Ytbdbjlfdnijfeaa.Tree
open Go Go.RowKit
set_option linter.unusedVariables false
set_option linter.unusedSimpArgs false
theorem fill_far {a : Int} {pl : List Int} : ∀ {ws : List Wr}, a ∉ tg ws → fillW a pl ws = ws
  | [], _ => rfl
  | x :: ws, h => by
    have h1 : x.tgt ≠ a := fun e => h (by rw [← e]; exact List.mem_cons_self)
    show fillX a pl x :: fillW a pl ws = _
    rw [fill_far (fun h2 => h (List.mem_cons_of_mem _ h2)), show fillX a pl x = x from if_neg (fun hh => h1 hh.1)]
theorem fill_new {a : Int} {pl d : List Int} {ws : List Wr} (h : a ∉ tg ws) (h0 : a ≠ 0) : fillW a pl (ws ++ [⟨a, d⟩]) = ws ++ [⟨a, pl⟩] := by
  unfold fillW
  rw [List.map_append]
  show fillW a pl ws ++ [fillX a pl ⟨a, d⟩] = _
  rw [fill_far h, show fillX a pl ⟨a, d⟩ = ⟨a, pl⟩ from if_pos ⟨rfl, h0⟩]
theorem ws1_yes {l fr : List Int} (hok : Ok l fr) (h : someB (partL l 4 30) = true) : ws1 l fr = [⟨fr.getD 0 0, pageL (partL l 4 30)⟩] := by
  have hn := (Pre.nil l fr).next hok (hok.room1 h)
  unfold ws1
  rw [h]
  exact fill_new (ws := []) hn.2.1 hn.2.2.2
theorem ws1_no {l fr : List Int} (h : ¬ someB (partL l 4 30) = true) : ws1 l fr = [] := by
  unfold ws1
  rw [Bool.eq_false_iff.2 h]; rfl
theorem und_yes {l fr : List Int} (hok : Ok l fr) {k : Nat} (hk : k < 3) (h : usB l k = true) : undS l fr (k + 1) = ((undS l fr k).1 ++ [⟨fr.getD (undS l fr k).1.length 0, pageL (partL l (34 + 30 * k) 30)⟩], (undS l fr k).2 ++ [fr.getD (undS l fr k).1.length 0]) := by
  have hn := (preU hok k (by omega)).next hok (hok.room hk h)
  show (fillW (resP fr (usB l k) _) _ (resW fr (usB l k) _), _ ++ [resP fr (usB l k) _]) = _
  rw [h]
  show (fillW _ _ ((undS l fr k).1 ++ [⟨_, []⟩]), _) = _
  rw [show resP fr true (undS l fr k).1 = fr.getD (undS l fr k).1.length 0 from rfl, fill_new hn.2.1 hn.2.2.2]
theorem und_no {l fr : List Int} {k : Nat} (h : ¬ usB l k = true) : undS l fr (k + 1) = ((undS l fr k).1, (undS l fr k).2 ++ [0]) := by
  show (fillW (resP fr (usB l k) _) _ (resW fr (usB l k) _), _ ++ [resP fr (usB l k) _]) = _
  rw [Bool.eq_false_iff.2 h]
  show (fillW 0 _ (undS l fr k).1, _ ++ [0]) = _
  rw [fillW_zero]
theorem ws_no {l fr : List Int} (hok : Ok l fr) (h : ¬ someB (partL l 34 96) = true) : wsOf l fr = ws1 l fr ∧ dbl l fr = 0 := by
  have hl := ptsB_len hok.pts
  have e : dbl l fr = 0 := if_neg h
  have hu : ∀ k, k < 3 → ¬ usB l k = true := fun k hk hu => h ((s34_iff hl).2 (unN_pos.2 ⟨k, hk, hu⟩))
  refine ⟨?_, e⟩
  rw [wsOf_three l fr hl, e, fillW_zero, und_no (hu 2 (by decide)), und_no (hu 1 (by decide)), und_no (hu 0 (by decide))]
  show ws2 l fr = _
  exact if_neg h
theorem ws2_yes {l fr : List Int} (h : someB (partL l 34 96) = true) : ws2 l fr = ws1 l fr ++ [⟨dbl l fr, []⟩] ∧ dbl l fr = fr.getD (ws1 l fr).length 0 := by
  have e : dbl l fr = fr.getD (ws1 l fr).length 0 := if_pos h
  rw [e]
  exact ⟨if_pos h, rfl⟩
theorem und_tail {l fr : List Int} (hok : Ok l fr) (h : someB (partL l 34 96) = true) : ∀ k, k ≤ 3 → ∃ R, (undS l fr k).1 = ws2 l fr ++ R ∧ dbl l fr ∉ tg R
  | 0, _ => ⟨[], by rw [List.append_nil]; rfl, fun hm => absurd hm List.not_mem_nil⟩
  | k + 1, hk => by
    obtain ⟨R, h1, h2⟩ := und_tail hok h k (by omega)
    by_cases hu : usB l k = true
    · have hn := (preU hok k (by omega)).next hok (hok.room (by omega) hu)
      refine ⟨R ++ [⟨fr.getD (undS l fr k).1.length 0, pageL (partL l (34 + 30 * k) 30)⟩], by rw [und_yes hok (by omega) hu, ← List.append_assoc, ← h1], fun hm => ?_⟩
      unfold tg at hm
      rw [List.map_append] at hm
      rcases List.mem_append.1 hm with hm | hm
      · exact h2 hm
      · have e : dbl l fr = fr.getD (undS l fr k).1.length 0 := List.mem_singleton.1 hm
        have h5 := dbl_tg (fr := fr) h k
        rw [e] at h5
        exact hn.2.1 h5
    · exact ⟨R, by rw [und_no hu]; exact h1, h2⟩
theorem ws_set {l fr : List Int} (hok : Ok l fr) (h : someB (partL l 34 96) = true) : wsOf l fr = (undS l fr 3).1.set (ws1 l fr).length ⟨dbl l fr, pageL (undS l fr 3).2⟩ ∧ (undS l fr 3).1[(ws1 l fr).length]? = some ⟨dbl l fr, []⟩ := by
  have hl := ptsB_len hok.pts
  obtain ⟨R, h1, h2⟩ := und_tail hok h 3 (Nat.le_refl _)
  obtain ⟨e1, e2⟩ := ws2_yes (fr := fr) h
  have hn := (pre1 hok).next hok (hok.room2 h)
  rw [← e2] at hn
  rw [wsOf_three l fr hl]
  generalize pageL (undS l fr 3).2 = P
  rw [h1, e1]
  refine ⟨?_, ?_⟩
  · have h3 : fillW (dbl l fr) P (ws1 l fr ++ [⟨dbl l fr, []⟩] ++ R) = (ws1 l fr ++ [⟨dbl l fr, P⟩]) ++ R := by
      have h4 : fillW (dbl l fr) P (ws1 l fr ++ [⟨dbl l fr, []⟩] ++ R) = fillW (dbl l fr) P (ws1 l fr ++ [⟨dbl l fr, []⟩]) ++ fillW (dbl l fr) P R := List.map_append ..
      rw [h4, fill_far h2, fill_new hn.2.1 hn.2.2.2]
    rw [h3, List.append_assoc, List.append_assoc, List.set_append_right _ _ (Nat.le_refl _), Nat.sub_self]
    rfl
  · rw [List.append_assoc, List.getElem?_append_right (Nat.le_refl _), Nat.sub_self]
    rfl
theorem part62 {l : List Int} (hl : l.length ≤ 96) : someB (partL l 34 62) = someB (partL l 34 96) := by
  have e : partL l 34 96 = partL l 34 62 ++ List.replicate 34 0 := by
    unfold partL
    rw [List.take_of_length_le (by rw [List.length_drop]; omega), List.take_of_length_le (by rw [List.length_drop]; omega), List.append_assoc, List.replicate_append_replicate]
    congr 2
    omega
  rw [e, someB_zeros]
end Go.Proofs.Ytbdbjlfdnijfeaa.Tree
/- For all worlds: the reference's Plan where it answers an error. Conditions: the lists can be read. -/
namespace Go.Proofs.Ytbdbjlfdnijfeaa.Tree
open Go Go.RowKit Go.Maps Go.Proofs.YtbdbjlfdnijfeaaW.PrintWords Go.Proofs.YtbdbjlfdnijfeaaW.PrintLast Go.Proofs.YtbdbjlfdnijfeaaW.PrintMore
open Go.Proofs.Ytbdbjlfdnijfeaa.PAll
set_option linter.unusedVariables false
set_option linter.unusedSimpArgs false
set_option maxRecDepth 100000
set_option maxHeartbeats 1000000 in
theorem rplan_bad (A0 : Option Addr) (c0 n : Nat) (l0 : List Int) (hn : l0.length = n) (A1 : Option Addr) (c1 n1 : Nat) (l1 : List Int) (hn1 : l1.length = n1) (w : World) (hr0 : I.C w A0 n l0) (hc0 : n ≤ c0) (hr1 : I.C w A1 n1 l1) (hc1 : n1 ≤ c1) (he : errOf l0 l1 ≠ 0) :
    Calls Try.prog 12 #[.slice A0 n c0, .slice A1 n1 c1] w fun e w' => e = .returned (.tuple #[.agg zNd.c, .slice none 0 0, .int .i64 (errOf l0 l1)]) ∧ Below w.heap.size w w' := by
  have HP : Aside0 (∀ W, Below w.heap.size w W → Calls Try.prog 8 #[.slice A0 n c0] W fun e w' => e = .returned (.bool (ptsB l0)) ∧ Below W.heap.size W w') := ⟨fun W hW => by
    have h := drydockref11_Pointers.calls 97 A0 c0 l0 _ W (by rw [hn]; exact Kd.C_below hr0 hW) (by rw [hn]; exact hc0) (refPointers_eq l0 97 (by omega))
    rw [hn] at h
    exact h⟩
  cases hp : ptsB l0 with
  | false =>
    have hE : errOf l0 l1 = 1 := by
      unfold errOf needF
      rw [hp]; rfl
    rw [hp] at HP
    rw [hE]
    clear hr0 hr1 hn hn1 hc0 hc1 he hp hE
    go_enter Try.func12, Try.ntmps12
    go_wp2_with (first | (go_at_call 8; (with_reducible refine (HP.out _ (below_alloc (Below.refl _ _) _)).mono ?_); rintro e w1 ⟨rfl, hb⟩; have HB := Aside0.mk hb; clear hb) | ((with_reducible refine gate_ (.store 32 (.tmp 4) (.tmp 22)) rfl ?_); refine Whole.store_ ?sg ?sn 32 (.tmp 4) (.tmp 22) ?so w.heap.size 0 32 zNd.c zNd.c zNd.c ?sx ?sy (blk_below (blk_new w (.cells zNd.c 32)) HB.out) ?sf infoND ?s1 ?sw ?_; (case sg => rfl); (case sn => rfl); (case so => rfl); (case sx => with_unfolding_all rfl); (case sy => with_unfolding_all rfl); (case sf => with_unfolding_all exact (show 12 ≤ 12 from by decide)); (case s1 => exact ndc_one _); (case sw => with_unfolding_all rfl); intro w3 hz hg hs; have HZ3 := Aside0.mk hz; have HG3 := Aside0.mk hg; clear hz hg hs))
    refine bodyPost_ret (results_ctt rfl _ _ (w.heap.size) _ zNd.c _ _ rfl HZ3.out Try.underlying32 rfl infoND) rfl ?_
    exact ⟨rfl, below_of_new ((below_alloc (Below.refl w.heap.size w) (.cells zNd.c 32)).trans (HB.out.mono (by rw [World.size_alloc]; omega))) HG3.out (Nat.le_refl _)⟩
  | true =>
    have hap : apartB [] l0 = true := by
      unfold ptsB at hp
      rw [Bool.and_eq_true] at hp
      exact hp.1
    have hl96 := ptsB_len hp
    have hE : errOf l0 l1 = rFresh l1 (needN l0) l0 := by
      rw [rFresh_eq _ _ _ hap]
      unfold errOf needF
      rw [hp]; rfl
    have hk : needN l0 ≤ 5 := by
      rw [need_eq hl96]
      have := unN_le l0 3
      split <;> split <;> omega
    have HNE : Aside0 (∀ W, Below w.heap.size w W → Calls Try.prog 10 #[.slice A0 n c0] W fun e w' => e = .returned (.int .i64 (needN l0 : Int)) ∧ Below W.heap.size W w') := ⟨fun W hW => by
      have h := drydockref11_Need.calls 41 A0 c0 l0 _ W (by rw [hn]; exact Kd.C_below hr0 hW) (by rw [hn]; exact hc0) (refNeed_eq l0 41 (by omega))
      rw [hn] at h
      exact h⟩
    have HFR : Aside0 (∀ W, Below w.heap.size w W → Calls Try.prog 27 #[.slice A1 n1 c1, .int .i64 (needN l0 : Int), .slice A0 n c0] W fun e w' => e = .returned (.int .i64 (errOf l0 l1)) ∧ Below W.heap.size W w') := ⟨fun W hW => by
      rw [hE]
      exact refFresh_calls A1 c1 n1 l1 hn1 (needN l0) _ rfl A0 c0 n l0 hn W (Kd.C_below hr1 hW) hc1 (Kd.C_below hr0 hW) (by rw [← hn]; omega) (by omega)⟩
    obtain ⟨E, hEE⟩ : ∃ q, errOf l0 l1 = q := ⟨_, rfl⟩
    obtain ⟨m, hm⟩ : ∃ q : Int, (needN l0 : Int) = q := ⟨_, rfl⟩
    rw [hEE] at HFR he
    rw [hm] at HFR HNE
    rw [hEE]
    rw [hp] at HP
    have eE : (E != 0) = true := bne_iff_ne.2 he
    clear hr0 hr1 hn hn1 hc0 hc1 he hp hE hap hl96 hk hEE hm
    go_enter Try.func12, Try.ntmps12
    go_wp2_with (first | (go_at_call 8; (with_reducible refine (HP.out _ (below_alloc (Below.refl _ _) _)).mono ?_); rintro e w1 ⟨rfl, hb⟩; have HB := Aside0.mk hb; clear hb) | (go_at_call 10; (with_reducible refine (HNE.out _ ?c0).mono ?_); (case c0 => exact below_step (below_alloc (Below.refl _ _) _) HB.out); rintro e w2 ⟨rfl, hb⟩; have HB2 := Aside0.mk (below_step HB.out hb); clear hb) | (go_at_call 27; (with_reducible refine (HFR.out _ ?c0).mono ?_); (case c0 => exact below_step (below_alloc (Below.refl _ _) _) HB2.out); rintro e w4 ⟨rfl, hb⟩; have HB4 := Aside0.mk (below_step HB2.out hb); clear hb) | ((with_reducible refine gate_ (.store 32 (.tmp 4) (.tmp 30)) rfl ?_); refine Whole.store_ ?sg ?sn 32 (.tmp 4) (.tmp 30) ?so w.heap.size 0 32 zNd.c zNd.c zNd.c ?sx ?sy (blk_below (blk_new w (.cells zNd.c 32)) HB4.out) ?sf infoND ?s1 ?sw ?_; (case sg => rfl); (case sn => rfl); (case so => rfl); (case sx => with_unfolding_all rfl); (case sy => with_unfolding_all rfl); (case sf => with_unfolding_all exact (show 12 ≤ 12 from by decide)); (case s1 => exact ndc_one _); (case sw => with_unfolding_all rfl); intro w3 hz hg hs; have HZ3 := Aside0.mk hz; have HG3 := Aside0.mk hg; clear hz hg hs))
    refine bodyPost_ret (results_ctt rfl _ _ (w.heap.size) _ zNd.c _ _ rfl HZ3.out Try.underlying32 rfl infoND) rfl ?_
    exact ⟨rfl, below_of_new ((below_alloc (Below.refl w.heap.size w) (.cells zNd.c 32)).trans (HB4.out.mono (by rw [World.size_alloc]; omega))) HG3.out (Nat.le_refl _)⟩
end Go.Proofs.Ytbdbjlfdnijfeaa.Tree
