/- For all worlds: package tree's Pointers (a map as a set), node.Data. Conditions: the list can be read; its numbers are 64 bits wide; it is no longer than a slice may be. -/
import Derived.Test.YtbdbjlfdnijfeaaProg
import Derived.Test.YtbdbjlfdnijfeaaWWords
import Derived.Test.YtbdbjlfdnijfeaaWLast
import Derived.Test.YtbdbjlfdnijfeaaWMore
import Derived.Test.YtbdbjlfdnijfeaaWArr
import Derived.Test.YtbdbjlfdnijfeaaWTab
import Derived.WalkKit
import Derived.KernelRfl
import Derived.WalkSpells
import Derived.Deep.QuietTactic
import Derived.BigQuiet
import Derived.Deep.LoopGhost
import Derived.Outline
import Derived.OwnWalk
import Derived.Laws.Cover3
import Derived.Deep.MidRow
import Derived.OrdersHeld
import Derived.Laws.MakeOwn
import Derived.Maps.OwnSet
import Derived.Laws.NewBlocks
import Derived.Laws.CopyOwn
namespace Go.Proofs.Ytbdbjlfdnijfeaa.Tree
open Go Go.RowKit Go.Maps Go.Proofs.YtbdbjlfdnijfeaaW.PrintWords Go.Proofs.YtbdbjlfdnijfeaaW.PrintLast Go.Proofs.YtbdbjlfdnijfeaaW.PrintMore
set_option linter.unusedVariables false
set_option linter.unusedSimpArgs false
/-- Is it a data block? -/
def dataB (p : Int) : Bool := decide (59 ≤ p) && decide (p < 480)
theorem data_calls (p : Int) (w : World) : Calls Try.prog 35 #[.int .i64 p] w fun e w' => e = .returned (.bool (dataB p)) ∧ w = w' := by
  unfold dataB
  by_cases h1 : 59 ≤ p
  · have b1 : decide (59 ≤ p) = true := decide_eq_true h1
    rw [b1]
    go_enter Try.func35, Try.ntmps35
    go_wp2_with fail
    go_ret
    exact ⟨by rw [Bool.true_and]; rfl, rfl⟩
  · have b1 : decide (59 ≤ p) = false := decide_eq_false h1
    rw [b1]
    go_enter Try.func35, Try.ntmps35
    go_wp2_with fail
    go_ret
    exact ⟨rfl, rfl⟩
/-- May p stand behind those that were seen? -/
def okP (seen : List Int) (p : Int) : Bool := p == 0 || (!seen.contains p && dataB p)
def apartB : List Int → List Int → Bool
  | _, [] => true
  | seen, p :: r => okP seen p && apartB (seen ++ [p]) r
def ptsB (l : List Int) : Bool := apartB [] l && decide (l.length ≤ 96)
def wide (l : List Int) : Bool := l.all (fun x => (Lit.int .i64 x).wf)
def keysOf (l : List Int) : List Lit := l.map (Lit.int .i64)
theorem keys_ok (l : List Int) : ∀ x ∈ keysOf l, WideAt.IsKeyLit x := fun x hx => by
  obtain ⟨y, _, rfl⟩ := List.mem_map.1 hx
  trivial
theorem has_keys (l : List Int) (p : Int) : Maps.has (setOf (DataW.agg [] : DataW Unit) (keysOf l)) (.int .i64 p) = l.contains p := by
  rw [has_setOf _ _ _ (keys_ok l)]
  unfold keysOf
  rw [List.any_map]
  induction l with
  | nil => rfl
  | cons x l ih => 
    rw [List.any_cons, ih, List.contains_cons]
    congr 1
    simp only [Function.comp, Lit.sameKey]
    by_cases h : x = p
    · subst h; simp
    · rw [show (p == x) = false from beq_eq_false_iff_ne.2 (Ne.symm h)]; simp [h]
theorem apartB_append : ∀ (l : List Int) (seen : List Int) (p : Int), apartB seen (l ++ [p]) = (apartB seen l && okP (seen ++ l) p)
  | [], seen, p => by simp [apartB]
  | x :: l, seen, p => by
    rw [List.cons_append, apartB, apartB_append l, apartB, Bool.and_assoc, List.append_assoc]
    rfl
theorem apartB_false : ∀ (l : List Int) (seen : List Int) (k : Nat) (p : Int), l[k]? = some p → okP (seen ++ l.take k) p = false → apartB seen l = false
  | [], seen, k, p, h, _ => by simp at h
  | x :: l, seen, 0, p, h, hp => by
    obtain rfl := Option.some.inj h
    rw [List.take_zero, List.append_nil] at hp
    rw [apartB, hp, Bool.false_and]
  | x :: l, seen, k + 1, p, h, hp => by
    rw [apartB, apartB_false l (seen ++ [x]) k p h (by rw [List.append_assoc]; exact hp), Bool.and_false]
theorem law3 : Keyed Try.prog 3 := int_keyed Try.underlying3
theorem zeroU (w : World) : (zeroValue 66).run Try.prog w = .ok (.agg #[]) w := by kernel_rfl
def setU (l : List Int) : DataW Unit := setOf (DataW.agg [] : DataW Unit) (keysOf l)
theorem setU_snoc (l : List Int) (p : Int) : setU (l ++ [p]) = (setU l).put (.int .i64 p) (.agg []) := by
  unfold setU keysOf
  rw [List.map_append, List.map_cons, List.map_nil, setOf_snoc]
theorem take_snoc {l : List Int} {k : Nat} {p : Int} (h : l[k]? = some p) : l.take (k + 1) = l.take k ++ [p] := by
  obtain ⟨hk, e⟩ := List.getElem?_eq_some_iff.1 h
  rw [List.take_succ_eq_append_getElem hk, e]
set_option maxHeartbeats 1000000 in
theorem pointers_calls (A0 : Option Addr) (c0 : Nat) (l0 : List Int) (w : World) (hr0 : Kd.C (Kd.int .i64) w A0 l0.length l0) (hw : wide l0 = true) :
    Calls Try.prog 18 #[.slice A0 l0.length c0] w fun e w' => e = .returned (.bool (ptsB l0)) ∧ Below w.heap.size w w' := by
  have hmm := @run_makeMap Try.prog
  obtain ⟨n, hn⟩ : ∃ n, l0.length = n := ⟨_, rfl⟩
  have HN := Aside0.mk hn
  have hn63 := hr0.2.1
  rw [hn] at hr0 hn63
  rw [hn]
  have HR := Aside0.mk hr0
  have HW : Aside0 (∀ x ∈ l0, (Lit.int .i64 x).wf = true) := ⟨fun x hx => List.all_eq_true.1 hw x hx⟩
  clear hr0 hw hn
  go_enter Try.func18, Try.ntmps18
  go_wp2_with fail
  go_loopg [11] n (fun gg i wr => ∃ k : Nat, k ≤ n ∧ n - k ≤ gg ∧ i = .int .i64 k ∧ Aside0 (wr.ownsMap Try.prog 3 (unitElem (H := Unit)) w.heap.size k (setU (l0.take k))) ∧ Aside0 (Below w.heap.size w wr) ∧ Aside0 (apartB [] (l0.take k) = true))
  case atStart => exact ⟨0, Nat.zero_le _, Nat.le_refl _, rfl, ⟨World.ownsMap_made _ _ _ _⟩, ⟨below_alloc (Below.refl _ _) _⟩, ⟨rfl⟩⟩
  case round =>
    obtain ⟨k, hk, hgk, rfl, HO, HB, HA⟩ := hrel
    by_cases hlt : k < n
    · have b1 : decide (k < n) = true := decide_eq_true hlt
      obtain ⟨p, hp⟩ : ∃ p, l0[k]? = some p := ⟨_, List.getElem?_eq_getElem (by have := HN.out; omega)⟩
      obtain ⟨ad, e, hc⟩ := Kd.at_int (Kd.C_below HR.out HB.out) (k : Int) (by omega) (by omega)
      subst e
      rw [Int.toNat_natCast, show rd l0 (k : Int) = p from by show l0.getD (k : Int).toNat 0 = p; rw [Int.toNat_natCast, List.getD_eq_getElem?_getD, hp]; rfl] at hc
      have hkey : keyOf Try.prog 3 (.int .i64 p) = some (.int .i64 p) := keyOf_int_mk Try.underlying3 (HW.out p (List.mem_of_getElem? hp))
      have HP := Aside0.mk hp
      have HKEY := Aside0.mk hkey
      have hkz : (0 : Int) ≤ (k : Int) := by omega
      have hkn : (k : Int) < (n : Int) := by omega
      obtain ⟨sn, hsn⟩ : ∃ q, Maps.has (setU (l0.take k)) (.int .i64 p) = q := ⟨_, rfl⟩
      have HSN : Aside0 ((l0.take k).contains p = sn) := ⟨by rw [← hsn]; exact (has_keys _ _).symm⟩
      have hml : k < maxLen := by unfold maxLen; omega
      have HML := Aside0.mk hml
      clear hkey hp hml
      by_cases hp0 : p = 0
      · have bp : (p != 0) = false := bne_eq_false_iff_eq.2 hp0
        have bp2 : (p == 0) = true := beq_iff_eq.2 hp0
        have HOK : Aside0 (okP (l0.take k) p = true) := ⟨by unfold okP; rw [bp2]; rfl⟩
        clear hp0
        go_wp2_with (first | (at_lookup; refine wpList_lookup_own_unit _ rfl _ _ 65 rfl 3 66 law3 Try.underlying65 (zeroU _) w.heap.size k _ rfl HO.out _ _ rfl HKEY.out ?_; rw [hsn]) | (go_at_call 35; (with_reducible refine (data_calls p _).mono ?_); rintro e w2 ⟨rfl, rfl⟩) | (at_mapUpdate; refine wpList_mapUpdate_own _ rfl _ _ _ 65 rfl 3 66 law3 Try.underlying65 (unitElem (H := Unit)) w.heap.size k _ rfl (HO.out.alloc _) HML.out _ _ _ rfl rfl HKEY.out _ [] unitElem_mk ?_; intro w1 hown1 hgrow1; have HO1 := Aside0.mk hown1; have HG1 := Aside0.mk hgrow1; clear hown1 hgrow1))
        go_roundg (n - (k + 1))
        case measure => omega
        case rel =>
          refine ⟨k + 1, by omega, Nat.le_refl _, by go_num, ⟨?_⟩, ⟨((below_alloc HB.out _).grown HG1.out (by have := HB.out.size; rw [World.size_alloc]; omega) (fun j hj => by cases hj; exact Nat.le_refl _))⟩, ⟨?_⟩⟩
          · rw [take_snoc HP.out, setU_snoc]; exact HO1.out
          · rw [take_snoc HP.out, apartB_append, HA.out, List.nil_append, HOK.out]; rfl
      have bp : (p != 0) = true := bne_iff_ne.2 hp0
      have bp2 : (p == 0) = false := beq_eq_false_iff_ne.2 hp0
      have hok : okP (l0.take k) p = (!sn && dataB p) := by unfold okP; rw [bp2, HSN.out]; rfl
      obtain ⟨dp, hdp⟩ : ∃ q, dataB p = q := ⟨_, rfl⟩
      rw [hdp] at hok
      clear hp0
      cases sn with
      | true =>
        have HOK : Aside0 (okP (l0.take k) p = false) := ⟨by rw [hok]; rfl⟩
        clear hok
        go_wp2_with (first | (at_lookup; refine wpList_lookup_own_unit _ rfl _ _ 65 rfl 3 66 law3 Try.underlying65 (zeroU _) w.heap.size k _ rfl HO.out _ _ rfl HKEY.out ?_; rw [hsn]) | (go_at_call 35; (with_reducible refine (data_calls p _).mono ?_); rintro e w2 ⟨rfl, rfl⟩))
        go_ret
        refine ⟨?_, below_alloc HB.out _⟩
        unfold ptsB
        rw [apartB_false l0 [] k p HP.out (by rw [List.nil_append]; exact HOK.out), Bool.false_and]; rfl
      | false =>
        cases dp with
        | false =>
          have HOK : Aside0 (okP (l0.take k) p = false) := ⟨by rw [hok]; rfl⟩
          clear hok
          go_wp2_with (first | (at_lookup; refine wpList_lookup_own_unit _ rfl _ _ 65 rfl 3 66 law3 Try.underlying65 (zeroU _) w.heap.size k _ rfl HO.out _ _ rfl HKEY.out ?_; rw [hsn]) | (go_at_call 35; (with_reducible refine (data_calls p _).mono ?_); rintro e w2 ⟨rfl, rfl⟩; rw [hdp]))
          go_ret
          refine ⟨?_, below_alloc HB.out _⟩
          unfold ptsB
          rw [apartB_false l0 [] k p HP.out (by rw [List.nil_append]; exact HOK.out), Bool.false_and]; rfl
        | true =>
          have HOK : Aside0 (okP (l0.take k) p = true) := ⟨by rw [hok]; rfl⟩
          clear hok
          go_wp2_with (first | (at_lookup; refine wpList_lookup_own_unit _ rfl _ _ 65 rfl 3 66 law3 Try.underlying65 (zeroU _) w.heap.size k _ rfl HO.out _ _ rfl HKEY.out ?_; rw [hsn]) | (go_at_call 35; (with_reducible refine (data_calls p _).mono ?_); rintro e w2 ⟨rfl, rfl⟩; rw [hdp]) | (at_mapUpdate; refine wpList_mapUpdate_own _ rfl _ _ _ 65 rfl 3 66 law3 Try.underlying65 (unitElem (H := Unit)) w.heap.size k _ rfl (HO.out.alloc _) HML.out _ _ _ rfl rfl HKEY.out _ [] unitElem_mk ?_; intro w1 hown1 hgrow1; have HO1 := Aside0.mk hown1; have HG1 := Aside0.mk hgrow1; clear hown1 hgrow1))
          go_roundg (n - (k + 1))
          case measure => omega
          case rel =>
            refine ⟨k + 1, by omega, Nat.le_refl _, by go_num, ⟨?_⟩, ⟨((below_alloc HB.out _).grown HG1.out (by have := HB.out.size; rw [World.size_alloc]; omega) (fun j hj => by cases hj; exact Nat.le_refl _))⟩, ⟨?_⟩⟩
            · rw [take_snoc HP.out, setU_snoc]; exact HO1.out
            · rw [take_snoc HP.out, apartB_append, HA.out, List.nil_append, HOK.out]; rfl
    · have b1 : decide (k < n) = false := decide_eq_false hlt
      have hkn : k = n := by omega
      have HE : Aside0 (apartB [] l0 = true) := ⟨by have h := HA.out; rw [hkn, ← HN.out, List.take_length] at h; exact h⟩
      clear hlt
      go_wp2_with fail
      go_ret
      refine ⟨?_, HB.out⟩
      unfold ptsB
      rw [HE.out, HN.out, Bool.true_and]
      show Ending.returned (.bool (decide ((n : Int) ≤ 96))) = _
      congr 2
      exact decide_eq_decide.2 (by omega)
end Go.Proofs.Ytbdbjlfdnijfeaa.Tree
/- For all worlds: slices.IndexFunc and ContainsFunc at 'is it not 0', make([]int, n), tree.part. Conditions: the list can be read; sizes as a slice may be. -/
namespace Go.Proofs.Ytbdbjlfdnijfeaa.Tree
open Go Go.RowKit Go.Maps Go.Proofs.YtbdbjlfdnijfeaaW.PrintWords Go.Proofs.YtbdbjlfdnijfeaaW.PrintLast Go.Proofs.YtbdbjlfdnijfeaaW.PrintMore
set_option linter.unusedVariables false
set_option linter.unusedSimpArgs false
theorem infoI : (Try.prog.info? 3).map (fun i => (i.zero, i.size, i.bytes)) = some (some (.int .i64 0), 1, 8) := by kernel_rfl
theorem made_ints (n : Nat) : (madeCells #[Value.int .i64 0] (n * 1)) = Array.replicate n (Value.int .i64 0) := by
  unfold madeCells
  apply Array.ext
  · simp
  · intro i h1 h2
    rw [Array.getElem_map, Array.getElem_range, Array.getElem_replicate]
    simp [Nat.mod_one]
theorem mkI (n : Nat) (hn : n ≤ 1099511627776) (W : World) : (Instr.makeSlice 22 (.int .i64 (n : Int)) (.int .i64 (n : Int))).run Try.prog W = .ok (.slice (some ⟨W.heap.size, 0, none⟩) n n) (W.alloc (.cells (Array.replicate n (Value.int .i64 0)) 3)) := by
  obtain ⟨i0, hi0, hz0, hs0, hb0⟩ := info_parts infoI
  have hr := run_make (P := Try.prog) W 22 3 i0 (.int .i64 0) Try.underlying22 hi0 hz0 .i64 .i64 n n (by omega) (by omega) (by rw [hb0]; omega) (by omega)
  simp only [Int.toNat_natCast, hs0] at hr
  rw [← made_ints]
  exact hr
def idx0 (l : List Int) : Int := match l.findIdx? (fun p => p != 0) with
  | some k => (k : Int)
  | none => -1
def someB (l : List Int) : Bool := l.any (fun p => p != 0)
theorem idx0_some (l : List Int) : decide (0 ≤ idx0 l) = someB l := by
  unfold idx0 someB
  cases h : l.findIdx? (fun p => p != 0) with
  | none =>
    have h1 := List.findIdx?_eq_none_iff.1 h
    rw [show l.any (fun p => p != 0) = false from List.any_eq_false.2 (fun x hx => by have := h1 x hx; simpa using this)]
    rfl
  | some k =>
    have h1 := List.findIdx?_eq_some_iff_getElem.1 h
    obtain ⟨hk, h2, _⟩ := h1
    rw [show l.any (fun p => p != 0) = true from List.any_eq_true.2 ⟨_, List.getElem_mem hk, h2⟩]
    exact decide_eq_true (by show (0 : Int) ≤ (k : Int); omega)
theorem idx0_at {l : List Int} {k : Nat} {p : Int} (hk : l[k]? = some p) (hp : (p != 0) = true) (hb : ∀ j, j < k → l.getD j 0 = 0) : idx0 l = (k : Int) := by
  obtain ⟨hl, e⟩ := List.getElem?_eq_some_iff.1 hk
  have h : l.findIdx? (fun p => p != 0) = some k := List.findIdx?_eq_some_iff_getElem.2 ⟨hl, by rw [e]; exact hp, fun j hj => by
    have h1 := hb j hj
    rw [List.getD_eq_getElem?_getD, List.getElem?_eq_getElem (by omega)] at h1
    rw [show l[j] = 0 from h1]; decide⟩
  unfold idx0
  rw [h]
theorem idx0_none {l : List Int} (hb : ∀ j, j < l.length → l.getD j 0 = 0) : idx0 l = -1 := by
  have h : l.findIdx? (fun p => p != 0) = none := List.findIdx?_eq_none_iff.2 (fun x hx => by
    obtain ⟨j, hj, rfl⟩ := List.getElem_of_mem hx
    have h1 := hb j hj
    rw [List.getD_eq_getElem?_getD, List.getElem?_eq_getElem hj] at h1
    rw [show l[j] = 0 from h1]; decide)
  unfold idx0
  rw [h]
theorem at_i {w : World} {A : Option Addr} {n : Nat} {l : List Int} (h : Kd.C (Kd.int .i64) w A n l) {k : Nat} {p : Int} (hk : l[k]? = some p) : ∃ ad, A = some ad ∧ w.cell? (ad.add k) = some (.int .i64 p) := by
  have hl : k < n := by rw [← h.1]; exact (List.getElem?_eq_some_iff.1 hk).1
  obtain ⟨ad, e, hc⟩ := Kd.at_int h (k : Int) (by omega) (by omega)
  refine ⟨ad, e, ?_⟩
  rw [Int.toNat_natCast, show rd l (k : Int) = p from by show l.getD (k : Int).toNat 0 = p; rw [Int.toNat_natCast, List.getD_eq_getElem?_getD, hk]; rfl] at hc
  exact hc
theorem nzp_calls (x : Int) (w : World) : Calls Try.prog 37 #[.int .i64 x] w fun e w' => e = .returned (.bool (x != 0)) ∧ w = w' := by
  go_enter Try.func37, Try.ntmps37
  go_wp2_with fail
  go_ret
  exact ⟨rfl, rfl⟩
theorem nzp_index (A0 : Option Addr) (c0 : Nat) (l0 : List Int) (w : World) (hr0 : Kd.C (Kd.int .i64) w A0 l0.length l0) :
    Calls Try.prog 48 #[.slice A0 l0.length c0, .func (.func 37) #[] #[]] w fun e w' => e = .returned (.int .i64 (idx0 l0)) ∧ w = w' := by
  obtain ⟨n, hn⟩ : ∃ n, l0.length = n := ⟨_, rfl⟩
  have HN := Aside0.mk hn
  have hn63 := hr0.2.1
  rw [hn] at hr0 hn63
  rw [hn]
  have HR := Aside0.mk hr0
  clear hr0 hn
  go_enter Try.func48, Try.ntmps48
  go_wp2_with fail
  go_loopg [8] n (fun gg i wr => ∃ k : Nat, k ≤ n ∧ n - k ≤ gg ∧ i = .int .i64 k ∧ wr = w ∧ Aside0 (∀ j, j < k → l0.getD j 0 = 0))
  case atStart => exact ⟨0, Nat.zero_le _, Nat.le_refl _, rfl, rfl, ⟨fun j hj => absurd hj (Nat.not_lt_zero _)⟩⟩
  case round =>
    obtain ⟨k, hk, hgk, rfl, rfl, HA⟩ := hrel
    by_cases hlt : k < n
    · have b1 : decide (k < n) = true := decide_eq_true hlt
      obtain ⟨p, hp⟩ : ∃ p, l0[k]? = some p := ⟨_, List.getElem?_eq_getElem (by have := HN.out; omega)⟩
      obtain ⟨ad, e, hc⟩ := at_i HR.out hp
      subst e
      have HP := Aside0.mk hp
      have hkz : (0 : Int) ≤ (k : Int) := by omega
      have hkn : (k : Int) < (n : Int) := by omega
      have hcall := Aside0.mk (nzp_calls p wr)
      clear hp
      go_wp2_with fail
      (with_reducible refine hcall.out.mono ?_)
      rintro e w2 ⟨rfl, rfl⟩
      by_cases hp0 : p = 0
      · have bp : (p != 0) = false := bne_eq_false_iff_eq.2 hp0
        have HP0 := Aside0.mk hp0
        clear hp0
        go_wp2_with fail
        go_roundg (n - (k + 1))
        case measure => omega
        case rel => exact ⟨k + 1, by omega, Nat.le_refl _, by go_num, rfl, ⟨fun j hj => by
          by_cases e : j = k
          · subst e; rw [List.getD_eq_getElem?_getD, HP.out]; exact HP0.out
          · exact HA.out j (by omega)⟩⟩
      · have bp : (p != 0) = true := bne_iff_ne.2 hp0
        have HBP := Aside0.mk bp
        clear hp0
        go_wp2_with fail
        go_ret
        exact ⟨by rw [idx0_at HP.out HBP.out HA.out]; rfl, rfl⟩
    · have b1 : decide (k < n) = false := decide_eq_false hlt
      have HKN : Aside0 (k = n) := ⟨by omega⟩
      clear hlt
      go_wp2_with fail
      go_ret
      exact ⟨by rw [idx0_none (fun j hj => HA.out j (by have := HN.out; have := HKN.out; omega))]; rfl, rfl⟩
theorem nzp_contains (A0 : Option Addr) (c0 : Nat) (l0 : List Int) (w : World) (hr0 : Kd.C (Kd.int .i64) w A0 l0.length l0) :
    Calls Try.prog 36 #[.slice A0 l0.length c0, .func (.func 37) #[] #[]] w fun e w' => e = .returned (.bool (someB l0)) ∧ w = w' := by
  have HC := Aside0.mk (nzp_index A0 c0 l0 w hr0)
  have hs := idx0_some l0
  obtain ⟨q, hq⟩ : ∃ q, someB l0 = q := ⟨_, rfl⟩
  obtain ⟨z, hz⟩ : ∃ z, idx0 l0 = z := ⟨_, rfl⟩
  rw [hq, hz] at hs
  rw [hz] at HC
  rw [hq]
  clear hq hz hr0
  go_enter Try.func36, Try.ntmps36
  go_wp2_with (go_at_call 48; (with_reducible refine HC.out.mono ?_); rintro e w2 ⟨rfl, rfl⟩)
  go_ret
  exact ⟨rfl, rfl⟩
theorem nzr_calls (x : Int) (w : World) : Calls Try.prog 46 #[.int .i64 x] w fun e w' => e = .returned (.bool (x != 0)) ∧ w = w' := by
  go_enter Try.func46, Try.ntmps46
  go_wp2_with fail
  go_ret
  exact ⟨rfl, rfl⟩
theorem nzr_index (A0 : Option Addr) (c0 : Nat) (l0 : List Int) (w : World) (hr0 : Kd.C (Kd.int .i64) w A0 l0.length l0) :
    Calls Try.prog 48 #[.slice A0 l0.length c0, .func (.func 46) #[] #[]] w fun e w' => e = .returned (.int .i64 (idx0 l0)) ∧ w = w' := by
  obtain ⟨n, hn⟩ : ∃ n, l0.length = n := ⟨_, rfl⟩
  have HN := Aside0.mk hn
  have hn63 := hr0.2.1
  rw [hn] at hr0 hn63
  rw [hn]
  have HR := Aside0.mk hr0
  clear hr0 hn
  go_enter Try.func48, Try.ntmps48
  go_wp2_with fail
  go_loopg [8] n (fun gg i wr => ∃ k : Nat, k ≤ n ∧ n - k ≤ gg ∧ i = .int .i64 k ∧ wr = w ∧ Aside0 (∀ j, j < k → l0.getD j 0 = 0))
  case atStart => exact ⟨0, Nat.zero_le _, Nat.le_refl _, rfl, rfl, ⟨fun j hj => absurd hj (Nat.not_lt_zero _)⟩⟩
  case round =>
    obtain ⟨k, hk, hgk, rfl, rfl, HA⟩ := hrel
    by_cases hlt : k < n
    · have b1 : decide (k < n) = true := decide_eq_true hlt
      obtain ⟨p, hp⟩ : ∃ p, l0[k]? = some p := ⟨_, List.getElem?_eq_getElem (by have := HN.out; omega)⟩
      obtain ⟨ad, e, hc⟩ := at_i HR.out hp
      subst e
      have HP := Aside0.mk hp
      have hkz : (0 : Int) ≤ (k : Int) := by omega
      have hkn : (k : Int) < (n : Int) := by omega
      have hcall := Aside0.mk (nzr_calls p wr)
      clear hp
      go_wp2_with fail
      (with_reducible refine hcall.out.mono ?_)
      rintro e w2 ⟨rfl, rfl⟩
      by_cases hp0 : p = 0
      · have bp : (p != 0) = false := bne_eq_false_iff_eq.2 hp0
        have HP0 := Aside0.mk hp0
        clear hp0
        go_wp2_with fail
        go_roundg (n - (k + 1))
        case measure => omega
        case rel => exact ⟨k + 1, by omega, Nat.le_refl _, by go_num, rfl, ⟨fun j hj => by
          by_cases e : j = k
          · subst e; rw [List.getD_eq_getElem?_getD, HP.out]; exact HP0.out
          · exact HA.out j (by omega)⟩⟩
      · have bp : (p != 0) = true := bne_iff_ne.2 hp0
        have HBP := Aside0.mk bp
        clear hp0
        go_wp2_with fail
        go_ret
        exact ⟨by rw [idx0_at HP.out HBP.out HA.out]; rfl, rfl⟩
    · have b1 : decide (k < n) = false := decide_eq_false hlt
      have HKN : Aside0 (k = n) := ⟨by omega⟩
      clear hlt
      go_wp2_with fail
      go_ret
      exact ⟨by rw [idx0_none (fun j hj => HA.out j (by have := HN.out; have := HKN.out; omega))]; rfl, rfl⟩
theorem nzr_contains (A0 : Option Addr) (c0 : Nat) (l0 : List Int) (w : World) (hr0 : Kd.C (Kd.int .i64) w A0 l0.length l0) :
    Calls Try.prog 36 #[.slice A0 l0.length c0, .func (.func 46) #[] #[]] w fun e w' => e = .returned (.bool (someB l0)) ∧ w = w' := by
  have HC := Aside0.mk (nzr_index A0 c0 l0 w hr0)
  have hs := idx0_some l0
  obtain ⟨q, hq⟩ : ∃ q, someB l0 = q := ⟨_, rfl⟩
  obtain ⟨z, hz⟩ : ∃ z, idx0 l0 = z := ⟨_, rfl⟩
  rw [hq, hz] at hs
  rw [hz] at HC
  rw [hq]
  clear hq hz hr0
  go_enter Try.func36, Try.ntmps36
  go_wp2_with (go_at_call 48; (with_reducible refine HC.out.mono ?_); rintro e w2 ⟨rfl, rfl⟩)
  go_ret
  exact ⟨rfl, rfl⟩
theorem nzp_cont_n (A0 : Option Addr) (c0 n : Nat) (l0 : List Int) (hn : l0.length = n) (w : World) (hr0 : Kd.C (Kd.int .i64) w A0 n l0) :
    Calls Try.prog 36 #[.slice A0 n c0, .func (.func 37) #[] #[]] w fun e w' => e = .returned (.bool (someB l0)) ∧ w = w' := by
  subst hn; exact nzp_contains A0 c0 l0 w hr0
theorem nzr_cont_n (A0 : Option Addr) (c0 n : Nat) (l0 : List Int) (hn : l0.length = n) (w : World) (hr0 : Kd.C (Kd.int .i64) w A0 n l0) :
    Calls Try.prog 36 #[.slice A0 n c0, .func (.func 46) #[] #[]] w fun e w' => e = .returned (.bool (someB l0)) ∧ w = w' := by
  subst hn; exact nzr_contains A0 c0 l0 w hr0
end Go.Proofs.Ytbdbjlfdnijfeaa.Tree
/- For all worlds: tree.part. Conditions: the list can be read; the numbers of pointers are small. -/
namespace Go.Proofs.Ytbdbjlfdnijfeaa.Tree
open Go Go.RowKit Go.Maps Go.Proofs.YtbdbjlfdnijfeaaW.PrintWords Go.Proofs.YtbdbjlfdnijfeaaW.PrintLast Go.Proofs.YtbdbjlfdnijfeaaW.PrintMore
set_option linter.unusedVariables false
set_option linter.unusedSimpArgs false
/-- Pointers from one to another, as many as there would be. -/
def partL (l : List Int) (fr cnt : Nat) : List Int := (l.drop fr).take cnt ++ List.replicate (cnt - (l.length - fr)) 0
theorem partL_length (l : List Int) (fr cnt : Nat) : (partL l fr cnt).length = cnt := by
  simp only [partL, List.length_append, List.length_take, List.length_drop, List.length_replicate]; omega
theorem partL_getD (l : List Int) (fr cnt i : Nat) (hi : i < cnt) : (partL l fr cnt).getD i 0 = l.getD (fr + i) 0 := by
  rw [List.getD_eq_getElem?_getD, List.getD_eq_getElem?_getD, partL]
  by_cases h : i < l.length - fr
  · rw [List.getElem?_append_left (by rw [List.length_take, List.length_drop]; omega), List.getElem?_take, if_pos hi, List.getElem?_drop]
  · rw [List.getElem?_append_right (by rw [List.length_take, List.length_drop]; omega), List.getElem?_replicate, List.getElem?_eq_none (show l.length ≤ fr + i by omega)]
    split <;> rfl
theorem partL_wide {l : List Int} (h : wide l = true) (fr cnt : Nat) : wide (partL l fr cnt) = true := by
  unfold wide partL
  rw [List.all_append, Bool.and_eq_true]
  refine ⟨List.all_eq_true.2 fun x hx => List.all_eq_true.1 h x (List.mem_of_mem_drop (List.mem_of_mem_take hx)), List.all_eq_true.2 fun x hx => ?_⟩
  obtain ⟨_, rfl⟩ := List.mem_replicate.1 hx
  decide
abbrev I : Kd Int := Kd.int .i64
def ivs (l : List Int) : List Value := l.map (Value.int .i64)
theorem ivs_length (l : List Int) : (ivs l).length = l.length := List.length_map ..
theorem part_splice (l : List Int) (fr cnt : Nat) : splice (Array.replicate cnt (Value.int .i64 0)).toList 0 (ivs ((l.drop fr).take cnt)) = ivs (partL l fr cnt) := by
  unfold splice partL ivs
  rw [Array.toList_replicate, List.take_zero, List.nil_append, List.map_append, List.map_replicate, Nat.zero_add, List.drop_replicate, List.length_map, List.length_take, List.length_drop]
  congr 2
  omega
theorem R_ivs {w : World} {base gz n : Nat} {ok : Nat → Prop} {cs : Array Value} {l : List Int} (hb : w.heap[gz]? = some (.cells cs 3 (0, 0))) (hl : cs.toList = ivs l) (hn : l.length = n) (hbase : base ≤ gz) (hok : ok gz) (hm : n ≤ maxLen) :
    I.R 3 w base ok (.slice (some ⟨gz, 0, none⟩) n n) l := by
  subst hn
  have hsz : cs.size = l.length := by rw [← Array.length_toList, hl, ivs_length]
  refine Kd.R_of_own (enc := Value.int .i64) (h1 := fun _ => rfl) ⟨by rw [encs_length, Nat.mul_one], .inr ⟨gz, l.length, cs, rfl, hbase, hb, Nat.le_refl _, hm, by rw [hsz, Nat.mul_one], ?_⟩⟩ (fun k hk => by
    have : gz = k := by simpa [Value.ownBlock] using hk
    exact this ▸ hok)
  rw [Nat.mul_one, List.take_of_length_le (by rw [Array.length_toList, hsz]; exact Nat.le_refl _), hl]
  rfl
theorem C_ivs {w : World} {gz : Nat} {cs : Array Value} {l : List Int} {n : Nat} (hb : w.heap[gz]? = some (.cells cs 3 (0, 0))) (hl : cs.toList = ivs l) (hn : l.length = n) (h63 : n ≤ 9223372036854775807) : I.C w (some ⟨gz, 0, none⟩) n l := by
  subst hn
  refine Kd.C_of_reads (d := (0 : Int)) (h1 := fun _ => rfl) ⟨rfl, h63, fun _ => ⟨_, rfl, fun j hj => ?_⟩⟩
  rw [Addr.add_mid, Nat.zero_add, blk_cell hb, ← Array.getElem?_toList, hl]
  simp [ivs, hj]
theorem copy_srcI {w : World} {m g fr cnt : Nat} {l : List Int} {ad : Addr} (h : I.C w (some ad) m l) (hfr : fr < m) : 0 < (ivs ((l.drop fr).take cnt)).length → (some (⟨g, 0, none⟩ : Addr)) = some ⟨g, 0, none⟩ ∧ ∃ ad', some (ad.add fr) = some ad' ∧ ∀ j v, (ivs ((l.drop fr).take cnt))[j]? = some v → w.cell? (ad'.add j) = some v := by
  intro h0
  refine ⟨rfl, _, rfl, fun j v hv => ?_⟩
  unfold ivs at hv
  rw [List.getElem?_map, List.getElem?_take] at hv
  by_cases hj : j < cnt
  · rw [if_pos hj, List.getElem?_drop] at hv
    cases hx : l[fr + j]? with
    | none => rw [hx] at hv; cases hv
    | some y =>
      rw [hx] at hv
      obtain rfl := Option.some.inj hv
      obtain ⟨ad2, e, hc⟩ := at_i h hx
      obtain rfl := Option.some.inj e
      rw [show (ad.add fr).add j = ad.add (fr + j) from Go.Proofs.YtbdbjlfdnijfeaaW.PrintWords.add_add ad fr j]
      exact hc
  · rw [if_neg hj] at hv; cases hv
theorem ivs_one (l : List Int) : ∀ v ∈ ivs l, v.oneCell' = true := fun v hv => by
  obtain ⟨x, _, rfl⟩ := List.mem_map.1 hv
  rfl
set_option maxRecDepth 100000 in
set_option maxHeartbeats 1000000 in
theorem part_calls (A0 : Option Addr) (c0 : Nat) (l0 : List Int) (fr cnt : Nat) (hcnt : cnt ≤ 1000) (w : World) (hr0 : I.C w A0 l0.length l0) (hc0 : l0.length ≤ c0) :
    Calls Try.prog 19 #[.slice A0 l0.length c0, .int .i64 (fr : Int), .int .i64 (cnt : Int)] w fun e w' => ∃ v, e = .returned (.tuple #[v, .bool (someB (partL l0 fr cnt))]) ∧ I.R 3 w' w.heap.size (fun _ => True) v (partL l0 fr cnt) ∧ Below w.heap.size w w' := by
  have hmk := mkI cnt (by omega)
  obtain ⟨Z, hZ⟩ : ∃ Z, Array.replicate cnt (Value.int .i64 0) = Z := ⟨_, rfl⟩
  rw [hZ] at hmk
  have HZ := Aside0.mk hZ
  obtain ⟨n, hn⟩ : ∃ n, l0.length = n := ⟨_, rfl⟩
  have HN := Aside0.mk hn
  have hn63 := hr0.2.1
  rw [hn] at hr0 hn63 hc0
  rw [hn]
  have HR := Aside0.mk hr0
  obtain ⟨pl, hpl⟩ : ∃ q, partL l0 fr cnt = q := ⟨_, rfl⟩
  obtain ⟨sb, hsb⟩ : ∃ q, someB (partL l0 fr cnt) = q := ⟨_, rfl⟩
  have HPL := Aside0.mk hpl
  have HPN : Aside0 (pl.length = cnt) := ⟨by rw [← hpl]; exact partL_length _ _ _⟩
  rw [hsb, hpl]
  have HSB : Aside0 (someB pl = sb) := ⟨by rw [← hpl]; exact hsb⟩
  have HCNT := Aside0.mk hcnt
  by_cases hlt : fr < n
  · have b1 : decide (fr < n) = true := decide_eq_true hlt
    have hle : fr ≤ n := by omega
    have hlei : (fr : Int) ≤ (n : Int) := by omega
    have hfz : (0 : Int) ≤ (fr : Int) := by omega
    have HLT := Aside0.mk hlt
    have hfc : fr ≠ c0 := by omega
    have hfc2 : c0 ≠ fr := by omega
    have hfc3 : ¬ (c0 - fr = 0) := by omega
    obtain ⟨ad, e, _⟩ := at_i hr0 (k := fr) (p := l0.getD fr 0) (by rw [List.getD_eq_getElem?_getD, List.getElem?_eq_getElem (by omega)]; rfl)
    subst e
    have HLC : Aside0 ((ivs ((l0.drop fr).take cnt)).length = Nat.min (n - fr) cnt) := ⟨by rw [ivs_length, List.length_take, List.length_drop, hn]; exact Nat.min_comm _ _⟩
    have HFIT : Aside0 (0 + (ivs ((l0.drop fr).take cnt)).length ≤ Z.toList.length) := ⟨by rw [HLC.out, ← hZ, Array.toList_replicate, List.length_replicate, Nat.zero_add]; exact Nat.min_le_right _ _⟩
    have HCP : Aside0 (0 < (ivs ((l0.drop fr).take cnt)).length → (some (⟨w.heap.size, 0, none⟩ : Addr)) = some ⟨w.heap.size, 0, none⟩ ∧ ∃ ad', some (ad.add fr) = some ad' ∧ ∀ j v, (ivs ((l0.drop fr).take cnt))[j]? = some v → (w.alloc (.cells Z 3)).cell? (ad'.add j) = some v) := ⟨copy_srcI (Kd.C_below HR.out (below_alloc (Below.refl _ _) _)) HLT.out⟩
    have HSPL : Aside0 (splice Z.toList 0 (ivs ((l0.drop fr).take cnt)) = ivs pl) := ⟨by rw [← hZ, ← hpl]; exact part_splice _ _ _⟩
    clear hr0 hn hZ hpl hsb hlt hcnt
    go_enter Try.func19, Try.ntmps19
    go_wp2_with (first | (with_reducible refine wpList_copy_splice (o := ⟨some 19, _, _, _, _, _⟩) ?ca (.tmp 15) (.tmp 18) 22 22 ?co 3 ?cu ?ci (some ⟨w.heap.size, 0, none⟩) (some (ad.add fr)) cnt cnt (n - fr) (c0 - fr) ?cd ?cs w.heap.size 0 Z.toList 3 ?cg (ivs ((l0.drop fr).take cnt)) ?cn ?cp ?cf ?c1 w.heap.size w ?cb ?cl ?_; (case ca => rfl); (case co => rfl); (case cu => exact Try.underlying22); (case ci => kernel_rfl); (case cd => with_unfolding_all rfl); (case cs => with_unfolding_all rfl); (case cl => exact Nat.le_refl _); (case cg => exact blk_new w _); (case cn => exact HLC.out); (case cp => exact HCP.out); (case cf => exact HFIT.out); (case c1 => exact ivs_one _); (case cb => exact below_alloc (Below.refl _ _) _); intro w3 hw3 hb3; have hg3 := hw3.out; rw [HSPL.out] at hg3; have HG3 := Aside0.mk hg3; have HB3 := Aside0.mk hb3; have HC3 := Aside0.mk (C_ivs hg3 rfl HPN.out (by have := HCNT.out; omega)); clear hw3 hb3 hg3) | (go_at_call 36; (with_reducible refine (nzp_cont_n (some ⟨w.heap.size, 0, none⟩) cnt cnt pl HPN.out _ HC3.out).mono ?_); rintro e w4 ⟨rfl, rfl⟩))
    go_ret2
    rw [HSB.out]
    exact ⟨_, rfl, R_ivs HG3.out rfl HPN.out (Nat.le_refl _) trivial (by have := HCNT.out; unfold maxLen; omega), HB3.out⟩
  · have b1 : decide (fr < n) = false := decide_eq_false hlt
    have HZP : Aside0 (Z.toList = ivs pl) := ⟨by
      rw [← hZ, ← hpl, partL, List.drop_of_length_le (by omega), List.take_nil, List.nil_append, show l0.length - fr = 0 by omega, Array.toList_replicate]
      unfold ivs
      rw [List.map_replicate, Nat.sub_zero]⟩
    have HC3 : Aside0 (I.C (w.alloc (.cells Z 3)) (some ⟨w.heap.size, 0, none⟩) cnt pl) := ⟨C_ivs (blk_new w _) HZP.out HPN.out (by omega)⟩
    clear hr0 hn hZ hpl hsb hlt hcnt
    go_enter Try.func19, Try.ntmps19
    go_wp2_with (go_at_call 36; (with_reducible refine (nzp_cont_n (some ⟨w.heap.size, 0, none⟩) cnt cnt pl HPN.out _ HC3.out).mono ?_); rintro e w4 ⟨rfl, rfl⟩)
    go_ret2
    rw [HSB.out]
    exact ⟨_, rfl, R_ivs (blk_new w _) HZP.out HPN.out (Nat.le_refl _) trivial (by have := HCNT.out; unfold maxLen; omega), below_alloc (Below.refl _ _) _⟩
theorem part_at (A0 : Option Addr) (c0 n : Nat) (l0 : List Int) (hn : l0.length = n) (fr cnt : Nat) (frI cntI : Int) (h1 : (fr : Int) = frI) (h2 : (cnt : Int) = cntI) (hcnt : cnt ≤ 1000) (w : World) (hr0 : I.C w A0 n l0) (hc0 : n ≤ c0) :
    Calls Try.prog 19 #[.slice A0 n c0, .int .i64 frI, .int .i64 cntI] w fun e w' => ∃ v, e = .returned (.tuple #[v, .bool (someB (partL l0 fr cnt))]) ∧ I.R 3 w' w.heap.size (fun _ => True) v (partL l0 fr cnt) ∧ Below w.heap.size w w' := by
  subst hn h1 h2; exact part_calls A0 c0 l0 fr cnt hcnt w hr0 hc0
end Go.Proofs.Ytbdbjlfdnijfeaa.Tree
