/- For all worlds: package tree's Pointers (a map as a set), node.Data. Conditions: the list can be read; its numbers are 64 bits wide; it is no longer than a slice may be. -/
import Derived.Test.YtbdbjlfdnijfeaaProg
import Derived.Test.YtbdbjlfdnijfeaaWWords
import Derived.Test.YtbdbjlfdnijfeaaWLast
import Derived.Test.YtbdbjlfdnijfeaaWMore
import Derived.Test.YtbdbjlfdnijfeaaWArr
import Derived.Test.YtbdbjlfdnijfeaaWTab
import Derived.WalkKit
import Derived.KernelRfl
import Derived.WalkSpells
import Derived.Deep.QuietTactic
import Derived.BigQuiet
import Derived.Deep.LoopGhost
import Derived.Outline
import Derived.OwnWalk
import Derived.Laws.Cover3
import Derived.Deep.MidRow
import Derived.OrdersHeld
import Derived.Laws.MakeOwn
import Derived.Maps.OwnSet
namespace Go.Proofs.Ytbdbjlfdnijfeaa.Tree
open Go Go.RowKit Go.Maps Go.Proofs.YtbdbjlfdnijfeaaW.PrintWords Go.Proofs.YtbdbjlfdnijfeaaW.PrintLast Go.Proofs.YtbdbjlfdnijfeaaW.PrintMore
set_option linter.unusedVariables false
set_option linter.unusedSimpArgs false
/-- Is it a data block? -/
def dataB (p : Int) : Bool := decide (59 ≤ p) && decide (p < 480)
theorem data_calls (p : Int) (w : World) : Calls Try.prog 35 #[.int .i64 p] w fun e w' => e = .returned (.bool (dataB p)) ∧ w = w' := by
  unfold dataB
  by_cases h1 : 59 ≤ p
  · have b1 : decide (59 ≤ p) = true := decide_eq_true h1
    rw [b1]
    go_enter Try.func35, Try.ntmps35
    go_wp2_with fail
    go_ret
    exact ⟨by rw [Bool.true_and]; rfl, rfl⟩
  · have b1 : decide (59 ≤ p) = false := decide_eq_false h1
    rw [b1]
    go_enter Try.func35, Try.ntmps35
    go_wp2_with fail
    go_ret
    exact ⟨rfl, rfl⟩
/-- May p stand behind those that were seen? -/
def okP (seen : List Int) (p : Int) : Bool := p == 0 || (!seen.contains p && dataB p)
def apartB : List Int → List Int → Bool
  | _, [] => true
  | seen, p :: r => okP seen p && apartB (seen ++ [p]) r
def ptsB (l : List Int) : Bool := apartB [] l && decide (l.length ≤ 96)
def wide (l : List Int) : Bool := l.all (fun x => (Lit.int .i64 x).wf)
def keysOf (l : List Int) : List Lit := l.map (Lit.int .i64)
theorem keys_ok (l : List Int) : ∀ x ∈ keysOf l, WideAt.IsKeyLit x := fun x hx => by
  obtain ⟨y, _, rfl⟩ := List.mem_map.1 hx
  trivial
theorem has_keys (l : List Int) (p : Int) : Maps.has (setOf (DataW.agg [] : DataW Unit) (keysOf l)) (.int .i64 p) = l.contains p := by
  rw [has_setOf _ _ _ (keys_ok l)]
  unfold keysOf
  rw [List.any_map]
  induction l with
  | nil => rfl
  | cons x l ih => 
    rw [List.any_cons, ih, List.contains_cons]
    congr 1
    simp only [Function.comp, Lit.sameKey]
    by_cases h : x = p
    · subst h; simp
    · rw [show (p == x) = false from beq_eq_false_iff_ne.2 (Ne.symm h)]; simp [h]
theorem apartB_append : ∀ (l : List Int) (seen : List Int) (p : Int), apartB seen (l ++ [p]) = (apartB seen l && okP (seen ++ l) p)
  | [], seen, p => by simp [apartB]
  | x :: l, seen, p => by
    rw [List.cons_append, apartB, apartB_append l, apartB, Bool.and_assoc, List.append_assoc]
    rfl
theorem apartB_false : ∀ (l : List Int) (seen : List Int) (k : Nat) (p : Int), l[k]? = some p → okP (seen ++ l.take k) p = false → apartB seen l = false
  | [], seen, k, p, h, _ => by simp at h
  | x :: l, seen, 0, p, h, hp => by
    obtain rfl := Option.some.inj h
    rw [List.take_zero, List.append_nil] at hp
    rw [apartB, hp, Bool.false_and]
  | x :: l, seen, k + 1, p, h, hp => by
    rw [apartB, apartB_false l (seen ++ [x]) k p h (by rw [List.append_assoc]; exact hp), Bool.and_false]
theorem law3 : Keyed Try.prog 3 := int_keyed Try.underlying3
theorem zeroU (w : World) : (zeroValue 66).run Try.prog w = .ok (.agg #[]) w := by kernel_rfl
def setU (l : List Int) : DataW Unit := setOf (DataW.agg [] : DataW Unit) (keysOf l)
theorem setU_snoc (l : List Int) (p : Int) : setU (l ++ [p]) = (setU l).put (.int .i64 p) (.agg []) := by
  unfold setU keysOf
  rw [List.map_append, List.map_cons, List.map_nil, setOf_snoc]
theorem take_snoc {l : List Int} {k : Nat} {p : Int} (h : l[k]? = some p) : l.take (k + 1) = l.take k ++ [p] := by
  obtain ⟨hk, e⟩ := List.getElem?_eq_some_iff.1 h
  rw [List.take_succ_eq_append_getElem hk, e]
set_option maxHeartbeats 1000000 in
theorem pointers_calls (A0 : Option Addr) (c0 : Nat) (l0 : List Int) (w : World) (hr0 : Kd.C (Kd.int .i64) w A0 l0.length l0) (hw : wide l0 = true) :
    Calls Try.prog 18 #[.slice A0 l0.length c0] w fun e w' => e = .returned (.bool (ptsB l0)) ∧ Below w.heap.size w w' := by
  have hmm := @run_makeMap Try.prog
  obtain ⟨n, hn⟩ : ∃ n, l0.length = n := ⟨_, rfl⟩
  have HN := Aside0.mk hn
  have hn63 := hr0.2.1
  rw [hn] at hr0 hn63
  rw [hn]
  have HR := Aside0.mk hr0
  have HW : Aside0 (∀ x ∈ l0, (Lit.int .i64 x).wf = true) := ⟨fun x hx => List.all_eq_true.1 hw x hx⟩
  clear hr0 hw hn
  go_enter Try.func18, Try.ntmps18
  go_wp2_with fail
  go_loopg [11] n (fun gg i wr => ∃ k : Nat, k ≤ n ∧ n - k ≤ gg ∧ i = .int .i64 k ∧ Aside0 (wr.ownsMap Try.prog 3 (unitElem (H := Unit)) w.heap.size k (setU (l0.take k))) ∧ Aside0 (Below w.heap.size w wr) ∧ Aside0 (apartB [] (l0.take k) = true))
  case atStart => exact ⟨0, Nat.zero_le _, Nat.le_refl _, rfl, ⟨World.ownsMap_made _ _ _ _⟩, ⟨below_alloc (Below.refl _ _) _⟩, ⟨rfl⟩⟩
  case round =>
    obtain ⟨k, hk, hgk, rfl, HO, HB, HA⟩ := hrel
    by_cases hlt : k < n
    · have b1 : decide (k < n) = true := decide_eq_true hlt
      obtain ⟨p, hp⟩ : ∃ p, l0[k]? = some p := ⟨_, List.getElem?_eq_getElem (by have := HN.out; omega)⟩
      obtain ⟨ad, e, hc⟩ := Kd.at_int (Kd.C_below HR.out HB.out) (k : Int) (by omega) (by omega)
      subst e
      rw [Int.toNat_natCast, show rd l0 (k : Int) = p from by show l0.getD (k : Int).toNat 0 = p; rw [Int.toNat_natCast, List.getD_eq_getElem?_getD, hp]; rfl] at hc
      have hkey : keyOf Try.prog 3 (.int .i64 p) = some (.int .i64 p) := keyOf_int_mk Try.underlying3 (HW.out p (List.mem_of_getElem? hp))
      have HP := Aside0.mk hp
      have HKEY := Aside0.mk hkey
      have hkz : (0 : Int) ≤ (k : Int) := by omega
      have hkn : (k : Int) < (n : Int) := by omega
      obtain ⟨sn, hsn⟩ : ∃ q, Maps.has (setU (l0.take k)) (.int .i64 p) = q := ⟨_, rfl⟩
      have HSN : Aside0 ((l0.take k).contains p = sn) := ⟨by rw [← hsn]; exact (has_keys _ _).symm⟩
      have hml : k < maxLen := by unfold maxLen; omega
      have HML := Aside0.mk hml
      clear hkey hp hml
      by_cases hp0 : p = 0
      · have bp : (p != 0) = false := bne_eq_false_iff_eq.2 hp0
        have bp2 : (p == 0) = true := beq_iff_eq.2 hp0
        have HOK : Aside0 (okP (l0.take k) p = true) := ⟨by unfold okP; rw [bp2]; rfl⟩
        clear hp0
        go_wp2_with (first | (at_lookup; refine wpList_lookup_own_unit _ rfl _ _ 65 rfl 3 66 law3 Try.underlying65 (zeroU _) w.heap.size k _ rfl HO.out _ _ rfl HKEY.out ?_; rw [hsn]) | (go_at_call 35; (with_reducible refine (data_calls p _).mono ?_); rintro e w2 ⟨rfl, rfl⟩) | (at_mapUpdate; refine wpList_mapUpdate_own _ rfl _ _ _ 65 rfl 3 66 law3 Try.underlying65 (unitElem (H := Unit)) w.heap.size k _ rfl (HO.out.alloc _) HML.out _ _ _ rfl rfl HKEY.out _ [] unitElem_mk ?_; intro w1 hown1 hgrow1; have HO1 := Aside0.mk hown1; have HG1 := Aside0.mk hgrow1; clear hown1 hgrow1))
        go_roundg (n - (k + 1))
        case measure => omega
        case rel =>
          refine ⟨k + 1, by omega, Nat.le_refl _, by go_num, ⟨?_⟩, ⟨((below_alloc HB.out _).grown HG1.out (by have := HB.out.size; rw [World.size_alloc]; omega) (fun j hj => by cases hj; exact Nat.le_refl _))⟩, ⟨?_⟩⟩
          · rw [take_snoc HP.out, setU_snoc]; exact HO1.out
          · rw [take_snoc HP.out, apartB_append, HA.out, List.nil_append, HOK.out]; rfl
      have bp : (p != 0) = true := bne_iff_ne.2 hp0
      have bp2 : (p == 0) = false := beq_eq_false_iff_ne.2 hp0
      have hok : okP (l0.take k) p = (!sn && dataB p) := by unfold okP; rw [bp2, HSN.out]; rfl
      obtain ⟨dp, hdp⟩ : ∃ q, dataB p = q := ⟨_, rfl⟩
      rw [hdp] at hok
      clear hp0
      cases sn with
      | true =>
        have HOK : Aside0 (okP (l0.take k) p = false) := ⟨by rw [hok]; rfl⟩
        clear hok
        go_wp2_with (first | (at_lookup; refine wpList_lookup_own_unit _ rfl _ _ 65 rfl 3 66 law3 Try.underlying65 (zeroU _) w.heap.size k _ rfl HO.out _ _ rfl HKEY.out ?_; rw [hsn]) | (go_at_call 35; (with_reducible refine (data_calls p _).mono ?_); rintro e w2 ⟨rfl, rfl⟩))
        go_ret
        refine ⟨?_, below_alloc HB.out _⟩
        unfold ptsB
        rw [apartB_false l0 [] k p HP.out (by rw [List.nil_append]; exact HOK.out), Bool.false_and]; rfl
      | false =>
        cases dp with
        | false =>
          have HOK : Aside0 (okP (l0.take k) p = false) := ⟨by rw [hok]; rfl⟩
          clear hok
          go_wp2_with (first | (at_lookup; refine wpList_lookup_own_unit _ rfl _ _ 65 rfl 3 66 law3 Try.underlying65 (zeroU _) w.heap.size k _ rfl HO.out _ _ rfl HKEY.out ?_; rw [hsn]) | (go_at_call 35; (with_reducible refine (data_calls p _).mono ?_); rintro e w2 ⟨rfl, rfl⟩; rw [hdp]))
          go_ret
          refine ⟨?_, below_alloc HB.out _⟩
          unfold ptsB
          rw [apartB_false l0 [] k p HP.out (by rw [List.nil_append]; exact HOK.out), Bool.false_and]; rfl
        | true =>
          have HOK : Aside0 (okP (l0.take k) p = true) := ⟨by rw [hok]; rfl⟩
          clear hok
          go_wp2_with (first | (at_lookup; refine wpList_lookup_own_unit _ rfl _ _ 65 rfl 3 66 law3 Try.underlying65 (zeroU _) w.heap.size k _ rfl HO.out _ _ rfl HKEY.out ?_; rw [hsn]) | (go_at_call 35; (with_reducible refine (data_calls p _).mono ?_); rintro e w2 ⟨rfl, rfl⟩; rw [hdp]) | (at_mapUpdate; refine wpList_mapUpdate_own _ rfl _ _ _ 65 rfl 3 66 law3 Try.underlying65 (unitElem (H := Unit)) w.heap.size k _ rfl (HO.out.alloc _) HML.out _ _ _ rfl rfl HKEY.out _ [] unitElem_mk ?_; intro w1 hown1 hgrow1; have HO1 := Aside0.mk hown1; have HG1 := Aside0.mk hgrow1; clear hown1 hgrow1))
          go_roundg (n - (k + 1))
          case measure => omega
          case rel =>
            refine ⟨k + 1, by omega, Nat.le_refl _, by go_num, ⟨?_⟩, ⟨((below_alloc HB.out _).grown HG1.out (by have := HB.out.size; rw [World.size_alloc]; omega) (fun j hj => by cases hj; exact Nat.le_refl _))⟩, ⟨?_⟩⟩
            · rw [take_snoc HP.out, setU_snoc]; exact HO1.out
            · rw [take_snoc HP.out, apartB_append, HA.out, List.nil_append, HOK.out]; rfl
    · have b1 : decide (k < n) = false := decide_eq_false hlt
      have hkn : k = n := by omega
      have HE : Aside0 (apartB [] l0 = true) := ⟨by have h := HA.out; rw [hkn, ← HN.out, List.take_length] at h; exact h⟩
      clear hlt
      go_wp2_with fail
      go_ret
      refine ⟨?_, HB.out⟩
      unfold ptsB
      rw [HE.out, HN.out, Bool.true_and]
      show Ending.returned (.bool (decide ((n : Int) ≤ 96))) = _
      congr 2
      exact decide_eq_decide.2 (by omega)
end Go.Proofs.Ytbdbjlfdnijfeaa.Tree
