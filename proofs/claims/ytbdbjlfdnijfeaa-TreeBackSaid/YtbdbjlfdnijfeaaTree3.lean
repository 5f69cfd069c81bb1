/- For all worlds: tree.part. Conditions: the list can be read; the numbers of pointers are small. -/
import Derived.Test.YtbdbjlfdnijfeaaTree2
namespace Go.Proofs.Ytbdbjlfdnijfeaa.Tree
open Go Go.RowKit Go.Maps Go.Proofs.YtbdbjlfdnijfeaaW.PrintWords Go.Proofs.YtbdbjlfdnijfeaaW.PrintLast Go.Proofs.YtbdbjlfdnijfeaaW.PrintMore
set_option linter.unusedVariables false
set_option linter.unusedSimpArgs false
/-- Pointers from one to another, as many as there would be. -/
def partL (l : List Int) (fr cnt : Nat) : List Int := (l.drop fr).take cnt ++ List.replicate (cnt - (l.length - fr)) 0
theorem partL_length (l : List Int) (fr cnt : Nat) : (partL l fr cnt).length = cnt := by
  simp only [partL, List.length_append, List.length_take, List.length_drop, List.length_replicate]; omega
theorem partL_getD (l : List Int) (fr cnt i : Nat) (hi : i < cnt) : (partL l fr cnt).getD i 0 = l.getD (fr + i) 0 := by
  rw [List.getD_eq_getElem?_getD, List.getD_eq_getElem?_getD, partL]
  by_cases h : i < l.length - fr
  · rw [List.getElem?_append_left (by rw [List.length_take, List.length_drop]; omega), List.getElem?_take, if_pos hi, List.getElem?_drop]
  · rw [List.getElem?_append_right (by rw [List.length_take, List.length_drop]; omega), List.getElem?_replicate, List.getElem?_eq_none (show l.length ≤ fr + i by omega)]
    split <;> rfl
theorem partL_wide {l : List Int} (h : wide l = true) (fr cnt : Nat) : wide (partL l fr cnt) = true := by
  unfold wide partL
  rw [List.all_append, Bool.and_eq_true]
  refine ⟨List.all_eq_true.2 fun x hx => List.all_eq_true.1 h x (List.mem_of_mem_drop (List.mem_of_mem_take hx)), List.all_eq_true.2 fun x hx => ?_⟩
  obtain ⟨_, rfl⟩ := List.mem_replicate.1 hx
  decide
abbrev I : Kd Int := Kd.int .i64
def ivs (l : List Int) : List Value := l.map (Value.int .i64)
theorem ivs_length (l : List Int) : (ivs l).length = l.length := List.length_map ..
theorem part_splice (l : List Int) (fr cnt : Nat) : splice (Array.replicate cnt (Value.int .i64 0)).toList 0 (ivs ((l.drop fr).take cnt)) = ivs (partL l fr cnt) := by
  unfold splice partL ivs
  rw [Array.toList_replicate, List.take_zero, List.nil_append, List.map_append, List.map_replicate, Nat.zero_add, List.drop_replicate, List.length_map, List.length_take, List.length_drop]
  congr 2
  omega
theorem R_ivs {w : World} {base gz n : Nat} {ok : Nat → Prop} {cs : Array Value} {l : List Int} (hb : w.heap[gz]? = some (.cells cs 3 (0, 0))) (hl : cs.toList = ivs l) (hn : l.length = n) (hbase : base ≤ gz) (hok : ok gz) (hm : n ≤ maxLen) :
    I.R 3 w base ok (.slice (some ⟨gz, 0, none⟩) n n) l := by
  subst hn
  have hsz : cs.size = l.length := by rw [← Array.length_toList, hl, ivs_length]
  refine Kd.R_of_own (enc := Value.int .i64) (h1 := fun _ => rfl) ⟨by rw [encs_length, Nat.mul_one], .inr ⟨gz, l.length, cs, rfl, hbase, hb, Nat.le_refl _, hm, by rw [hsz, Nat.mul_one], ?_⟩⟩ (fun k hk => by
    have : gz = k := by simpa [Value.ownBlock] using hk
    exact this ▸ hok)
  rw [Nat.mul_one, List.take_of_length_le (by rw [Array.length_toList, hsz]; exact Nat.le_refl _), hl]
  rfl
theorem C_ivs {w : World} {gz : Nat} {cs : Array Value} {l : List Int} {n : Nat} (hb : w.heap[gz]? = some (.cells cs 3 (0, 0))) (hl : cs.toList = ivs l) (hn : l.length = n) (h63 : n ≤ 9223372036854775807) : I.C w (some ⟨gz, 0, none⟩) n l := by
  subst hn
  refine Kd.C_of_reads (d := (0 : Int)) (h1 := fun _ => rfl) ⟨rfl, h63, fun _ => ⟨_, rfl, fun j hj => ?_⟩⟩
  rw [Addr.add_mid, Nat.zero_add, blk_cell hb, ← Array.getElem?_toList, hl]
  simp [ivs, hj]
theorem copy_srcI {w : World} {m g fr cnt : Nat} {l : List Int} {ad : Addr} (h : I.C w (some ad) m l) (hfr : fr < m) : 0 < (ivs ((l.drop fr).take cnt)).length → (some (⟨g, 0, none⟩ : Addr)) = some ⟨g, 0, none⟩ ∧ ∃ ad', some (ad.add fr) = some ad' ∧ ∀ j v, (ivs ((l.drop fr).take cnt))[j]? = some v → w.cell? (ad'.add j) = some v := by
  intro h0
  refine ⟨rfl, _, rfl, fun j v hv => ?_⟩
  unfold ivs at hv
  rw [List.getElem?_map, List.getElem?_take] at hv
  by_cases hj : j < cnt
  · rw [if_pos hj, List.getElem?_drop] at hv
    cases hx : l[fr + j]? with
    | none => rw [hx] at hv; cases hv
    | some y =>
      rw [hx] at hv
      obtain rfl := Option.some.inj hv
      obtain ⟨ad2, e, hc⟩ := at_i h hx
      obtain rfl := Option.some.inj e
      rw [show (ad.add fr).add j = ad.add (fr + j) from Go.Proofs.YtbdbjlfdnijfeaaW.PrintWords.add_add ad fr j]
      exact hc
  · rw [if_neg hj] at hv; cases hv
theorem ivs_one (l : List Int) : ∀ v ∈ ivs l, v.oneCell' = true := fun v hv => by
  obtain ⟨x, _, rfl⟩ := List.mem_map.1 hv
  rfl
set_option maxRecDepth 100000 in
set_option maxHeartbeats 1000000 in
theorem part_calls (A0 : Option Addr) (c0 : Nat) (l0 : List Int) (fr cnt : Nat) (hcnt : cnt ≤ 1000) (w : World) (hr0 : I.C w A0 l0.length l0) (hc0 : l0.length ≤ c0) :
    Calls Try.prog 19 #[.slice A0 l0.length c0, .int .i64 (fr : Int), .int .i64 (cnt : Int)] w fun e w' => ∃ v, e = .returned (.tuple #[v, .bool (someB (partL l0 fr cnt))]) ∧ I.R 3 w' w.heap.size (fun _ => True) v (partL l0 fr cnt) ∧ Below w.heap.size w w' := by
  have hmk := mkI cnt (by omega)
  obtain ⟨Z, hZ⟩ : ∃ Z, Array.replicate cnt (Value.int .i64 0) = Z := ⟨_, rfl⟩
  rw [hZ] at hmk
  have HZ := Aside0.mk hZ
  obtain ⟨n, hn⟩ : ∃ n, l0.length = n := ⟨_, rfl⟩
  have HN := Aside0.mk hn
  have hn63 := hr0.2.1
  rw [hn] at hr0 hn63 hc0
  rw [hn]
  have HR := Aside0.mk hr0
  obtain ⟨pl, hpl⟩ : ∃ q, partL l0 fr cnt = q := ⟨_, rfl⟩
  obtain ⟨sb, hsb⟩ : ∃ q, someB (partL l0 fr cnt) = q := ⟨_, rfl⟩
  have HPL := Aside0.mk hpl
  have HPN : Aside0 (pl.length = cnt) := ⟨by rw [← hpl]; exact partL_length _ _ _⟩
  rw [hsb, hpl]
  have HSB : Aside0 (someB pl = sb) := ⟨by rw [← hpl]; exact hsb⟩
  have HCNT := Aside0.mk hcnt
  by_cases hlt : fr < n
  · have b1 : decide (fr < n) = true := decide_eq_true hlt
    have hle : fr ≤ n := by omega
    have hlei : (fr : Int) ≤ (n : Int) := by omega
    have hfz : (0 : Int) ≤ (fr : Int) := by omega
    have HLT := Aside0.mk hlt
    have hfc : fr ≠ c0 := by omega
    have hfc2 : c0 ≠ fr := by omega
    have hfc3 : ¬ (c0 - fr = 0) := by omega
    obtain ⟨ad, e, _⟩ := at_i hr0 (k := fr) (p := l0.getD fr 0) (by rw [List.getD_eq_getElem?_getD, List.getElem?_eq_getElem (by omega)]; rfl)
    subst e
    have HLC : Aside0 ((ivs ((l0.drop fr).take cnt)).length = Nat.min (n - fr) cnt) := ⟨by rw [ivs_length, List.length_take, List.length_drop, hn]; exact Nat.min_comm _ _⟩
    have HFIT : Aside0 (0 + (ivs ((l0.drop fr).take cnt)).length ≤ Z.toList.length) := ⟨by rw [HLC.out, ← hZ, Array.toList_replicate, List.length_replicate, Nat.zero_add]; exact Nat.min_le_right _ _⟩
    have HCP : Aside0 (0 < (ivs ((l0.drop fr).take cnt)).length → (some (⟨w.heap.size, 0, none⟩ : Addr)) = some ⟨w.heap.size, 0, none⟩ ∧ ∃ ad', some (ad.add fr) = some ad' ∧ ∀ j v, (ivs ((l0.drop fr).take cnt))[j]? = some v → (w.alloc (.cells Z 3)).cell? (ad'.add j) = some v) := ⟨copy_srcI (Kd.C_below HR.out (below_alloc (Below.refl _ _) _)) HLT.out⟩
    have HSPL : Aside0 (splice Z.toList 0 (ivs ((l0.drop fr).take cnt)) = ivs pl) := ⟨by rw [← hZ, ← hpl]; exact part_splice _ _ _⟩
    clear hr0 hn hZ hpl hsb hlt hcnt
    go_enter Try.func19, Try.ntmps19
    go_wp2_with (first | (with_reducible refine wpList_copy_splice (o := ⟨some 19, _, _, _, _, _⟩) ?ca (.tmp 15) (.tmp 18) 22 22 ?co 3 ?cu ?ci (some ⟨w.heap.size, 0, none⟩) (some (ad.add fr)) cnt cnt (n - fr) (c0 - fr) ?cd ?cs w.heap.size 0 Z.toList 3 ?cg (ivs ((l0.drop fr).take cnt)) ?cn ?cp ?cf ?c1 w.heap.size w ?cb ?cl ?_; (case ca => rfl); (case co => rfl); (case cu => exact Try.underlying22); (case ci => kernel_rfl); (case cd => with_unfolding_all rfl); (case cs => with_unfolding_all rfl); (case cl => exact Nat.le_refl _); (case cg => exact blk_new w _); (case cn => exact HLC.out); (case cp => exact HCP.out); (case cf => exact HFIT.out); (case c1 => exact ivs_one _); (case cb => exact below_alloc (Below.refl _ _) _); intro w3 hw3 hb3; have hg3 := hw3.out; rw [HSPL.out] at hg3; have HG3 := Aside0.mk hg3; have HB3 := Aside0.mk hb3; have HC3 := Aside0.mk (C_ivs hg3 rfl HPN.out (by have := HCNT.out; omega)); clear hw3 hb3 hg3) | (go_at_call 36; (with_reducible refine (nzp_cont_n (some ⟨w.heap.size, 0, none⟩) cnt cnt pl HPN.out _ HC3.out).mono ?_); rintro e w4 ⟨rfl, rfl⟩))
    go_ret2
    rw [HSB.out]
    exact ⟨_, rfl, R_ivs HG3.out rfl HPN.out (Nat.le_refl _) trivial (by have := HCNT.out; unfold maxLen; omega), HB3.out⟩
  · have b1 : decide (fr < n) = false := decide_eq_false hlt
    have HZP : Aside0 (Z.toList = ivs pl) := ⟨by
      rw [← hZ, ← hpl, partL, List.drop_of_length_le (by omega), List.take_nil, List.nil_append, show l0.length - fr = 0 by omega, Array.toList_replicate]
      unfold ivs
      rw [List.map_replicate, Nat.sub_zero]⟩
    have HC3 : Aside0 (I.C (w.alloc (.cells Z 3)) (some ⟨w.heap.size, 0, none⟩) cnt pl) := ⟨C_ivs (blk_new w _) HZP.out HPN.out (by omega)⟩
    clear hr0 hn hZ hpl hsb hlt hcnt
    go_enter Try.func19, Try.ntmps19
    go_wp2_with (go_at_call 36; (with_reducible refine (nzp_cont_n (some ⟨w.heap.size, 0, none⟩) cnt cnt pl HPN.out _ HC3.out).mono ?_); rintro e w4 ⟨rfl, rfl⟩)
    go_ret2
    rw [HSB.out]
    exact ⟨_, rfl, R_ivs (blk_new w _) HZP.out HPN.out (Nat.le_refl _) trivial (by have := HCNT.out; unfold maxLen; omega), below_alloc (Below.refl _ _) _⟩
theorem part_at (A0 : Option Addr) (c0 n : Nat) (l0 : List Int) (hn : l0.length = n) (fr cnt : Nat) (frI cntI : Int) (h1 : (fr : Int) = frI) (h2 : (cnt : Int) = cntI) (hcnt : cnt ≤ 1000) (w : World) (hr0 : I.C w A0 n l0) (hc0 : n ≤ c0) :
    Calls Try.prog 19 #[.slice A0 n c0, .int .i64 frI, .int .i64 cntI] w fun e w' => ∃ v, e = .returned (.tuple #[v, .bool (someB (partL l0 fr cnt))]) ∧ I.R 3 w' w.heap.size (fun _ => True) v (partL l0 fr cnt) ∧ Below w.heap.size w w' := by
  subst hn h1 h2; exact part_calls A0 c0 l0 fr cnt hcnt w hr0 hc0
end Go.Proofs.Ytbdbjlfdnijfeaa.Tree
