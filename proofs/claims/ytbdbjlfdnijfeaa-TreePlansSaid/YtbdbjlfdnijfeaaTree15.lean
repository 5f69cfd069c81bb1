/- For all worlds: tree.Block (slices.IndexFunc with its closure over a row of writes). Conditions: the row can be read. -/
import Derived.Test.YtbdbjlfdnijfeaaTree14
namespace Go.Proofs.Ytbdbjlfdnijfeaa.Tree
open Go Go.RowKit Go.Maps Go.Proofs.YtbdbjlfdnijfeaaW.PrintWords Go.Proofs.YtbdbjlfdnijfeaaW.PrintLast Go.Proofs.YtbdbjlfdnijfeaaW.PrintMore
set_option linter.unusedVariables false
set_option linter.unusedSimpArgs false
set_option maxRecDepth 100000
theorem at_w {w : World} {A : Option Addr} {n : Nat} {xs : List Wr} (h : kW.C w A n xs) {k : Nat} {x : Wr} (hk : xs[k]? = some x) :
    ∃ ad A1 c1, A = some ad ∧ w.cell? (ad.add (k * 2)) = some (.int .i64 x.tgt) ∧ w.cell? ⟨(ad.add (k * 2)).block, (ad.add (k * 2)).off + 1, none⟩ = some (.slice A1 x.data.length c1) ∧ x.data.length ≤ c1 ∧ U.C w A1 x.data.length x.data := by
  have hl : k < n := by rw [← h.1]; exact (List.getElem?_eq_some_iff.1 hk).1
  obtain ⟨ad, c, e, _, hK, hc0⟩ := Kd.C_get h zW (k : Int) (by omega) (by omega)
  have hc : ∀ j u, c[j]? = some u → w.cell? (ad.add (k * 2 + j)) = some u := hc0
  rw [show xs.getD (k : Int).toNat zW = x from by rw [Int.toNat_natCast, List.getD_eq_getElem?_getD, hk]; rfl] at hK
  obtain ⟨A1, c1, rfl, l1, g1⟩ := kW_open hK
  exact ⟨ad, A1, c1, e, hc 0 _ rfl, by rw [← add_field _ _ 1 (by omega)]; exact hc 1 _ rfl, l1, g1⟩
theorem bclo_calls (gb : Nat) (at_ : Int) (t : Int) (v : Value) (w : World) (hv : v.oneCell' = true) (hb : w.heap[gb]? = some (.cells #[.int .i64 at_] 3 (0, 0))) :
    Calls Try.prog 54 #[.agg #[.int .i64 t, v], .pointer (some ⟨gb, 0, none⟩)] w fun e w' => e = .returned (.bool (t == at_)) ∧ Below w.heap.size w w' := by
  have c0 := blk_cell hb 0
  have hlt := blk_lt hb
  have hc := Aside0.mk hb
  clear hb
  go_enter Try.func54, Try.ntmps54
  go_wp2_with fail
  go_ret
  exact ⟨rfl, below_alloc (Below.refl _ _) _⟩
def idxW (l : List Wr) (v : Int) : Int := match l.findIdx? (fun x => x.tgt == v) with
  | some k => (k : Int)
  | none => -1
theorem idxW_at {l : List Wr} {v : Int} {k : Nat} {x : Wr} (hk : l[k]? = some x) (hx : (x.tgt == v) = true) (hb : ∀ (j : Nat) (x : Wr), j < k → l[j]? = some x → (x.tgt == v) = false) : idxW l v = (k : Int) := by
  obtain ⟨hl, e⟩ := List.getElem?_eq_some_iff.1 hk
  have h : l.findIdx? (fun x => x.tgt == v) = some k := List.findIdx?_eq_some_iff_getElem.2 ⟨hl, by rw [e]; exact hx, fun j hj => by
    rw [hb j l[j] hj (List.getElem?_eq_getElem (by omega))]; decide⟩
  unfold idxW
  rw [h]
theorem idxW_none {l : List Wr} {v : Int} (hb : ∀ (j : Nat) (x : Wr), l[j]? = some x → (x.tgt == v) = false) : idxW l v = -1 := by
  have h : l.findIdx? (fun x => x.tgt == v) = none := List.findIdx?_eq_none_iff.2 (fun x hx => by
    obtain ⟨j, hj⟩ := List.mem_iff_getElem?.1 hx
    exact hb j x hj)
  unfold idxW
  rw [h]
theorem idxW_find (l : List Wr) (v : Int) : (∃ (k : Nat) (x : Wr), idxW l v = (k : Int) ∧ l[k]? = some x ∧ l.find? (fun x => x.tgt == v) = some x) ∨ (idxW l v = -1 ∧ l.find? (fun x => x.tgt == v) = none) := by
  unfold idxW
  cases h : l.findIdx? (fun x => x.tgt == v) with
  | none =>
    refine .inr ⟨rfl, List.find?_eq_none.2 fun x hx => ?_⟩
    have := List.findIdx?_eq_none_iff.1 h x hx
    rw [this]; decide
  | some k =>
    obtain ⟨hk, h2, h3⟩ := List.findIdx?_eq_some_iff_getElem.1 h
    refine .inl ⟨k, l[k], rfl, List.getElem?_eq_getElem hk, List.find?_eq_some_iff_getElem.2 ⟨h2, k, hk, rfl, fun j hj => ?_⟩⟩
    have := h3 j hj
    simpa using this
theorem indexW_calls (gb : Nat) (at_ : Int) (A0 : Option Addr) (c0 n : Nat) (l0 : List Wr) (hn : l0.length = n) (w : World) (hr0 : kW.C w A0 n l0) (hb : w.heap[gb]? = some (.cells #[.int .i64 at_] 3 (0, 0))) :
    Calls Try.prog 53 #[.slice A0 n c0, .func (.func 54) #[] #[.pointer (some ⟨gb, 0, none⟩)]] w fun e w' => e = .returned (.int .i64 (idxW l0 at_)) ∧ Below w.heap.size w w' := by
  have HN := Aside0.mk hn
  have hn63 := hr0.2.1
  have HR := Aside0.mk hr0
  have HBX := Aside0.mk hb
  clear hr0 hn hb
  go_enter Try.func53, Try.ntmps53
  go_wp2_with fail
  go_loopg [8] n (fun gg i wr => ∃ k : Nat, k ≤ n ∧ n - k ≤ gg ∧ i = .int .i64 k ∧ Aside0 (Below w.heap.size w wr) ∧ Aside0 (∀ j x, j < k → l0[j]? = some x → (x.tgt == at_) = false))
  case atStart => exact ⟨0, Nat.zero_le _, Nat.le_refl _, rfl, ⟨Below.refl _ _⟩, ⟨fun j x hj => absurd hj (Nat.not_lt_zero _)⟩⟩
  case round =>
    obtain ⟨k, hk, hgk, rfl, HB, HA⟩ := hrel
    by_cases hlt : k < n
    · have b1 : decide (k < n) = true := decide_eq_true hlt
      obtain ⟨x, hx⟩ : ∃ x, l0[k]? = some x := ⟨_, List.getElem?_eq_getElem (by have := HN.out; omega)⟩
      obtain ⟨ad, A1, c1, e, hc, hd, hcl, hcc⟩ := at_w (Kd.C_below HR.out HB.out) hx
      subst e
      have HX := Aside0.mk hx
      have hkz : (0 : Int) ≤ (k : Int) := by omega
      have hkn : (k : Int) < (n : Int) := by omega
      have hcall := Aside0.mk (bclo_calls gb at_ x.tgt (.slice A1 x.data.length c1) wr rfl (blk_below HBX.out HB.out))
      obtain ⟨q, hq⟩ : ∃ q, (x.tgt == at_) = q := ⟨_, rfl⟩
      obtain ⟨tg, htg⟩ : ∃ q, x.tgt = q := ⟨_, rfl⟩
      obtain ⟨m, hm⟩ : ∃ q, x.data.length = q := ⟨_, rfl⟩
      have HQ := Aside0.mk hq
      rw [hq, htg, hm] at hcall
      rw [htg] at hc
      rw [hm] at hd
      clear hx htg hm hcl hcc hq
      cases q with
      | false =>
        go_wp2_with fail
        (with_reducible refine hcall.out.mono ?_)
        rintro e w2 ⟨rfl, hb2⟩
        have HB2 := Aside0.mk (below_step HB.out hb2)
        clear hb2
        go_wp2_with fail
        go_roundg (n - (k + 1))
        case measure => omega
        case rel => exact ⟨k + 1, by omega, Nat.le_refl _, by go_num, HB2, ⟨fun j y hj hy => by
          by_cases e : j = k
          · subst e
            obtain rfl := Option.some.inj (HX.out.symm.trans hy)
            exact HQ.out
          · exact HA.out j y (by omega) hy⟩⟩
      | true =>
        go_wp2_with fail
        (with_reducible refine hcall.out.mono ?_)
        rintro e w2 ⟨rfl, hb2⟩
        have HB2 := Aside0.mk (below_step HB.out hb2)
        clear hb2
        go_wp2_with fail
        go_ret
        exact ⟨by rw [idxW_at HX.out HQ.out HA.out]; rfl, HB2.out⟩
    · have b1 : decide (k < n) = false := decide_eq_false hlt
      have HKN : Aside0 (k = n) := ⟨by omega⟩
      clear hlt
      go_wp2_with fail
      go_ret
      exact ⟨by rw [idxW_none (fun j p hj => HA.out j p (by have := (List.getElem?_eq_some_iff.1 hj).1; have := HN.out; have := HKN.out; omega) hj)]; rfl, HB.out⟩
/-- What a search for a block gives. -/
def Found (w : World) : Option Wr → Value → Prop
  | none, v => v = .tuple #[.slice none 0 0, .bool false]
  | some x, v => ∃ A1 c1, v = .tuple #[.slice A1 x.data.length c1, .bool true] ∧ x.data.length ≤ c1 ∧ U.C w A1 x.data.length x.data
def blkF (l : List Wr) (v : Int) : Option Wr := l.find? (fun x => x.tgt == v)
theorem block_calls (at_ : Int) (A0 : Option Addr) (c0 n : Nat) (l0 : List Wr) (hn : l0.length = n) (w0 w : World) (hr0 : kW.C w0 A0 n l0) (hB : Below w0.heap.size w0 w) :
    Calls Try.prog 43 #[.slice A0 n c0, .int .i64 at_] w fun e w' => (∃ v, e = .returned v ∧ Found w0 (blkF l0 at_) v) ∧ Below w.heap.size w w' := by
  have HN := Aside0.mk hn
  have hn63 := hr0.2.1
  have HCALL : Aside0 (∀ W, Below w.heap.size w W → ∀ gb, W.heap[gb]? = some (.cells #[.int .i64 at_] 3 (0, 0)) → Calls Try.prog 53 #[.slice A0 n c0, .func (.func 54) #[] #[.pointer (some ⟨gb, 0, none⟩)]] W fun e w' => e = .returned (.int .i64 (idxW l0 at_)) ∧ Below W.heap.size W w') := ⟨fun W hW gb hb => indexW_calls gb at_ A0 c0 n l0 hn W (Kd.C_below hr0 (below_step hB hW)) hb⟩
  unfold blkF
  rcases idxW_find l0 at_ with ⟨k, x, hi, hx, hf⟩ | ⟨hi, hf⟩
  · rw [hi] at HCALL
    rw [hf]
    obtain ⟨ad, A1, c1, e, hc, hd, hcl, hcc⟩ := at_w hr0 hx
    subst e
    obtain ⟨m, hm⟩ : ∃ q, x.data.length = q := ⟨_, rfl⟩
    have HM := Aside0.mk hm
    have HF : Aside0 (∃ A1' c1', (Value.tuple #[.slice A1 m c1, .bool true]) = .tuple #[.slice A1' x.data.length c1', .bool true] ∧ x.data.length ≤ c1' ∧ U.C w0 A1' x.data.length x.data) := ⟨A1, c1, by rw [hm], hcl, hcc⟩
    rw [hm] at hd
    have HD : Aside0 (∀ W, Below w.heap.size w W → W.cell? ⟨(ad.add (k * 2)).block, (ad.add (k * 2)).off + 1, none⟩ = some (.slice A1 m c1)) := ⟨fun W hW => pw_cell_below (below_step hB hW) hd⟩
    have hkn : k < n := by rw [← hn]; exact (List.getElem?_eq_some_iff.1 hx).1
    have hkz : (0 : Int) ≤ (k : Int) := by omega
    have hkn2 : (k : Int) < (n : Int) := by omega
    have bk : decide ((k : Int) < 0) = false := decide_eq_false (by omega)
    clear hr0 hB hn hi hf hx hc hm hcl hcc hd
    go_enter Try.func43, Try.ntmps43
    go_wp2_with (go_at_call 53; (with_reducible refine (HCALL.out _ ?c0 _ ?c1).mono ?_); (case c0 => exact below_alloc (Below.refl _ _) _); (case c1 => exact blk_new _ _); rintro e w2 ⟨rfl, hb⟩; have hb1 := (below_alloc (Below.refl w.heap.size w) (.cells #[.int .i64 at_] 3)).trans (hb.mono (below_alloc (Below.refl w.heap.size w) _).size); have hcd := HD.out _ hb1; have HB := Aside0.mk hb1; clear hb hb1)
    go_ret2
    exact ⟨⟨_, rfl, HF.out⟩, HB.out⟩
  · rw [hi] at HCALL
    rw [hf]
    clear hr0 hB hn hi hf
    go_enter Try.func43, Try.ntmps43
    go_wp2_with (go_at_call 53; (with_reducible refine (HCALL.out _ ?c0 _ ?c1).mono ?_); (case c0 => exact below_alloc (Below.refl _ _) _); (case c1 => exact blk_new _ _); rintro e w2 ⟨rfl, hb⟩; have hb1 := (below_alloc (Below.refl w.heap.size w) (.cells #[.int .i64 at_] 3)).trans (hb.mono (below_alloc (Below.refl w.heap.size w) _).size); have HB := Aside0.mk hb1; clear hb hb1)
    go_ret2
    exact ⟨⟨_, rfl, rfl⟩, HB.out⟩
end Go.Proofs.Ytbdbjlfdnijfeaa.Tree
