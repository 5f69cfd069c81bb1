/- Plain: a page of pointers is read as it was written; what lies where in a plan's writes; a plan is read back, whatever lies behind it. -/
import Derived.Test.YtbdbjlfdnijfeaaTree22
namespace Go.Proofs.Ytbdbjlfdnijfeaa.Tree
open Go Go.RowKit Go.Maps Go.Proofs.YtbdbjlfdnijfeaaW.PrintWords Go.Proofs.YtbdbjlfdnijfeaaW.PrintLast Go.Proofs.YtbdbjlfdnijfeaaW.PrintMore
set_option linter.unusedVariables false
set_option linter.unusedSimpArgs false
theorem rawL_length (xs : List Int) (h : xs.length ≤ 32) : (rawL xs).length = 64 := by
  unfold rawL
  rw [List.length_append, flat2_length, List.length_replicate]; omega
theorem flat2_bytes (xs : List Int) : Spin.Bytes (flat2 xs) := by
  induction xs with
  | nil => intro x hx; nomatch hx
  | cons x xs ih => exact Field.bytes_append (Field.leB_bytes x 2) ih
theorem rawL_bytes (xs : List Int) : Spin.Bytes (rawL xs) := Field.bytes_append (flat2_bytes xs) (Field.bytes_replicate _)
theorem sealB_page (xs : List Int) (h : xs.length ≤ 32) : sealB (pageL xs) = true := by
  have h1 := sealB_eq (pageL_bytes xs)
  rw [Field.sealed_eq (pageL_bytes xs) (pageL_length xs)] at h1
  have h2 : pageL xs = Field.sealI (pageL xs) := by
    rw [pageL_raw xs h]
    exact Field.sealI_sealed (rawL_length xs h)
  rw [decide_eq_true h2] at h1
  exact (Option.some.inj h1).symm
theorem flat2_at (xs : List Int) (i : Nat) (hi : i < xs.length) : ((flat2 xs).take (2 * i + 2)).drop (2 * i) = Ref.leB (xs.getD i 0) 2 := by
  have e1 : flat2 (xs.take i) ++ flat2 (xs.drop i) = flat2 xs := by rw [← flat2_append, List.take_append_drop]
  have hl : (flat2 (xs.take i)).length = 2 * i := by rw [flat2_length, List.length_take]; omega
  have e2 : xs.drop i = xs.getD i 0 :: xs.drop (i + 1) := by
    rw [List.drop_eq_getElem_cons hi, List.getD_eq_getElem?_getD, List.getElem?_eq_getElem hi]; rfl
  have e3 : flat2 (xs.drop i) = Ref.leB (xs.getD i 0) 2 ++ flat2 (xs.drop (i + 1)) := by rw [e2]; rfl
  rw [← e1, e3, List.drop_take, ← hl, List.drop_left, show (flat2 (xs.take i)).length + 2 - (flat2 (xs.take i)).length = 2 by omega]
  exact List.take_left' (Ref.leB_length _ 2)
theorem numT_page (xs : List Int) (h : xs.length ≤ 30) (hx : ∀ x ∈ xs, 0 ≤ x ∧ x < 65536) (i : Nat) (hi : i < 30) : numT (pageL xs) i = xs.getD i 0 := by
  have h60 : (pageL xs).take 60 = (rawL xs).take 60 := by
    rw [pageL_raw xs (by omega)]
    exact Field.sealI_take _ (rawL_length xs (by omega))
  have e1 : (pageL xs).take (2 * i + 2) = (rawL xs).take (2 * i + 2) := by
    have h1 : ((pageL xs).take 60).take (2 * i + 2) = ((rawL xs).take 60).take (2 * i + 2) := by rw [h60]
    rw [List.take_take, List.take_take, Nat.min_eq_left (by omega)] at h1
    exact h1
  unfold numT
  rw [e1]
  by_cases hl : i < xs.length
  · have e2 : (rawL xs).take (2 * i + 2) = (flat2 xs).take (2 * i + 2) := by
      unfold rawL
      rw [List.take_append_of_le_length (by rw [flat2_length]; omega)]
    rw [e2, flat2_at xs i hl]
    have hb := hx (xs.getD i 0) (by rw [List.getD_eq_getElem?_getD, List.getElem?_eq_getElem hl]; exact List.getElem_mem hl)
    rw [Field.getI_le _ hb.1 2 (by decide), Int.emod_eq_of_lt hb.1 (by rw [show (256 : Int) ^ 2 = 65536 by decide]; exact hb.2)]
  · rw [List.getD_eq_getElem?_getD, List.getElem?_eq_none (by omega)]
    have e2 : ((rawL xs).take (2 * i + 2)).drop (2 * i) = [0, 0] := by
      unfold rawL
      rw [List.take_append, List.take_of_length_le (by rw [flat2_length]; omega), List.take_replicate, List.drop_append, List.drop_of_length_le (by rw [flat2_length]; omega), List.nil_append, flat2_length, List.drop_replicate, show min (2 * i + 2 - 2 * xs.length) (64 - 2 * xs.length) - (2 * i - 2 * xs.length) = 2 by omega]
      rfl
    rw [e2]
    rfl
theorem numsT_page (xs : List Int) (h : xs.length ≤ 30) (hx : ∀ x ∈ xs, 0 ≤ x ∧ x < 65536) : numsT (pageL xs) 30 = xs ++ List.replicate (30 - xs.length) 0 := by
  apply List.ext_getElem
  · rw [numsT_length, List.length_append, List.length_replicate]; omega
  · intro i h1 h2
    rw [numsT_length] at h1
    have e : (numsT (pageL xs) 30)[i]'(by rw [numsT_length]; exact h1) = numT (pageL xs) i := by
      unfold numsT
      rw [List.getElem_map, List.getElem_range]
    rw [e, numT_page xs h hx i h1]
    have h3 := zeros_like xs (30 - xs.length) i
    rw [← h3, List.getD_eq_getElem?_getD, List.getElem?_eq_getElem h2]
    rfl
def tg (ws : List Wr) : List Int := ws.map Wr.tgt
def dat (ws : List Wr) (p : Int) : Option (List Int) := (blkF ws p).map Wr.data
theorem tg_fill (a : Int) (pl : List Int) (ws : List Wr) : tg (fillW a pl ws) = tg ws := by
  unfold tg fillW
  rw [List.map_map]
  refine List.map_congr_left fun x _ => ?_
  show (fillX a pl x).tgt = x.tgt
  unfold fillX
  split <;> rfl
theorem tg_res (fr : List Int) (b : Bool) (ws : List Wr) : tg (resW fr b ws) = tg ws ++ if b = true then [fr.getD ws.length 0] else [] := by
  unfold tg resW
  split
  · rw [List.map_append]; rfl
  · rw [List.append_nil]
theorem dat_nil (p : Int) : dat [] p = none := rfl
theorem dat_cons (x : Wr) (ws : List Wr) (p : Int) : dat (x :: ws) p = if x.tgt = p then some x.data else dat ws p := by
  unfold dat blkF
  by_cases h : x.tgt = p
  · rw [if_pos h, List.find?_cons_of_pos (by simpa using h)]; rfl
  · rw [if_neg h, List.find?_cons_of_neg (by simpa using h)]
theorem dat_mem : ∀ {ws : List Wr} {p : Int} {d : List Int}, dat ws p = some d → p ∈ tg ws
  | [], _, _, h => by rw [dat_nil] at h; cases h
  | x :: ws, p, d, h => by
    rw [dat_cons] at h
    show p ∈ x.tgt :: tg ws
    by_cases e : x.tgt = p
    · rw [e]; exact List.mem_cons_self
    · rw [if_neg e] at h
      exact List.mem_cons_of_mem _ (dat_mem h)
theorem dat_append : ∀ {ws : List Wr} {p : Int} {d : List Int} (others : List Wr), dat ws p = some d → dat (ws ++ others) p = some d
  | [], _, _, _, h => by rw [dat_nil] at h; cases h
  | x :: ws, p, d, o, h => by
    rw [dat_cons] at h
    rw [List.cons_append, dat_cons]
    by_cases e : x.tgt = p
    · rw [if_pos e] at h ⊢; exact h
    · rw [if_neg e] at h ⊢; exact dat_append o h
theorem dat_last : ∀ {ws : List Wr} {p : Int} (d : List Int), p ∉ tg ws → dat (ws ++ [⟨p, d⟩]) p = some d
  | [], p, d, _ => by
    rw [List.nil_append, dat_cons, if_pos rfl]
  | x :: ws, p, d, h => by
    have h1 : x.tgt ≠ p := fun e => h (by rw [← e]; exact List.mem_cons_self)
    rw [List.cons_append, dat_cons, if_neg h1]
    exact dat_last d (fun h2 => h (List.mem_cons_of_mem _ h2))
theorem dat_fill_ne {a : Int} {pl : List Int} {p : Int} (h : p ≠ a ∨ a = 0) : ∀ ws : List Wr, dat (fillW a pl ws) p = dat ws p
  | [] => rfl
  | x :: ws => by
    show dat (fillX a pl x :: fillW a pl ws) p = _
    rw [dat_cons, dat_cons, dat_fill_ne h ws]
    unfold fillX
    by_cases hx : x.tgt = a ∧ a ≠ 0
    · rw [if_pos hx]
      have : x.tgt ≠ p := by
        rcases h with h | h
        · rw [hx.1]; exact Ne.symm h
        · exact absurd h hx.2
      rw [if_neg this, if_neg this]
    · rw [if_neg hx]
theorem dat_fill_eq {a : Int} {pl : List Int} (ha : a ≠ 0) : ∀ {ws : List Wr} {d : List Int}, dat ws a = some d → dat (fillW a pl ws) a = some pl
  | [], _, h => by rw [dat_nil] at h; cases h
  | x :: ws, d, h => by
    show dat (fillX a pl x :: fillW a pl ws) a = _
    rw [dat_cons] at h
    by_cases hx : x.tgt = a
    · have e : fillX a pl x = ⟨x.tgt, pl⟩ := if_pos ⟨hx, ha⟩
      rw [e, dat_cons, if_pos hx]
    · have e : fillX a pl x = x := if_neg (fun hh => hx hh.1)
      rw [e, dat_cons, if_neg hx]
      rw [if_neg hx] at h
      exact dat_fill_eq ha h
/-- Writes that were given out of the fresh blocks in their order. -/
structure Pre (l fr : List Int) (ws : List Wr) : Prop where
  tgs : tg ws = fr.take ws.length
  len : ws.length ≤ needN l
theorem Pre.nil (l fr : List Int) : Pre l fr [] := ⟨by rw [show ([] : List Wr).length = 0 from rfl, List.take_zero]; rfl, Nat.zero_le _⟩
theorem Pre.fill {l fr : List Int} {ws : List Wr} (h : Pre l fr ws) (a : Int) (pl : List Int) : Pre l fr (fillW a pl ws) := ⟨by rw [tg_fill, fillW_length, h.tgs], by rw [fillW_length]; exact h.len⟩
theorem Pre.res {l fr : List Int} {ws : List Wr} (h : Pre l fr ws) (hok : Ok l fr) {b : Bool} (hb : b = true → ws.length < needN l) : Pre l fr (resW fr b ws) := by
  cases b with
  | false => exact h
  | true =>
    have h1 := hb rfl
    obtain ⟨p, hp, hg, _⟩ := hok.at_ h1
    refine ⟨?_, ?_⟩
    · rw [tg_res, if_pos rfl, h.tgs, resW_length, if_pos rfl, take_snoc hp, hg]
    · rw [resW_length, if_pos rfl]; exact h1
/-- The block that is given out next: it is data, and none of those that were given out, nor a pointer. -/
theorem Pre.next {l fr : List Int} {ws : List Wr} (h : Pre l fr ws) (hok : Ok l fr) (hb : ws.length < needN l) : dataB (fr.getD ws.length 0) = true ∧ fr.getD ws.length 0 ∉ tg ws ∧ fr.getD ws.length 0 ∉ l ∧ fr.getD ws.length 0 ≠ 0 := by
  obtain ⟨p, hp, hg, ht⟩ := hok.at_ hb
  rw [hg, h.tgs]
  have hd := takeB_data ht
  unfold takeB at ht
  simp only [Bool.and_eq_true, Bool.not_eq_true'] at ht
  refine ⟨ht.1.1, fun hm => ?_, fun hm => ?_, by omega⟩
  · have := List.contains_iff_mem.2 hm
    rw [ht.1.2] at this; cases this
  · have := List.contains_iff_mem.2 hm
    rw [ht.2] at this; cases this
/-- A block is given out and filled: what was there stays. -/
theorem Pre.keep {l fr : List Int} {ws : List Wr} (h : Pre l fr ws) (hok : Ok l fr) {b : Bool} (hb : b = true → ws.length < needN l) (pl : List Int) {p : Int} {d : List Int} (hd : dat ws p = some d) : dat (fillW (resP fr b ws) pl (resW fr b ws)) p = some d := by
  cases b with
  | false =>
    show dat (fillW 0 pl ws) p = _
    rw [fillW_zero]; exact hd
  | true =>
    have hn := (h.next hok (hb rfl)).2.1
    rw [dat_fill_ne (.inl (fun e => hn (by
      have := dat_mem hd
      rw [e] at this
      exact this)))]
    exact dat_append _ hd
theorem Pre.keep0 {l fr : List Int} {ws : List Wr} {b : Bool} {p : Int} {d : List Int} (hd : dat ws p = some d) : dat (resW fr b ws) p = some d := by
  cases b with
  | false => exact hd
  | true => exact dat_append _ hd
theorem Pre.new {l fr : List Int} {ws : List Wr} (h : Pre l fr ws) (hok : Ok l fr) (hb : ws.length < needN l) (pl : List Int) : dat (fillW (resP fr true ws) pl (resW fr true ws)) (resP fr true ws) = some pl := by
  have hn := h.next hok hb
  exact dat_fill_eq hn.2.2.2 (dat_last [] hn.2.1)
theorem pre1 {l fr : List Int} (hok : Ok l fr) : Pre l fr (ws1 l fr) := ((Pre.nil l fr).res hok (fun e => hok.room1 e)).fill _ _
theorem pre2 {l fr : List Int} (hok : Ok l fr) : Pre l fr (ws2 l fr) := (pre1 hok).res hok (fun e => hok.room2 e)
theorem preU {l fr : List Int} (hok : Ok l fr) : ∀ k, k ≤ 3 → Pre l fr (undS l fr k).1
  | 0, _ => pre2 hok
  | k + 1, hk => ((preU hok k (by omega)).res hok (fun e => hok.room (by omega) e)).fill _ _
/-- The number that a round gives. -/
def uN (l fr : List Int) (k : Nat) : Int := resP fr (usB l k) (undS l fr k).1
theorem und_three (l fr : List Int) : (undS l fr 3).2 = [uN l fr 0, uN l fr 1, uN l fr 2] := rfl
theorem keepU {l fr : List Int} (hok : Ok l fr) {k : Nat} (hk : k < 3) {p : Int} {d : List Int} (hd : dat (undS l fr k).1 p = some d) : dat (undS l fr (k + 1)).1 p = some d :=
  (preU hok k (by omega)).keep hok (fun e => hok.room hk e) _ hd
theorem keepTo {l fr : List Int} (hok : Ok l fr) {p : Int} {d : List Int} : ∀ n k, k + n = 3 → dat (undS l fr k).1 p = some d → dat (undS l fr 3).1 p = some d
  | 0, k, e, h => by obtain rfl : k = 3 := by omega
                     exact h
  | n + 1, k, e, h => keepTo hok n (k + 1) (by omega) (keepU hok (by omega) h)
/-- Where the double block was given out. -/
theorem dbl_mem {l fr : List Int} (h : someB (partL l 34 96) = true) : dbl l fr ∈ tg (ws2 l fr) := by
  show resP fr (someB (partL l 34 96)) (ws1 l fr) ∈ tg (resW fr (someB (partL l 34 96)) (ws1 l fr))
  rw [h, tg_res, if_pos rfl]
  exact List.mem_append.2 (.inr (by show fr.getD _ 0 ∈ _; exact List.mem_singleton.2 rfl))
theorem tg_mono {l fr : List Int} {k : Nat} {p : Int} (h : p ∈ tg (undS l fr k).1) : p ∈ tg (undS l fr (k + 1)).1 := by
  show p ∈ tg (fillW _ _ (resW _ _ _))
  rw [tg_fill, tg_res]
  exact List.mem_append.2 (.inl h)
theorem dbl_tg {l fr : List Int} (h : someB (partL l 34 96) = true) : ∀ k, dbl l fr ∈ tg (undS l fr k).1
  | 0 => dbl_mem h
  | k + 1 => tg_mono (dbl_tg h k)
/-- The page of the first thirty behind the direct ones. -/
theorem dat_single {l fr : List Int} (hok : Ok l fr) (h : someB (partL l 4 30) = true) : dat (wsOf l fr) (resP fr true []) = some (pageL (partL l 4 30)) ∧ resP fr true [] ≠ 0 ∧ dataB (resP fr true []) = true := by
  have hl := ptsB_len hok.pts
  have hn := (Pre.nil l fr).next hok (hok.room1 h)
  have h1 : dat (ws1 l fr) (resP fr true []) = some (pageL (partL l 4 30)) := by
    unfold ws1
    rw [h]
    exact (Pre.nil l fr).new hok (hok.room1 h) _
  have h3 : dat (undS l fr 3).1 (resP fr true []) = some (pageL (partL l 4 30)) := keepTo hok 3 0 rfl (Pre.keep0 (l := l) h1)
  refine ⟨?_, hn.2.2.2, hn.1⟩
  rw [wsOf_three l fr hl, dat_fill_ne ?_]
  · exact h3
  · by_cases hb : someB (partL l 34 96) = true
    · refine .inl (fun e => ?_)
      have h4 := ((pre1 hok).next hok (hok.room2 hb)).2.1
      have h5 := dat_mem h1
      rw [e] at h5
      have h6 : dbl l fr = fr.getD (ws1 l fr).length 0 := if_pos hb
      rw [h6] at h5
      exact h4 h5
    · exact .inr (if_neg hb)
theorem dat_double {l fr : List Int} (hok : Ok l fr) (h : someB (partL l 34 96) = true) : dat (wsOf l fr) (dbl l fr) = some (pageL [uN l fr 0, uN l fr 1, uN l fr 2]) ∧ dbl l fr ≠ 0 ∧ dataB (dbl l fr) = true := by
  have hl := ptsB_len hok.pts
  have hn := (pre1 hok).next hok (hok.room2 h)
  have h6 : dbl l fr = fr.getD (ws1 l fr).length 0 := if_pos h
  have h0 : dat (ws2 l fr) (dbl l fr) = some [] := by
    have e : ws2 l fr = ws1 l fr ++ [⟨fr.getD (ws1 l fr).length 0, []⟩] := if_pos h
    rw [e, h6]
    exact dat_last [] hn.2.1
  have h3 : dat (undS l fr 3).1 (dbl l fr) = some [] := keepTo hok 3 0 rfl h0
  refine ⟨?_, by rw [h6]; exact hn.2.2.2, by rw [h6]; exact hn.1⟩
  rw [wsOf_three l fr hl, und_three]
  exact dat_fill_eq (by rw [h6]; exact hn.2.2.2) h3
theorem dat_under {l fr : List Int} (hok : Ok l fr) {k : Nat} (hk : k < 3) (h : usB l k = true) : dat (wsOf l fr) (uN l fr k) = some (pageL (partL l (34 + 30 * k) 30)) ∧ uN l fr k ≠ 0 ∧ dataB (uN l fr k) = true := by
  have hl := ptsB_len hok.pts
  have hn := (preU hok k (by omega)).next hok (hok.room hk h)
  have h6 : uN l fr k = fr.getD (undS l fr k).1.length 0 := if_pos h
  have h0 : dat (undS l fr (k + 1)).1 (uN l fr k) = some (pageL (partL l (34 + 30 * k) 30)) := by
    have h7 := (preU hok k (by omega)).new hok (hok.room hk h) (pageL (partL l (34 + 30 * k) 30))
    show dat (fillW (resP fr (usB l k) _) _ (resW fr (usB l k) _)) (resP fr (usB l k) _) = _
    rw [h]
    exact h7
  have h3 := keepTo hok (2 - k) (k + 1) (by omega) h0
  refine ⟨?_, by rw [h6]; exact hn.2.2.2, by rw [h6]; exact hn.1⟩
  rw [wsOf_three l fr hl, dat_fill_ne ?_]
  · exact h3
  · by_cases hb : someB (partL l 34 96) = true
    · refine .inl (fun e => ?_)
      have h5 := dbl_tg (fr := fr) hb k
      rw [← e, h6] at h5
      exact hn.2.1 h5
    · exact .inr (if_neg hb)
theorem someB_false {xs : List Int} (h : someB xs = false) : xs = List.replicate xs.length 0 := by
  refine List.eq_replicate_iff.2 ⟨rfl, fun x hx => ?_⟩
  have := List.any_eq_false.1 h x hx
  simpa using this
theorem someB_zeros (xs : List Int) (j : Nat) : someB (xs ++ List.replicate j 0) = someB xs := by
  induction j with
  | zero => rw [List.replicate_zero, List.append_nil]
  | succ j ih => rw [List.replicate_succ', ← List.append_assoc, show someB (xs ++ List.replicate j 0 ++ [0]) = (someB (xs ++ List.replicate j 0) || (0 : Int) != 0) from by unfold someB; rw [List.any_append]; simp, ih]; simp
theorem apartB_sub : ∀ {l' l : List Int}, List.Sublist l' l → ∀ {seen' seen : List Int}, (∀ x ∈ seen', x ∈ seen) → apartB seen l = true → apartB seen' l' = true
  | _, _, .slnil, _, _, _, _ => rfl
  | _, _, .cons a h, seen', seen, hs, hb => by
    rw [apartB, Bool.and_eq_true] at hb
    exact apartB_sub h (fun x hx => List.mem_append.2 (.inl (hs x hx))) hb.2
  | _, _, .cons_cons a h, seen', seen, hs, hb => by
    rw [apartB, Bool.and_eq_true] at hb ⊢
    refine ⟨?_, apartB_sub h (fun x hx => ?_) hb.2⟩
    · have h1 := hb.1
      unfold okP at h1 ⊢
      by_cases h0 : (a == 0) = true
      · rw [h0]; rfl
      · rw [Bool.eq_false_iff.2 h0, Bool.false_or] at h1 ⊢
        rw [Bool.and_eq_true] at h1 ⊢
        refine ⟨?_, h1.2⟩
        have h2 : seen.contains a = false := by simpa using h1.1
        have h3 : seen'.contains a = false := by
          cases hc : seen'.contains a with
          | false => rfl
          | true =>
            have := List.contains_iff_mem.2 (hs a (List.contains_iff_mem.1 hc))
            rw [h2] at this; cases this
        rw [h3]; rfl
    · rcases List.mem_append.1 hx with h1 | h1
      · exact List.mem_append.2 (.inl (hs x h1))
      · exact List.mem_append.2 (.inr h1)
theorem pts_part {l : List Int} (h : ptsB l = true) (fr cnt : Nat) (hc : cnt ≤ 96) : ptsB (partL l fr cnt) = true := by
  unfold ptsB at h ⊢
  rw [Bool.and_eq_true] at h ⊢
  refine ⟨?_, decide_eq_true (by rw [partL_length]; exact hc)⟩
  unfold partL
  rw [apart_zeros]
  exact apartB_sub ((List.take_sublist _ _).trans (List.drop_sublist _ _)) (fun x hx => hx) h.1
/-- A page that lies in the writes is read. -/
theorem page_of {ws o : List Wr} {p : Int} {xs : List Int} (h : dat ws p = some (pageL xs)) (hd : dataB p = true) (h0 : p ≠ 0) (hl : xs.length ≤ 30) (hx : ∀ x ∈ xs, 0 ≤ x ∧ x < 65536) :
    pgL (ws ++ o) p = xs ++ List.replicate (30 - xs.length) 0 ∧ pgOk (ws ++ o) p = (someB xs && ptsB (xs ++ List.replicate (30 - xs.length) 0)) ∧ pgOwn p = [p] := by
  have h1 := dat_append o h
  unfold dat at h1
  obtain ⟨x, hx1, hx2⟩ := Option.map_eq_some_iff.1 h1
  have hg : goodB (ws ++ o) p = some (xs ++ List.replicate (30 - xs.length) 0) := by
    unfold goodB
    rw [hx1]
    show (if sealB x.data && dataB p then some (numsT x.data 30) else none) = _
    rw [hx2, sealB_page xs (by omega), hd, numsT_page xs hl hx]
    rfl
  refine ⟨?_, ?_, if_neg h0⟩
  · unfold pgL
    rw [if_neg h0, hg]; rfl
  · unfold pgOk
    rw [if_neg h0, hg]
    show (someB _ && _) = _
    rw [someB_zeros]
theorem pgL_zero (ws : List Wr) : pgL ws 0 = zer ∧ pgOk ws 0 = true ∧ pgOwn 0 = [] := ⟨rfl, rfl, rfl⟩
theorem part_small16 {l : List Int} (h : ptsB l = true) (fr cnt : Nat) : ∀ x ∈ partL l fr cnt, 0 ≤ x ∧ x < 65536 := fun x hx => by
  unfold partL at hx
  rcases List.mem_append.1 hx with hx | hx
  · have := pts_small h x (List.mem_of_mem_drop (List.mem_of_mem_take hx))
    omega
  · obtain ⟨_, rfl⟩ := List.mem_replicate.1 hx
    omega
theorem part_zero {l : List Int} {fr : Nat} (h : ¬ someB (partL l fr 30) = true) : partL l fr 30 = zer := by
  have h1 := someB_false (Bool.eq_false_iff.2 h)
  rw [partL_length] at h1
  exact h1
/-- A part's page, whether it was needed or not. -/
theorem part_page {l fr : List Int} (hok : Ok l fr) (o : List Wr) {f : Nat} {p : Int} (hy : someB (partL l f 30) = true → dat (wsOf l fr) p = some (pageL (partL l f 30)) ∧ p ≠ 0 ∧ dataB p = true) (hn : ¬ someB (partL l f 30) = true → p = 0) :
    pgL (wsOf l fr ++ o) p = partL l f 30 ∧ pgOk (wsOf l fr ++ o) p = true := by
  by_cases h : someB (partL l f 30) = true
  · obtain ⟨h1, h2, h3⟩ := hy h
    have h4 := page_of (o := o) h1 h3 h2 (by rw [partL_length]; exact Nat.le_refl _) (part_small16 hok.pts f 30)
    rw [partL_length, Nat.sub_self, List.replicate_zero, List.append_nil] at h4
    exact ⟨h4.1, by rw [h4.2.1, h, pts_part hok.pts f 30 (by decide)]; rfl⟩
  · rw [hn h, part_zero h]
    exact ⟨rfl, rfl⟩
theorem single_page {l fr : List Int} (hok : Ok l fr) (o : List Wr) : pgL (wsOf l fr ++ o) (ndOf l fr).s = partL l 4 30 ∧ pgOk (wsOf l fr ++ o) (ndOf l fr).s = true :=
  part_page hok o (fun h => by
    have e : (ndOf l fr).s = resP fr true [] := by show resP fr (someB (partL l 4 30)) [] = _; rw [h]
    rw [e]; exact dat_single hok h) (fun h => if_neg h)
theorem under_page {l fr : List Int} (hok : Ok l fr) (o : List Wr) {k : Nat} (hk : k < 3) : pgL (wsOf l fr ++ o) (uN l fr k) = partL l (34 + 30 * k) 30 ∧ pgOk (wsOf l fr ++ o) (uN l fr k) = true :=
  part_page hok o (fun h => dat_under hok hk h) (fun h => if_neg h)
theorem uN_tg {l fr : List Int} {j : Nat} (h : usB l j = true) : ∀ n, uN l fr j ∈ tg (undS l fr (j + 1 + n)).1
  | 0 => by
    show uN l fr j ∈ tg (fillW _ _ (resW fr (usB l j) _))
    rw [tg_fill, tg_res, if_pos h]
    exact List.mem_append.2 (.inr (List.mem_singleton.2 (if_pos h)))
  | n + 1 => tg_mono (uN_tg h n)
theorem uN_ok {l fr : List Int} (hok : Ok l fr) {k : Nat} (hk : k < 3) {seen : List Int} (hs : ∀ x ∈ seen, ∃ j, j < k ∧ x = uN l fr j) : okP seen (uN l fr k) = true := by
  unfold okP
  by_cases h : usB l k = true
  · have hn := (preU hok k (by omega)).next hok (hok.room hk h)
    have h6 : uN l fr k = fr.getD (undS l fr k).1.length 0 := if_pos h
    rw [h6, hn.1, Bool.and_true]
    have : seen.contains (fr.getD (undS l fr k).1.length 0) = false := by
      cases hc : seen.contains (fr.getD (undS l fr k).1.length 0) with
      | false => rfl
      | true =>
        obtain ⟨j, hj, e⟩ := hs _ (List.contains_iff_mem.1 hc)
        by_cases hu : usB l j = true
        · have h7 := uN_tg (fr := fr) hu (k - 1 - j)
          rw [show j + 1 + (k - 1 - j) = k by omega, ← e] at h7
          exact absurd h7 hn.2.1
        · have h8 : uN l fr j = 0 := if_neg hu
          rw [h8] at e
          exact absurd e hn.2.2.2
    rw [this]
    simp
  · have h6 : uN l fr k = 0 := if_neg h
    rw [h6]; rfl
theorem uN_small {l fr : List Int} (hok : Ok l fr) {k : Nat} (hk : k < 3) : 0 ≤ uN l fr k ∧ uN l fr k < 65536 := by
  have := hok.resP (b := usB l k) (ws := (undS l fr k).1) (fun e => hok.room hk e)
  show 0 ≤ resP fr (usB l k) (undS l fr k).1 ∧ _
  exact ⟨this.1, by have := this.2; show resP fr (usB l k) (undS l fr k).1 < 65536; omega⟩
/-- The double block's numbers. -/
def uL (l fr : List Int) : List Int := [uN l fr 0, uN l fr 1, uN l fr 2]
theorem double_page {l fr : List Int} (hok : Ok l fr) (o : List Wr) : pgL (wsOf l fr ++ o) (dbl l fr) = uL l fr ++ List.replicate 27 0 ∧ pgOk (wsOf l fr ++ o) (dbl l fr) = true := by
  have hl := ptsB_len hok.pts
  have hun : ∀ k, k < 3 → usB l k = true → unN l 3 ≠ 0 := fun k hk hu => unN_pos.2 ⟨k, hk, hu⟩
  by_cases h : someB (partL l 34 96) = true
  · obtain ⟨h1, h2, h3⟩ := dat_double hok h
    have h4 := page_of (o := o) h1 h3 h2 (by show 3 ≤ 30; decide) (fun x hx => by
      rcases List.mem_cons.1 hx with rfl | hx
      · exact uN_small hok (by decide)
      rcases List.mem_cons.1 hx with rfl | hx
      · exact uN_small hok (by decide)
      obtain rfl := List.mem_singleton.1 hx
      exact uN_small hok (by decide))
    refine ⟨h4.1, ?_⟩
    rw [h4.2.1]
    have hs : someB [uN l fr 0, uN l fr 1, uN l fr 2] = true := by
      obtain ⟨k, hk, hu⟩ := unN_pos.1 ((s34_iff hl).1 h)
      have h5 := (dat_under hok hk hu).2.1
      refine List.any_eq_true.2 ⟨uN l fr k, ?_, bne_iff_ne.2 h5⟩
      have : k = 0 ∨ k = 1 ∨ k = 2 := by omega
      rcases this with rfl | rfl | rfl <;> simp
    have hp : ptsB ([uN l fr 0, uN l fr 1, uN l fr 2] ++ List.replicate 27 0) = true := by
      rw [pts_zeros _ 27 (by show 3 + 27 ≤ 96; decide)]
      unfold ptsB
      rw [apartB, apartB, apartB, apartB, uN_ok hok (by decide) (fun x hx => absurd hx List.not_mem_nil), uN_ok hok (k := 1) (by decide) (fun x hx => ⟨0, by decide, by simpa using hx⟩), uN_ok hok (k := 2) (by decide) (fun x hx => by
        have : x = uN l fr 0 ∨ x = uN l fr 1 := by simpa using hx
        rcases this with e | e
        · exact ⟨0, by decide, e⟩
        · exact ⟨1, by decide, e⟩)]
      rfl
    rw [hs]
    show (true && ptsB ([uN l fr 0, uN l fr 1, uN l fr 2] ++ List.replicate 27 0)) = true
    rw [hp]; rfl
  · have e : dbl l fr = 0 := if_neg h
    have h0 : ∀ k, k < 3 → uN l fr k = 0 := fun k hk => if_neg (fun hu => h ((s34_iff hl).2 (hun k hk hu)))
    rw [e]
    refine ⟨?_, rfl⟩
    unfold uL
    rw [h0 0 (by decide), h0 1 (by decide), h0 2 (by decide)]
    rfl
theorem partL_map' (l : List Int) (fr cnt : Nat) : partL l fr cnt = (List.range cnt).map (fun i => l.getD (fr + i) 0) := by
  apply List.ext_getElem
  · rw [partL_length]; simp
  · intro i h1 h2
    rw [partL_length] at h1
    have h := partL_getD l fr cnt i h1
    rw [List.getD_eq_getElem?_getD, List.getElem?_eq_getElem (by rw [partL_length]; exact h1)] at h
    rw [List.getElem_map, List.getElem_range]
    exact h
theorem partL_succ' (l : List Int) (fr cnt : Nat) : partL l fr (cnt + 1) = partL l fr cnt ++ [l.getD (fr + cnt) 0] := by
  rw [partL_map', partL_map', List.range_succ, List.map_append]; rfl
theorem partL_add (l : List Int) (a m n : Nat) : partL l a (m + n) = partL l a m ++ partL l (a + m) n := by
  induction n with
  | zero =>
    rw [Nat.add_zero, show partL l (a + m) 0 = [] from by simp [partL], List.append_nil]
  | succ n ih => rw [← Nat.add_assoc, partL_succ', ih, partL_succ', List.append_assoc, Nat.add_assoc]
theorem trim_zeros (l : List Int) : ∀ j, trimL (l ++ List.replicate j 0) = trimL l
  | 0 => by rw [List.replicate_zero, List.append_nil]
  | j + 1 => by rw [List.replicate_succ', ← List.append_assoc, trim_zero, trim_zeros l j]
theorem fold_zeros (ws : List Wr) : ∀ (n : Nat) (s : List Int × List Int × Bool), (List.replicate n 0).foldl (rdK ws) s = (s.1 ++ List.replicate (30 * n) 0, s.2.1, s.2.2)
  | 0, s => by simp
  | n + 1, s => by
    rw [List.replicate_succ, List.foldl_cons, fold_zeros ws n]
    show (s.1 ++ zer ++ _, s.2.1 ++ [], s.2.2 || !true) = _
    rw [List.append_nil, Bool.not_true, Bool.or_false, List.append_assoc]
    unfold zer
    rw [List.replicate_append_replicate, show 30 + 30 * n = 30 * (n + 1) by omega]
theorem own_res {l fr : List Int} {ws : List Wr} (h : Pre l fr ws) (hok : Ok l fr) {b : Bool} (hb : b = true → ws.length < needN l) (a : Int) (pl : List Int) : tg (fillW a pl (resW fr b ws)) = tg ws ++ pgOwn (resP fr b ws) := by
  rw [tg_fill, tg_res]
  cases b with
  | false => rfl
  | true =>
    have hn := (h.next hok (hb rfl)).2.2.2
    have e : resP fr true ws = fr.getD ws.length 0 := rfl
    rw [e, if_pos rfl]
    unfold pgOwn
    rw [if_neg hn]
theorem own_all {l fr : List Int} (hok : Ok l fr) : pgOwn (ndOf l fr).s ++ pgOwn (dbl l fr) ++ pgOwn (uN l fr 0) ++ pgOwn (uN l fr 1) ++ pgOwn (uN l fr 2) = fr.take (needN l) := by
  have hl := ptsB_len hok.pts
  have e1 : tg (ws1 l fr) = pgOwn (ndOf l fr).s := own_res (Pre.nil l fr) hok (fun e => hok.room1 e) _ _
  have e2 : tg (ws2 l fr) = tg (ws1 l fr) ++ pgOwn (dbl l fr) := by
    have h := own_res (pre1 hok) hok (b := someB (partL l 34 96)) (fun e => hok.room2 e) 0 []
    rw [fillW_zero] at h
    exact h
  have e3 : ∀ k, k < 3 → tg (undS l fr (k + 1)).1 = tg (undS l fr k).1 ++ pgOwn (uN l fr k) := fun k hk => own_res (preU hok k (by omega)) hok (fun e => hok.room hk e) _ _
  have e4 : tg (undS l fr 0).1 = tg (ws2 l fr) := rfl
  rw [← e1, ← e2, ← e4, ← e3 0 (by decide), ← e3 1 (by decide), ← e3 2 (by decide), (preU hok 3 (by decide)).tgs]
  congr 1
  rw [(undS_length l fr 3).1, ws2_length, need_eq hl]
theorem all_eq {l fr : List Int} (hok : Ok l fr) (o : List Wr) : rdAll (wsOf l fr ++ o) (partL l 0 4) (ndOf l fr).s (dbl l fr) = (l ++ List.replicate (124 - l.length + 810) 0, fr.take (needN l), false) := by
  have hl := ptsB_len hok.pts
  have hs := single_page hok o
  have hd := double_page hok o
  have hu := fun k (hk : k < 3) => under_page hok o hk
  unfold rdAll
  rw [hd.1]
  show (uL l fr ++ List.replicate 27 0).foldl (rdK (wsOf l fr ++ o)) (partL l 0 4 ++ pgL (wsOf l fr ++ o) (ndOf l fr).s, ([] ++ pgOwn (ndOf l fr).s) ++ pgOwn (dbl l fr), (false || !pgOk (wsOf l fr ++ o) (ndOf l fr).s) || !pgOk (wsOf l fr ++ o) (dbl l fr)) = _
  rw [List.foldl_append, fold_zeros, hs.1, hs.2, hd.2]
  unfold uL
  rw [List.foldl_cons, List.foldl_cons, List.foldl_cons, List.foldl_nil]
  show ((partL l 0 4 ++ partL l 4 30 ++ pgL (wsOf l fr ++ o) (uN l fr 0) ++ pgL (wsOf l fr ++ o) (uN l fr 1) ++ pgL (wsOf l fr ++ o) (uN l fr 2)) ++ List.replicate 810 0, [] ++ pgOwn (ndOf l fr).s ++ pgOwn (dbl l fr) ++ pgOwn (uN l fr 0) ++ pgOwn (uN l fr 1) ++ pgOwn (uN l fr 2), (((false || !true) || !true) || !pgOk (wsOf l fr ++ o) (uN l fr 0) || !pgOk (wsOf l fr ++ o) (uN l fr 1)) || !pgOk (wsOf l fr ++ o) (uN l fr 2)) = _
  rw [(hu 0 (by decide)).1, (hu 1 (by decide)).1, (hu 2 (by decide)).1, (hu 0 (by decide)).2, (hu 1 (by decide)).2, (hu 2 (by decide)).2, List.nil_append, own_all hok]
  have e : partL l 0 4 ++ partL l 4 30 ++ partL l (34 + 30 * 0) 30 ++ partL l (34 + 30 * 1) 30 ++ partL l (34 + 30 * 2) 30 = l ++ List.replicate (124 - l.length) 0 := by
    have h1 := partL_add l 0 4 30
    have h2 := partL_add l 0 34 30
    have h3 := partL_add l 0 64 30
    have h4 := partL_add l 0 94 30
    rw [Nat.zero_add] at h1 h2 h3 h4
    show partL l 0 4 ++ partL l 4 30 ++ partL l 34 30 ++ partL l 64 30 ++ partL l 94 30 = _
    rw [← h1, ← h2, ← h3, ← h4]
    unfold partL
    rw [List.drop_zero, List.take_of_length_le (by omega), Nat.sub_zero]
  rw [e, List.append_assoc, List.replicate_append_replicate]
  rfl
theorem alone_append : ∀ (a b seen : List Int), aloneB seen (a ++ b) = (aloneB seen a && aloneB (seen ++ a) b)
  | [], b, seen => by rw [List.nil_append, List.append_nil]; rfl
  | x :: a, b, seen => by
    rw [List.cons_append, aloneB, aloneB, alone_append a b, Bool.and_assoc, List.append_assoc]
    rfl
theorem alone_fresh (pts : List Int) : ∀ (f seen : List Int), freshB pts seen f = true → aloneB seen f = true
  | [], _, _ => rfl
  | p :: f, seen, h => by
    rw [freshB, Bool.and_eq_true] at h
    rw [aloneB, alone_fresh pts f _ h.2, Bool.and_true]
    have h1 := h.1
    unfold takeB at h1
    simp only [Bool.and_eq_true, Bool.not_eq_true'] at h1
    unfold okA
    rw [h1.1.2]; rfl
theorem alone_pts : ∀ (l s seen own : List Int), apartB s l = true → (∀ p ∈ l, p ≠ 0 → p ∉ own) → (∀ x ∈ seen, x ∈ own ∨ x ∈ s) → aloneB seen l = true
  | [], _, _, _, _, _, _ => rfl
  | p :: l, s, seen, own, h, ho, hs => by
    rw [apartB, Bool.and_eq_true] at h
    rw [aloneB, Bool.and_eq_true]
    refine ⟨?_, alone_pts l (s ++ [p]) (seen ++ [p]) own h.2 (fun q hq => ho q (List.mem_cons_of_mem _ hq)) (fun x hx => ?_)⟩
    · unfold okA
      by_cases h0 : p = 0
      · rw [h0]; simp
      · have h1 := h.1
        unfold okP at h1
        rw [beq_eq_false_iff_ne.2 h0, Bool.false_or, Bool.and_eq_true] at h1
        have h2 : s.contains p = false := by simpa using h1.1
        have : seen.contains p = false := by
          cases hc : seen.contains p with
          | false => rfl
          | true =>
            rcases hs p (List.contains_iff_mem.1 hc) with h3 | h3
            · exact absurd h3 (ho p List.mem_cons_self h0)
            · have := List.contains_iff_mem.2 h3
              rw [h2] at this; cases this
        rw [this]; rfl
    · rcases List.mem_append.1 hx with h1 | h1
      · rcases hs x h1 with h2 | h2
        · exact .inl h2
        · exact .inr (List.mem_append.2 (.inl h2))
      · exact .inr (List.mem_append.2 (.inr h1))
theorem trim_sub (l : List Int) : List.Sublist (trimL l) l := by
  unfold trimL
  have h := (List.dropWhile_sublist (fun p => p == 0) (l := l.reverse)).reverse
  rw [List.reverse_reverse] at h
  exact h
theorem fresh_mem {l : List Int} : ∀ {f seen : List Int}, freshB l seen f = true → ∀ p ∈ f, p ∉ l
  | [], _, _, p, hp => absurd hp List.not_mem_nil
  | x :: f, seen, h, p, hp => by
    rw [freshB, Bool.and_eq_true] at h
    rcases List.mem_cons.1 hp with rfl | hp
    · intro hm
      have h1 := h.1
      unfold takeB at h1
      simp only [Bool.and_eq_true, Bool.not_eq_true'] at h1
      have := List.contains_iff_mem.2 hm
      rw [h1.2] at this; cases this
    · exact fresh_mem h.2 p hp
/-- What was planned is read as it was, whatever other blocks there are. -/
theorem back_law {l fr : List Int} (hok : Ok l fr) (o : List Wr) : rdBad (wsOf l fr ++ o) (partL l 0 4) (ndOf l fr).s (dbl l fr) = false ∧ trimL (rdAll (wsOf l fr ++ o) (partL l 0 4) (ndOf l fr).s (dbl l fr)).1 = trimL l ∧ (rdAll (wsOf l fr ++ o) (partL l 0 4) (ndOf l fr).s (dbl l fr)).2.1 = fr.take (needN l) := by
  have hall := all_eq hok o
  have ht : trimL (rdAll (wsOf l fr ++ o) (partL l 0 4) (ndOf l fr).s (dbl l fr)).1 = trimL l := by rw [hall]; exact trim_zeros _ _
  have hw : (rdAll (wsOf l fr ++ o) (partL l 0 4) (ndOf l fr).s (dbl l fr)).2.1 = fr.take (needN l) := by rw [hall]
  refine ⟨?_, ht, hw⟩
  unfold rdBad
  rw [ht, hw, hall]
  have hp := hok.pts
  unfold ptsB at hp
  rw [Bool.and_eq_true] at hp
  have ha : apartB [] (trimL l) = true := apartB_sub (trim_sub l) (fun x hx => hx) hp.1
  have h1 : ptsB (trimL l) = true := by
    unfold ptsB
    rw [ha, Bool.true_and]
    exact decide_eq_true (Nat.le_trans (trim_le l) (of_decide_eq_true hp.2))
  have h2 : aloneB [] (fr.take (needN l) ++ trimL l) = true := by
    rw [alone_append, alone_fresh l _ _ hok.fresh, Bool.true_and]
    exact alone_pts (trimL l) [] _ (fr.take (needN l)) ha (fun p hp2 _ hm => fresh_mem hok.fresh p hm ((trim_sub l).subset hp2)) (fun x hx => .inl (by simpa using hx))
  rw [h1, h2]
  rfl
theorem ws_len {l fr : List Int} (hok : Ok l fr) : (wsOf l fr).length = needN l := by
  have hl := ptsB_len hok.pts
  rw [wsOf_three l fr hl, fillW_length, (undS_length l fr 3).1, ws2_length, need_eq hl]
end Go.Proofs.Ytbdbjlfdnijfeaa.Tree
