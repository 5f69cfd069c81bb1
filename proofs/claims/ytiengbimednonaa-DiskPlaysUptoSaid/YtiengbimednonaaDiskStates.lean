/- For all worlds: a row of rows of texts that a call has made: each row in a block of its own, apart from a disk. Conditions: the rows lie in the blocks that are given. -/
import Derived.Test.YtiengbimednonaaDiskTexts
namespace Go.Proofs.Ytiengbimednonaa.Disk
open Go Go.RowKit Go.Proofs.YtiengbimednonaaW.PrintWords Go.Proofs.YtiengbimednonaaW.PrintLast Go.Proofs.YtiengbimednonaaW.PrintMore
set_option linter.unusedVariables false
set_option linter.unusedSimpArgs false
/-- The texts of a block: what lasts, then what is open. -/
def texts (b : Blk) : List ByteArray := (b.last :: b.opn).map str
theorem texts_push (x : List Int) (b : Blk) : texts (push x b) = texts b ++ [str x] := by simp [texts, push]
theorem texts_length (b : Blk) : (texts b).length = b.opn.length + 1 := by simp [texts]
theorem keepN_le (b : Blk) (m : Int) : keepN b m ≤ b.opn.length := by unfold keepN; omega
theorem keep_text (b : Blk) (m : Int) : (texts b)[keepN b m]? = some (str (keepB b m).last) := by
  have h := keepN_le b m
  unfold keepB texts
  cases e : keepN b m with
  | zero => simp
  | succ n =>
    rw [e] at h
    have hn : n < b.opn.length := by omega
    simp [List.getD_eq_getElem?_getD, hn]
theorem keep_opn (b : Blk) (m : Int) : (keepB b m).opn = [] := rfl
theorem texts_modify (bs : List Blk) (t : Nat) (x : List Int) (b : Blk) (hb : bs[t]? = some b) : (bs.modify t (push x)).map texts = (bs.map texts).set t (texts b ++ [str x]) := by
  apply List.ext_getElem?
  intro i
  rw [List.getElem?_map, List.getElem?_modify, List.getElem?_set, List.length_map, List.getElem?_map]
  have ht : t < bs.length := (List.getElem?_eq_some_iff.1 hb).1
  by_cases e : t = i
  · subst e
    rw [if_pos rfl, if_pos ht, hb]
    simp [texts_push]
  · rw [if_neg e]
    simp [e]
/-- The rows, at one world: the cells C of block g; F are the blocks they keep apart from. -/
structure Sx (w : World) (F : Nat → Prop) (base g : Nat) (C : Array Value) (xs : List (List ByteArray)) : Prop where
  hb : w.heap[g]? = some (.cells C 31 (0, 0))
  sz : C.size = xs.length
  row : ∀ (i : Nat) (v : Value) (x : List ByteArray), C[i]? = some v → xs[i]? = some x → Kd.string.R 9 w base (fun k => ¬ F k) v x
  ne : ∀ (i j : Nat) (vi vj : Value), i ≠ j → C[i]? = some vi → C[j]? = some vj → ∀ k, vi.ownBlock = some k → vj.ownBlock ≠ some k
  far : ¬ F g
theorem strR_reok {w : World} {base : Nat} {e : Nat} {ok ok' : Nat → Prop} {v : Value} {xs : List ByteArray} (h : Kd.string.R e w base ok v xs) (hok : ∀ k, v.ownBlock = some k → ok' k) : Kd.string.R e w base ok' v xs :=
  ⟨hok, h.2.imp_ (fun _ _ hp => hp)⟩
theorem at_text {w : World} {A : Option Addr} {n : Nat} {xs : List ByteArray} (h : Kd.string.C w A n xs) {i : Nat} {x : ByteArray} (hi : xs[i]? = some x) : ∃ ad, A = some ad ∧ w.cell? (ad.add i) = some (.string x) := by
  have hl : i < n := by rw [← h.1]; exact (List.getElem?_eq_some_iff.1 hi).1
  obtain ⟨ad, c, e, _, hK, hc0⟩ := Kd.C_get h ByteArray.empty (i : Int) (by omega) (by omega)
  have hx : xs.getD ((i : Int)).toNat ByteArray.empty = x := by rw [Int.toNat_natCast, List.getD_eq_getElem?_getD, hi]; rfl
  rw [hx] at hK
  have hc : ∀ j u, c[j]? = some u → w.cell? (ad.add (i * 1 + j)) = some u := hc0
  obtain rfl : c = [.string x] := hK
  exact ⟨ad, e, by have hq := hc 0 _ rfl; rwa [Nat.mul_one, Nat.add_zero] at hq⟩
section
variable {w w1 : World} {F F' : Nat → Prop} {base g : Nat} {C : Array Value} {xs : List (List ByteArray)}
theorem Sx.ch (h : Sx w F base g C xs) (hc : Ch w w1 F F') : Sx w1 F' base g C xs :=
  ⟨(hc.far g (blk_lt h.hb) h.far).trans h.hb, h.sz, fun i v x hv hx => by
    have hr := h.row i v x hv hx
    refine strR_reok (Kd.R_step hr (fun k ho hk => hc.far k hk ho)) (fun k hk hF => ?_)
    have h1 := Kd.R_lt hr k hk
    exact (hc.new k hF).elim (hr.1 k hk) (fun h2 => by omega), h.ne, fun hF => by
    have h1 := blk_lt h.hb
    exact (hc.new g hF).elim h.far (fun h2 => by omega)⟩
theorem Sx.below (h : Sx w F base g C xs) (hb : Below w.heap.size w w1) : Sx w1 F base g C xs := h.ch (Ch.of_below F hb)
theorem Sx.put (h : Sx w F base g C xs) {t : Nat} {v v1 : Value} {y : List ByteArray} (ht : C[t]? = some v) (hs : w.heap.size ≤ w1.heap.size) (hf : ∀ k, k < w.heap.size → some k ≠ v.ownBlock → w1.heap[k]? = w.heap[k]?)
    (hg : some g ≠ v.ownBlock) (hr : Kd.string.R 9 w1 base (fun k => ¬ F k) v1 y) (hn : v1.ownBlock = v.ownBlock ∨ ∃ b, v1.ownBlock = some b ∧ w.heap.size ≤ b) :
    Sx (w1.setCell ⟨g, t, none⟩ v1) F base g (C.setIfInBounds t v1) (xs.set t y) := by
  have hb1 : w1.heap[g]? = some (.cells C 31 (0, 0)) := (hf g (blk_lt h.hb) hg).trans h.hb
  have htC : t < C.size := (Array.getElem?_eq_some_iff.1 ht).1
  have key : ∀ (j : Nat) (vj : Value), t ≠ j → C[j]? = some vj → ∀ k, vj.ownBlock = some k → v1.ownBlock ≠ some k := by
    intro j vj hj hvj k hk hk1
    rcases hn with e | ⟨b, e, hbb⟩
    · exact h.ne t j v vj hj ht hvj k (e.symm.trans hk1) hk
    · obtain ⟨x, hx⟩ : ∃ x, xs[j]? = some x := ⟨_, List.getElem?_eq_getElem (by rw [← h.sz]; exact (Array.getElem?_eq_some_iff.1 hvj).1)⟩
      have h1 := Kd.R_lt (h.row j vj x hvj hx) k hk
      rw [e] at hk1
      have := Option.some.inj hk1
      omega
  refine ⟨blk_set hb1 t v1, by rw [Array.size_setIfInBounds, List.length_set]; exact h.sz, fun i u x hu hx => ?_, fun i j vi vj hij hi hj k hk => ?_, h.far⟩
  · by_cases e : t = i
    · subst e
      rw [Array.getElem?_setIfInBounds_self_of_lt htC] at hu
      rw [List.getElem?_set_self (by rw [← h.sz]; exact htC)] at hx
      obtain rfl := Option.some.inj hu
      obtain rfl := Option.some.inj hx
      exact Kd.R_set hr hb1 (by decide) t _
    · rw [Array.getElem?_setIfInBounds_ne (by omega)] at hu
      rw [List.getElem?_set_ne e] at hx
      have hr0 := h.row i u x hu hx
      refine Kd.R_set ?_ hb1 (by decide) t _
      refine strR_reok (Kd.R_step (strR_reok hr0 (ok' := fun k => some k ≠ v.ownBlock) (fun k hk he => h.ne i t u v (fun h => e h.symm) hu ht k hk he.symm)) (fun k ho hk => hf k hk ho)) hr0.1
  · by_cases e : t = i
    · subst e
      rw [Array.getElem?_setIfInBounds_self_of_lt htC] at hi
      rw [Array.getElem?_setIfInBounds_ne (by omega)] at hj
      obtain rfl := Option.some.inj hi
      exact fun h1 => key j vj hij hj k h1 hk
    · rw [Array.getElem?_setIfInBounds_ne (by omega)] at hi
      by_cases e2 : t = j
      · subst e2
        rw [Array.getElem?_setIfInBounds_self_of_lt htC] at hj
        obtain rfl := Option.some.inj hj
        exact key i vi e hi k hk
      · rw [Array.getElem?_setIfInBounds_ne (by omega)] at hj
        exact h.ne i j vi vj hij hi hj k hk
theorem DW.kept {g : Nat} {s : DS} (h : DW w F g s) (hk : ∀ k, F k → w1.heap[k]? = w.heap[k]?) (hs : w.heap.size ≤ w1.heap.size) : DW w1 F g s := by
  obtain ⟨gb, C, v, f, h⟩ := h; exact ⟨gb, C, v, f, h.kept hk hs⟩
theorem put_one {g : Nat} {BS : List Blk} (h : DW w F g ⟨false, -1, BS⟩) (hn : BS.length = 6) {gz t : Nat} {data : List Int} (ht : t < 6) (h64 : data.length = 64) (hz : w.heap[gz]? = some (.cells (nums .u8 data).toArray 5 (0, 0))) (hF : ¬ F gz)
    (hcap : ∀ (i : Nat) (b : Blk), BS[i]? = some b → b.opn.length + 1 ≤ 2199023255551) :
    Calls Try.prog 10 #[.pointer (some ⟨g, 0, none⟩), .slice (some ⟨w.heap.size, 0, none⟩) 1 1] (w.alloc (.cells #[.int .i64 (t : Int), .slice (some ⟨gz, 0, none⟩) 64 64] 34)) fun e w' => e = .returned (.int .i64 0) ∧ PutP (w.alloc (.cells #[.int .i64 (t : Int), .slice (some ⟨gz, 0, none⟩) 64 64] 34)) w' F g ⟨false, -1, BS.modify t (push data)⟩ := by
  have hgl := blk_lt hz
  have hd := h.below (below_alloc (Below.refl _ _) (.cells #[.int .i64 (t : Int), .slice (some ⟨gz, 0, none⟩) 64 64] 34))
  have hcon := put_at hd rfl (by show (-1 : Int) ≤ _; omega) (some ⟨w.heap.size, 0, none⟩) 1 1 [⟨(t : Int), data⟩] rfl (RW.one (blk_new _ _) h64 (Nat.le_refl _) (C_blk (blk_alloc hz _) rfl h64 (by omega)) (by have := World.size_alloc w (.cells #[.int .i64 (t : Int), .slice (some ⟨gz, 0, none⟩) 64 64] 34); omega) (fun hf => by have := h.lt _ hf; omega) hF) (by omega) hcap
  have hput : putF ⟨false, -1, BS⟩ [⟨(t : Int), data⟩] = (⟨false, -1, BS.modify t (push data)⟩, 0) := by
    have g1 : badLen [⟨(t : Int), data⟩] = false := by simp [badLen, h64]
    have g2 : badTo BS.length [⟨(t : Int), data⟩] = false := by
      refine List.any_eq_false.2 fun x hx => ?_
      simp only [List.mem_singleton] at hx
      subst hx
      rw [Bool.not_eq_true, Bool.or_eq_false_iff]
      exact ⟨decide_eq_false (by show ¬ ((t : Int) < 0); omega), decide_eq_false (by show ¬ ((BS.length : Int) ≤ (t : Int)); omega)⟩
    unfold putF
    rw [if_neg (show ¬ (false = true) from by decide), g1, if_neg (by decide), show (⟨false, -1, BS⟩ : DS).bs = BS from rfl, g2, if_neg (by decide)]
    exact putRun_free _ _
  rw [hput] at hcon
  exact hcon
end
end Go.Proofs.Ytiengbimednonaa.Disk
