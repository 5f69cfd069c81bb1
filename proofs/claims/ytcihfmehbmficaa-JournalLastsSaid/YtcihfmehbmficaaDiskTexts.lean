/- Package disk: texts as blocks, and what lies in a disk behind writes. -/
import Derived.Test.YtcihfmehbmficaaDisk9
import Derived.Laws.CopyOwn
namespace Go.Proofs.Ytcihfmehbmficaa.Disk
open Go Go.RowKit Go.Proofs.YtcihfmehbmficaaW.PrintWords Go.Proofs.YtcihfmehbmficaaW.PrintLast Go.Proofs.YtcihfmehbmficaaW.PrintMore
set_option linter.unusedVariables false
set_option linter.unusedSimpArgs false

def z64 : List Int := List.replicate 64 0
/-- A text as a block. -/
def pad (l : List Int) : List Int := l.take 64 ++ List.replicate (64 - l.length) 0
theorem pad_length (l : List Int) : (pad l).length = 64 := by
  simp only [pad, List.length_append, List.length_take, List.length_replicate]; omega
theorem pad_splice {Z : Array Value} (hZ : Z.toList = nums .u8 z64) (l : List Int) : splice Z.toList 0 (nums .u8 (l.take 64)) = nums .u8 (pad l) := by
  rw [hZ]
  unfold splice pad nums z64
  rw [List.take_zero, List.nil_append, List.map_append, List.map_replicate, List.map_replicate, Nat.zero_add, List.drop_replicate, List.length_map, List.length_take]
  congr 2
  omega
def str (l : List Int) : ByteArray := strOfNums l
def runs (bs : List Blk) (ws : List Wr) : List Blk := ws.foldl (fun bs x => bs.modify x.tgt.toNat (push x.data)) bs
theorem runs_snoc (bs : List Blk) (ws : List Wr) (x : Wr) : runs bs (ws ++ [x]) = (runs bs ws).modify x.tgt.toNat (push x.data) := by simp [runs]
theorem runs_length : ∀ (ws : List Wr) (bs : List Blk), (runs bs ws).length = bs.length
  | [], _ => rfl
  | x :: ws, bs => by
    show (runs (bs.modify x.tgt.toNat (push x.data)) ws).length = _
    rw [runs_length ws, List.length_modify]
theorem putRun_free : ∀ (ws : List Wr) (bs : List Blk), putRun false (-1) bs ws = (⟨false, -1, runs bs ws⟩, 0)
  | [], bs => rfl
  | x :: ws, bs => by
    rw [putRun, if_neg (by decide)]
    exact putRun_free ws _
theorem curB_push (x : List Int) (b : Blk) : curB (push x b) = x := by
  unfold curB push
  rw [List.getLastD_eq_getLast?, List.getLast?_append]
  rfl
theorem kb_eq (b : Blk) : kb b = ⟨curB b, []⟩ := by
  unfold kb keepB keepN curB
  cases h : b.opn with
  | nil => rfl
  | cons x y =>
    have e : (min ((x :: y).length : Int) ((x :: y).length : Int)).toNat = y.length + 1 := by rw [List.length_cons]; omega
    rw [e, if_neg (by omega), Nat.add_sub_cancel, List.getLastD_eq_getLast?, List.getLast?_eq_getElem?, List.length_cons, Nat.add_sub_cancel, List.getD_eq_getElem?_getD]
    have : (x :: y)[y.length]? = some ((x :: y)[y.length]'(by simp)) := List.getElem?_eq_getElem (by simp)
    rw [this]; rfl
theorem keepB_empty (b : Blk) (h : b.opn = []) (n : Int) : keepB b n = b := by
  unfold keepB keepN
  rw [h]
  have e : (min n (([] : List (List Int)).length : Int)).toNat = 0 := by simp; omega
  rw [if_pos e]
  obtain ⟨l, o⟩ := b
  obtain rfl : o = [] := h
  rfl
theorem restart_kb (bs : List Blk) (l : List Int) : (bs.map kb).mapIdx (fun i b => keepB b (l.getD i 0)) = bs.map kb := by
  apply List.ext_getElem?
  intro i
  rw [List.getElem?_mapIdx, List.getElem?_map]
  cases bs[i]? with
  | none => rfl
  | some b =>
    show some (keepB (kb b) _) = some (kb b)
    rw [keepB_empty _ (by rw [kb_eq])]
/-- The strings of what lies in the blocks. -/
def lastS (bs : List Blk) : List ByteArray := bs.map (fun b => str (curB b))
theorem lastS_push (bs : List Blk) (t : Nat) (x : List Int) : lastS (bs.modify t (push x)) = (lastS bs).set t (str x) := by
  apply List.ext_getElem?
  intro i
  rw [lastS, List.getElem?_map, List.getElem?_modify, List.getElem?_set, lastS, List.length_map, List.getElem?_map]
  by_cases e : t = i
  · subst e
    rw [if_pos rfl]
    cases h : bs[t]? with
    | none =>
      have := List.getElem?_eq_none_iff.1 h
      rw [if_neg (by omega)]; rfl
    | some b =>
      rw [if_pos (List.getElem?_eq_some_iff.1 h).1]
      show some (str (curB (if t = t then push x b else b))) = _
      rw [if_pos rfl, curB_push]
  · rw [if_neg e]
    cases bs[i]? with
    | none => rfl
    | some b =>
      show some (str (curB (if t = i then push x b else b))) = _
      rw [if_neg e]; rfl
def strs (l : List ByteArray) : List Value := l.map Value.string
theorem strs_set (l : List ByteArray) (t : Nat) (s : ByteArray) : (strs l).toArray.setIfInBounds t (.string s) = (strs (l.set t s)).toArray := by
  rw [List.setIfInBounds_toArray]
  unfold strs
  rw [List.map_set]
theorem at_row {w : World} {A : Option Addr} {n : Nat} {xs : List (List Int)} (h : Kd.C (Kd.slice 5 B) w A n xs) {i : Nat} {x : List Int} (hi : xs[i]? = some x) :
    ∃ ad A1 c1, A = some ad ∧ w.cell? (ad.add i) = some (.slice A1 x.length c1) ∧ x.length ≤ c1 ∧ B.C w A1 x.length x := by
  have hl : i < n := by rw [← h.1]; exact (List.getElem?_eq_some_iff.1 hi).1
  obtain ⟨ad, c, e, _, hK, hc0⟩ := Kd.C_get h ([] : List Int) (i : Int) (by omega) (by omega)
  have hx : xs.getD ((i : Int)).toNat [] = x := by rw [Int.toNat_natCast, List.getD_eq_getElem?_getD, hi]; rfl
  rw [hx] at hK
  have hc : ∀ j u, c[j]? = some u → w.cell? (ad.add (i * 1 + j)) = some u := hc0
  obtain ⟨A1, c1, rfl, l1, g1⟩ := hK
  exact ⟨ad, A1, c1, e, by have hq := hc 0 _ rfl; rwa [Nat.mul_one, Nat.add_zero] at hq, l1, g1⟩
theorem conv_str {w : World} {A : Option Addr} {n c : Nat} {l : List Int} (h : B.C w A n l) : (convert 23 9 (.slice A n c)).run Try.prog w = .ok (.string (str l)) w :=
  Kd.C_string Try.underlying23 Try.underlying5 Try.underlying9 h
end Go.Proofs.Ytcihfmehbmficaa.Disk
