/- For all worlds: the thirty numbers of a block (field.Nums), whether it is sealed. Conditions: the bytes are bytes. -/
import Derived.Test.YtbdbjlfdnijfeaaTree15
import Derived.Test.YtbdbjlfdnijfeaaPAllx1
import Derived.Test.YtbdbjlfdnijfeaaPAllx2
namespace Go.Proofs.Ytbdbjlfdnijfeaa.Tree
open Go Go.RowKit Go.Maps Go.Proofs.YtbdbjlfdnijfeaaW.PrintWords Go.Proofs.YtbdbjlfdnijfeaaW.PrintLast Go.Proofs.YtbdbjlfdnijfeaaW.PrintMore
open Go.Proofs.Ytbdbjlfdnijfeaa.PAll
set_option linter.unusedVariables false
set_option linter.unusedSimpArgs false
def numT (l : List Int) (i : Nat) : Int := Field.getI ((l.take (2 * i + 2)).drop (2 * i))
def numsT (l : List Int) (n : Nat) : List Int := (List.range n).map (numT l)
theorem numsT_length (l : List Int) (n : Nat) : (numsT l n).length = n := by simp [numsT]
theorem numsT_succ (l : List Int) (n : Nat) : numsT l (n + 1) = numsT l n ++ [numT l n] := by simp [numsT, List.range_succ]
theorem bytes_seg {l : List Int} (h : Spin.Bytes l) (a b : Nat) : Spin.Bytes ((l.take a).drop b) := fun x hx => h x (List.mem_of_mem_take (List.mem_of_mem_drop hx))
theorem numT_range {l : List Int} (h : Spin.Bytes l) (i : Nat) : 0 ≤ numT l i ∧ numT l i < 65536 := by
  have h1 := Field.getI_range _ (bytes_seg h (2 * i + 2) (2 * i))
  have h2 : ((l.take (2 * i + 2)).drop (2 * i)).length ≤ 2 := by rw [List.length_drop, List.length_take]; omega
  obtain ⟨m, hm⟩ : ∃ m, ((l.take (2 * i + 2)).drop (2 * i)).length = m := ⟨_, rfl⟩
  rw [hm] at h1 h2
  refine ⟨h1.1, ?_⟩
  have h3 := h1.2
  have h4 : m = 0 ∨ m = 1 ∨ m = 2 := by omega
  unfold numT
  rcases h4 with rfl | rfl | rfl
  · have : (256 : Int) ^ 0 = 1 := by decide
    omega
  · have : (256 : Int) ^ 1 = 256 := by decide
    omega
  · have : (256 : Int) ^ 2 = 65536 := by decide
    omega
theorem numT_eq {l : List Int} (h : Spin.Bytes l) (h64 : l.length = 64) (i : Nat) (hi : i < 30) : field_Num.f l ((2 * i : Nat) : Int) 2 = some (numT l i) := by
  have e : wrap64 (((2 * i : Nat) : Int) + 2) = ((2 * i + 2 : Nat) : Int) := by unfold wrap64; omega
  unfold field_Num.f
  rw [e, if_pos (by omega), if_pos (by omega), if_pos (by omega), Int.toNat_natCast, Int.toNat_natCast]
  unfold field_get.f Field.getF
  rw [if_pos ⟨bytes_seg h _ _, by rw [List.length_drop, List.length_take]; omega⟩]
  rfl
theorem numsT_loop {l : List Int} (h : Spin.Bytes l) (h64 : l.length = 64) : ∀ d i k : Nat, d + i = 30 → d < k → field_Nums.l0 k l 0 2 (numsT l i) 30 (i : Int) = some (numsT l 30)
  | 0, i, k + 1, hd, hk => by
    obtain rfl : i = 30 := by omega
    rw [field_Nums.l0, if_neg (by omega)]
  | d + 1, i, k + 1, hd, hk => by
    have e : wrap64 (0 + wrap64 ((i : Int) * 2)) = ((2 * i : Nat) : Int) := by unfold wrap64; omega
    rw [field_Nums.l0, if_pos (by omega), e, numT_eq h h64 i (by omega), Option.bind_some, if_pos (by rw [numsT_length]; omega), ← numsT_succ, show wrap64 ((i : Int) + 1) = ((i + 1 : Nat) : Int) from by unfold wrap64; omega]
    exact numsT_loop h h64 d (i + 1) k (by omega) (by omega)
theorem numsT_calls (A0 : Option Addr) (c0 : Nat) (l0 : List Int) (h64 : l0.length = 64) (hb : Spin.Bytes l0) (w : World) (hr0 : U.C w A0 64 l0) (hc0 : 64 ≤ c0) :
    Calls Try.prog 45 #[.slice A0 64 c0, .int .i64 0, .int .i64 2, .int .i64 30] w fun e w' => ∃ v0_ : Value, e = .returned (v0_) ∧ I.R 3 w' w.heap.size (fun _ => True) v0_ (numsT l0 30) ∧ Below w.heap.size w w' := by
  have h := field_Nums.calls 31 A0 c0 l0 0 2 30 (numsT l0 30) w (by rw [h64]; exact hr0) (by rw [h64]; exact hc0) (by
    unfold field_Nums.f
    exact numsT_loop hb h64 30 0 31 (by omega) (by omega))
  rw [h64] at h
  exact h
/-- Has the block its check sum? -/
def sealB (l : List Int) : Bool := decide (l.length = 64) && (Field.getI (l.drop 60) == Spin.tellI (Spin.runI (Spin.startI 65536) (l.take 60)))
theorem sealB_eq {l : List Int} (hb : Spin.Bytes l) : Field.sealedF l = some (sealB l) := by
  unfold Field.sealedF sealB
  by_cases h : l.length = 64
  · rw [if_pos h, decide_eq_true h, Bool.true_and]
    have h1 : Field.getF (l.drop 60) = some (Field.getI (l.drop 60)) := by
      unfold Field.getF
      rw [if_pos ⟨fun x hx => hb x (List.mem_of_mem_drop hx), by rw [List.length_drop]; omega⟩]
    have h2 : Spin.sumF (l.take 60) = some (Spin.tellI (Spin.runI (Spin.startI 65536) (l.take 60))) := by
      unfold Spin.sumF Spin.moreF
      rw [if_pos ⟨by omega, by omega, fun x hx => hb x (List.mem_of_mem_take hx), by rw [List.length_take]; omega⟩]
    rw [h1, h2]
    rfl
  · rw [if_neg h, decide_eq_false h]
    rfl
theorem sealB_calls (A0 : Option Addr) (c0 n : Nat) (l0 : List Int) (hn : l0.length = n) (hb : Spin.Bytes l0) (w : World) (hr0 : U.C w A0 n l0) (hc0 : n ≤ c0) :
    Calls Try.prog 44 #[.slice A0 n c0] w fun e w' => e = .returned (.bool (sealB l0)) ∧ Drawn0 w w' := by
  subst hn
  exact Field.sealed_calls A0 c0 l0 _ w hr0 hc0 (sealB_eq hb)
end Go.Proofs.Ytbdbjlfdnijfeaa.Tree
