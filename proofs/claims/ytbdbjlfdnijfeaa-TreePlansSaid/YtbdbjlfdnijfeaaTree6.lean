/- For all worlds: a page of pointers; what gives blocks out, its reserve. Conditions: the lists can be read; the blocks lie as the state says. -/
import Derived.Test.YtbdbjlfdnijfeaaTree5
import Derived.Test.YtbdbjlfdnijfeaaPageRow
import Derived.Test.YtbdbjlfdnijfeaaBase
namespace Go.Proofs.Ytbdbjlfdnijfeaa.Tree
open Go Go.RowKit Go.Maps Go.Proofs.YtbdbjlfdnijfeaaW.PrintWords Go.Proofs.YtbdbjlfdnijfeaaW.PrintLast Go.Proofs.YtbdbjlfdnijfeaaW.PrintMore
set_option linter.unusedVariables false
set_option linter.unusedSimpArgs false
abbrev U : Kd Int := Kd.int .u8
open Go.Proofs.Ytbdbjlfdnijfeaa.Page (Pg setsL setsK) in
open Go.Proofs.Ytbdbjlfdnijfeaa.Field (Wrote sealF putL sealI) in
/-- A block of pointers. -/
def pageL (l : List Int) : List Int := sealI (setsL (List.replicate 64 0) 0 2 l)
theorem setsK_bytes (o m : Nat) (xs : List Int) : ∀ k, Spin.Bytes (Page.setsK (List.replicate 64 0) o m xs k)
  | 0 => Field.bytes_replicate 64
  | k + 1 => by rw [Page.setsK]; exact Field.putL_bytes (setsK_bytes o m xs k) _ _ _
theorem page_seal (l : List Int) : Field.sealF (Page.setsL (List.replicate 64 0) 0 2 l) = some (pageL l, 0) :=
  Field.seal_eq (setsK_bytes 0 2 l l.length) (by rw [Page.setsL_length, List.length_replicate])
theorem pageL_length (l : List Int) : (pageL l).length = 64 := Field.sealI_length _ (by rw [Page.setsL_length, List.length_replicate])
theorem text0 : Text.textL (List.replicate 64 0) 0 ⟨#[]⟩ = List.replicate 64 0 := by rfl
set_option maxHeartbeats 1000000 in
theorem page_calls (A0 : Option Addr) (c0 n : Nat) (l0 : List Int) (hn : l0.length = n) (w : World) (hr0 : I.C w A0 n l0) (hx : ∀ x ∈ l0, 0 ≤ x ∧ x < 4294967296) (hl : n ≤ 32) :
    Calls Try.prog 40 #[.slice A0 n c0] w fun e w' => ∃ v, e = .returned v ∧ U.R 5 w' w.heap.size (fun _ => True) v (pageL l0) ∧ Below w.heap.size w w' := by
  subst hn
  have HR := Aside0.mk hr0
  have HX := Aside0.mk hx
  have HL := Aside0.mk hl
  have hnew := Page.newPage_calls ⟨#[]⟩ (Nat.zero_le _) w
  rw [text0] at hnew
  have HNEW := Aside0.mk hnew
  have hset : ∀ (p g : Nat) (W : World), Page.Pg W p g (List.replicate 64 0) → Below w.heap.size w W → w.heap.size ≤ p → w.heap.size ≤ g → Calls Try.prog 50 #[.pointer (some ⟨p, 0, none⟩), .int .i64 0, .int .i64 2, .slice A0 l0.length c0] W fun e w' => e = .returned (.pointer (some ⟨p, 0, none⟩)) ∧ Page.Pg w' p g (Page.setsL (List.replicate 64 0) 0 2 l0) ∧ Below w.heap.size w w' := fun p g W hp hb h1 h2 =>
    (Page.setRow_at 0 2 p g 0 2 c0 A0 _ l0 W rfl rfl hp (Kd.C_below HR.out hb) HX.out (by decide) (by decide) (by have := HL.out; omega)).mono fun e w' h => ⟨h.1, hp.wrote (by rw [Page.setsL_length]) h.2, hb.trans (h.2.below h2)⟩
  have HSET := Aside0.mk hset
  obtain ⟨n, hn⟩ : ∃ n, l0.length = n := ⟨_, rfl⟩
  rw [hn] at HSET
  rw [hn]
  clear hr0 hx hl hnew hset hn
  go_enter Try.func40, Try.ntmps40
  go_wp2_with (first | (go_at_call 49; (with_reducible refine HNEW.out.mono ?_); rintro e w1 ⟨p, g, rfl, h1, h2, h3, h4⟩; have HP := Aside0.mk (HSET.out p g _ h3 h4 h1 h2); clear h1 h2 h3 h4) | (go_at_call 50; (with_reducible refine HP.out.mono ?_); rintro e w2 ⟨rfl, h5, h6⟩; have HSL := Aside0.mk (Page.pageSeal_calls p g _ _ _ _ h5 (page_seal l0)); have HB6 := Aside0.mk h6; clear h5 h6) | (go_at_call 51; (with_reducible refine HSL.out.mono ?_); rintro e w3 ⟨v3, rfl, h7, h8⟩; obtain ⟨A3, c3, rfl⟩ := Kd.R_slice h7; have H7 := Aside0.mk h7; have H8 := Aside0.mk h8; clear h7 h8))
  go_ret
  exact ⟨_, rfl, Kd.R_lower H7.out HB6.out.size, HB6.out.trans (H8.out.mono HB6.out.size)⟩
end Go.Proofs.Ytbdbjlfdnijfeaa.Tree
