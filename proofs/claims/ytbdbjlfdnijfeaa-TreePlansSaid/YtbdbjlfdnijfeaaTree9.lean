/- For all worlds: tree.Plan where it answers an error. Conditions: the lists can be read; numbers are 64 bits wide. -/
import Derived.Test.YtbdbjlfdnijfeaaTree8
import Derived.Test.YtbdbjlfdnijfeaaWhole
namespace Go.Proofs.Ytbdbjlfdnijfeaa.Tree
open Go Go.RowKit Go.Maps Go.Proofs.YtbdbjlfdnijfeaaW.PrintWords Go.Proofs.YtbdbjlfdnijfeaaW.PrintLast Go.Proofs.YtbdbjlfdnijfeaaW.PrintMore
set_option linter.unusedVariables false
set_option linter.unusedSimpArgs false
/-- A node of the old format, as it lies in memory. -/
structure Nd where
  f : Int
  d : List Int
  s : Int
  g : Int
def Nd.c (n : Nd) : Array Value := #[.int .i64 0, .int .i64 n.f, .int .i64 0, .int .i64 0, .int .i64 (n.d.getD 0 0), .int .i64 (n.d.getD 1 0), .int .i64 (n.d.getD 2 0), .int .i64 (n.d.getD 3 0), .int .i64 n.s, .int .i64 n.g, .slice none 0 0, .int .i64 0]
def zNd : Nd := ⟨0, [], 0, 0⟩
/-! ### The plan, step by step as the code makes it -/
def resW (fr : List Int) (b : Bool) (ws : List Wr) : List Wr := if b = true then ws ++ [⟨fr.getD ws.length 0, []⟩] else ws
def resP (fr : List Int) (b : Bool) (ws : List Wr) : Int := if b = true then fr.getD ws.length 0 else 0
def ws1 (l fr : List Int) : List Wr := fillW (resP fr (someB (partL l 4 30)) []) (pageL (partL l 4 30)) (resW fr (someB (partL l 4 30)) [])
def ws2 (l fr : List Int) : List Wr := resW fr (someB (partL l 34 96)) (ws1 l fr)
def dbl (l fr : List Int) : Int := resP fr (someB (partL l 34 96)) (ws1 l fr)
def undS (l fr : List Int) : Nat → List Wr × List Int
  | 0 => (ws2 l fr, [])
  | k + 1 => (fillW (resP fr (usB l k) (undS l fr k).1) (pageL (partL l (34 + 30 * k) 30)) (resW fr (usB l k) (undS l fr k).1), (undS l fr k).2 ++ [resP fr (usB l k) (undS l fr k).1])
/-- How many rounds the loop takes. -/
def rnd (l : List Int) : Nat := (l.length - 34 + 29) / 30
def ndOf (l fr : List Int) : Nd := ⟨1, partL l 0 4, resP fr (someB (partL l 4 30)) [], dbl l fr⟩
def wsOf (l fr : List Int) : List Wr := fillW (dbl l fr) (pageL (undS l fr (rnd l)).2) (undS l fr (rnd l)).1
def errOf (l fr : List Int) : Int := if (needF l).2 = 0 then freshF fr (needN l) l else (needF l).2
def planF (l fr : List Int) : Nd × List Wr × Int := if errOf l fr = 0 then (ndOf l fr, wsOf l fr, 0) else (zNd, [], errOf l fr)
theorem zone : ∀ u ∈ zNd.c.toList, u.oneCell' = true := by decide
theorem infoND : (Try.prog.info? 32).map (·.size) = some 12 := by kernel_rfl
set_option maxHeartbeats 1000000 in
set_option maxRecDepth 100000 in
theorem plan_bad (A0 : Option Addr) (c0 n : Nat) (l0 : List Int) (hn : l0.length = n) (A1 : Option Addr) (c1 n1 : Nat) (l1 : List Int) (hn1 : l1.length = n1) (w : World) (hr0 : I.C w A0 n l0) (hc0 : n ≤ c0) (hw0 : wide l0 = true) (hr1 : I.C w A1 n1 l1) (hc1 : n1 ≤ c1) (he : errOf l0 l1 ≠ 0) :
    Calls Try.prog 11 #[.slice A0 n c0, .slice A1 n1 c1] w fun e w' => e = .returned (.tuple #[.agg zNd.c, .slice none 0 0, .int .i64 (errOf l0 l1)]) ∧ Below w.heap.size w w' := by
  have HN0 := Aside0.mk hn
  have HN1 := Aside0.mk hn1
  have HR0 := Aside0.mk hr0
  have HR1 := Aside0.mk hr1
  have HC0 := Aside0.mk hc0
  have HC1 := Aside0.mk hc1
  have HW0 := Aside0.mk hw0
  have hneed : ∀ W : World, Below w.heap.size w W → Calls Try.prog 7 #[.slice A0 n c0] W fun e w' => e = .returned (.tuple #[.int .i64 (needF l0).1, .int .i64 (needF l0).2]) ∧ Below W.heap.size W w' := fun W hW => need_calls A0 c0 n l0 HN0.out W (Kd.C_below HR0.out hW) HC0.out HW0.out
  by_cases hp : ptsB l0 = true
  · have hF : needF l0 = ((needN l0 : Int), 0) := by unfold needF; rw [if_pos hp]
    have hE : errOf l0 l1 = freshF l1 (needN l0) l0 := by unfold errOf; rw [hF, if_pos rfl]
    have hle := needN_le l0
    rw [hF] at hneed
    rw [hE]
    rw [hE] at he
    obtain ⟨nd, hnd⟩ : ∃ q, needN l0 = q := ⟨_, rfl⟩
    rw [hnd] at hneed he hle
    rw [hnd]
    obtain ⟨er, her⟩ : ∃ q, freshF l1 nd l0 = q := ⟨_, rfl⟩
    have hfr : ∀ (gb : Nat) (W : World), Below w.heap.size w W → W.heap[gb]? = some (.cells #[.slice A0 n c0] 22 (0, 0)) → Calls Try.prog 22 #[.slice A1 n1 c1, .int .i64 (nd : Int), .func (.func 23) #[] #[.pointer (some ⟨gb, 0, none⟩)]] W fun e w' => e = .returned (.int .i64 er) ∧ W = w' := fun gb W hW hg => by
      have h := fresh_calls A1 c1 n1 l1 HN1.out nd gb A0 c0 n l0 HN0.out (by omega) W (Kd.C_below HR1.out hW) HC1.out hg (Kd.C_below HR0.out hW)
      rw [her] at h
      exact h
    rw [her] at he
    rw [her]
    have ber : (er == 0) = false := beq_eq_false_iff_ne.2 he
    have ber2 : (er != 0) = true := bne_iff_ne.2 he
    have HNEED := Aside0.mk hneed
    have HFR := Aside0.mk hfr
    clear hn hn1 hr0 hr1 hc0 hc1 hw0 hneed hp hF hE hle hnd her hfr he
    go_enter Try.func11, Try.ntmps11
    go_wp2_with (first | (go_at_call 7; (with_reducible refine (HNEED.out _ (below_alloc (below_alloc (Below.refl _ _) _) _)).mono ?_); rintro e w1 ⟨rfl, hb⟩; have HB := Aside0.mk ((below_alloc (below_alloc (Below.refl w.heap.size w) (.cells #[.slice A0 n c0] 22)) (.cells zNd.c 32)).trans (hb.mono (below_alloc (below_alloc (Below.refl w.heap.size w) _) _).size)); have hg1 := blk_below (blk_alloc (blk_new w (.cells #[.slice A0 n c0] 22)) (.cells zNd.c 32)) hb; have hz1 := blk_below (blk_new (w.alloc (.cells #[.slice A0 n c0] 22)) (.cells zNd.c 32)) hb; have HG1 := Aside0.mk hg1; rw [World.size_alloc] at hz1; have HZ1 := Aside0.mk hz1; clear hb hg1 hz1) | (go_at_call 22; (with_reducible refine (HFR.out _ _ HB.out HG1.out).mono ?_); rintro e w2 ⟨rfl, rfl⟩) | ((with_reducible refine gate_ (.store 32 (.tmp 4) (.tmp 33)) rfl ?_); refine Whole.store_ ?sg ?sn 32 (.tmp 4) (.tmp 33) ?so (w.heap.size + 1) 0 32 zNd.c zNd.c zNd.c ?sx ?sy HZ1.out ?sf infoND zone ?sw ?_; (case sg => rfl); (case sn => rfl); (case so => rfl); (case sx => with_unfolding_all rfl); (case sy => with_unfolding_all rfl); (case sf => exact Nat.le_refl _); (case sw => with_unfolding_all rfl); intro w3 hz3 hg3 hs3; have HZ3 := Aside0.mk hz3; have HG3 := Aside0.mk hg3; clear hz3 hg3 hs3))
    refine bodyPost_ret (results_ctt rfl _ _ (w.heap.size + 1) _ zNd.c _ _ rfl HZ3.out Try.underlying32 rfl infoND) rfl ?_
    exact ⟨rfl, HB.out.trans ⟨HG3.out.os, HG3.out.tape, HG3.out.output, HG3.out.size, fun k hk => HG3.out.block k (Nat.lt_of_lt_of_le hk HB.out.size) (fun e => by have := Option.some.inj e; omega)⟩⟩
  · have hF : needF l0 = (0, 1) := by unfold needF; rw [if_neg hp]
    have hE : errOf l0 l1 = 1 := by unfold errOf; rw [hF, if_neg (by decide)]
    rw [hF] at hneed
    rw [hE]
    have HNEED := Aside0.mk hneed
    clear hn hn1 hr0 hr1 hc0 hc1 hw0 hneed hp hF hE he
    go_enter Try.func11, Try.ntmps11
    go_wp2_with (first | (go_at_call 7; (with_reducible refine (HNEED.out _ (below_alloc (below_alloc (Below.refl _ _) _) _)).mono ?_); rintro e w1 ⟨rfl, hb⟩; have HB := Aside0.mk ((below_alloc (below_alloc (Below.refl w.heap.size w) (.cells #[.slice A0 n c0] 22)) (.cells zNd.c 32)).trans (hb.mono (below_alloc (below_alloc (Below.refl w.heap.size w) _) _).size)); have hz1 := blk_below (blk_new (w.alloc (.cells #[.slice A0 n c0] 22)) (.cells zNd.c 32)) hb; rw [World.size_alloc] at hz1; have HZ1 := Aside0.mk hz1; clear hb hz1) | ((with_reducible refine gate_ (.store 32 (.tmp 4) (.tmp 33)) rfl ?_); refine Whole.store_ ?sg ?sn 32 (.tmp 4) (.tmp 33) ?so (w.heap.size + 1) 0 32 zNd.c zNd.c zNd.c ?sx ?sy HZ1.out ?sf infoND zone ?sw ?_; (case sg => rfl); (case sn => rfl); (case so => rfl); (case sx => with_unfolding_all rfl); (case sy => with_unfolding_all rfl); (case sf => exact Nat.le_refl _); (case sw => with_unfolding_all rfl); intro w3 hz3 hg3 hs3; have HZ3 := Aside0.mk hz3; have HG3 := Aside0.mk hg3; clear hz3 hg3 hs3))
    refine bodyPost_ret (results_ctt rfl _ _ (w.heap.size + 1) _ zNd.c _ _ rfl HZ3.out Try.underlying32 rfl infoND) rfl ?_
    exact ⟨rfl, HB.out.trans ⟨HG3.out.os, HG3.out.tape, HG3.out.output, HG3.out.size, fun k hk => HG3.out.block k (Nat.lt_of_lt_of_le hk HB.out.size) (fun e => by have := Option.some.inj e; omega)⟩⟩
end Go.Proofs.Ytbdbjlfdnijfeaa.Tree
