/- (*field.Page).Text: a text's bytes at a place of a page. -/
import Derived.Test.YtnccbebjligpdaaPage
import Derived.Maps.OwnSet
import Derived.Maps.Own
import Derived.Deep.LoopGhost
namespace Go.Proofs.Ytnccbebjligpdaa.Page
open Go Go.RowKit Go.Proofs.YtnccbebjligpdaaW.PrintWords Go.Proofs.YtnccbebjligpdaaW.PrintLast Go.Proofs.YtnccbebjligpdaaW.PrintMore Go.Proofs.Ytnccbebjligpdaa.Field Go.Proofs.Ytnccbebjligpdaa.Text Go.Proofs.Ytnccbebjligpdaa.Spin
set_option linter.unusedVariables false
set_option linter.unusedSimpArgs false

theorem pageText_calls (p g o : Nat) (s : ByteArray) (l : List Int) (w : World) (hp : Pg w p g l) (ho : o < 64) (hs : o + s.size ≤ 64) :
    Calls Try.prog 29 #[.pointer (some ⟨p, 0, none⟩), .int .i64 o, .string s] w fun e w' => e = .returned (.pointer (some ⟨p, 0, none⟩)) ∧ Wrote g (nums .u8 (textL l o s)).toArray w w' := by
  have hc2 : w.cell? ⟨p, 0, none⟩ = some (.slice (some ⟨g, 0, none⟩) 64 64) := blk_cell hp.at_p 0
  have hsz : (nums .u8 l).toArray.size = 64 := by rw [List.size_toArray, nums_length]; exact hp.len
  have hcopy : (Builtin.copy_ #[23, 9] 3 #[.slice (some ⟨g, o, none⟩) (64 - o) (64 - o), .string s]).run Try.prog w = .ok (.int .i64 s.size) (w.setRow g ((nums .u8 l).toArray.toList.take o ++ Lib.strCells s ++ (nums .u8 l).toArray.toList.drop (o + s.size)).toArray) :=
    run_copy_str w _ _ _ 5 g o _ _ s (nums .u8 l).toArray 5 Try.underlying23 (by kernel_rfl) hp.at_g (by omega) (by omega)
  have HW := Aside0.mk (Wrote.setRow (Wrote.refl hp.at_g) ((nums .u8 l).toArray.toList.take o ++ Lib.strCells s ++ (nums .u8 l).toArray.toList.drop (o + s.size)).toArray)
  have hcs : (nums .u8 l).toArray.toList.take o ++ Lib.strCells s ++ (nums .u8 l).toArray.toList.drop (o + s.size) = nums .u8 (textL l o s) := by
    rw [← str_nums, textL]
    simp only [nums, List.map_append, List.map_take, List.map_drop]
  rw [hcs] at hcopy HW
  generalize hW2 : w.setRow g (nums .u8 (textL l o s)).toArray = w2 at hcopy HW
  have k1 : (0 ≤ (o : Int)) = True := eq_true (Int.natCast_nonneg o)
  have k2 : ((o : Int) ≤ 64) = True := eq_true (by omega)
  have k3 : (o ≤ 64) = True := eq_true (by omega)
  have k4 : (64 = o) = False := eq_false (by omega)
  clear hcs hsz hW2 hp ho hs
  go_enter Try.func29, Try.ntmps29
  go_wp2_with fail
  go_ret
  exact ⟨rfl, HW.out⟩
theorem pageText_at (oI : Int) (p g o : Nat) (s : ByteArray) (l : List Int) (w : World) (h1 : (o : Int) = oI) (hp : Pg w p g l) (ho : o < 64) (hs : o + s.size ≤ 64) :
    Calls Try.prog 29 #[.pointer (some ⟨p, 0, none⟩), .int .i64 oI, .string s] w fun e w' => e = .returned (.pointer (some ⟨p, 0, none⟩)) ∧ Wrote g (nums .u8 (textL l o s)).toArray w w' := by
  subst h1
  exact pageText_calls p g o s l w hp ho hs
theorem _root_.Go.Proofs.Ytnccbebjligpdaa.Field.Wrote.cell_far {g : Nat} {cs : Array Value} {w w' : World} {a : Addr} (h : Wrote g cs w w') (hne : a.block ≠ g) : w'.cell? a = w.cell? a := by
  unfold World.cell?
  rw [h.far _ hne]
end Go.Proofs.Ytnccbebjligpdaa.Page
