/- (*field.Page).Set of numbers that came in as a slice. -/
import Derived.Test.YtcihfmehbmficaaBase
namespace Go.Proofs.Ytcihfmehbmficaa.Page
open Go Go.RowKit Go.Proofs.YtcihfmehbmficaaW.PrintWords Go.Proofs.YtcihfmehbmficaaW.PrintLast Go.Proofs.YtcihfmehbmficaaW.PrintMore Go.Proofs.Ytcihfmehbmficaa.Field Go.Proofs.Ytcihfmehbmficaa.Text Go.Proofs.Ytcihfmehbmficaa.Spin
set_option linter.unusedVariables false
set_option linter.unusedSimpArgs false

/-- A cell of numbers lies in no page's bytes: a write to these leaves it. -/
theorem _root_.Go.Proofs.Ytcihfmehbmficaa.Field.Wrote.row {g p : Nat} {cs : Array Value} {w w' : World} {l : List Int} {a : Addr} {x : Int} (hw : Wrote g cs w w') (hp : Pg w p g l) (h : w.cell? a = some (.int .i64 x)) : w'.cell? a = some (.int .i64 x) := by
  have hn : a.block ≠ g := by
    intro e
    obtain ⟨b, o, sp⟩ := a
    cases e
    unfold World.cell? at h
    simp only [hp.at_g] at h
    cases sp with
    | some s => simp at h
    | none =>
      simp [nums] at h
  rw [← h]
  unfold World.cell?
  rw [hw.far a.block hn]
theorem _root_.Go.Proofs.Ytcihfmehbmficaa.Page.C_reads {w : World} {A0 : Option Addr} {xs : List Int} (h : Kd.C (Kd.int .i64) w A0 xs.length xs) {k : Nat} (hk : k < xs.length) : ∃ ad, A0 = some ad ∧ w.cell? (ad.add k) = some (.int .i64 (xs.getD k 0)) := by
  obtain ⟨ad, e, hc⟩ := (Kd.reads_of_C (d := (0 : Int)) h).2.2 (by omega)
  exact ⟨ad, e, hc k hk⟩
theorem setRow_calls (p g o m c : Nat) (A0 : Option Addr) (l xs : List Int) (w : World) (hp : Pg w p g l) (hs : Kd.C (Kd.int .i64) w A0 xs.length xs) (hx : ∀ x ∈ xs, 0 ≤ x ∧ x < 4294967296) (hm0 : 1 ≤ m) (hm : m ≤ 4) (ho : o + xs.length * m ≤ 64) :
    Calls Try.prog 37 #[.pointer (some ⟨p, 0, none⟩), .int .i64 o, .int .i64 m, .slice A0 xs.length c] w fun e w' => e = .returned (.pointer (some ⟨p, 0, none⟩)) ∧ Wrote g (nums .u8 (setsL l o m xs)).toArray w w' := by
  have hl : xs.length ≤ 64 := Nat.le_trans (Nat.le_mul_of_pos_right _ hm0) (by omega)
  have HP := Aside0.mk hp
  have HS := Aside0.mk hs
  have HX := Aside0.mk hx
  have HM0 := Aside0.mk hm0
  clear hp hs hx hm0
  go_enter Try.func37, Try.ntmps37
  go_wp2_with fail
  go_loopw [13] (fun i wr => ∃ k : Nat, k ≤ xs.length ∧ i = .int .i64 k ∧ Aside0 (Wrote g (nums .u8 (setsK l o m xs k)).toArray w wr)) (fun i _ => xs.length - (intOf i).toNat)
  case atStart => exact ⟨0, Nat.zero_le _, rfl, ⟨Wrote.refl HP.out.at_g⟩⟩
  case round =>
    obtain ⟨k, hk, rfl, HR⟩ := hrel
    by_cases hlt : k < xs.length
    · obtain ⟨x, hxk⟩ : ∃ x, xs[k]? = some x := ⟨_, List.getElem?_eq_getElem hlt⟩
      obtain ⟨hx0, hx1⟩ := HX.out x (List.mem_of_getElem? hxk)
      have hgd : xs.getD k 0 = x := by simp [hxk]
      obtain ⟨ad, hA0, hcell⟩ := C_reads HS.out hlt
      subst hA0
      rw [hgd] at hcell
      have hc1 : wr.cell? (ad.add k) = some (.int .i64 x) := HR.out.row HP.out hcell
      have klt : (((k : Int)) < (xs.length : Int)) = True := eq_true (by omega)
      have klt0 : decide ((k : Int) < (xs.length : Int)) = true := decide_eq_true (by omega)
      have hpb : wr.heap[p]? = some (.cells #[.slice (some ⟨g, 0, none⟩) 64 64] 100 (0, 0)) := (HR.out.far p HP.out.ne).trans HP.out.at_p
      have hc2 : wr.cell? ⟨p, 0, none⟩ = some (.slice (some ⟨g, 0, none⟩) 64 64) := blk_cell hpb 0
      have hkm : k * m + m ≤ xs.length * m := by
        rw [← Nat.succ_mul]; exact Nat.mul_le_mul_right m hlt
      obtain ⟨q, hq⟩ : ∃ q : Nat, q = k * m := ⟨_, rfl⟩
      rw [← hq] at hkm
      have e0 : (k : Int) * (m : Int) = (q : Int) := by rw [← Int.natCast_mul, hq]
      have hq64 : o + q + m ≤ 64 := by omega
      obtain ⟨e1, e2, e3, k1, k2, k3, k4, t1, t2⟩ := set_facts o q m hq64
      have e4 : IntKind.u32.wrap x = x := by simp [IntKind.wrap, IntKind.signed, IntKind.bits]; omega
      have HPB := Aside0.mk hpb
      have HKM := Aside0.mk hkm
      have HXK := Aside0.mk hgd
      have HQ := Aside0.mk hq
      have HQ64 := Aside0.mk hq64
      clear hcell hpb hxk hkm hgd hq hq64
      go_wp2_with fail
      · have := HM0.out; have := HQ64.out; clear e1 e2 e3 e4; omega
      clear e1 e2 e3 e4
      ((with_reducible refine (put_calls g (o + q) m _ x (nums .u8 (setsK l o m xs k)).toArray hx0 hx1 hm (by have h0 := HQ64.out; clear t1 t2; have h1 := HP.out.len; have h2 := setsK_length l o m xs k; rw [List.size_toArray, nums_length]; omega) (by clear t1 t2; have h1 := HP.out.len; have h2 := setsK_length l o m xs k; rw [List.size_toArray, nums_length]; omega) _ HR.out.blk).mono ?_); rintro e w2 ⟨rfl, hwr⟩)
      rw [putC_nums] at hwr
      have HWR := Aside0.mk hwr
      clear hwr
      go_wp2_with fail
      go_roundw
      case rel =>
        refine ⟨k + 1, by omega, by go_num, ⟨?_⟩⟩
        show Wrote g (nums .u8 (putL (setsK l o m xs k) (o + k * m) (xs.getD k 0) m)).toArray w _
        rw [HXK.out, ← HQ.out]
        exact HR.out.trans HWR.out
      case measure => simp [intOf]; omega
    · go_wp2_with fail
      go_ret
      obtain rfl : k = xs.length := by omega
      exact ⟨rfl, HR.out⟩

theorem setRow_at (oI mI : Int) (p g o m c : Nat) (A0 : Option Addr) (l xs : List Int) (w : World) (h1 : (o : Int) = oI) (h2 : (m : Int) = mI) (hp : Pg w p g l) (hs : Kd.C (Kd.int .i64) w A0 xs.length xs) (hx : ∀ x ∈ xs, 0 ≤ x ∧ x < 4294967296) (hm0 : 1 ≤ m) (hm : m ≤ 4) (ho : o + xs.length * m ≤ 64) :
    Calls Try.prog 37 #[.pointer (some ⟨p, 0, none⟩), .int .i64 oI, .int .i64 mI, .slice A0 xs.length c] w fun e w' => e = .returned (.pointer (some ⟨p, 0, none⟩)) ∧ Wrote g (nums .u8 (setsL l o m xs)).toArray w w' := by
  subst h1 h2
  exact setRow_calls p g o m c A0 l xs w hp hs hx hm0 hm ho

end Go.Proofs.Ytcihfmehbmficaa.Page
