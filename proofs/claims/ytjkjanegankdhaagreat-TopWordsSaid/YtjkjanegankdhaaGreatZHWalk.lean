/- The contract of walk.row. -/
import Derived.Test.YtjkjanegankdhaaGreatZHRow
namespace Go.Proofs.YtjkjanegankdhaaGreat.Vx
open Go.RowKit Go.Proofs.YtjkjanegankdhaaGreatW.PrintWords Go.Proofs.YtjkjanegankdhaaGreatW.PrintLast Go.Proofs.YtjkjanegankdhaaGreatW.PrintMore
attribute [local go_sem] max2_int min2_int max_two min_two max_three min_three max_four min_four
set_option linter.unusedVariables false
set_option linter.unusedSimpArgs false
/-- The way that walk was bidden to reckon a row. -/
def Vec.wRow (t : Int) : List Int → List Int → Nat → List Int := if t = 1 then Vec.crRow else Vec.hyRow
set_option maxRecDepth 100000 in
set_option maxHeartbeats 4000000 in
/-- walk.row -/
theorem Vec.wRow_calls (t : Int) (A : Option Addr) (c : Nat) (v : List Int) (B : Option Addr) (d : Nat) (u : List Int) (n : Nat) (w : World) (hr : Kd.C (Kd.int .u64) w A v.length v) (hs : Kd.C (Kd.int .u64) w B u.length u) (hn : n ≤ 1000000) (hv : v.all Vec.ok = true) (hu : u.all Vec.ok = true) :
    Calls Tryz.prog 76 #[.int .i64 t, .slice A v.length c, .slice B u.length d, .int .i64 (n : Int)] w fun e w' => ∃ z, e = .returned z ∧ Kd.R (Kd.int .u64) 104 w' w.heap.size (fun _ => True) z (Vec.wRow t v u n) ∧ Below w.heap.size w w' := by
  have HR := Aside0.mk hr
  have HS := Aside0.mk hs
  clear hr hs
  go_enter Tryz.func76, Tryz.ntmps76
  by_cases h : t = 1
  · subst h
    go_wp2_with fail
    refine (Vec.crRow_calls A c v B d u n w HR.out HS.out hn hv hu).mono ?_
    rintro e w1 ⟨z, rfl, hz, hb⟩
    have HZ := Aside0.mk hz
    have HB := Aside0.mk hb
    clear hz hb
    go_wp2
    go_ret
    exact ⟨z, rfl, HZ.out, HB.out⟩
  · go_wp2_with fail
    refine (Vec.hyRow_calls A c v B d u n w HR.out HS.out hn hv hu).mono ?_
    rintro e w1 ⟨z, rfl, hz, hb⟩
    have HZ := Aside0.mk hz
    have HB := Aside0.mk hb
    clear hz hb
    go_wp2
    go_ret
    refine ⟨z, rfl, ?_, HB.out⟩
    rw [Vec.wRow, if_neg h]
    exact HZ.out
theorem Vec.wRow_ok (t : Int) (a b : List Int) : ∀ i, (Vec.rowAt (Vec.wRow t) a b i).all Vec.ok = true ∧ (Vec.rowAt (Vec.wRow t) a b i).length = Vec.words b.length := by
  intro i
  unfold Vec.wRow
  split
  · exact Vec.cr_ok a b i
  · exact Vec.hy_ok a b i
end Go.Proofs.YtjkjanegankdhaaGreat.Vx
