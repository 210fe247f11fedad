/- TileKnown: the walk. -/
import Derived.Test.YtfldkfccdjdofaaHTc
namespace Go.Proofs.Ytfldkfccdjdofaa.Tile
open Go.RowKit Go.Proofs.YtfldkfccdjdofaaW.PrintWords Go.Proofs.YtfldkfccdjdofaaW.PrintLast Go.Proofs.YtfldkfccdjdofaaW.PrintMore
set_option linter.unusedVariables false
set_option linter.unusedSimpArgs false
set_option maxRecDepth 100000 in
set_option maxHeartbeats 4000000 in
theorem known (w : World) : Calls Try.prog 3 #[] w fun e w' => e = .returned (.bool true) ∧ Below w.heap.size w w' := by
  have l1 : lookV 2 16 0 0 = (0, 0, 1) := by decide +kernel
  have l2 : lookV 2 0 4 0 = (0, 0, 1) := by decide +kernel
  have l3 : lookV 2 0 0 (-1) = (0, 0, 1) := by decide +kernel
  have l4 : lookV 2 15 0 0 = (3, 3, 0) := by decide +kernel
  have l5 : lookV 2 9 3 1 = (2, 0, 0) := by decide +kernel
  go_enter Try.func3, Try.ntmps3
  go_wp2_with fail
  refine (new_no (t := 0) (by decide) _).mono ?_
  rintro e w' ⟨rfl, rfl⟩
  go_wp2_with fail
  refine (new_no (t := 4) (by decide) _).mono ?_
  rintro e w' ⟨rfl, rfl⟩
  go_wp2_with fail
  refine (new_ok (t := 2) (by decide) _).mono ?_
  rintro e w' ⟨rfl, rfl⟩
  have T1 := Aside0.mk (Tl.new (t := 2) (by decide) w)
  have B1 := Aside0.mk (below_alloc (Below.refl w.heap.size w) (.cells (blk 2 0 0 (.slice none 0 0)) 52))
  have hz1 : (w.alloc (.cells (blk 2 0 0 (.slice none 0 0)) 52)).heap.size = w.heap.size + 1 := World.size_alloc _ _
  have Z1 := Aside0.mk hz1
  clear hz1
  generalize (w.alloc (.cells (blk 2 0 0 (.slice none 0 0)) 52)) = w1 at T1 B1 Z1 ⊢
  go_wp2_with fail
  refine (of_ok (t := 3) (by decide) _).mono ?_
  rintro e w' ⟨rfl, rfl⟩
  have T2 := Aside0.mk (Tl.new (t := 3) (by decide) w1)
  have B2 := Aside0.mk (below_alloc (Below.refl w1.heap.size w1) (.cells (blk 3 0 0 (.slice none 0 0)) 52))
  have X2 := Aside0.mk (T1.out.below B2.out)
  have C2 := Aside0.mk (B1.out.trans (B2.out.mono (by have := Z1.out; omega)))
  rw [Z1.out] at T2
  generalize hw2 : (w1.alloc (.cells (blk 3 0 0 (.slice none 0 0)) 52)) = w2 at T2 X2 C2 ⊢
  clear hw2
  rw [Z1.out]
  go_wp2_with fail
  refine (awake w2).mono ?_
  rintro e w3 ⟨rfl, hb⟩
  have T3 := Aside0.mk (T2.out.below hb)
  have X3 := Aside0.mk (X2.out.below hb)
  have C3 := Aside0.mk (C2.out.trans (hb.mono C2.out.size))
  clear hb T1 B1 B2 T2 X2 C2
  go_wp2_with fail
  refine (look_any (n0 := w.heap.size) w3 X3.out (Nat.le_refl _)).mono ?_
  rintro e w4 ⟨rfl, hT, hb, hk⟩
  rw [l1]
  have X4 := Aside0.mk hT
  have T4 := Aside0.mk (T3.out.other X3.out hk (by omega))
  have C4 := Aside0.mk (C3.out.trans hb)
  clear hT hb hk T3 X3 C3
  go_wp2_with fail
  refine (look_any (n0 := w.heap.size) w4 X4.out (Nat.le_refl _)).mono ?_
  rintro e w5 ⟨rfl, hT, hb, hk⟩
  rw [l2]
  have X5 := Aside0.mk hT
  have T5 := Aside0.mk (T4.out.other X4.out hk (by omega))
  have C5 := Aside0.mk (C4.out.trans hb)
  clear hT hb hk T4 X4 C4
  go_wp2_with fail
  refine (look_any (n0 := w.heap.size) w5 X5.out (Nat.le_refl _)).mono ?_
  rintro e w6 ⟨rfl, hT, hb, hk⟩
  rw [l3]
  have X6 := Aside0.mk hT
  have T6 := Aside0.mk (T5.out.other X5.out hk (by omega))
  have C6 := Aside0.mk (C5.out.trans hb)
  clear hT hb hk T5 X5 C5
  go_wp2_with fail
  refine (look_any (n0 := w.heap.size) w6 X6.out (Nat.le_refl _)).mono ?_
  rintro e w7 ⟨rfl, hT, hb, hk⟩
  rw [l4]
  have X7 := Aside0.mk hT
  have T7 := Aside0.mk (T6.out.other X6.out hk (by omega))
  have C7 := Aside0.mk (C6.out.trans hb)
  clear hT hb hk T6 X6 C6
  go_wp2_with fail
  refine (look_any (n0 := w.heap.size) w7 X7.out (Nat.le_refl _)).mono ?_
  rintro e w8 ⟨rfl, hT, hb, hk⟩
  rw [l5]
  have X8 := Aside0.mk hT
  have T8 := Aside0.mk (T7.out.other X7.out hk (by omega))
  have C8 := Aside0.mk (C7.out.trans hb)
  clear hT hb hk T7 X7 C7
  go_wp2_with fail
  refine (size w.heap.size 2 (by decide) w8 X8.out.cell).mono ?_
  rintro e w9 ⟨rfl, nd, rfl⟩
  go_wp2_with fail
  refine (size (w.heap.size + 1) 3 (by decide) (w8.drewN nd) T8.out.cell).mono ?_
  rintro e w9 ⟨rfl, nd2, rfl⟩
  go_wp2_with fail
  go_ret
  exact ⟨rfl, C8.out.trans (pw_below_drewN (Below.refl _ _) _)⟩
end Go.Proofs.Ytfldkfccdjdofaa.Tile
