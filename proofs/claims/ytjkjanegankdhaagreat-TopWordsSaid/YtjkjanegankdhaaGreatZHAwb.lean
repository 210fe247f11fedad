/- The run of awake, second part: what is ready, the table, the least list, the tokens. -/
import Derived.Test.YtjkjanegankdhaaGreatZHAwa
namespace Go.Proofs.YtjkjanegankdhaaGreat.Top
open Go.RowKit
set_option linter.unusedVariables false
set_option linter.unusedSimpArgs false
theorem results_cell_tmp2 {fn : Func} {p u v : Tmp} {ty : TypeId} (h : fn.results = #[.cell p ty, .tmp u, .tmp v]) (tmps : Array Value) (P : Program) (w : World) :
    (results fn tmps).run P w = ((asAddr (tmps.getD p undef)).run P w).andThen fun a w₁ => ((loadVar ty a).run P w₁).andThen fun x w₂ => .ok (.tuple #[x, tmps.getD u undef, tmps.getD v undef]) w₂ := by
  simp only [results, h]
  simp [Sem.run_bind, Result.andThen]
/-- What port.cut tells of a b and b. -/
structure CutAB (w : World) (n : Nat) (ta tb x y u v t0 t1 t2 : Value) : Prop where mk ::
  ta : w.ownsRow n 35 1 ta 2 [t0, t1]
  tb : w.ownsRow n 35 1 tb 1 [t2]
  k0 : Tk w t0 97
  k1 : Tk w t1 98
  k2 : Tk w t2 98
  x : w.ownsRow n 3 1 x 2 [.int .i64 0, .int .i64 1]
  y : w.ownsRow n 3 1 y 1 [.int .i64 1]
  u : w.ownsRow n 3 1 u 1 [.int .i64 0]
  v : w.ownsRow n 3 1 v 0 []
set_option maxRecDepth 100000 in
set_option maxHeartbeats 16000000 in
/-- port.ready of a b and b, no engine named. -/
theorem port_ready (w : World) (ga gb : Nat) (a0 : w.cell? ⟨ga, 0, none⟩ = some (.int .u8 97)) (a1 : w.cell? ⟨ga, 1, none⟩ = some (.int .u8 98)) (b0 : w.cell? ⟨gb, 0, none⟩ = some (.int .u8 98)) :
    Calls Tryz.prog 53 #[.int .i64 0, .int .i64 0, .slice (some ⟨ga, 0, none⟩) 2 2, .slice (some ⟨gb, 0, none⟩) 1 1, .agg #[.int .i64 1000, .int .i64 1099511627776]] w fun e w' => ∃ ta tb x y u v t0 t1 t2, e = .returned (.tuple #[.agg #[ta, tb, x, y, .int .i64 0, .int .i64 1, u, v], .int .i64 1, .int .i64 0]) ∧ CutAB w' w.heap.size ta tb x y u v t0 t1 t2 ∧ Below w.heap.size w w' := by
  have A0 := Sd.mk a0
  have A1 := Sd.mk a1
  have B0 := Sd.mk b0
  clear a0 a1 b0
  go_enter Tryz.func53, Tryz.ntmps53
  go_wp2_with fail
  obtain ⟨w1, hw1⟩ : ∃ z, z = ((w.alloc (.cells #[.int .i64 1000, .int .i64 1099511627776] 37)).alloc (.cells #[.slice none 0 0, .slice none 0 0, .slice none 0 0, .slice none 0 0, .int .i64 0, .int .i64 0, .slice none 0 0, .slice none 0 0] 84)) := ⟨_, rfl⟩
  have z1 : ((w.alloc (.cells #[.int .i64 1000, .int .i64 1099511627776] 37))).heap.size = w.heap.size + 1 := by rw [World.size_alloc]
  have ba : Below w.heap.size w w1 := by
    rw [hw1]
    repeat' (first | exact Below.refl _ _ | refine Below.alloc ?_ (by simp <;> omega) _)
  have HM : Sd (w1.heap[w.heap.size]? = some (.cells #[.int .i64 1000, .int .i64 1099511627776] 37 (0, 0))) := ⟨by rw [hw1]; exact blk_alloc (blk_new _ _) _⟩
  have HR : Sd (w1.heap[w.heap.size + 1]? = some (.cells #[.slice none 0 0, .slice none 0 0, .slice none 0 0, .slice none 0 0, .int .i64 0, .int .i64 0, .slice none 0 0, .slice none 0 0] 84 (0, 0))) := ⟨by rw [hw1, ← z1]; exact blk_new _ _⟩
  have B : Sd (Below w.heap.size w w1) := ⟨ba⟩
  rw [← hw1]
  clear hw1 ba z1
  refine (count_bytes w1 _ 2 2).mono ?_
  rintro e w_ ⟨rfl, hq⟩
  have hq := hq.symm
  subst hq
  go_wp2_with fail
  refine (count_bytes w1 _ 1 1).mono ?_
  rintro e w_ ⟨rfl, hq⟩
  have hq := hq.symm
  subst hq
  have cM0 : w1.cell? ⟨w.heap.size, 0, none⟩ = some (.int .i64 1000) := (blk_cell HM.out 0).trans rfl
  have cM1 : w1.cell? ⟨w.heap.size, 1, none⟩ = some (.int .i64 1099511627776) := (blk_cell HM.out 1).trans rfl
  go_wp2_with fail
  clear cM0 cM1
  refine (port_cut w1 ga gb (cell_below A0.out B.out) (cell_below A1.out B.out) (cell_below B0.out B.out)).mono ?_
  rintro e w2 ⟨ta, tb, x, y, u, v, t0, t1, t2, rfl, ⟨p1, p2, p3, p4, p5⟩, ⟨p6, p7⟩, ⟨p8, p9⟩, hb⟩
  have HM := Sd.mk (blk_below HM.out hb (blk_lt HM.out))
  have HR := Sd.mk (blk_below HR.out hb (blk_lt HR.out))
  have Ota := Sd.mk (own_less p1 B.out.size)
  have Otb := Sd.mk (own_less p2 B.out.size)
  have K0 := Sd.mk (p3)
  have K1 := Sd.mk (p4)
  have K2 := Sd.mk (p5)
  have Ox := Sd.mk (own_less p6 B.out.size)
  have Oy := Sd.mk (own_less p7 B.out.size)
  have Ou := Sd.mk (own_less p8 B.out.size)
  have Ov := Sd.mk (own_less p9 B.out.size)
  have B := Sd.mk (below_both B.out hb)
  clear hb p1 p2 p3 p4 p5 p6 p7 p8 p9
  obtain ⟨taG, taC, rfl⟩ := own_form Ota.out (by decide)
  obtain ⟨tbG, tbC, rfl⟩ := own_form Otb.out (by decide)
  obtain ⟨xG, xC, rfl⟩ := own_form Ox.out (by decide)
  obtain ⟨yG, yC, rfl⟩ := own_form Oy.out (by decide)
  obtain ⟨uG, uC, rfl⟩ := own_form Ou.out (by decide)
  obtain ⟨vA, vC, rfl⟩ := own_slice Ov.out
  go_wp2_with fail
  obtain ⟨w3, hw3⟩ : ∃ z, z = (w2.alloc (.cells #[.slice (some ⟨taG, 0, none⟩) 2 taC, .slice (some ⟨tbG, 0, none⟩) 1 tbC, .slice (some ⟨xG, 0, none⟩) 2 xC, .slice (some ⟨yG, 0, none⟩) 1 yC, .int .i64 0, .int .i64 1, .slice (some ⟨uG, 0, none⟩) 1 uC, .slice vA 0 vC] 84)) := ⟨_, rfl⟩
  have HM : Sd (w3.heap[w.heap.size]? = some (.cells #[.int .i64 1000, .int .i64 1099511627776] 37 (0, 0))) := ⟨by rw [hw3]; exact blk_alloc (HM.out) _⟩
  have HR : Sd (w3.heap[w.heap.size + 1]? = some (.cells #[.slice none 0 0, .slice none 0 0, .slice none 0 0, .slice none 0 0, .int .i64 0, .int .i64 0, .slice none 0 0, .slice none 0 0] 84 (0, 0))) := ⟨by rw [hw3]; exact blk_alloc (HR.out) _⟩
  have ba : Below w2.heap.size w2 w3 := by
    rw [hw3]
    repeat' (first | exact Below.refl _ _ | refine Below.alloc ?_ (by simp <;> omega) _)
  have Ota := Sd.mk (own_below Ota.out ba)
  have Otb := Sd.mk (own_below Otb.out ba)
  have K0 := Sd.mk (K0.out.below ba)
  have K1 := Sd.mk (K1.out.below ba)
  have K2 := Sd.mk (K2.out.below ba)
  have Ox := Sd.mk (own_below Ox.out ba)
  have Oy := Sd.mk (own_below Oy.out ba)
  have Ou := Sd.mk (own_below Ou.out ba)
  have Ov := Sd.mk (own_below Ov.out ba)
  have HT : Sd (w3.heap[w2.heap.size]? = some (.cells #[.slice (some ⟨taG, 0, none⟩) 2 taC, .slice (some ⟨tbG, 0, none⟩) 1 tbC, .slice (some ⟨xG, 0, none⟩) 2 xC, .slice (some ⟨yG, 0, none⟩) 1 yC, .int .i64 0, .int .i64 1, .slice (some ⟨uG, 0, none⟩) 1 uC, .slice vA 0 vC] 84 (0, 0))) := ⟨by rw [hw3]; exact blk_new _ _⟩
  have B : Sd (Below w.heap.size w w3) := ⟨below_both B.out ba⟩
  rw [← hw3]
  clear hw3 ba 
  refine (cost_of w3 uG uC vC vA ((own_cell Ou.out 0 (by decide)).trans rfl)).mono ?_
  rintro e w4 ⟨rfl, hb⟩
  have HM := Sd.mk (blk_below HM.out hb (blk_lt HM.out))
  have HR := Sd.mk (blk_below HR.out hb (blk_lt HR.out))
  have HT := Sd.mk (blk_below HT.out hb (blk_lt HT.out))
  have Ota := Sd.mk (own_below Ota.out hb)
  have Otb := Sd.mk (own_below Otb.out hb)
  have K0 := Sd.mk (K0.out.below hb)
  have K1 := Sd.mk (K1.out.below hb)
  have K2 := Sd.mk (K2.out.below hb)
  have Ox := Sd.mk (own_below Ox.out hb)
  have Oy := Sd.mk (own_below Oy.out hb)
  have Ou := Sd.mk (own_below Ou.out hb)
  have Ov := Sd.mk (own_below Ov.out hb)
  have B := Sd.mk (below_both B.out hb)
  clear hb 
  go_wp2_with fail
  obtain ⟨w5, hw5⟩ : ∃ z, z = (w4.alloc (.cells #[.int .i64 1, .int .i64 0, .int .i64 1, .int .i64 0] 164)) := ⟨_, rfl⟩
  have HM : Sd (w5.heap[w.heap.size]? = some (.cells #[.int .i64 1000, .int .i64 1099511627776] 37 (0, 0))) := ⟨by rw [hw5]; exact blk_alloc (HM.out) _⟩
  have HR : Sd (w5.heap[w.heap.size + 1]? = some (.cells #[.slice none 0 0, .slice none 0 0, .slice none 0 0, .slice none 0 0, .int .i64 0, .int .i64 0, .slice none 0 0, .slice none 0 0] 84 (0, 0))) := ⟨by rw [hw5]; exact blk_alloc (HR.out) _⟩
  have HT : Sd (w5.heap[w2.heap.size]? = some (.cells #[.slice (some ⟨taG, 0, none⟩) 2 taC, .slice (some ⟨tbG, 0, none⟩) 1 tbC, .slice (some ⟨xG, 0, none⟩) 2 xC, .slice (some ⟨yG, 0, none⟩) 1 yC, .int .i64 0, .int .i64 1, .slice (some ⟨uG, 0, none⟩) 1 uC, .slice vA 0 vC] 84 (0, 0))) := ⟨by rw [hw5]; exact blk_alloc (HT.out) _⟩
  have ba : Below w4.heap.size w4 w5 := by
    rw [hw5]
    repeat' (first | exact Below.refl _ _ | refine Below.alloc ?_ (by simp <;> omega) _)
  have Ota := Sd.mk (own_below Ota.out ba)
  have Otb := Sd.mk (own_below Otb.out ba)
  have K0 := Sd.mk (K0.out.below ba)
  have K1 := Sd.mk (K1.out.below ba)
  have K2 := Sd.mk (K2.out.below ba)
  have Ox := Sd.mk (own_below Ox.out ba)
  have Oy := Sd.mk (own_below Oy.out ba)
  have Ou := Sd.mk (own_below Ou.out ba)
  have Ov := Sd.mk (own_below Ov.out ba)
  have HS : Sd (w5.heap[w4.heap.size]? = some (.cells #[.int .i64 1, .int .i64 0, .int .i64 1, .int .i64 0] 164 (0, 0))) := ⟨by rw [hw5]; exact blk_new _ _⟩
  have B : Sd (Below w.heap.size w w5) := ⟨below_both B.out ba⟩
  rw [← hw5]
  clear hw5 ba 
  refine (choose_1 w5).mono ?_
  rintro e w6 ⟨rfl, hb⟩
  have HM := Sd.mk (blk_below HM.out hb (blk_lt HM.out))
  have HR := Sd.mk (blk_below HR.out hb (blk_lt HR.out))
  have HT := Sd.mk (blk_below HT.out hb (blk_lt HT.out))
  have HS := Sd.mk (blk_below HS.out hb (blk_lt HS.out))
  have Ota := Sd.mk (own_below Ota.out hb)
  have Otb := Sd.mk (own_below Otb.out hb)
  have K0 := Sd.mk (K0.out.below hb)
  have K1 := Sd.mk (K1.out.below hb)
  have K2 := Sd.mk (K2.out.below hb)
  have Ox := Sd.mk (own_below Ox.out hb)
  have Oy := Sd.mk (own_below Oy.out hb)
  have Ou := Sd.mk (own_below Ou.out hb)
  have Ov := Sd.mk (own_below Ov.out hb)
  have B := Sd.mk (below_both B.out hb)
  clear hb 
  have cS0 : w6.cell? ⟨w4.heap.size, 0, none⟩ = some (.int .i64 1) := (blk_cell HS.out 0).trans rfl
  have cS1 : w6.cell? ⟨w4.heap.size, 1, none⟩ = some (.int .i64 0) := (blk_cell HS.out 1).trans rfl
  have cS2 : w6.cell? ⟨w4.heap.size, 2, none⟩ = some (.int .i64 1) := (blk_cell HS.out 2).trans rfl
  have cS3 : w6.cell? ⟨w4.heap.size, 3, none⟩ = some (.int .i64 0) := (blk_cell HS.out 3).trans rfl
  have cM1 : w6.cell? ⟨w.heap.size, 1, none⟩ = some (.int .i64 1099511627776) := (blk_cell HM.out 1).trans rfl
  go_wp2_with fail
  clear cS0 cS1 cS2 cS3
  clear cM1
  refine (fits_1 w6).mono ?_
  rintro e w7 ⟨rfl, hb⟩
  have HM := Sd.mk (blk_below HM.out hb (blk_lt HM.out))
  have HR := Sd.mk (blk_below HR.out hb (blk_lt HR.out))
  have HT := Sd.mk (blk_below HT.out hb (blk_lt HT.out))
  have HS := Sd.mk (blk_below HS.out hb (blk_lt HS.out))
  have Ota := Sd.mk (own_below Ota.out hb)
  have Otb := Sd.mk (own_below Otb.out hb)
  have K0 := Sd.mk (K0.out.below hb)
  have K1 := Sd.mk (K1.out.below hb)
  have K2 := Sd.mk (K2.out.below hb)
  have Ox := Sd.mk (own_below Ox.out hb)
  have Oy := Sd.mk (own_below Oy.out hb)
  have Ou := Sd.mk (own_below Ou.out hb)
  have Ov := Sd.mk (own_below Ov.out hb)
  have B := Sd.mk (below_both B.out hb)
  clear hb 
  have cT0 : w7.cell? ⟨w2.heap.size, 0, none⟩ = some (.slice (some ⟨taG, 0, none⟩) 2 taC) := (blk_cell HT.out 0).trans rfl
  have cT1 : w7.cell? ⟨w2.heap.size, 1, none⟩ = some (.slice (some ⟨tbG, 0, none⟩) 1 tbC) := (blk_cell HT.out 1).trans rfl
  have cT2 : w7.cell? ⟨w2.heap.size, 2, none⟩ = some (.slice (some ⟨xG, 0, none⟩) 2 xC) := (blk_cell HT.out 2).trans rfl
  have cT3 : w7.cell? ⟨w2.heap.size, 3, none⟩ = some (.slice (some ⟨yG, 0, none⟩) 1 yC) := (blk_cell HT.out 3).trans rfl
  have cT4 : w7.cell? ⟨w2.heap.size, 4, none⟩ = some (.int .i64 0) := (blk_cell HT.out 4).trans rfl
  have cT5 : w7.cell? ⟨w2.heap.size, 5, none⟩ = some (.int .i64 1) := (blk_cell HT.out 5).trans rfl
  have cT6 : w7.cell? ⟨w2.heap.size, 6, none⟩ = some (.slice (some ⟨uG, 0, none⟩) 1 uC) := (blk_cell HT.out 6).trans rfl
  have cT7 : w7.cell? ⟨w2.heap.size, 7, none⟩ = some (.slice vA 0 vC) := (blk_cell HT.out 7).trans rfl
  have cR0 : w7.cell? ⟨w.heap.size + 1, 0, none⟩ = some (.slice none 0 0) := (blk_cell HR.out 0).trans rfl
  have cR1 : w7.cell? ⟨w.heap.size + 1, 1, none⟩ = some (.slice none 0 0) := (blk_cell HR.out 1).trans rfl
  have cR2 : w7.cell? ⟨w.heap.size + 1, 2, none⟩ = some (.slice none 0 0) := (blk_cell HR.out 2).trans rfl
  have cR3 : w7.cell? ⟨w.heap.size + 1, 3, none⟩ = some (.slice none 0 0) := (blk_cell HR.out 3).trans rfl
  have cR4 : w7.cell? ⟨w.heap.size + 1, 4, none⟩ = some (.int .i64 0) := (blk_cell HR.out 4).trans rfl
  have cR5 : w7.cell? ⟨w.heap.size + 1, 5, none⟩ = some (.int .i64 0) := (blk_cell HR.out 5).trans rfl
  have cR6 : w7.cell? ⟨w.heap.size + 1, 6, none⟩ = some (.slice none 0 0) := (blk_cell HR.out 6).trans rfl
  have cR7 : w7.cell? ⟨w.heap.size + 1, 7, none⟩ = some (.slice none 0 0) := (blk_cell HR.out 7).trans rfl
  have fR0 : w7.frozen? ⟨w.heap.size + 1, 0, none⟩ = false := blk_frozen HR.out 0
  have fR1 : w7.frozen? ⟨w.heap.size + 1, 1, none⟩ = false := blk_frozen HR.out 1
  have fR2 : w7.frozen? ⟨w.heap.size + 1, 2, none⟩ = false := blk_frozen HR.out 2
  have fR3 : w7.frozen? ⟨w.heap.size + 1, 3, none⟩ = false := blk_frozen HR.out 3
  have fR4 : w7.frozen? ⟨w.heap.size + 1, 4, none⟩ = false := blk_frozen HR.out 4
  have fR5 : w7.frozen? ⟨w.heap.size + 1, 5, none⟩ = false := blk_frozen HR.out 5
  have fR6 : w7.frozen? ⟨w.heap.size + 1, 6, none⟩ = false := blk_frozen HR.out 6
  have fR7 : w7.frozen? ⟨w.heap.size + 1, 7, none⟩ = false := blk_frozen HR.out 7
  go_wp2_with fail
  clear cT0 cT1 cT2 cT3 cT4 cT5 cT6 cT7
  clear cR0 cR1 cR2 cR3 cR4 cR5 cR6 cR7 fR0 fR1 fR2 fR3 fR4 fR5 fR6 fR7
  obtain ⟨w8, hw8⟩ : ∃ z, z = w7.setCell ⟨w.heap.size + 1, 0, none⟩ (.slice (some ⟨taG, 0, none⟩) 2 taC) := ⟨_, rfl⟩
  have J := own_set Ota.out HR.out (by decide) 0 (.slice (some ⟨taG, 0, none⟩) 2 taC)
  rw [← hw8] at J
  have Ota := Sd.mk J
  clear J
  have J := own_set Otb.out HR.out (by decide) 0 (.slice (some ⟨taG, 0, none⟩) 2 taC)
  rw [← hw8] at J
  have Otb := Sd.mk J
  clear J
  have J := Tk.put K0.out HR.out (by decide) 0 (.slice (some ⟨taG, 0, none⟩) 2 taC)
  rw [← hw8] at J
  have K0 := Sd.mk J
  clear J
  have J := Tk.put K1.out HR.out (by decide) 0 (.slice (some ⟨taG, 0, none⟩) 2 taC)
  rw [← hw8] at J
  have K1 := Sd.mk J
  clear J
  have J := Tk.put K2.out HR.out (by decide) 0 (.slice (some ⟨taG, 0, none⟩) 2 taC)
  rw [← hw8] at J
  have K2 := Sd.mk J
  clear J
  have J := own_set Ox.out HR.out (by decide) 0 (.slice (some ⟨taG, 0, none⟩) 2 taC)
  rw [← hw8] at J
  have Ox := Sd.mk J
  clear J
  have J := own_set Oy.out HR.out (by decide) 0 (.slice (some ⟨taG, 0, none⟩) 2 taC)
  rw [← hw8] at J
  have Oy := Sd.mk J
  clear J
  have J := own_set Ou.out HR.out (by decide) 0 (.slice (some ⟨taG, 0, none⟩) 2 taC)
  rw [← hw8] at J
  have Ou := Sd.mk J
  clear J
  have J := own_set Ov.out HR.out (by decide) 0 (.slice (some ⟨taG, 0, none⟩) 2 taC)
  rw [← hw8] at J
  have Ov := Sd.mk J
  clear J
  have B : Sd (Below w.heap.size w w8) := ⟨by rw [hw8]; exact B.out.setCell (p := ⟨w.heap.size + 1, 0, none⟩) (by show w.heap.size ≤ w.heap.size + 1; omega) _⟩
  have HR : Sd (w8.heap[w.heap.size + 1]? = some (.cells #[.slice (some ⟨taG, 0, none⟩) 2 taC, .slice none 0 0, .slice none 0 0, .slice none 0 0, .int .i64 0, .int .i64 0, .slice none 0 0, .slice none 0 0] 84 (0, 0))) := ⟨by rw [hw8]; exact (blk_set HR.out 0 _).trans rfl⟩
  obtain ⟨w9, hw9⟩ : ∃ z, z = w8.setCell ⟨w.heap.size + 1, 1, none⟩ (.slice (some ⟨tbG, 0, none⟩) 1 tbC) := ⟨_, rfl⟩
  have J := own_set Ota.out HR.out (by decide) 1 (.slice (some ⟨tbG, 0, none⟩) 1 tbC)
  rw [← hw9] at J
  have Ota := Sd.mk J
  clear J
  have J := own_set Otb.out HR.out (by decide) 1 (.slice (some ⟨tbG, 0, none⟩) 1 tbC)
  rw [← hw9] at J
  have Otb := Sd.mk J
  clear J
  have J := Tk.put K0.out HR.out (by decide) 1 (.slice (some ⟨tbG, 0, none⟩) 1 tbC)
  rw [← hw9] at J
  have K0 := Sd.mk J
  clear J
  have J := Tk.put K1.out HR.out (by decide) 1 (.slice (some ⟨tbG, 0, none⟩) 1 tbC)
  rw [← hw9] at J
  have K1 := Sd.mk J
  clear J
  have J := Tk.put K2.out HR.out (by decide) 1 (.slice (some ⟨tbG, 0, none⟩) 1 tbC)
  rw [← hw9] at J
  have K2 := Sd.mk J
  clear J
  have J := own_set Ox.out HR.out (by decide) 1 (.slice (some ⟨tbG, 0, none⟩) 1 tbC)
  rw [← hw9] at J
  have Ox := Sd.mk J
  clear J
  have J := own_set Oy.out HR.out (by decide) 1 (.slice (some ⟨tbG, 0, none⟩) 1 tbC)
  rw [← hw9] at J
  have Oy := Sd.mk J
  clear J
  have J := own_set Ou.out HR.out (by decide) 1 (.slice (some ⟨tbG, 0, none⟩) 1 tbC)
  rw [← hw9] at J
  have Ou := Sd.mk J
  clear J
  have J := own_set Ov.out HR.out (by decide) 1 (.slice (some ⟨tbG, 0, none⟩) 1 tbC)
  rw [← hw9] at J
  have Ov := Sd.mk J
  clear J
  have B : Sd (Below w.heap.size w w9) := ⟨by rw [hw9]; exact B.out.setCell (p := ⟨w.heap.size + 1, 1, none⟩) (by show w.heap.size ≤ w.heap.size + 1; omega) _⟩
  have HR : Sd (w9.heap[w.heap.size + 1]? = some (.cells #[.slice (some ⟨taG, 0, none⟩) 2 taC, .slice (some ⟨tbG, 0, none⟩) 1 tbC, .slice none 0 0, .slice none 0 0, .int .i64 0, .int .i64 0, .slice none 0 0, .slice none 0 0] 84 (0, 0))) := ⟨by rw [hw9]; exact (blk_set HR.out 1 _).trans rfl⟩
  obtain ⟨w10, hw10⟩ : ∃ z, z = w9.setCell ⟨w.heap.size + 1, 2, none⟩ (.slice (some ⟨xG, 0, none⟩) 2 xC) := ⟨_, rfl⟩
  have J := own_set Ota.out HR.out (by decide) 2 (.slice (some ⟨xG, 0, none⟩) 2 xC)
  rw [← hw10] at J
  have Ota := Sd.mk J
  clear J
  have J := own_set Otb.out HR.out (by decide) 2 (.slice (some ⟨xG, 0, none⟩) 2 xC)
  rw [← hw10] at J
  have Otb := Sd.mk J
  clear J
  have J := Tk.put K0.out HR.out (by decide) 2 (.slice (some ⟨xG, 0, none⟩) 2 xC)
  rw [← hw10] at J
  have K0 := Sd.mk J
  clear J
  have J := Tk.put K1.out HR.out (by decide) 2 (.slice (some ⟨xG, 0, none⟩) 2 xC)
  rw [← hw10] at J
  have K1 := Sd.mk J
  clear J
  have J := Tk.put K2.out HR.out (by decide) 2 (.slice (some ⟨xG, 0, none⟩) 2 xC)
  rw [← hw10] at J
  have K2 := Sd.mk J
  clear J
  have J := own_set Ox.out HR.out (by decide) 2 (.slice (some ⟨xG, 0, none⟩) 2 xC)
  rw [← hw10] at J
  have Ox := Sd.mk J
  clear J
  have J := own_set Oy.out HR.out (by decide) 2 (.slice (some ⟨xG, 0, none⟩) 2 xC)
  rw [← hw10] at J
  have Oy := Sd.mk J
  clear J
  have J := own_set Ou.out HR.out (by decide) 2 (.slice (some ⟨xG, 0, none⟩) 2 xC)
  rw [← hw10] at J
  have Ou := Sd.mk J
  clear J
  have J := own_set Ov.out HR.out (by decide) 2 (.slice (some ⟨xG, 0, none⟩) 2 xC)
  rw [← hw10] at J
  have Ov := Sd.mk J
  clear J
  have B : Sd (Below w.heap.size w w10) := ⟨by rw [hw10]; exact B.out.setCell (p := ⟨w.heap.size + 1, 2, none⟩) (by show w.heap.size ≤ w.heap.size + 1; omega) _⟩
  have HR : Sd (w10.heap[w.heap.size + 1]? = some (.cells #[.slice (some ⟨taG, 0, none⟩) 2 taC, .slice (some ⟨tbG, 0, none⟩) 1 tbC, .slice (some ⟨xG, 0, none⟩) 2 xC, .slice none 0 0, .int .i64 0, .int .i64 0, .slice none 0 0, .slice none 0 0] 84 (0, 0))) := ⟨by rw [hw10]; exact (blk_set HR.out 2 _).trans rfl⟩
  obtain ⟨w11, hw11⟩ : ∃ z, z = w10.setCell ⟨w.heap.size + 1, 3, none⟩ (.slice (some ⟨yG, 0, none⟩) 1 yC) := ⟨_, rfl⟩
  have J := own_set Ota.out HR.out (by decide) 3 (.slice (some ⟨yG, 0, none⟩) 1 yC)
  rw [← hw11] at J
  have Ota := Sd.mk J
  clear J
  have J := own_set Otb.out HR.out (by decide) 3 (.slice (some ⟨yG, 0, none⟩) 1 yC)
  rw [← hw11] at J
  have Otb := Sd.mk J
  clear J
  have J := Tk.put K0.out HR.out (by decide) 3 (.slice (some ⟨yG, 0, none⟩) 1 yC)
  rw [← hw11] at J
  have K0 := Sd.mk J
  clear J
  have J := Tk.put K1.out HR.out (by decide) 3 (.slice (some ⟨yG, 0, none⟩) 1 yC)
  rw [← hw11] at J
  have K1 := Sd.mk J
  clear J
  have J := Tk.put K2.out HR.out (by decide) 3 (.slice (some ⟨yG, 0, none⟩) 1 yC)
  rw [← hw11] at J
  have K2 := Sd.mk J
  clear J
  have J := own_set Ox.out HR.out (by decide) 3 (.slice (some ⟨yG, 0, none⟩) 1 yC)
  rw [← hw11] at J
  have Ox := Sd.mk J
  clear J
  have J := own_set Oy.out HR.out (by decide) 3 (.slice (some ⟨yG, 0, none⟩) 1 yC)
  rw [← hw11] at J
  have Oy := Sd.mk J
  clear J
  have J := own_set Ou.out HR.out (by decide) 3 (.slice (some ⟨yG, 0, none⟩) 1 yC)
  rw [← hw11] at J
  have Ou := Sd.mk J
  clear J
  have J := own_set Ov.out HR.out (by decide) 3 (.slice (some ⟨yG, 0, none⟩) 1 yC)
  rw [← hw11] at J
  have Ov := Sd.mk J
  clear J
  have B : Sd (Below w.heap.size w w11) := ⟨by rw [hw11]; exact B.out.setCell (p := ⟨w.heap.size + 1, 3, none⟩) (by show w.heap.size ≤ w.heap.size + 1; omega) _⟩
  have HR : Sd (w11.heap[w.heap.size + 1]? = some (.cells #[.slice (some ⟨taG, 0, none⟩) 2 taC, .slice (some ⟨tbG, 0, none⟩) 1 tbC, .slice (some ⟨xG, 0, none⟩) 2 xC, .slice (some ⟨yG, 0, none⟩) 1 yC, .int .i64 0, .int .i64 0, .slice none 0 0, .slice none 0 0] 84 (0, 0))) := ⟨by rw [hw11]; exact (blk_set HR.out 3 _).trans rfl⟩
  obtain ⟨w12, hw12⟩ : ∃ z, z = w11.setCell ⟨w.heap.size + 1, 4, none⟩ (.int .i64 0) := ⟨_, rfl⟩
  have J := own_set Ota.out HR.out (by decide) 4 (.int .i64 0)
  rw [← hw12] at J
  have Ota := Sd.mk J
  clear J
  have J := own_set Otb.out HR.out (by decide) 4 (.int .i64 0)
  rw [← hw12] at J
  have Otb := Sd.mk J
  clear J
  have J := Tk.put K0.out HR.out (by decide) 4 (.int .i64 0)
  rw [← hw12] at J
  have K0 := Sd.mk J
  clear J
  have J := Tk.put K1.out HR.out (by decide) 4 (.int .i64 0)
  rw [← hw12] at J
  have K1 := Sd.mk J
  clear J
  have J := Tk.put K2.out HR.out (by decide) 4 (.int .i64 0)
  rw [← hw12] at J
  have K2 := Sd.mk J
  clear J
  have J := own_set Ox.out HR.out (by decide) 4 (.int .i64 0)
  rw [← hw12] at J
  have Ox := Sd.mk J
  clear J
  have J := own_set Oy.out HR.out (by decide) 4 (.int .i64 0)
  rw [← hw12] at J
  have Oy := Sd.mk J
  clear J
  have J := own_set Ou.out HR.out (by decide) 4 (.int .i64 0)
  rw [← hw12] at J
  have Ou := Sd.mk J
  clear J
  have J := own_set Ov.out HR.out (by decide) 4 (.int .i64 0)
  rw [← hw12] at J
  have Ov := Sd.mk J
  clear J
  have B : Sd (Below w.heap.size w w12) := ⟨by rw [hw12]; exact B.out.setCell (p := ⟨w.heap.size + 1, 4, none⟩) (by show w.heap.size ≤ w.heap.size + 1; omega) _⟩
  have HR : Sd (w12.heap[w.heap.size + 1]? = some (.cells #[.slice (some ⟨taG, 0, none⟩) 2 taC, .slice (some ⟨tbG, 0, none⟩) 1 tbC, .slice (some ⟨xG, 0, none⟩) 2 xC, .slice (some ⟨yG, 0, none⟩) 1 yC, .int .i64 0, .int .i64 0, .slice none 0 0, .slice none 0 0] 84 (0, 0))) := ⟨by rw [hw12]; exact (blk_set HR.out 4 _).trans rfl⟩
  obtain ⟨w13, hw13⟩ : ∃ z, z = w12.setCell ⟨w.heap.size + 1, 5, none⟩ (.int .i64 1) := ⟨_, rfl⟩
  have J := own_set Ota.out HR.out (by decide) 5 (.int .i64 1)
  rw [← hw13] at J
  have Ota := Sd.mk J
  clear J
  have J := own_set Otb.out HR.out (by decide) 5 (.int .i64 1)
  rw [← hw13] at J
  have Otb := Sd.mk J
  clear J
  have J := Tk.put K0.out HR.out (by decide) 5 (.int .i64 1)
  rw [← hw13] at J
  have K0 := Sd.mk J
  clear J
  have J := Tk.put K1.out HR.out (by decide) 5 (.int .i64 1)
  rw [← hw13] at J
  have K1 := Sd.mk J
  clear J
  have J := Tk.put K2.out HR.out (by decide) 5 (.int .i64 1)
  rw [← hw13] at J
  have K2 := Sd.mk J
  clear J
  have J := own_set Ox.out HR.out (by decide) 5 (.int .i64 1)
  rw [← hw13] at J
  have Ox := Sd.mk J
  clear J
  have J := own_set Oy.out HR.out (by decide) 5 (.int .i64 1)
  rw [← hw13] at J
  have Oy := Sd.mk J
  clear J
  have J := own_set Ou.out HR.out (by decide) 5 (.int .i64 1)
  rw [← hw13] at J
  have Ou := Sd.mk J
  clear J
  have J := own_set Ov.out HR.out (by decide) 5 (.int .i64 1)
  rw [← hw13] at J
  have Ov := Sd.mk J
  clear J
  have B : Sd (Below w.heap.size w w13) := ⟨by rw [hw13]; exact B.out.setCell (p := ⟨w.heap.size + 1, 5, none⟩) (by show w.heap.size ≤ w.heap.size + 1; omega) _⟩
  have HR : Sd (w13.heap[w.heap.size + 1]? = some (.cells #[.slice (some ⟨taG, 0, none⟩) 2 taC, .slice (some ⟨tbG, 0, none⟩) 1 tbC, .slice (some ⟨xG, 0, none⟩) 2 xC, .slice (some ⟨yG, 0, none⟩) 1 yC, .int .i64 0, .int .i64 1, .slice none 0 0, .slice none 0 0] 84 (0, 0))) := ⟨by rw [hw13]; exact (blk_set HR.out 5 _).trans rfl⟩
  obtain ⟨w14, hw14⟩ : ∃ z, z = w13.setCell ⟨w.heap.size + 1, 6, none⟩ (.slice (some ⟨uG, 0, none⟩) 1 uC) := ⟨_, rfl⟩
  have J := own_set Ota.out HR.out (by decide) 6 (.slice (some ⟨uG, 0, none⟩) 1 uC)
  rw [← hw14] at J
  have Ota := Sd.mk J
  clear J
  have J := own_set Otb.out HR.out (by decide) 6 (.slice (some ⟨uG, 0, none⟩) 1 uC)
  rw [← hw14] at J
  have Otb := Sd.mk J
  clear J
  have J := Tk.put K0.out HR.out (by decide) 6 (.slice (some ⟨uG, 0, none⟩) 1 uC)
  rw [← hw14] at J
  have K0 := Sd.mk J
  clear J
  have J := Tk.put K1.out HR.out (by decide) 6 (.slice (some ⟨uG, 0, none⟩) 1 uC)
  rw [← hw14] at J
  have K1 := Sd.mk J
  clear J
  have J := Tk.put K2.out HR.out (by decide) 6 (.slice (some ⟨uG, 0, none⟩) 1 uC)
  rw [← hw14] at J
  have K2 := Sd.mk J
  clear J
  have J := own_set Ox.out HR.out (by decide) 6 (.slice (some ⟨uG, 0, none⟩) 1 uC)
  rw [← hw14] at J
  have Ox := Sd.mk J
  clear J
  have J := own_set Oy.out HR.out (by decide) 6 (.slice (some ⟨uG, 0, none⟩) 1 uC)
  rw [← hw14] at J
  have Oy := Sd.mk J
  clear J
  have J := own_set Ou.out HR.out (by decide) 6 (.slice (some ⟨uG, 0, none⟩) 1 uC)
  rw [← hw14] at J
  have Ou := Sd.mk J
  clear J
  have J := own_set Ov.out HR.out (by decide) 6 (.slice (some ⟨uG, 0, none⟩) 1 uC)
  rw [← hw14] at J
  have Ov := Sd.mk J
  clear J
  have B : Sd (Below w.heap.size w w14) := ⟨by rw [hw14]; exact B.out.setCell (p := ⟨w.heap.size + 1, 6, none⟩) (by show w.heap.size ≤ w.heap.size + 1; omega) _⟩
  have HR : Sd (w14.heap[w.heap.size + 1]? = some (.cells #[.slice (some ⟨taG, 0, none⟩) 2 taC, .slice (some ⟨tbG, 0, none⟩) 1 tbC, .slice (some ⟨xG, 0, none⟩) 2 xC, .slice (some ⟨yG, 0, none⟩) 1 yC, .int .i64 0, .int .i64 1, .slice (some ⟨uG, 0, none⟩) 1 uC, .slice none 0 0] 84 (0, 0))) := ⟨by rw [hw14]; exact (blk_set HR.out 6 _).trans rfl⟩
  obtain ⟨w15, hw15⟩ : ∃ z, z = w14.setCell ⟨w.heap.size + 1, 7, none⟩ (.slice vA 0 vC) := ⟨_, rfl⟩
  have J := own_set Ota.out HR.out (by decide) 7 (.slice vA 0 vC)
  rw [← hw15] at J
  have Ota := Sd.mk J
  clear J
  have J := own_set Otb.out HR.out (by decide) 7 (.slice vA 0 vC)
  rw [← hw15] at J
  have Otb := Sd.mk J
  clear J
  have J := Tk.put K0.out HR.out (by decide) 7 (.slice vA 0 vC)
  rw [← hw15] at J
  have K0 := Sd.mk J
  clear J
  have J := Tk.put K1.out HR.out (by decide) 7 (.slice vA 0 vC)
  rw [← hw15] at J
  have K1 := Sd.mk J
  clear J
  have J := Tk.put K2.out HR.out (by decide) 7 (.slice vA 0 vC)
  rw [← hw15] at J
  have K2 := Sd.mk J
  clear J
  have J := own_set Ox.out HR.out (by decide) 7 (.slice vA 0 vC)
  rw [← hw15] at J
  have Ox := Sd.mk J
  clear J
  have J := own_set Oy.out HR.out (by decide) 7 (.slice vA 0 vC)
  rw [← hw15] at J
  have Oy := Sd.mk J
  clear J
  have J := own_set Ou.out HR.out (by decide) 7 (.slice vA 0 vC)
  rw [← hw15] at J
  have Ou := Sd.mk J
  clear J
  have J := own_set Ov.out HR.out (by decide) 7 (.slice vA 0 vC)
  rw [← hw15] at J
  have Ov := Sd.mk J
  clear J
  have B : Sd (Below w.heap.size w w15) := ⟨by rw [hw15]; exact B.out.setCell (p := ⟨w.heap.size + 1, 7, none⟩) (by show w.heap.size ≤ w.heap.size + 1; omega) _⟩
  have HR : Sd (w15.heap[w.heap.size + 1]? = some (.cells #[.slice (some ⟨taG, 0, none⟩) 2 taC, .slice (some ⟨tbG, 0, none⟩) 1 tbC, .slice (some ⟨xG, 0, none⟩) 2 xC, .slice (some ⟨yG, 0, none⟩) 1 yC, .int .i64 0, .int .i64 1, .slice (some ⟨uG, 0, none⟩) 1 uC, .slice vA 0 vC] 84 (0, 0))) := ⟨by rw [hw15]; exact (blk_set HR.out 7 _).trans rfl⟩
  rw [← hw8, ← hw9, ← hw10, ← hw11, ← hw12, ← hw13, ← hw14, ← hw15]
  clear hw8 hw9 hw10 hw11 hw12 hw13 hw14 hw15
  have cR0 : w15.cell? ⟨w.heap.size + 1, 0, none⟩ = some (.slice (some ⟨taG, 0, none⟩) 2 taC) := (blk_cell HR.out 0).trans rfl
  have cR1 : w15.cell? ⟨w.heap.size + 1, 1, none⟩ = some (.slice (some ⟨tbG, 0, none⟩) 1 tbC) := (blk_cell HR.out 1).trans rfl
  have cR2 : w15.cell? ⟨w.heap.size + 1, 2, none⟩ = some (.slice (some ⟨xG, 0, none⟩) 2 xC) := (blk_cell HR.out 2).trans rfl
  have cR3 : w15.cell? ⟨w.heap.size + 1, 3, none⟩ = some (.slice (some ⟨yG, 0, none⟩) 1 yC) := (blk_cell HR.out 3).trans rfl
  have cR4 : w15.cell? ⟨w.heap.size + 1, 4, none⟩ = some (.int .i64 0) := (blk_cell HR.out 4).trans rfl
  have cR5 : w15.cell? ⟨w.heap.size + 1, 5, none⟩ = some (.int .i64 1) := (blk_cell HR.out 5).trans rfl
  have cR6 : w15.cell? ⟨w.heap.size + 1, 6, none⟩ = some (.slice (some ⟨uG, 0, none⟩) 1 uC) := (blk_cell HR.out 6).trans rfl
  have cR7 : w15.cell? ⟨w.heap.size + 1, 7, none⟩ = some (.slice vA 0 vC) := (blk_cell HR.out 7).trans rfl
  refine bodyPost_ret (by rw [results_cell_tmp2 rfl]; go_simp; rfl) rfl ?_
  exact ⟨_, _, _, _, _, _, t0, t1, t2, rfl, ⟨Ota.out, Otb.out, K0.out, K1.out, K2.out, Ox.out, Oy.out, Ou.out, Ov.out⟩, B.out⟩
theorem info22 : ∃ i, Tryz.prog.info? 22 = some i ∧ i.zero = some (.slice none 0 0) ∧ i.size = 1 ∧ i.bytes = 24 := by
  have h : (Tryz.prog.info? 22).map (fun i => (i.zero, i.size, i.bytes)) = some (some (.slice none 0 0), 1, 24) := by kernel_rfl
  obtain ⟨i, hi, h0, h1, h2⟩ := info_parts h
  exact ⟨i, hi, h0, h1, h2⟩
theorem make_tab2 (w : World) : (Instr.makeSlice 72 (.int .i64 2) (.int .i64 2)).run Tryz.prog w = .ok (.slice (some ⟨w.heap.size, 0, none⟩) 2 2) (w.alloc (.cells #[.slice none 0 0, .slice none 0 0] 22)) := by
  obtain ⟨i, hi, hz, hs, hb⟩ := info22
  have := run_makeSlice (P := Tryz.prog) w 72 22 i (.slice none 0 0) Tryz.underlying72 hi hz .i64 .i64 2 2 (by omega) (by omega) (by rw [hs]; decide) (by rw [hb]; decide) (by omega)
  rw [hs] at this
  have e : madeCells (Value.cells (.slice none 0 0)) (Int.toNat 2 * 1) = #[.slice none 0 0, .slice none 0 0] := by kernel_rfl
  rw [e] at this
  exact this
theorem make_tab3 (w : World) : (Instr.makeSlice 72 (.int .i64 3) (.int .i64 3)).run Tryz.prog w = .ok (.slice (some ⟨w.heap.size, 0, none⟩) 3 3) (w.alloc (.cells #[.slice none 0 0, .slice none 0 0, .slice none 0 0] 22)) := by
  obtain ⟨i, hi, hz, hs, hb⟩ := info22
  have := run_makeSlice (P := Tryz.prog) w 72 22 i (.slice none 0 0) Tryz.underlying72 hi hz .i64 .i64 3 3 (by omega) (by omega) (by rw [hs]; decide) (by rw [hb]; decide) (by omega)
  rw [hs] at this
  have e : madeCells (Value.cells (.slice none 0 0)) (Int.toNat 3 * 1) = #[.slice none 0 0, .slice none 0 0, .slice none 0 0] := by kernel_rfl
  rw [e] at this
  exact this
set_option maxRecDepth 100000 in
set_option maxHeartbeats 8000000 in
theorem table_1_0 (w : World) : Calls Tryz.prog 143 #[.int .i64 1, .int .i64 0] w fun e w' => ∃ g r0 r1, e = .returned (.slice (some ⟨g, 0, none⟩) 2 2) ∧ w.heap.size ≤ g ∧ w'.heap[g]? = some (.cells #[.slice (some ⟨r0, 0, none⟩) 1 1, .slice (some ⟨r1, 0, none⟩) 1 1] 22 (0, 0)) ∧ (g < r0 ∧ w'.heap[r0]? = some (.cells #[.int .i64 0] 3 (0, 0))) ∧ (g < r1 ∧ w'.heap[r1]? = some (.cells #[.int .i64 0] 3 (0, 0))) ∧ r0 < r1 ∧ Below w.heap.size w w' := by
  have hmA := make_tab2
  have hmB := make_ints1
  go_enter Tryz.func143, Tryz.ntmps143
  go_wp2_with fail
  obtain ⟨w1, hw1⟩ : ∃ z, z = (w.alloc (.cells #[.slice none 0 0, .slice none 0 0] 22)) := ⟨_, rfl⟩
  have ba : Below w.heap.size w w1 := by
    rw [hw1]
    repeat' (first | exact Below.refl _ _ | refine Below.alloc ?_ (by simp <;> omega) _)
  have HG : Sd (w1.heap[w.heap.size]? = some (.cells #[.slice none 0 0, .slice none 0 0] 22 (0, 0))) := ⟨by rw [hw1]; exact blk_new _ _⟩
  have B : Sd (Below w.heap.size w w1) := ⟨ba⟩
  rw [← hw1]
  clear hw1 ba 
  have hg : Sd (w.heap.size < w1.heap.size) := ⟨blk_lt HG.out⟩
  refine wp_loop_rounds 3 ?_
  rw [rounds_succ]
  have cG0 : w1.cell? ⟨w.heap.size, 0, none⟩ = some (.slice none 0 0) := (blk_cell HG.out 0).trans rfl
  have fG0 : w1.frozen? ⟨w.heap.size, 0, none⟩ = false := blk_frozen HG.out 0
  have lt0 := Sd.mk (blk_lt HG.out)
  have cA : ∀ o, (w1.alloc o).cell? ⟨w.heap.size, 0, none⟩ = some (.slice none 0 0) := fun o => (blk_cell (blk_alloc HG.out o) 0).trans rfl
  have fA : ∀ o, (w1.alloc o).frozen? ⟨w.heap.size, 0, none⟩ = false := fun o => blk_frozen (blk_alloc HG.out o) 0
  go_wp2_with fail
  clear cG0 fG0
  clear cA fA
  have E0 : Sd (w.heap.size < w1.heap.size) := ⟨blk_lt HG.out⟩
  obtain ⟨w2, hw2⟩ : ∃ z, z = (w1.alloc (.cells #[.int .i64 0] 3)).setCell ⟨w.heap.size, 0, none⟩ (.slice (some ⟨w1.heap.size, 0, none⟩) 1 1) := ⟨_, rfl⟩
  have HG : Sd (w2.heap[w.heap.size]? = some (.cells #[.slice (some ⟨w1.heap.size, 0, none⟩) 1 1, .slice none 0 0] 22 (0, 0))) := ⟨by rw [hw2]; exact (blk_set (blk_alloc HG.out _) 0 _).trans rfl⟩
  have HR0 : Sd (w2.heap[w1.heap.size]? = some (.cells #[.int .i64 0] 3 (0, 0))) := ⟨by rw [hw2]; exact blk_far (blk_new _ _) (p := ⟨w.heap.size, 0, none⟩) (by show _ ≠ w.heap.size; have := E0.out; omega) _⟩
  have B : Sd (Below w.heap.size w w2) := ⟨by rw [hw2]; exact (B.out.alloc B.out.size _).setCell (p := ⟨w.heap.size, 0, none⟩) (Nat.le_refl _) _⟩
  have P0 := HR0
  rw [← hw2]
  clear hw2
  rw [rounds_succ]
  have cG1 : w2.cell? ⟨w.heap.size, 1, none⟩ = some (.slice none 0 0) := (blk_cell HG.out 1).trans rfl
  have fG1 : w2.frozen? ⟨w.heap.size, 1, none⟩ = false := blk_frozen HG.out 1
  have lt1 := Sd.mk (blk_lt HG.out)
  have cA : ∀ o, (w2.alloc o).cell? ⟨w.heap.size, 1, none⟩ = some (.slice none 0 0) := fun o => (blk_cell (blk_alloc HG.out o) 1).trans rfl
  have fA : ∀ o, (w2.alloc o).frozen? ⟨w.heap.size, 1, none⟩ = false := fun o => blk_frozen (blk_alloc HG.out o) 1
  go_wp2_with fail
  clear cG1 fG1
  clear cA fA
  have E1 : Sd (w.heap.size < w2.heap.size) := ⟨blk_lt HG.out⟩
  obtain ⟨w3, hw3⟩ : ∃ z, z = (w2.alloc (.cells #[.int .i64 0] 3)).setCell ⟨w.heap.size, 1, none⟩ (.slice (some ⟨w2.heap.size, 0, none⟩) 1 1) := ⟨_, rfl⟩
  have HG : Sd (w3.heap[w.heap.size]? = some (.cells #[.slice (some ⟨w1.heap.size, 0, none⟩) 1 1, .slice (some ⟨w2.heap.size, 0, none⟩) 1 1] 22 (0, 0))) := ⟨by rw [hw3]; exact (blk_set (blk_alloc HG.out _) 1 _).trans rfl⟩
  have HR0 : Sd (w3.heap[w1.heap.size]? = some (.cells #[.int .i64 0] 3 (0, 0))) := ⟨by rw [hw3]; exact blk_far (blk_alloc HR0.out _) (p := ⟨w.heap.size, 1, none⟩) (by show _ ≠ w.heap.size; have := E0.out; omega) _⟩
  have HR1 : Sd (w3.heap[w2.heap.size]? = some (.cells #[.int .i64 0] 3 (0, 0))) := ⟨by rw [hw3]; exact blk_far (blk_new _ _) (p := ⟨w.heap.size, 1, none⟩) (by show _ ≠ w.heap.size; have := E1.out; omega) _⟩
  have B : Sd (Below w.heap.size w w3) := ⟨by rw [hw3]; exact (B.out.alloc B.out.size _).setCell (p := ⟨w.heap.size, 1, none⟩) (Nat.le_refl _) _⟩
  have O1 : Sd (w1.heap.size < w2.heap.size) := ⟨blk_lt P0.out⟩
  have P1 := HR1
  rw [← hw3]
  clear hw3
  rw [rounds_succ]
  go_wp2
  go_ret
  exact ⟨_, _, _, rfl, Nat.le_refl _, HG.out, ⟨E0.out, HR0.out⟩, ⟨E1.out, HR1.out⟩, O1.out, B.out⟩
set_option maxRecDepth 100000 in
set_option maxHeartbeats 8000000 in
theorem table_2_1 (w : World) : Calls Tryz.prog 143 #[.int .i64 2, .int .i64 1] w fun e w' => ∃ g r0 r1 r2, e = .returned (.slice (some ⟨g, 0, none⟩) 3 3) ∧ w.heap.size ≤ g ∧ w'.heap[g]? = some (.cells #[.slice (some ⟨r0, 0, none⟩) 2 2, .slice (some ⟨r1, 0, none⟩) 2 2, .slice (some ⟨r2, 0, none⟩) 2 2] 22 (0, 0)) ∧ (g < r0 ∧ w'.heap[r0]? = some (.cells #[.int .i64 0, .int .i64 0] 3 (0, 0))) ∧ (g < r1 ∧ w'.heap[r1]? = some (.cells #[.int .i64 0, .int .i64 0] 3 (0, 0))) ∧ (g < r2 ∧ w'.heap[r2]? = some (.cells #[.int .i64 0, .int .i64 0] 3 (0, 0))) ∧ r0 < r1 ∧ r1 < r2 ∧ Below w.heap.size w w' := by
  have hmA := make_tab3
  have hmB := make_ints2
  go_enter Tryz.func143, Tryz.ntmps143
  go_wp2_with fail
  obtain ⟨w1, hw1⟩ : ∃ z, z = (w.alloc (.cells #[.slice none 0 0, .slice none 0 0, .slice none 0 0] 22)) := ⟨_, rfl⟩
  have ba : Below w.heap.size w w1 := by
    rw [hw1]
    repeat' (first | exact Below.refl _ _ | refine Below.alloc ?_ (by simp <;> omega) _)
  have HG : Sd (w1.heap[w.heap.size]? = some (.cells #[.slice none 0 0, .slice none 0 0, .slice none 0 0] 22 (0, 0))) := ⟨by rw [hw1]; exact blk_new _ _⟩
  have B : Sd (Below w.heap.size w w1) := ⟨ba⟩
  rw [← hw1]
  clear hw1 ba 
  have hg : Sd (w.heap.size < w1.heap.size) := ⟨blk_lt HG.out⟩
  refine wp_loop_rounds 4 ?_
  rw [rounds_succ]
  have cG0 : w1.cell? ⟨w.heap.size, 0, none⟩ = some (.slice none 0 0) := (blk_cell HG.out 0).trans rfl
  have fG0 : w1.frozen? ⟨w.heap.size, 0, none⟩ = false := blk_frozen HG.out 0
  have lt0 := Sd.mk (blk_lt HG.out)
  have cA : ∀ o, (w1.alloc o).cell? ⟨w.heap.size, 0, none⟩ = some (.slice none 0 0) := fun o => (blk_cell (blk_alloc HG.out o) 0).trans rfl
  have fA : ∀ o, (w1.alloc o).frozen? ⟨w.heap.size, 0, none⟩ = false := fun o => blk_frozen (blk_alloc HG.out o) 0
  go_wp2_with fail
  clear cG0 fG0
  clear cA fA
  have E0 : Sd (w.heap.size < w1.heap.size) := ⟨blk_lt HG.out⟩
  obtain ⟨w2, hw2⟩ : ∃ z, z = (w1.alloc (.cells #[.int .i64 0, .int .i64 0] 3)).setCell ⟨w.heap.size, 0, none⟩ (.slice (some ⟨w1.heap.size, 0, none⟩) 2 2) := ⟨_, rfl⟩
  have HG : Sd (w2.heap[w.heap.size]? = some (.cells #[.slice (some ⟨w1.heap.size, 0, none⟩) 2 2, .slice none 0 0, .slice none 0 0] 22 (0, 0))) := ⟨by rw [hw2]; exact (blk_set (blk_alloc HG.out _) 0 _).trans rfl⟩
  have HR0 : Sd (w2.heap[w1.heap.size]? = some (.cells #[.int .i64 0, .int .i64 0] 3 (0, 0))) := ⟨by rw [hw2]; exact blk_far (blk_new _ _) (p := ⟨w.heap.size, 0, none⟩) (by show _ ≠ w.heap.size; have := E0.out; omega) _⟩
  have B : Sd (Below w.heap.size w w2) := ⟨by rw [hw2]; exact (B.out.alloc B.out.size _).setCell (p := ⟨w.heap.size, 0, none⟩) (Nat.le_refl _) _⟩
  have P0 := HR0
  rw [← hw2]
  clear hw2
  rw [rounds_succ]
  have cG1 : w2.cell? ⟨w.heap.size, 1, none⟩ = some (.slice none 0 0) := (blk_cell HG.out 1).trans rfl
  have fG1 : w2.frozen? ⟨w.heap.size, 1, none⟩ = false := blk_frozen HG.out 1
  have lt1 := Sd.mk (blk_lt HG.out)
  have cA : ∀ o, (w2.alloc o).cell? ⟨w.heap.size, 1, none⟩ = some (.slice none 0 0) := fun o => (blk_cell (blk_alloc HG.out o) 1).trans rfl
  have fA : ∀ o, (w2.alloc o).frozen? ⟨w.heap.size, 1, none⟩ = false := fun o => blk_frozen (blk_alloc HG.out o) 1
  go_wp2_with fail
  clear cG1 fG1
  clear cA fA
  have E1 : Sd (w.heap.size < w2.heap.size) := ⟨blk_lt HG.out⟩
  obtain ⟨w3, hw3⟩ : ∃ z, z = (w2.alloc (.cells #[.int .i64 0, .int .i64 0] 3)).setCell ⟨w.heap.size, 1, none⟩ (.slice (some ⟨w2.heap.size, 0, none⟩) 2 2) := ⟨_, rfl⟩
  have HG : Sd (w3.heap[w.heap.size]? = some (.cells #[.slice (some ⟨w1.heap.size, 0, none⟩) 2 2, .slice (some ⟨w2.heap.size, 0, none⟩) 2 2, .slice none 0 0] 22 (0, 0))) := ⟨by rw [hw3]; exact (blk_set (blk_alloc HG.out _) 1 _).trans rfl⟩
  have HR0 : Sd (w3.heap[w1.heap.size]? = some (.cells #[.int .i64 0, .int .i64 0] 3 (0, 0))) := ⟨by rw [hw3]; exact blk_far (blk_alloc HR0.out _) (p := ⟨w.heap.size, 1, none⟩) (by show _ ≠ w.heap.size; have := E0.out; omega) _⟩
  have HR1 : Sd (w3.heap[w2.heap.size]? = some (.cells #[.int .i64 0, .int .i64 0] 3 (0, 0))) := ⟨by rw [hw3]; exact blk_far (blk_new _ _) (p := ⟨w.heap.size, 1, none⟩) (by show _ ≠ w.heap.size; have := E1.out; omega) _⟩
  have B : Sd (Below w.heap.size w w3) := ⟨by rw [hw3]; exact (B.out.alloc B.out.size _).setCell (p := ⟨w.heap.size, 1, none⟩) (Nat.le_refl _) _⟩
  have O1 : Sd (w1.heap.size < w2.heap.size) := ⟨blk_lt P0.out⟩
  have P1 := HR1
  rw [← hw3]
  clear hw3
  rw [rounds_succ]
  have cG2 : w3.cell? ⟨w.heap.size, 2, none⟩ = some (.slice none 0 0) := (blk_cell HG.out 2).trans rfl
  have fG2 : w3.frozen? ⟨w.heap.size, 2, none⟩ = false := blk_frozen HG.out 2
  have lt2 := Sd.mk (blk_lt HG.out)
  have cA : ∀ o, (w3.alloc o).cell? ⟨w.heap.size, 2, none⟩ = some (.slice none 0 0) := fun o => (blk_cell (blk_alloc HG.out o) 2).trans rfl
  have fA : ∀ o, (w3.alloc o).frozen? ⟨w.heap.size, 2, none⟩ = false := fun o => blk_frozen (blk_alloc HG.out o) 2
  go_wp2_with fail
  clear cG2 fG2
  clear cA fA
  have E2 : Sd (w.heap.size < w3.heap.size) := ⟨blk_lt HG.out⟩
  obtain ⟨w4, hw4⟩ : ∃ z, z = (w3.alloc (.cells #[.int .i64 0, .int .i64 0] 3)).setCell ⟨w.heap.size, 2, none⟩ (.slice (some ⟨w3.heap.size, 0, none⟩) 2 2) := ⟨_, rfl⟩
  have HG : Sd (w4.heap[w.heap.size]? = some (.cells #[.slice (some ⟨w1.heap.size, 0, none⟩) 2 2, .slice (some ⟨w2.heap.size, 0, none⟩) 2 2, .slice (some ⟨w3.heap.size, 0, none⟩) 2 2] 22 (0, 0))) := ⟨by rw [hw4]; exact (blk_set (blk_alloc HG.out _) 2 _).trans rfl⟩
  have HR0 : Sd (w4.heap[w1.heap.size]? = some (.cells #[.int .i64 0, .int .i64 0] 3 (0, 0))) := ⟨by rw [hw4]; exact blk_far (blk_alloc HR0.out _) (p := ⟨w.heap.size, 2, none⟩) (by show _ ≠ w.heap.size; have := E0.out; omega) _⟩
  have HR1 : Sd (w4.heap[w2.heap.size]? = some (.cells #[.int .i64 0, .int .i64 0] 3 (0, 0))) := ⟨by rw [hw4]; exact blk_far (blk_alloc HR1.out _) (p := ⟨w.heap.size, 2, none⟩) (by show _ ≠ w.heap.size; have := E1.out; omega) _⟩
  have HR2 : Sd (w4.heap[w3.heap.size]? = some (.cells #[.int .i64 0, .int .i64 0] 3 (0, 0))) := ⟨by rw [hw4]; exact blk_far (blk_new _ _) (p := ⟨w.heap.size, 2, none⟩) (by show _ ≠ w.heap.size; have := E2.out; omega) _⟩
  have B : Sd (Below w.heap.size w w4) := ⟨by rw [hw4]; exact (B.out.alloc B.out.size _).setCell (p := ⟨w.heap.size, 2, none⟩) (Nat.le_refl _) _⟩
  have O2 : Sd (w2.heap.size < w3.heap.size) := ⟨blk_lt P1.out⟩
  have P2 := HR2
  rw [← hw4]
  clear hw4
  rw [rounds_succ]
  go_wp2
  go_ret
  exact ⟨_, _, _, _, rfl, Nat.le_refl _, HG.out, ⟨E0.out, HR0.out⟩, ⟨E1.out, HR1.out⟩, ⟨E2.out, HR2.out⟩, O1.out, O2.out, B.out⟩
set_option maxRecDepth 100000 in
set_option maxHeartbeats 8000000 in
/-- grid.Behind of one number and none. -/
theorem behind_10 (w : World) (U uC vC : Nat) (vA : Option Addr) : Calls Tryz.prog 86 #[.slice (some ⟨U, 0, none⟩) 1 uC, .slice vA 0 vC] w fun e w' => ∃ v, e = .returned v ∧ Below w.heap.size w w' := by
  go_enter Tryz.func86, Tryz.ntmps86
  go_wp2_with fail
  refine (table_1_0 w).mono ?_
  rintro e w1 ⟨g, r0, r1, rfl, _, _, _, _, _, hb⟩
  have B := Sd.mk hb
  clear hb
  go_wp2_with fail
  refine wp_loop_rounds 2 ?_
  rw [rounds_succ]
  go_wp2_with fail
  refine wp_loop_rounds 1 ?_
  rw [rounds_succ]
  go_wp2_with fail
  rw [rounds_succ]
  go_wp2
  go_ret
  exact ⟨_, rfl, B.out⟩
set_option maxRecDepth 100000 in
set_option maxHeartbeats 8000000 in
/-- grid.Run of one number and none. -/
theorem grid_run_10 (w : World) (U uC vC : Nat) (vA : Option Addr) : Calls Tryz.prog 43 #[.slice (some ⟨U, 0, none⟩) 1 uC, .slice vA 0 vC] w fun e w' => e = .returned (.tuple #[.slice none 0 0, .int .i64 0]) ∧ Below w.heap.size w w' := by
  go_enter Tryz.func43, Tryz.ntmps43
  go_wp2_with fail
  refine (behind_10 w U uC vC vA).mono ?_
  rintro e w1 ⟨v, rfl, hb⟩
  have B := Sd.mk hb
  clear hb
  go_wp2_with fail
  refine wp_loop_rounds 1 ?_
  rw [rounds_succ]
  go_wp2_with fail
  go_ret2
  exact ⟨rfl, B.out⟩
set_option maxRecDepth 100000 in
set_option maxHeartbeats 8000000 in
/-- port.run of the table's engine. -/
theorem port_run_10 (w : World) (U uC vC : Nat) (vA : Option Addr) : Calls Tryz.prog 54 #[.int .i64 1, .slice (some ⟨U, 0, none⟩) 1 uC, .slice vA 0 vC] w fun e w' => e = .returned (.tuple #[.slice none 0 0, .int .i64 0]) ∧ Below w.heap.size w w' := by
  go_enter Tryz.func54, Tryz.ntmps54
  go_wp2_with fail
  refine (grid_run_10 w U uC vC vA).mono ?_
  rintro e w1 ⟨rfl, hb⟩
  have B := Sd.mk hb
  clear hb
  go_wp2
  go_ret2
  exact ⟨rfl, B.out⟩
theorem info71 : ∃ i, Tryz.prog.info? 71 = some i ∧ i.zero = some (.agg #[.int .i64 0, .int .i64 0]) ∧ i.size = 2 ∧ i.bytes = 16 := by
  have h : (Tryz.prog.info? 71).map (fun i => (i.zero, i.size, i.bytes)) = some (some (.agg #[.int .i64 0, .int .i64 0]), 2, 16) := by kernel_rfl
  obtain ⟨i, hi, h0, h1, h2⟩ := info_parts h
  exact ⟨i, hi, h0, h1, h2⟩
theorem two_new {w : World} {x y : Value} {t : TypeId} : ∀ j u, [x, y][j]? = some u → (w.alloc (.cells #[x, y] t)).cell? ((⟨w.heap.size, 0, none⟩ : Addr).add j) = some u := by
  intro j u hj
  have hb : (w.alloc (.cells #[x, y] t)).heap[w.heap.size]? = some (.cells #[x, y] t (0, 0)) := blk_new w _
  match j, hj with
  | 0, hj => simp at hj; subst hj; exact (blk_cell hb 0).trans rfl
  | 1, hj => simp at hj; subst hj; exact (blk_cell hb 1).trans rfl
  | j + 2, hj => simp at hj
set_option maxRecDepth 100000 in
set_option maxHeartbeats 8000000 in
/-- trim.Grow of nothing, one alike behind. -/
theorem grow_ab (w : World) : Calls Tryz.prog 55 #[.slice none 0 0, .int .i64 0, .int .i64 1, .int .i64 2, .int .i64 1] w fun e w' => ∃ v, e = .returned (.tuple #[v, .int .i64 0]) ∧ w'.ownsRow w.heap.size 71 2 v 1 [.int .i64 1, .int .i64 0] ∧ Below w.heap.size w w' := by
  obtain ⟨i, hi, hz, hs, hb⟩ := info71
  have O1 := Sd.mk (World.ownsRow_nil (w.alloc (.cells #[.int .i64 1, .int .i64 0] 71)) w.heap.size 71 2)
  have B2 := Sd.mk (((Below.refl w.heap.size w).alloc (Nat.le_refl _) (.cells #[.int .i64 1, .int .i64 0] 71)))
  go_enter Tryz.func55, Tryz.ntmps55
  go_wp2
  refine wp_loop_rounds 1 ?_
  rw [rounds_succ]
  go_wp2
  refine wp_loop_rounds 1 ?_
  rw [rounds_succ]
  go_wp2
  refine wp_loop_rounds 2 ?_
  rw [rounds_succ]
  go_wp2_with (at_builtin; refine wpList_append_own_at _ rfl (.tmp 112) (.tmp 120) 25 rfl w.heap.size 71 i (.agg #[.int .i64 0, .int .i64 0]) 2 16 Tryz.underlying25 hi hz hs hb rfl (by decide) _ 0 [] rfl O1.out ⟨w.heap.size, 0, none⟩ 1 1 [.int .i64 1, .int .i64 0] rfl rfl two_new (by simp [Value.oneCell']) (by unfold maxLen; omega) (by omega) B2.out.size ?_; intro v w2 ho hg hni hat; have O2 := Sd.mk ho; have B3 := Sd.mk (B2.out.grown hg B2.out.size (fun k hk => (O1.out.lt k hk).1)); clear ho hg hni hat)
  rw [rounds_succ]
  go_wp2
  go_ret2
  exact ⟨v, rfl, O2.out, B3.out⟩
theorem is_in (w : World) (A : Option Addr) (n c : Nat) (i : Int) (h0 : 0 ≤ i) (h1 : i < (n : Int)) : Calls Tryz.prog 105 #[.slice A n c, .int .i64 i] w fun e w' => e = .returned (.bool true) ∧ w' = w := by
  go_enter Tryz.func105, Tryz.ntmps105
  go_wp2
  go_ret
  exact ⟨rfl, rfl⟩
set_option maxRecDepth 100000 in
set_option maxHeartbeats 8000000 in
/-- pairs.Good of 0 1, 1 and the pair 1 0. -/
theorem good_ab (w : World) (X Y g cx cy c : Nat) (x1 : w.cell? ⟨X, 1, none⟩ = some (.int .i64 1)) (y0 : w.cell? ⟨Y, 0, none⟩ = some (.int .i64 1)) (p0 : w.cell? ⟨g, 0, none⟩ = some (.int .i64 1)) (p1 : w.cell? ⟨g, 1, none⟩ = some (.int .i64 0)) :
    Calls Tryz.prog 51 #[.slice (some ⟨X, 0, none⟩) 2 cx, .slice (some ⟨Y, 0, none⟩) 1 cy, .slice (some ⟨g, 0, none⟩) 1 c] w fun e w' => e = .returned (.bool true) ∧ Below w.heap.size w w' := by
  have lX := World.block_lt_of_cell? w _ x1
  have lY := World.block_lt_of_cell? w _ y0
  have lg := World.block_lt_of_cell? w _ p0
  have X1 := Sd.mk x1
  have Y0 := Sd.mk y0
  clear x1 y0
  go_enter Tryz.func51, Tryz.ntmps51
  go_wp2
  refine wp_loop_rounds 2 ?_
  rw [rounds_succ]
  go_wp2
  clear p0 p1
  obtain ⟨w1, hw1⟩ : ∃ z, z = ((w.alloc (.cells #[.int .i64 (-1), .int .i64 (-1)] 71)).alloc (.cells #[.int .i64 1, .int .i64 0] 71)) := ⟨_, rfl⟩
  have z1 : ((w.alloc (.cells #[.int .i64 (-1), .int .i64 (-1)] 71))).heap.size = w.heap.size + 1 := by rw [World.size_alloc]
  have ba : Below w.heap.size w w1 := by
    rw [hw1]
    repeat' (first | exact Below.refl _ _ | refine Below.alloc ?_ (by simp <;> omega) _)
  have HP : Sd (w1.heap[w.heap.size]? = some (.cells #[.int .i64 (-1), .int .i64 (-1)] 71 (0, 0))) := ⟨by rw [hw1]; exact blk_alloc (blk_new _ _) _⟩
  have HQ : Sd (w1.heap[w.heap.size + 1]? = some (.cells #[.int .i64 1, .int .i64 0] 71 (0, 0))) := ⟨by rw [hw1, ← z1]; exact blk_new _ _⟩
  have B : Sd (Below w.heap.size w w1) := ⟨ba⟩
  rw [← hw1]
  clear hw1 ba z1
  have x1 := cell_below X1.out B.out
  have y0 := cell_below Y0.out B.out
  have cP0 : w1.cell? ⟨w.heap.size, 0, none⟩ = some (.int .i64 (-1)) := (blk_cell HP.out 0).trans rfl
  have cP1 : w1.cell? ⟨w.heap.size, 1, none⟩ = some (.int .i64 (-1)) := (blk_cell HP.out 1).trans rfl
  have fP0 : w1.frozen? ⟨w.heap.size, 0, none⟩ = false := blk_frozen HP.out 0
  have fP1 : w1.frozen? ⟨w.heap.size, 1, none⟩ = false := blk_frozen HP.out 1
  have cQ0 : w1.cell? ⟨w.heap.size + 1, 0, none⟩ = some (.int .i64 1) := (blk_cell HQ.out 0).trans rfl
  have cQ1 : w1.cell? ⟨w.heap.size + 1, 1, none⟩ = some (.int .i64 0) := (blk_cell HQ.out 1).trans rfl
  go_quiet (first | (go_at_call 105; refine Calls.quiet_of_same (is_in _ _ _ _ _ (by decide) (by decide))))
  have b2 := Sd.mk (below_drewN' B.out nq)
  go_wp2_with fail
  rw [rounds_succ]
  go_wp2
  go_ret
  refine ⟨rfl, ?_⟩
  refine (Below.setCell (p := ⟨w.heap.size, 1, none⟩) (Below.setCell (p := ⟨w.heap.size, 0, none⟩) b2.out (Nat.le_refl _) _) (Nat.le_refl _) _)
set_option maxRecDepth 100000 in
set_option maxHeartbeats 8000000 in
/-- grid.Len of 0 1 and 1. -/
theorem len_ab (w : World) (X Y cx cy : Nat) (x0 : w.cell? ⟨X, 0, none⟩ = some (.int .i64 0)) (x1 : w.cell? ⟨X, 1, none⟩ = some (.int .i64 1)) (y0 : w.cell? ⟨Y, 0, none⟩ = some (.int .i64 1)) :
    Calls Tryz.prog 33 #[.slice (some ⟨X, 0, none⟩) 2 cx, .slice (some ⟨Y, 0, none⟩) 1 cy] w fun e w' => e = .returned (.int .i64 1) ∧ Below w.heap.size w w' := by
  have X0 := Sd.mk x0
  have X1 := Sd.mk x1
  have Y0 := Sd.mk y0
  have hm := make_ints2
  clear x0 x1 y0
  go_enter Tryz.func33, Tryz.ntmps33
  go_wp2_with fail
  obtain ⟨w1, hw1⟩ : ∃ z, z = (w.alloc (.cells #[.int .i64 0, .int .i64 0] 3)) := ⟨_, rfl⟩
  have ba : Below w.heap.size w w1 := by
    rw [hw1]
    repeat' (first | exact Below.refl _ _ | refine Below.alloc ?_ (by simp <;> omega) _)
  have HR : Sd (w1.heap[w.heap.size]? = some (.cells #[.int .i64 0, .int .i64 0] 3 (0, 0))) := ⟨by rw [hw1]; exact blk_new _ _⟩
  have B : Sd (Below w.heap.size w w1) := ⟨ba⟩
  rw [← hw1]
  clear hw1 ba 
  clear hm
  refine wp_loop_rounds 3 ?_
  rw [rounds_succ]
  go_wp2_with fail
  refine wp_loop_rounds 2 ?_
  rw [rounds_succ]
  have x0 := cell_below X0.out B.out
  have x1 := cell_below X1.out B.out
  have y0 := cell_below Y0.out B.out
  have cR0 : w1.cell? ⟨w.heap.size, 0, none⟩ = some (.int .i64 0) := (blk_cell HR.out 0).trans rfl
  have cR1 : w1.cell? ⟨w.heap.size, 1, none⟩ = some (.int .i64 0) := (blk_cell HR.out 1).trans rfl
  have fR0 : w1.frozen? ⟨w.heap.size, 0, none⟩ = false := blk_frozen HR.out 0
  go_wp2_with fail
  go_quiet (fail)
  have B2 := Sd.mk (below_drewN' B.out nq)
  have HR2 : Sd ((w1.drewN nq).heap[w.heap.size]? = some (.cells #[.int .i64 0, .int .i64 0] 3 (0, 0))) := ⟨HR.out⟩
  clear cR0 cR1 fR0
  clear x0 x1 y0
  obtain ⟨w2, hw2⟩ : ∃ w2, w2 = w1.drewN nq := ⟨_, rfl⟩
  rw [← hw2] at B2 HR2 ⊢
  clear hw2 HR B
  have B := B2
  have HR := HR2
  have cR0 : w2.cell? ⟨w.heap.size, 0, none⟩ = some (.int .i64 0) := (blk_cell HR.out 0).trans rfl
  have fR0 : w2.frozen? ⟨w.heap.size, 0, none⟩ = false := blk_frozen HR.out 0
  go_wp2_with fail
  clear cR0 fR0
  obtain ⟨w3, hw3⟩ : ∃ z, z = w2.setCell ⟨w.heap.size, 0, none⟩ (.int .i64 1) := ⟨_, rfl⟩
  have B : Sd (Below w.heap.size w w3) := ⟨by rw [hw3]; exact B.out.setCell (p := ⟨w.heap.size, 0, none⟩) (Nat.le_refl _) _⟩
  have HR : Sd (w3.heap[w.heap.size]? = some (.cells #[.int .i64 1, .int .i64 0] 3 (0, 0))) := ⟨by rw [hw3]; exact (blk_set HR.out 0 _).trans rfl⟩
  rw [← hw3]
  clear hw3
  rw [rounds_succ]
  go_wp2_with fail
  rw [rounds_succ]
  go_wp2_with fail
  refine wp_loop_rounds 2 ?_
  rw [rounds_succ]
  have x0 := cell_below X0.out B.out
  have x1 := cell_below X1.out B.out
  have y0 := cell_below Y0.out B.out
  have cR0 : w3.cell? ⟨w.heap.size, 0, none⟩ = some (.int .i64 1) := (blk_cell HR.out 0).trans rfl
  have cR1 : w3.cell? ⟨w.heap.size, 1, none⟩ = some (.int .i64 0) := (blk_cell HR.out 1).trans rfl
  have fR0 : w3.frozen? ⟨w.heap.size, 0, none⟩ = false := blk_frozen HR.out 0
  go_wp2_with fail
  go_quiet (fail)
  have B2 := Sd.mk (below_drewN' B.out nq)
  have HR2 : Sd ((w3.drewN nq).heap[w.heap.size]? = some (.cells #[.int .i64 1, .int .i64 0] 3 (0, 0))) := ⟨HR.out⟩
  clear cR0 cR1 fR0
  clear x0 x1 y0
  obtain ⟨w4, hw4⟩ : ∃ z, z = w3.drewN nq := ⟨_, rfl⟩
  rw [← hw4] at B2 HR2 ⊢
  clear hw4 HR B
  have B := B2
  have HR := HR2
  have cR0 : w4.cell? ⟨w.heap.size, 0, none⟩ = some (.int .i64 1) := (blk_cell HR.out 0).trans rfl
  have cR1 : w4.cell? ⟨w.heap.size, 1, none⟩ = some (.int .i64 0) := (blk_cell HR.out 1).trans rfl
  have fR0 : w4.frozen? ⟨w.heap.size, 0, none⟩ = false := blk_frozen HR.out 0
  go_wp2_with fail
  go_big_region
  clear cR0 cR1 fR0
  obtain ⟨w5, hw5⟩ : ∃ z, z = (w4.setCell ⟨w.heap.size, 0, none⟩ (.int .i64 1)).drew := ⟨_, rfl⟩
  have HR : Sd (w5.heap[w.heap.size]? = some (.cells #[.int .i64 1, .int .i64 0] 3 (0, 0))) := ⟨by rw [hw5]; exact (blk_set HR.out 0 _).trans rfl⟩
  have B : Sd (Below w.heap.size w w5) := ⟨by rw [hw5]; exact (B.out.setCell (p := ⟨w.heap.size, 0, none⟩) (Nat.le_refl _) _).drew⟩
  rw [← hw5]
  clear hw5
  go_wp2_with fail
  rw [rounds_succ]
  go_wp2_with fail
  rw [rounds_succ]
  have cR0 : w5.cell? ⟨w.heap.size, 0, none⟩ = some (.int .i64 1) := (blk_cell HR.out 0).trans rfl
  go_wp2
  go_ret
  exact ⟨rfl, B.out⟩
set_option maxRecDepth 100000 in
set_option maxHeartbeats 16000000 in
/-- grid.Behind of 0 1 and 1. -/
theorem behind_ab (w : World) (X Y cx cy : Nat) (x0 : w.cell? ⟨X, 0, none⟩ = some (.int .i64 0)) (x1 : w.cell? ⟨X, 1, none⟩ = some (.int .i64 1)) (y0 : w.cell? ⟨Y, 0, none⟩ = some (.int .i64 1)) :
    Calls Tryz.prog 86 #[.slice (some ⟨X, 0, none⟩) 2 cx, .slice (some ⟨Y, 0, none⟩) 1 cy] w fun e w' => ∃ g r0 r1 r2, e = .returned (.slice (some ⟨g, 0, none⟩) 3 3) ∧ w'.heap[g]? = some (.cells #[.slice (some ⟨r0, 0, none⟩) 2 2, .slice (some ⟨r1, 0, none⟩) 2 2, .slice (some ⟨r2, 0, none⟩) 2 2] 22 (0, 0)) ∧
      w'.heap[r0]? = some (.cells #[.int .i64 1, .int .i64 0] 3 (0, 0)) ∧ w'.heap[r1]? = some (.cells #[.int .i64 1, .int .i64 0] 3 (0, 0)) ∧ w'.heap[r2]? = some (.cells #[.int .i64 0, .int .i64 0] 3 (0, 0)) ∧ Below w.heap.size w w' := by
  have X0 := Sd.mk x0
  have X1 := Sd.mk x1
  have Y0 := Sd.mk y0
  clear x0 x1 y0
  go_enter Tryz.func86, Tryz.ntmps86
  go_wp2_with fail
  refine (table_2_1 w).mono ?_
  rintro e w1 ⟨g, r0, r1, r2, rfl, hg, hG, ⟨l0, h0⟩, ⟨l1, h1⟩, ⟨l2, h2⟩, o1, o2, hb⟩
  have HG := Sd.mk hG
  have HA := Sd.mk h0
  have HB := Sd.mk h1
  have HC := Sd.mk h2
  have B := Sd.mk hb
  clear hG h0 h1 h2 hb
  go_wp2_with fail
  refine wp_loop_rounds 3 ?_
  rw [rounds_succ]
  go_wp2_with fail
  refine wp_loop_rounds 2 ?_
  rw [rounds_succ]
  have x0 := cell_below X0.out B.out
  have x1 := cell_below X1.out B.out
  have y0 := cell_below Y0.out B.out
  go_wp2_with fail
  go_quiet (fail)
  clear x0 x1 y0
  obtain ⟨w2, hw2⟩ : ∃ z, z = w1.drewN nq := ⟨_, rfl⟩
  have HG : Sd (w2.heap[g]? = some (.cells #[.slice (some ⟨r0, 0, none⟩) 2 2, .slice (some ⟨r1, 0, none⟩) 2 2, .slice (some ⟨r2, 0, none⟩) 2 2] 22 (0, 0))) := ⟨by rw [hw2]; exact HG.out⟩
  have HA : Sd (w2.heap[r0]? = some (.cells #[.int .i64 0, .int .i64 0] 3 (0, 0))) := ⟨by rw [hw2]; exact HA.out⟩
  have HB : Sd (w2.heap[r1]? = some (.cells #[.int .i64 0, .int .i64 0] 3 (0, 0))) := ⟨by rw [hw2]; exact HB.out⟩
  have HC : Sd (w2.heap[r2]? = some (.cells #[.int .i64 0, .int .i64 0] 3 (0, 0))) := ⟨by rw [hw2]; exact HC.out⟩
  have B : Sd (Below w.heap.size w w2) := ⟨by rw [hw2]; exact below_drewN' B.out nq⟩
  rw [← hw2]
  clear hw2
  have cG1 : w2.cell? ⟨g, 1, none⟩ = some (.slice (some ⟨r1, 0, none⟩) 2 2) := (blk_cell HG.out 1).trans rfl
  have cG2 : w2.cell? ⟨g, 2, none⟩ = some (.slice (some ⟨r2, 0, none⟩) 2 2) := (blk_cell HG.out 2).trans rfl
  have cC1 : w2.cell? ⟨r2, 1, none⟩ = some (.int .i64 0) := (blk_cell HC.out 1).trans rfl
  have cB0 : w2.cell? ⟨r1, 0, none⟩ = some (.int .i64 0) := (blk_cell HB.out 0).trans rfl
  have fB0 : w2.frozen? ⟨r1, 0, none⟩ = false := blk_frozen HB.out 0
  go_wp2_with fail
  go_big_region
  clear cG1 cG2
  clear cC1
  clear cB0 fB0
  obtain ⟨w3, hw3⟩ : ∃ z, z = (w2.setCell ⟨r1, 0, none⟩ (.int .i64 1)).drew := ⟨_, rfl⟩
  have HG : Sd (w3.heap[g]? = some (.cells #[.slice (some ⟨r0, 0, none⟩) 2 2, .slice (some ⟨r1, 0, none⟩) 2 2, .slice (some ⟨r2, 0, none⟩) 2 2] 22 (0, 0))) := ⟨by rw [hw3]; exact blk_far HG.out (p := ⟨r1, 0, none⟩) (by show g ≠ r1; omega) _⟩
  have HA : Sd (w3.heap[r0]? = some (.cells #[.int .i64 0, .int .i64 0] 3 (0, 0))) := ⟨by rw [hw3]; exact blk_far HA.out (p := ⟨r1, 0, none⟩) (by show r0 ≠ r1; omega) _⟩
  have HB : Sd (w3.heap[r1]? = some (.cells #[.int .i64 1, .int .i64 0] 3 (0, 0))) := ⟨by rw [hw3]; exact (blk_set HB.out 0 _).trans rfl⟩
  have HC : Sd (w3.heap[r2]? = some (.cells #[.int .i64 0, .int .i64 0] 3 (0, 0))) := ⟨by rw [hw3]; exact blk_far HC.out (p := ⟨r1, 0, none⟩) (by show r2 ≠ r1; omega) _⟩
  have B : Sd (Below w.heap.size w w3) := ⟨by rw [hw3]; exact (B.out.setCell (p := ⟨r1, 0, none⟩) (by show w.heap.size ≤ r1; omega) _).drew⟩
  rw [← hw3]
  clear hw3
  go_wp2_with fail
  rw [rounds_succ]
  go_wp2_with fail
  rw [rounds_succ]
  go_wp2_with fail
  refine wp_loop_rounds 2 ?_
  rw [rounds_succ]
  have x0 := cell_below X0.out B.out
  have x1 := cell_below X1.out B.out
  have y0 := cell_below Y0.out B.out
  go_wp2_with fail
  go_quiet (fail)
  clear x0 x1 y0
  obtain ⟨w4, hw4⟩ : ∃ z, z = w3.drewN nq := ⟨_, rfl⟩
  have HG : Sd (w4.heap[g]? = some (.cells #[.slice (some ⟨r0, 0, none⟩) 2 2, .slice (some ⟨r1, 0, none⟩) 2 2, .slice (some ⟨r2, 0, none⟩) 2 2] 22 (0, 0))) := ⟨by rw [hw4]; exact HG.out⟩
  have HA : Sd (w4.heap[r0]? = some (.cells #[.int .i64 0, .int .i64 0] 3 (0, 0))) := ⟨by rw [hw4]; exact HA.out⟩
  have HB : Sd (w4.heap[r1]? = some (.cells #[.int .i64 1, .int .i64 0] 3 (0, 0))) := ⟨by rw [hw4]; exact HB.out⟩
  have HC : Sd (w4.heap[r2]? = some (.cells #[.int .i64 0, .int .i64 0] 3 (0, 0))) := ⟨by rw [hw4]; exact HC.out⟩
  have B : Sd (Below w.heap.size w w4) := ⟨by rw [hw4]; exact below_drewN' B.out nq⟩
  rw [← hw4]
  clear hw4
  have cG0 : w4.cell? ⟨g, 0, none⟩ = some (.slice (some ⟨r0, 0, none⟩) 2 2) := (blk_cell HG.out 0).trans rfl
  have cG1 : w4.cell? ⟨g, 1, none⟩ = some (.slice (some ⟨r1, 0, none⟩) 2 2) := (blk_cell HG.out 1).trans rfl
  have cB0 : w4.cell? ⟨r1, 0, none⟩ = some (.int .i64 1) := (blk_cell HB.out 0).trans rfl
  have cA0 : w4.cell? ⟨r0, 0, none⟩ = some (.int .i64 0) := (blk_cell HA.out 0).trans rfl
  have cA1 : w4.cell? ⟨r0, 1, none⟩ = some (.int .i64 0) := (blk_cell HA.out 1).trans rfl
  have fA0 : w4.frozen? ⟨r0, 0, none⟩ = false := blk_frozen HA.out 0
  go_wp2_with fail
  go_big_region
  clear cG0 cG1
  clear cB0
  clear cA0 cA1 fA0
  obtain ⟨w5, hw5⟩ : ∃ z, z = (w4.setCell ⟨r0, 0, none⟩ (.int .i64 1)).drew := ⟨_, rfl⟩
  have HG : Sd (w5.heap[g]? = some (.cells #[.slice (some ⟨r0, 0, none⟩) 2 2, .slice (some ⟨r1, 0, none⟩) 2 2, .slice (some ⟨r2, 0, none⟩) 2 2] 22 (0, 0))) := ⟨by rw [hw5]; exact blk_far HG.out (p := ⟨r0, 0, none⟩) (by show g ≠ r0; omega) _⟩
  have HA : Sd (w5.heap[r0]? = some (.cells #[.int .i64 1, .int .i64 0] 3 (0, 0))) := ⟨by rw [hw5]; exact (blk_set HA.out 0 _).trans rfl⟩
  have HB : Sd (w5.heap[r1]? = some (.cells #[.int .i64 1, .int .i64 0] 3 (0, 0))) := ⟨by rw [hw5]; exact blk_far HB.out (p := ⟨r0, 0, none⟩) (by show r1 ≠ r0; omega) _⟩
  have HC : Sd (w5.heap[r2]? = some (.cells #[.int .i64 0, .int .i64 0] 3 (0, 0))) := ⟨by rw [hw5]; exact blk_far HC.out (p := ⟨r0, 0, none⟩) (by show r2 ≠ r0; omega) _⟩
  have B : Sd (Below w.heap.size w w5) := ⟨by rw [hw5]; exact (B.out.setCell (p := ⟨r0, 0, none⟩) (by show w.heap.size ≤ r0; omega) _).drew⟩
  rw [← hw5]
  clear hw5
  go_wp2_with fail
  rw [rounds_succ]
  go_wp2_with fail
  rw [rounds_succ]
  go_wp2
  go_ret
  exact ⟨g, r0, r1, r2, rfl, HG.out, HA.out, HB.out, HC.out, B.out⟩
set_option maxRecDepth 100000 in
set_option maxHeartbeats 8000000 in
theorem next_first (w : World) (X Y cx cy g r0 r1 r2 : Nat) (x0 : w.cell? ⟨X, 0, none⟩ = some (.int .i64 0)) (x1 : w.cell? ⟨X, 1, none⟩ = some (.int .i64 1)) (y0 : w.cell? ⟨Y, 0, none⟩ = some (.int .i64 1))
    (hG : w.heap[g]? = some (.cells #[.slice (some ⟨r0, 0, none⟩) 2 2, .slice (some ⟨r1, 0, none⟩) 2 2, .slice (some ⟨r2, 0, none⟩) 2 2] 22 (0, 0))) (hA : w.heap[r0]? = some (.cells #[.int .i64 1, .int .i64 0] 3 (0, 0))) (hC : w.heap[r2]? = some (.cells #[.int .i64 0, .int .i64 0] 3 (0, 0))) :
    Calls Tryz.prog 106 #[.slice (some ⟨g, 0, none⟩) 3 3, .slice (some ⟨X, 0, none⟩) 2 cx, .slice (some ⟨Y, 0, none⟩) 1 cy, .int .i64 0, .int .i64 0] w fun e w' => e = .returned (.tuple #[.agg #[.int .i64 1, .int .i64 0], .bool true]) ∧ Below w.heap.size w w' := by
  have X0 := Sd.mk x0
  have X1 := Sd.mk x1
  have Y0 := Sd.mk y0
  have HG := Sd.mk hG
  have HA := Sd.mk hA
  have HC := Sd.mk hC
  clear x0 x1 y0 hG hA hC
  have lG := blk_lt HG.out
  have lA := blk_lt HA.out
  have lC := blk_lt HC.out
  go_enter Tryz.func106, Tryz.ntmps106
  have cG0 : w.cell? ⟨g, 0, none⟩ = some (.slice (some ⟨r0, 0, none⟩) 2 2) := (blk_cell HG.out 0).trans rfl
  have cG2 : w.cell? ⟨g, 2, none⟩ = some (.slice (some ⟨r2, 0, none⟩) 2 2) := (blk_cell HG.out 2).trans rfl
  have cA0 : w.cell? ⟨r0, 0, none⟩ = some (.int .i64 1) := (blk_cell HA.out 0).trans rfl
  have cC1 : w.cell? ⟨r2, 1, none⟩ = some (.int .i64 0) := (blk_cell HC.out 1).trans rfl
  have ca : ∀ (o : Obj) (a : Addr) (v : Value), w.cell? a = some v → (w.alloc o).cell? a = some v := fun o a v h => cell_below h ((Below.refl _ _).alloc (Nat.le_refl _) _)
  have q0 := fun o => ca o _ _ cG0
  have q2 := fun o => ca o _ _ cG2
  have qa := fun o => ca o _ _ cA0
  have qc := fun o => ca o _ _ cC1
  clear ca
  clear cG0 cG2
  clear cA0
  clear cC1
  go_wp2_with fail
  clear q0 q2 qa qc
  obtain ⟨w1, hw1⟩ : ∃ z, z = (w.alloc (.cells #[.int .i64 0, .int .i64 0] 71)) := ⟨_, rfl⟩
  have HG : Sd (w1.heap[g]? = some (.cells #[.slice (some ⟨r0, 0, none⟩) 2 2, .slice (some ⟨r1, 0, none⟩) 2 2, .slice (some ⟨r2, 0, none⟩) 2 2] 22 (0, 0))) := ⟨by rw [hw1]; exact blk_alloc (HG.out) _⟩
  have HA : Sd (w1.heap[r0]? = some (.cells #[.int .i64 1, .int .i64 0] 3 (0, 0))) := ⟨by rw [hw1]; exact blk_alloc (HA.out) _⟩
  have HC : Sd (w1.heap[r2]? = some (.cells #[.int .i64 0, .int .i64 0] 3 (0, 0))) := ⟨by rw [hw1]; exact blk_alloc (HC.out) _⟩
  have ba : Below w.heap.size w w1 := by
    rw [hw1]
    repeat' (first | exact Below.refl _ _ | refine Below.alloc ?_ (by simp <;> omega) _)
  have HP : Sd (w1.heap[w.heap.size]? = some (.cells #[.int .i64 0, .int .i64 0] 71 (0, 0))) := ⟨by rw [hw1]; exact blk_new _ _⟩
  have B : Sd (Below w.heap.size w w1) := ⟨ba⟩
  rw [← hw1]
  clear hw1 ba 
  refine wp_loop_rounds 3 ?_
  rw [rounds_succ]
  go_wp2_with fail
  refine wp_loop_rounds 2 ?_
  rw [rounds_succ]
  have x0 := cell_below X0.out B.out
  have x1 := cell_below X1.out B.out
  have y0 := cell_below Y0.out B.out
  go_wp2_with fail
  go_quiet (fail)
  clear x0 x1 y0
  obtain ⟨w2, hw2⟩ : ∃ z, z = w1.drewN nq := ⟨_, rfl⟩
  have HG : Sd (w2.heap[g]? = some (.cells #[.slice (some ⟨r0, 0, none⟩) 2 2, .slice (some ⟨r1, 0, none⟩) 2 2, .slice (some ⟨r2, 0, none⟩) 2 2] 22 (0, 0))) := ⟨by rw [hw2]; exact HG.out⟩
  have HA : Sd (w2.heap[r0]? = some (.cells #[.int .i64 1, .int .i64 0] 3 (0, 0))) := ⟨by rw [hw2]; exact HA.out⟩
  have HC : Sd (w2.heap[r2]? = some (.cells #[.int .i64 0, .int .i64 0] 3 (0, 0))) := ⟨by rw [hw2]; exact HC.out⟩
  have HP : Sd (w2.heap[w.heap.size]? = some (.cells #[.int .i64 0, .int .i64 0] 71 (0, 0))) := ⟨by rw [hw2]; exact HP.out⟩
  have B : Sd (Below w.heap.size w w2) := ⟨by rw [hw2]; exact below_drewN' B.out nq⟩
  rw [← hw2]
  clear hw2
  go_wp2_with fail
  rw [rounds_succ]
  go_wp2_with fail
  rw [rounds_succ]
  go_wp2_with fail
  refine wp_loop_rounds 2 ?_
  rw [rounds_succ]
  have x0 := cell_below X0.out B.out
  have x1 := cell_below X1.out B.out
  have y0 := cell_below Y0.out B.out
  have cG2 : w2.cell? ⟨g, 2, none⟩ = some (.slice (some ⟨r2, 0, none⟩) 2 2) := (blk_cell HG.out 2).trans rfl
  have cC1 : w2.cell? ⟨r2, 1, none⟩ = some (.int .i64 0) := (blk_cell HC.out 1).trans rfl
  go_wp2_with fail
  go_quiet (fail)
  clear x0 x1 y0
  clear cG2
  clear cC1
  obtain ⟨w3, hw3⟩ : ∃ z, z = w2.drewN nq := ⟨_, rfl⟩
  have HG : Sd (w3.heap[g]? = some (.cells #[.slice (some ⟨r0, 0, none⟩) 2 2, .slice (some ⟨r1, 0, none⟩) 2 2, .slice (some ⟨r2, 0, none⟩) 2 2] 22 (0, 0))) := ⟨by rw [hw3]; exact HG.out⟩
  have HA : Sd (w3.heap[r0]? = some (.cells #[.int .i64 1, .int .i64 0] 3 (0, 0))) := ⟨by rw [hw3]; exact HA.out⟩
  have HC : Sd (w3.heap[r2]? = some (.cells #[.int .i64 0, .int .i64 0] 3 (0, 0))) := ⟨by rw [hw3]; exact HC.out⟩
  have HP : Sd (w3.heap[w.heap.size]? = some (.cells #[.int .i64 0, .int .i64 0] 71 (0, 0))) := ⟨by rw [hw3]; exact HP.out⟩
  have B : Sd (Below w.heap.size w w3) := ⟨by rw [hw3]; exact below_drewN' B.out nq⟩
  rw [← hw3]
  clear hw3
  have cP0 : w3.cell? ⟨w.heap.size, 0, none⟩ = some (.int .i64 0) := (blk_cell HP.out 0).trans rfl
  have cP1 : w3.cell? ⟨w.heap.size, 1, none⟩ = some (.int .i64 0) := (blk_cell HP.out 1).trans rfl
  have fP0 : w3.frozen? ⟨w.heap.size, 0, none⟩ = false := blk_frozen HP.out 0
  have fP1 : w3.frozen? ⟨w.heap.size, 1, none⟩ = false := blk_frozen HP.out 1
  go_wp2_with fail
  clear cP0 cP1 fP0 fP1
  obtain ⟨w4, hw4⟩ : ∃ z, z = w3.setCell ⟨w.heap.size, 0, none⟩ (.int .i64 1) := ⟨_, rfl⟩
  have B : Sd (Below w.heap.size w w4) := ⟨by rw [hw4]; exact B.out.setCell (p := ⟨w.heap.size, 0, none⟩) (Nat.le_refl _) _⟩
  have HP : Sd (w4.heap[w.heap.size]? = some (.cells #[.int .i64 1, .int .i64 0] 71 (0, 0))) := ⟨by rw [hw4]; exact (blk_set HP.out 0 _).trans rfl⟩
  obtain ⟨w5, hw5⟩ : ∃ z, z = w4.setCell ⟨w.heap.size, 1, none⟩ (.int .i64 0) := ⟨_, rfl⟩
  have B : Sd (Below w.heap.size w w5) := ⟨by rw [hw5]; exact B.out.setCell (p := ⟨w.heap.size, 1, none⟩) (Nat.le_refl _) _⟩
  have HP : Sd (w5.heap[w.heap.size]? = some (.cells #[.int .i64 1, .int .i64 0] 71 (0, 0))) := ⟨by rw [hw5]; exact (blk_set HP.out 1 _).trans rfl⟩
  rw [← hw4, ← hw5]
  clear hw4 hw5
  have cP0 : w5.cell? ⟨w.heap.size, 0, none⟩ = some (.int .i64 1) := (blk_cell HP.out 0).trans rfl
  have cP1 : w5.cell? ⟨w.heap.size, 1, none⟩ = some (.int .i64 0) := (blk_cell HP.out 1).trans rfl
  refine bodyPost_ret (by rw [results_cell_tmp rfl]; go_simp; rfl) rfl ?_
  exact ⟨rfl, B.out⟩
set_option maxRecDepth 100000 in
set_option maxHeartbeats 8000000 in
theorem next_none (w : World) (X Y cx cy g r0 r1 r2 : Nat) (x0 : w.cell? ⟨X, 0, none⟩ = some (.int .i64 0)) (x1 : w.cell? ⟨X, 1, none⟩ = some (.int .i64 1)) (y0 : w.cell? ⟨Y, 0, none⟩ = some (.int .i64 1))
    (hG : w.heap[g]? = some (.cells #[.slice (some ⟨r0, 0, none⟩) 2 2, .slice (some ⟨r1, 0, none⟩) 2 2, .slice (some ⟨r2, 0, none⟩) 2 2] 22 (0, 0))) (hA : w.heap[r0]? = some (.cells #[.int .i64 1, .int .i64 0] 3 (0, 0))) (hC : w.heap[r2]? = some (.cells #[.int .i64 0, .int .i64 0] 3 (0, 0))) :
    Calls Tryz.prog 106 #[.slice (some ⟨g, 0, none⟩) 3 3, .slice (some ⟨X, 0, none⟩) 2 cx, .slice (some ⟨Y, 0, none⟩) 1 cy, .int .i64 2, .int .i64 1] w fun e w' => e = .returned (.tuple #[.agg #[.int .i64 0, .int .i64 0], .bool false]) ∧ Below w.heap.size w w' := by
  have X0 := Sd.mk x0
  have X1 := Sd.mk x1
  have Y0 := Sd.mk y0
  have HG := Sd.mk hG
  have HA := Sd.mk hA
  have HC := Sd.mk hC
  clear x0 x1 y0 hG hA hC
  have lG := blk_lt HG.out
  have lA := blk_lt HA.out
  have lC := blk_lt HC.out
  go_enter Tryz.func106, Tryz.ntmps106
  have cG0 : w.cell? ⟨g, 0, none⟩ = some (.slice (some ⟨r0, 0, none⟩) 2 2) := (blk_cell HG.out 0).trans rfl
  have cG2 : w.cell? ⟨g, 2, none⟩ = some (.slice (some ⟨r2, 0, none⟩) 2 2) := (blk_cell HG.out 2).trans rfl
  have cA0 : w.cell? ⟨r0, 0, none⟩ = some (.int .i64 1) := (blk_cell HA.out 0).trans rfl
  have cC1 : w.cell? ⟨r2, 1, none⟩ = some (.int .i64 0) := (blk_cell HC.out 1).trans rfl
  have ca : ∀ (o : Obj) (a : Addr) (v : Value), w.cell? a = some v → (w.alloc o).cell? a = some v := fun o a v h => cell_below h ((Below.refl _ _).alloc (Nat.le_refl _) _)
  have q0 := fun o => ca o _ _ cG0
  have q2 := fun o => ca o _ _ cG2
  have qa := fun o => ca o _ _ cA0
  have qc := fun o => ca o _ _ cC1
  clear ca
  clear cG0 cG2
  clear cA0
  clear cC1
  go_wp2_with fail
  obtain ⟨w1, hw1⟩ : ∃ z, z = (w.alloc (.cells #[.int .i64 0, .int .i64 0] 71)) := ⟨_, rfl⟩
  have HG : Sd (w1.heap[g]? = some (.cells #[.slice (some ⟨r0, 0, none⟩) 2 2, .slice (some ⟨r1, 0, none⟩) 2 2, .slice (some ⟨r2, 0, none⟩) 2 2] 22 (0, 0))) := ⟨by rw [hw1]; exact blk_alloc (HG.out) _⟩
  have HA : Sd (w1.heap[r0]? = some (.cells #[.int .i64 1, .int .i64 0] 3 (0, 0))) := ⟨by rw [hw1]; exact blk_alloc (HA.out) _⟩
  have HC : Sd (w1.heap[r2]? = some (.cells #[.int .i64 0, .int .i64 0] 3 (0, 0))) := ⟨by rw [hw1]; exact blk_alloc (HC.out) _⟩
  have ba : Below w.heap.size w w1 := by
    rw [hw1]
    repeat' (first | exact Below.refl _ _ | refine Below.alloc ?_ (by simp <;> omega) _)
  have HP : Sd (w1.heap[w.heap.size]? = some (.cells #[.int .i64 0, .int .i64 0] 71 (0, 0))) := ⟨by rw [hw1]; exact blk_new _ _⟩
  have B : Sd (Below w.heap.size w w1) := ⟨ba⟩
  rw [← hw1]
  clear hw1 ba 
  have cP0 : w1.cell? ⟨w.heap.size, 0, none⟩ = some (.int .i64 0) := (blk_cell HP.out 0).trans rfl
  have cP1 : w1.cell? ⟨w.heap.size, 1, none⟩ = some (.int .i64 0) := (blk_cell HP.out 1).trans rfl
  refine bodyPost_ret (by rw [results_cell_tmp rfl]; go_simp; rfl) rfl ?_
  exact ⟨rfl, B.out⟩
set_option maxRecDepth 100000 in
set_option maxHeartbeats 16000000 in
/-- least.Of of 0 1 and 1. -/
theorem least_ab (w : World) (X Y cx cy : Nat) (x0 : w.cell? ⟨X, 0, none⟩ = some (.int .i64 0)) (x1 : w.cell? ⟨X, 1, none⟩ = some (.int .i64 1)) (y0 : w.cell? ⟨Y, 0, none⟩ = some (.int .i64 1)) :
    Calls Tryz.prog 52 #[.slice (some ⟨X, 0, none⟩) 2 cx, .slice (some ⟨Y, 0, none⟩) 1 cy] w fun e w' => ∃ v, e = .returned v ∧ w'.ownsRow w.heap.size 71 2 v 1 [.int .i64 1, .int .i64 0] ∧ Below w.heap.size w w' := by
  obtain ⟨i, hi, hz, hs, hb0⟩ := info71
  have X0 := Sd.mk x0
  have X1 := Sd.mk x1
  have Y0 := Sd.mk y0
  go_enter Tryz.func52, Tryz.ntmps52
  go_wp2_with fail
  refine (behind_ab w X Y cx cy x0 x1 y0).mono ?_
  clear x0 x1 y0
  rintro e w1 ⟨g, r0, r1, r2, rfl, hG, hA, _, hC, hb⟩
  have HG := Sd.mk hG
  have HA := Sd.mk hA
  have HC := Sd.mk hC
  have B := Sd.mk hb
  clear hG hA hC hb
  go_wp2_with fail
  refine wp_loop_rounds 2 ?_
  rw [rounds_succ]
  go_wp2_with fail
  refine (next_first w1 X Y cx cy g r0 r1 r2 (cell_below X0.out B.out) (cell_below X1.out B.out) (cell_below Y0.out B.out) HG.out HA.out HC.out).mono ?_
  rintro e w2 ⟨rfl, hb⟩
  have HG := Sd.mk (blk_below HG.out hb (blk_lt HG.out))
  have HA := Sd.mk (blk_below HA.out hb (blk_lt HA.out))
  have HC := Sd.mk (blk_below HC.out hb (blk_lt HC.out))
  have B := Sd.mk (below_both B.out hb)
  clear hb 
  have O1 := Sd.mk (World.ownsRow_nil ((w2.alloc (.cells #[.int .i64 1, .int .i64 0] 71)).alloc (.cells #[.int .i64 1, .int .i64 0] 71)) w.heap.size 71 2)
  have BA : Sd (Below w.heap.size w ((w2.alloc (.cells #[.int .i64 1, .int .i64 0] 71)).alloc (.cells #[.int .i64 1, .int .i64 0] 71))) := ⟨(B.out.alloc B.out.size _).alloc (B.out.alloc B.out.size _).size _⟩
  have SZ : ((w2.alloc (.cells #[.int .i64 1, .int .i64 0] 71)).heap.size = w2.heap.size + 1) := World.size_alloc _ _
  have NW := Sd.mk (SZ ▸ two_new (w := w2.alloc (.cells #[.int .i64 1, .int .i64 0] 71)) (x := .int .i64 1) (y := .int .i64 0) (t := 71))
  clear SZ
  go_wp2_with (at_builtin; refine wpList_append_own_at _ rfl (.tmp 26) (.tmp 28) 25 rfl w.heap.size 71 i (.agg #[.int .i64 0, .int .i64 0]) 2 16 Tryz.underlying25 hi hz hs hb0 rfl (by decide) (.slice none 0 0) 0 [] rfl O1.out ⟨w2.heap.size + 1, 0, none⟩ 1 1 [.int .i64 1, .int .i64 0] rfl rfl NW.out (by simp [Value.oneCell']) (by unfold maxLen; omega) (by omega) BA.out.size ?_; intro v w3 ho hg hni hat; have O2 := Sd.mk ho; have GR := Sd.mk hg; clear ho hg hni hat)
  have HG : Sd (w3.heap[g]? = some (.cells #[.slice (some ⟨r0, 0, none⟩) 2 2, .slice (some ⟨r1, 0, none⟩) 2 2, .slice (some ⟨r2, 0, none⟩) 2 2] 22 (0, 0))) := ⟨blk_grownB (blk_alloc (blk_alloc HG.out _) _) GR.out (by simp [Value.ownBlock])⟩
  have HA : Sd (w3.heap[r0]? = some (.cells #[.int .i64 1, .int .i64 0] 3 (0, 0))) := ⟨blk_grownB (blk_alloc (blk_alloc HA.out _) _) GR.out (by simp [Value.ownBlock])⟩
  have HC : Sd (w3.heap[r2]? = some (.cells #[.int .i64 0, .int .i64 0] 3 (0, 0))) := ⟨blk_grownB (blk_alloc (blk_alloc HC.out _) _) GR.out (by simp [Value.ownBlock])⟩
  have HP : Sd (w3.heap[w2.heap.size]? = some (.cells #[.int .i64 1, .int .i64 0] 71 (0, 0))) := ⟨blk_grownB (blk_alloc (blk_new _ _) _) GR.out (by simp [Value.ownBlock])⟩
  have B : Sd (Below w.heap.size w w3) := ⟨BA.out.grown GR.out BA.out.size (fun k hk => by simp [Value.ownBlock] at hk)⟩
  clear BA NW O1 GR
  have cP0 : w3.cell? ⟨w2.heap.size, 0, none⟩ = some (.int .i64 1) := (blk_cell HP.out 0).trans rfl
  have cP1 : w3.cell? ⟨w2.heap.size, 1, none⟩ = some (.int .i64 0) := (blk_cell HP.out 1).trans rfl
  go_wp2_with fail
  go_quiet (fail)
  clear cP0 cP1
  have O3 : Sd ((w3.drewN nq).ownsRow w.heap.size 71 2 v (0 + 1) ([] ++ [.int .i64 1, .int .i64 0])) := ⟨O2.out⟩
  obtain ⟨w4, hw4⟩ : ∃ z, z = w3.drewN nq := ⟨_, rfl⟩
  have HG : Sd (w4.heap[g]? = some (.cells #[.slice (some ⟨r0, 0, none⟩) 2 2, .slice (some ⟨r1, 0, none⟩) 2 2, .slice (some ⟨r2, 0, none⟩) 2 2] 22 (0, 0))) := ⟨by rw [hw4]; exact HG.out⟩
  have HA : Sd (w4.heap[r0]? = some (.cells #[.int .i64 1, .int .i64 0] 3 (0, 0))) := ⟨by rw [hw4]; exact HA.out⟩
  have HC : Sd (w4.heap[r2]? = some (.cells #[.int .i64 0, .int .i64 0] 3 (0, 0))) := ⟨by rw [hw4]; exact HC.out⟩
  have HP : Sd (w4.heap[w2.heap.size]? = some (.cells #[.int .i64 1, .int .i64 0] 71 (0, 0))) := ⟨by rw [hw4]; exact HP.out⟩
  have B : Sd (Below w.heap.size w w4) := ⟨by rw [hw4]; exact below_drewN' B.out nq⟩
  rw [← hw4] at O3 ⊢
  clear hw4 O2
  go_wp2_with fail
  rw [rounds_succ]
  go_wp2_with fail
  refine (next_none w4 X Y cx cy g r0 r1 r2 (cell_below X0.out B.out) (cell_below X1.out B.out) (cell_below Y0.out B.out) HG.out HA.out HC.out).mono ?_
  rintro e w5 ⟨rfl, hb⟩
  have HG := Sd.mk (blk_below HG.out hb (blk_lt HG.out))
  have HA := Sd.mk (blk_below HA.out hb (blk_lt HA.out))
  have HC := Sd.mk (blk_below HC.out hb (blk_lt HC.out))
  have HP := Sd.mk (blk_below HP.out hb (blk_lt HP.out))
  have O3 := Sd.mk (own_below O3.out hb)
  have B := Sd.mk (below_both B.out hb)
  clear hb 
  have O4 := Sd.mk (own_below O3.out (W' := w5.alloc (.cells #[.int .i64 0, .int .i64 0] 71)) ((Below.refl _ _).alloc (Nat.le_refl _) _))
  have B4 := Sd.mk (B.out.alloc B.out.size (.cells #[.int .i64 0, .int .i64 0] 71))
  go_wp2_with fail
  go_ret
  exact ⟨v, rfl, O4.out, B4.out⟩
set_option maxRecDepth 100000 in
set_option maxHeartbeats 8000000 in
/-- canon.Of of 0 1, 1 and the pair 1 0. -/
theorem canon_ab (w : World) (X Y g cx cy c : Nat) (x0 : w.cell? ⟨X, 0, none⟩ = some (.int .i64 0)) (x1 : w.cell? ⟨X, 1, none⟩ = some (.int .i64 1)) (y0 : w.cell? ⟨Y, 0, none⟩ = some (.int .i64 1)) (p0 : w.cell? ⟨g, 0, none⟩ = some (.int .i64 1)) (p1 : w.cell? ⟨g, 1, none⟩ = some (.int .i64 0)) :
    Calls Tryz.prog 13 #[.slice (some ⟨X, 0, none⟩) 2 cx, .slice (some ⟨Y, 0, none⟩) 1 cy, .slice (some ⟨g, 0, none⟩) 1 c] w fun e w' => ∃ v, e = .returned (.tuple #[v, .int .i64 0]) ∧ w'.ownsRow w.heap.size 71 2 v 1 [.int .i64 1, .int .i64 0] ∧ Below w.heap.size w w' := by
  have X0 := Sd.mk x0
  have X1 := Sd.mk x1
  have Y0 := Sd.mk y0
  have P0 := Sd.mk p0
  have P1 := Sd.mk p1
  clear x0 x1 y0 p0 p1
  go_enter Tryz.func13, Tryz.ntmps13
  go_wp2_with fail
  refine (good_ab w X Y g cx cy c X1.out Y0.out P0.out P1.out).mono ?_
  rintro e w1 ⟨rfl, hb⟩
  have B := Sd.mk hb
  clear hb
  go_wp2_with fail
  refine (len_ab w1 X Y cx cy (cell_below X0.out B.out) (cell_below X1.out B.out) (cell_below Y0.out B.out)).mono ?_
  rintro e w2 ⟨rfl, hb⟩
  have B := Sd.mk (below_both B.out hb)
  clear hb
  go_wp2_with fail
  refine (least_ab w2 X Y cx cy (cell_below X0.out B.out) (cell_below X1.out B.out) (cell_below Y0.out B.out)).mono ?_
  rintro e w3 ⟨v, rfl, ho, hb⟩
  have O := Sd.mk (own_less ho B.out.size)
  have B := Sd.mk (below_both B.out hb)
  clear hb ho
  go_wp2
  go_ret2
  exact ⟨v, rfl, O.out, B.out⟩
set_option maxRecDepth 100000 in
set_option maxHeartbeats 4000000 in
/-- edit's tokens of none. -/
theorem tokens_none (w : World) (A : Option Addr) (c : Nat) : Calls Tryz.prog 114 #[.slice A 0 c] w fun e w' => e = .returned (.slice none 0 0) ∧ w' = w := by
  go_enter Tryz.func114, Tryz.ntmps114
  go_wp2
  refine wp_loop_rounds 1 ?_
  rw [rounds_succ]
  go_wp2
  go_ret
  exact ⟨rfl, rfl⟩
set_option maxRecDepth 100000 in
set_option maxHeartbeats 4000000 in
/-- edit's tokens of one of one byte. -/
theorem tokens_one (w : World) (g c g0 c0 : Nat) (x : Int) (h : w.cell? ⟨g, 0, none⟩ = some (.slice (some ⟨g0, 0, none⟩) 1 c0)) (k : w.cell? ⟨g0, 0, none⟩ = some (.int .u8 x)) :
    Calls Tryz.prog 114 #[.slice (some ⟨g, 0, none⟩) 1 c] w fun e w' => ∃ v, e = .returned v ∧ (∃ A C, v = .slice A 1 C) ∧ Below w.heap.size w w' := by
  obtain ⟨i, hi, hz, hs, hb⟩ := info35
  have HC := Sd.mk (clone_bytes w ⟨g0, 0, none⟩ 1 c0 [.int .u8 x] rfl (one_at k) (by simp [Value.oneCell']) (by omega))
  clear k
  go_enter Tryz.func114, Tryz.ntmps114
  go_wp2
  refine wp_loop_rounds 2 ?_
  rw [rounds_succ]
  go_wp2_with fail
  refine HC.out.mono ?_
  rintro e w1 ⟨t, rfl, ho, hb1⟩
  have T := Sd.mk (Tk.of ho)
  obtain ⟨g1, k1, rfl⟩ := T.out.form
  have O1 := Sd.mk (World.ownsRow_nil (w1.alloc (.cells #[.slice (some ⟨g1, 0, none⟩) 1 k1] 35)) w.heap.size 35 1)
  have B2 := Sd.mk ((hb1.alloc hb1.size (.cells #[.slice (some ⟨g1, 0, none⟩) 1 k1] 35)))
  clear ho hb1 HC
  go_wp2_with (at_builtin; refine wpList_append_own_at _ rfl (.tmp 12) (.tmp 15) 82 rfl w.heap.size 35 i (.slice none 0 0) 1 24 Tryz.underlying82 hi hz hs hb rfl (by decide) (.slice none 0 0) 0 [] rfl O1.out ⟨w1.heap.size, 0, none⟩ 1 1 [.slice (some ⟨g1, 0, none⟩) 1 k1] rfl rfl one_new (by simp [Value.oneCell']) (by unfold maxLen; omega) (by omega) B2.out.size ?_; intro v w2 ho hg hni hat; have O2 := Sd.mk ho; have B3 := Sd.mk (B2.out.grown hg B2.out.size (fun k hk => (O1.out.lt k hk).1)); clear ho hg hni hat)
  rw [rounds_succ]
  go_wp2
  go_ret
  exact ⟨v, rfl, own_slice O2.out, B3.out⟩
end Go.Proofs.YtjkjanegankdhaaGreat.Top
