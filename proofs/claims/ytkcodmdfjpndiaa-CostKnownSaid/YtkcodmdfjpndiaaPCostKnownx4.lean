-- Laid by wip/myprint.py: the kit's print, with contracts typed by hand for what it does not take.
import Derived.Test.YtkcodmdfjpndiaaPCostKnownx0
import Derived.Test.YtkcodmdfjpndiaaPCostKnownx2
import Derived.Test.YtkcodmdfjpndiaaPCostKnownx3
namespace Go.Proofs.Ytkcodmdfjpndiaa.PCostKnown
open Go.RowKit Go.Proofs.YtkcodmdfjpndiaaW.PrintWords Go.Proofs.YtkcodmdfjpndiaaW.PrintLast Go.Proofs.YtkcodmdfjpndiaaW.PrintMore
attribute [local go_sem] max2_int min2_int max_two min_two max_three min_three max_four min_four   -- for this text's walks alone
set_option linter.unusedVariables false
set_option linter.unusedSimpArgs false

/-! ### tattinglaw27_CostKnown: function 8 -/
def tattinglaw27_CostKnown.l0 : Nat → List Int → List Int → Int → Int → Int → Int → Int → Option (Bool)
  | 0, _, _, _, _, _, _, _ => none
  | k + 1, x2, x3, x4, x147000, x147001, x147002, x147003 => if x4 ≤ 8 then ((cost_Room.f x4 x147000 x147001 x147002 x147003).bind fun bt153 => ((cost_Work.f x4 x147000 x147001 x147002 x147003).bind fun bt155 => (if bt153.2 = 0 then (if bt155.2 = 0 then (if 0 ≤ x4 then (if x4 < (x2.length : Int) then (if bt153.1 = (rd x2 x4) then (if x4 < (x3.length : Int) then (if bt155.1 = (rd x3 x4) then ((cost_Fits.f x4 x147000 x147001 x147002 x147003 (rd x2 x4)).bind fun t160 => (if t160 = 0 then ((cost_Fits.f x4 x147000 x147001 x147002 x147003 (wrap64 ((rd x2 x4) - 1))).bind fun t162 => (if t162 = 2 then (tattinglaw27_CostKnown.l0 k x2 x3 (wrap64 (x4 + 1)) x147000 x147001 x147002 x147003) else (some false))) else (some false))) else (some false)) else (none)) else (some false)) else (none)) else (none)) else (some false)) else (some false)))) else ((cost_Room.f 0 x147000 x147001 x147002 x147003).bind fun bt163 => ((cost_Work.f 9 x147000 x147001 x147002 x147003).bind fun bt165 => ((cost_Room.f 1 1 1 3 0).bind fun bt167 => ((cost_Room.f 1 1 1 1 2).bind fun bt169 => ((cost_Tag.f k (⟨#[97, 110, 121]⟩ : ByteArray)).bind fun bt171 => ((cost_Tag.f k (⟨#[99, 114, 111, 99, 104]⟩ : ByteArray)).bind fun bt173 => ((tattinglaw27_awake.f k).bind fun t175 => (if t175 = true then (if bt163.2 = 1 then (if bt165.2 = 1 then (if bt167.2 = 1 then (if bt169.2 = 1 then (if bt171.2 = true then (some false) else (if bt173.2 = true then (if bt173.1 = 8 then ((cost_Name.f 0).bind fun t176 => (if t176.toList = ([] : List UInt8) then ((cost_Name.f 9).bind fun t177 => (if t177.toList = ([] : List UInt8) then ((cost_Choose.f k x147000 x147001 x147002 x147003).bind fun t178 => (if t178 = 7 then ((cost_Choose.f k (-1) 0 0 0).bind fun t179 => (if t179 = 0 then ((cost_Right.f 1048577 0 0 0).bind fun t180 => (if t180 = true then (some false) else ((cost_Fits.f 0 x147000 x147001 x147002 x147003 4611686018427387904).bind fun t181 => (some (t181 == 1))))) else (some false))) else (some false))) else (some false))) else (some false))) else (some false)) else (some false))) else (some false)) else (some false)) else (some false)) else (some false)) else (some false)))))))))
def tattinglaw27_CostKnown.f (k : Nat)  : Option (Bool) := tattinglaw27_CostKnown.l0 k (([0, 786, 262, 1039, 190, 552, 272, 39, 60] : List Int)) (([0, 650, 1690, 841, 1395, 17136, 34136, 30, 45] : List Int)) 1 5 130 7 20
theorem tattinglaw27_CostKnown.mono_l : ∀ k, (∀ y0 y1 y2 y3 y4 y5 y6, LeO (tattinglaw27_CostKnown.l0 k y0 y1 y2 y3 y4 y5 y6) (tattinglaw27_CostKnown.l0 (k + 1) y0 y1 y2 y3 y4 y5 y6))
  | 0 => fun _ _ _ _ _ _ _ r h => by simp [tattinglaw27_CostKnown.l0] at h
  | k + 1 => by
    have ih0 := tattinglaw27_CostKnown.mono_l k
    · intro y0 y1 y2 y3 y4 y5 y6
      unfold tattinglaw27_CostKnown.l0
      repeat' first
      | (with_reducible exact ih0 _ _ _ _ _ _ _)
      | (with_reducible exact cost_Choose.mono _ _ _ _ _)
      | (with_reducible exact cost_Tag.mono _ _)
      | (with_reducible exact tattinglaw27_awake.mono _)
      | (with_reducible exact LeO.refl _)
      | (with_reducible exact LeO.none _)
      | (with_reducible refine LeO.ite ?_ ?_)
      | (with_reducible refine LeO.bind ?_ (fun _ => ?_))
      | exact ih0 _ _ _ _ _ _ _
      | exact cost_Choose.mono _ _ _ _ _
      | exact cost_Tag.mono _ _
      | exact tattinglaw27_awake.mono _
      | exact LeO.none _
      | refine LeO.ite ?_ ?_
      | refine LeO.bind ?_ (fun _ => ?_)
theorem tattinglaw27_CostKnown.mono : ∀ k, LeO (tattinglaw27_CostKnown.f k ) (tattinglaw27_CostKnown.f (k + 1) ) := by
  intro  k
  have ih0 := tattinglaw27_CostKnown.mono_l k
  unfold tattinglaw27_CostKnown.f
  repeat' first
      | (with_reducible exact ih0 _ _ _ _ _ _ _)
      | (with_reducible exact cost_Choose.mono _ _ _ _ _)
      | (with_reducible exact cost_Tag.mono _ _)
      | (with_reducible exact tattinglaw27_awake.mono _)
      | (with_reducible exact LeO.refl _)
      | (with_reducible exact LeO.none _)
      | (with_reducible refine LeO.ite ?_ ?_)
      | (with_reducible refine LeO.bind ?_ (fun _ => ?_))
      | exact ih0 _ _ _ _ _ _ _
      | exact cost_Choose.mono _ _ _ _ _
      | exact cost_Tag.mono _ _
      | exact tattinglaw27_awake.mono _
      | exact LeO.none _
      | refine LeO.ite ?_ ?_
      | refine LeO.bind ?_ (fun _ => ?_)
def tattinglaw27_CostKnown.T9 : Bool × List (List Nat × List Nat) := (true, [([], []), ([0], [0]), ([1], [1]), ([2], [2]), ([3, 2], [2, 3]), ([2, 4], [2, 4]), ([5, 2], [5]), ([6], [6]), ([6], [6]), ([6], [6]), ([8, 9, 6], [6, 8, 9]), ([10, 6], [6, 10]), ([7, 11, 6], [6, 7, 11]), ([6, 12], [6, 12]), ([13, 6], [13]), ([14], [14]), ([14], [14]), ([14], [14]), ([16, 17, 14], [14, 16, 17]), ([18, 14], [14, 18]), ([15, 19, 14], [14, 15, 19]), ([14, 20], [14, 20]), ([21, 14], [21]), ([22], [22]), ([22], [22]), ([22], [22]), ([22], [22]), ([25, 26, 22], [22, 25, 26]), ([27, 22], [22, 27]), ([23, 24, 28, 22, 22], [22, 23, 24, 28]), ([29, 22], [22, 29]), ([22, 30], [22, 30]), ([31, 29], [31]), ([32], [32]), ([32], [32]), ([32], [32]), ([32], [32]), ([35, 36, 32], [32, 35, 36]), ([37, 32], [32, 37]), ([38, 32], [32, 38]), ([33, 34, 39, 32, 32], [32, 33, 34, 39]), ([40, 32], [32, 40]), ([32, 41], [32, 41])])
def tattinglaw27_CostKnown.B9 : List Nat := [0, 1, 3, 7, 15, 31, 63, 127, 127, 127, 895, 1919, 4095, 8191, 16383, 32767, 32767, 32767, 229375, 491519, 1048575, 2097151, 4194303, 8388607, 8388607, 8388607, 8388607, 109051903, 243269631, 536870911, 1073741823, 2147483647, 4294967295, 8589934591, 8589934591, 8589934591, 8589934591, 111669149695, 249108103167, 523986010111, 1099511627775, 2199023255551, 4398046511103]
theorem tattinglaw27_CostKnown.tab9 : rtab .any (opsOf Try.f8 9) = tattinglaw27_CostKnown.T9 := by kernel_rfl
theorem tattinglaw27_CostKnown.bits9 : waitsOk tattinglaw27_CostKnown.T9.2 tattinglaw27_CostKnown.B9 = true := by kernel_rfl
set_option maxHeartbeats 8000000 in
set_option maxRecDepth 100000 in
theorem tattinglaw27_CostKnown.calls (k : Nat)  (r : Bool) (w : World) (h : tattinglaw27_CostKnown.f k  = some r) (HRT : Aside0 (r = true)) :
    Calls Try.prog 8 #[] w fun e w' => e = .returned (.bool r) ∧ Below w.heap.size w w' := by
  have hu26 := Try.underlying26
  have HB := Aside0.mk (Below.refl w.heap.size w)
  have H : (tattinglaw27_CostKnown.l0 k (([0, 786, 262, 1039, 190, 552, 272, 39, 60] : List Int)) (([0, 650, 1690, 841, 1395, 17136, 34136, 30, 45] : List Int)) 1 5 130 7 20) = some r := h
  clear h
  obtain ⟨y147, hy147⟩ : ∃ y_ : List Int, y_ = (([0, 786, 262, 1039, 190, 552, 272, 39, 60] : List Int)) := ⟨_, rfl⟩
  replace H : (tattinglaw27_CostKnown.l0 k y147 (([0, 650, 1690, 841, 1395, 17136, 34136, 30, 45] : List Int)) 1 5 130 7 20) = some r := by first | (rw [hy147]; with_reducible exact H) | (have H2_ := (Option.bind_some _ _).symm.trans H; rw [hy147]; with_reducible exact H2_) | (have H2_ := (Option.bind_some _ _).symm.trans H; with_reducible exact H2_) | with_reducible exact H | (rw [hy147]; exact H) | exact H
  have Ny147 := Aside0.mk hy147
  clear hy147
  obtain ⟨y150, hy150⟩ : ∃ y_ : List Int, y_ = (([0, 650, 1690, 841, 1395, 17136, 34136, 30, 45] : List Int)) := ⟨_, rfl⟩
  replace H : (tattinglaw27_CostKnown.l0 k y147 y150 1 5 130 7 20) = some r := by first | (rw [hy150]; with_reducible exact H) | (have H2_ := (Option.bind_some _ _).symm.trans H; rw [hy150]; with_reducible exact H2_) | (have H2_ := (Option.bind_some _ _).symm.trans H; with_reducible exact H2_) | with_reducible exact H | (rw [hy150]; exact H) | exact H
  have Ny150 := Aside0.mk hy150
  clear hy150
  have H' := Aside0.mk H
  clear H
  go_enter Try.func8, Try.ntmps8
  go_wp2_with (first | ((with_reducible refine gate_dst (N := 1) rfl ?_); refine box_event ?hg (N := 1) ?hd (cs := #[.int .i64 0, .int .i64 0, .int .i64 0, .int .i64 0]) (t := 26) ?hr ?_; (case hd => rfl); (case hg => rfl); (case hr => first | (go_simp; done) | (go_simp; rfl)); intro gb146 hg w1 hbox hb; have n0_ := Aside0.mk (below_step (by repeat (first | (with_reducible first | exact HB.out | apply below_alloc | apply pw_below_drewN | apply below_drew1) | exact HB.out)) hb); have n1_ := Aside0.mk (hbox); have n2_ := Aside0.mk ((by rw [hg]; exact (below_size (by repeat (first | (with_reducible first | exact HB.out | apply below_alloc | apply pw_below_drewN | apply below_drew1) | exact HB.out))) : w.heap.size ≤ gb146)); have n3_ := Aside0.mk ((by rw [hg]; exact (below_size (by repeat (first | (with_reducible first | exact HB.out | apply below_alloc | apply pw_below_drewN | apply below_drew1) | exact HB.out))) : w.heap.size ≤ gb146)); clear HB; have HB := n0_; have BK146 := n1_; have GW146 := n2_; have GE146 := n3_; clear n0_ n1_ n2_ n3_; clear hb hbox hg; have hcz2_0 : w1.cell? ⟨gb146, 0, none⟩ = some (.int .i64 0) := (blk_cell BK146.out 0).trans rfl; have hcz2_1 : w1.cell? ⟨gb146, 1, none⟩ = some (.int .i64 0) := (blk_cell BK146.out 1).trans rfl; have hcz2_2 : w1.cell? ⟨gb146, 2, none⟩ = some (.int .i64 0) := (blk_cell BK146.out 2).trans rfl; have hcz2_3 : w1.cell? ⟨gb146, 3, none⟩ = some (.int .i64 0) := (blk_cell BK146.out 3).trans rfl; have hfz2_0 := blk_frozen BK146.out 0; have hfz2_1 := blk_frozen BK146.out 1; have hfz2_2 := blk_frozen BK146.out 2; have hfz2_3 := blk_frozen BK146.out 3) | ((with_reducible refine gate_dst (N := 22) rfl ?_); refine Kd.R_lit (Kd.int .i64) _ 2 ?hg (N := 22) ?hd (xs := ([0, 786, 262, 1039, 190, 552, 272, 39, 60] : List Int)) (inner := [.int .i64 0, .int .i64 786, .int .i64 262, .int .i64 1039, .int .i64 190, .int .i64 552, .int .i64 272, .int .i64 39, .int .i64 60]) (ok := fun _ => True) (okp := fun _ => True) ?hr ?hp (fun _ hk => hk) trivial (Below.refl _ _) (Nat.le_refl _) (by simp) ?_; (case hd => rfl); (case hg => rfl); (case hr => first | (go_simp; done) | (go_simp; rfl)); (case hp => exact (Reps.one (show Kd.M (Kd.int .i64) _ _ _ 0 [.int .i64 0] from rfl) (Reps.one (show Kd.M (Kd.int .i64) _ _ _ 786 [.int .i64 786] from rfl) (Reps.one (show Kd.M (Kd.int .i64) _ _ _ 262 [.int .i64 262] from rfl) (Reps.one (show Kd.M (Kd.int .i64) _ _ _ 1039 [.int .i64 1039] from rfl) (Reps.one (show Kd.M (Kd.int .i64) _ _ _ 190 [.int .i64 190] from rfl) (Reps.one (show Kd.M (Kd.int .i64) _ _ _ 552 [.int .i64 552] from rfl) (Reps.one (show Kd.M (Kd.int .i64) _ _ _ 272 [.int .i64 272] from rfl) (Reps.one (show Kd.M (Kd.int .i64) _ _ _ 39 [.int .i64 39] from rfl) (Reps.one (show Kd.M (Kd.int .i64) _ _ _ 60 [.int .i64 60] from rfl) (Reps.none _ _))))))))))); intro v148 w3 ho4 hb hg_ hnew_; clear hg_ hnew_; (first | rw [← Ny147.out] at ho4 | (simp only [Int.reduceToNat] at ho4; rw [← Ny147.out] at ho4)); have n0_ := Aside0.mk (Kd.R_lower ho4 (below_size (by repeat (first | (with_reducible first | exact HB.out | apply below_alloc | apply pw_below_drewN | apply below_drew1 | refine below_set ?_ GE146.out) | exact HB.out)))); have n1_ := Aside0.mk (blk_below (g := gb146) (o := .cells #[.int .i64 5, .int .i64 130, .int .i64 7, .int .i64 20] 26 (0, 0)) (by (with_reducible repeat (first | refine blk_drewN ?_ _ | refine blk_drew ?_ | refine blk_alloc ?_ _)); refine blk_put (cs := #[.int .i64 5, .int .i64 130, .int .i64 7, .int .i64 0]) ?_ 3 _ rfl; (with_reducible repeat (first | refine blk_drewN ?_ _ | refine blk_drew ?_ | refine blk_alloc ?_ _)); refine blk_put (cs := #[.int .i64 5, .int .i64 130, .int .i64 0, .int .i64 0]) ?_ 2 _ rfl; (with_reducible repeat (first | refine blk_drewN ?_ _ | refine blk_drew ?_ | refine blk_alloc ?_ _)); refine blk_put (cs := #[.int .i64 5, .int .i64 0, .int .i64 0, .int .i64 0]) ?_ 1 _ rfl; (with_reducible repeat (first | refine blk_drewN ?_ _ | refine blk_drew ?_ | refine blk_alloc ?_ _)); refine blk_put (cs := #[.int .i64 0, .int .i64 0, .int .i64 0, .int .i64 0]) ?_ 0 _ rfl; (with_reducible repeat (first | refine blk_drewN ?_ _ | refine blk_drew ?_ | refine blk_alloc ?_ _)); exact BK146.out) hb); have n2_ := Aside0.mk (below_step (by repeat (first | (with_reducible first | exact HB.out | apply below_alloc | apply pw_below_drewN | apply below_drew1 | refine below_set ?_ GE146.out) | exact HB.out)) hb); clear BK146; clear HB; have HO149 := n0_; have BK146 := n1_; have HB := n2_; clear n0_ n1_ n2_; clear hb ho4) | ((with_reducible refine gate_dst (N := 23) rfl ?_); refine Kd.R_lit (Kd.int .i64) _ 2 ?hg (N := 23) ?hd (xs := ([0, 650, 1690, 841, 1395, 17136, 34136, 30, 45] : List Int)) (inner := [.int .i64 0, .int .i64 650, .int .i64 1690, .int .i64 841, .int .i64 1395, .int .i64 17136, .int .i64 34136, .int .i64 30, .int .i64 45]) (ok := fun _ => True) (okp := fun _ => True) ?hr ?hp (fun _ hk => hk) trivial (Below.refl _ _) (Nat.le_refl _) (by simp) ?_; (case hd => rfl); (case hg => rfl); (case hr => first | (go_simp; done) | (go_simp; rfl)); (case hp => exact (Reps.one (show Kd.M (Kd.int .i64) _ _ _ 0 [.int .i64 0] from rfl) (Reps.one (show Kd.M (Kd.int .i64) _ _ _ 650 [.int .i64 650] from rfl) (Reps.one (show Kd.M (Kd.int .i64) _ _ _ 1690 [.int .i64 1690] from rfl) (Reps.one (show Kd.M (Kd.int .i64) _ _ _ 841 [.int .i64 841] from rfl) (Reps.one (show Kd.M (Kd.int .i64) _ _ _ 1395 [.int .i64 1395] from rfl) (Reps.one (show Kd.M (Kd.int .i64) _ _ _ 17136 [.int .i64 17136] from rfl) (Reps.one (show Kd.M (Kd.int .i64) _ _ _ 34136 [.int .i64 34136] from rfl) (Reps.one (show Kd.M (Kd.int .i64) _ _ _ 30 [.int .i64 30] from rfl) (Reps.one (show Kd.M (Kd.int .i64) _ _ _ 45 [.int .i64 45] from rfl) (Reps.none _ _))))))))))); intro v151 w5 ho6 hb hg_ hnew_; clear hg_ hnew_; (first | rw [← Ny150.out] at ho6 | (simp only [Int.reduceToNat] at ho6; rw [← Ny150.out] at ho6)); have n0_ := Aside0.mk (Kd.R_elder' (by (with_reducible repeat (first | apply Kd.R_alloc | apply Kd.R_drewN | apply Kd.R_drew)); exact HO149.out) (Kd.R_base ho6) hb); have n1_ := Aside0.mk (Kd.R_lower (Kd.R_new' ho6 (Kd.R_lt (by (with_reducible repeat (first | apply Kd.R_alloc | apply Kd.R_drewN | apply Kd.R_drew)); exact HO149.out))) (below_size (by repeat (first | (with_reducible first | exact HB.out | apply below_alloc | apply pw_below_drewN | apply below_drew1 | refine below_set ?_ GE146.out) | exact HB.out)))); have n2_ := Aside0.mk (blk_below (g := gb146) (o := .cells #[.int .i64 5, .int .i64 130, .int .i64 7, .int .i64 20] 26 (0, 0)) (by (with_reducible repeat (first | refine blk_drewN ?_ _ | refine blk_drew ?_ | refine blk_alloc ?_ _)); exact BK146.out) hb); have n3_ := Aside0.mk (below_step (by repeat (first | (with_reducible first | exact HB.out | apply below_alloc | apply pw_below_drewN | apply below_drew1 | refine below_set ?_ GE146.out) | exact HB.out)) hb); clear HO149; clear BK146; clear HB; have HO149 := n0_; have HO152 := n1_; have BK146 := n2_; have HB := n3_; clear n0_ n1_ n2_ n3_; clear hb ho6))
  go_loopg [4] k (fun kq v4 w' => ∃ (x4_1 : Int), v4 = .int .i64 x4_1 ∧ Aside0 (tattinglaw27_CostKnown.l0 kq y147 y150 x4_1 5 130 7 20 = some r) ∧ Aside0 (kq ≤ k) ∧ Aside0 (Kd.R (Kd.int .i64) 2 w' w.heap.size (fun k_ => some k_ ≠ (v151 : Value).ownBlock) v148 y147) ∧ Aside0 (Kd.R (Kd.int .i64) 2 w' w.heap.size (fun k_ => some k_ ≠ (v148 : Value).ownBlock) v151 y150) ∧ Aside0 (w'.heap[gb146]? = some (.cells #[.int .i64 5, .int .i64 130, .int .i64 7, .int .i64 20] 26 (0, 0))) ∧ Aside0 (Below w.heap.size w w'))
  case atStart => exact ⟨(1), (by first | rfl | (simp; done) | (simp [*]; done)), H', ⟨Nat.le_refl _⟩, ⟨by (with_reducible repeat (first | apply Kd.R_alloc | apply Kd.R_drewN | apply Kd.R_drew)); exact Kd.R_mono HO149.out (fun _ hk => hk.2)⟩, ⟨by (with_reducible repeat (first | apply Kd.R_alloc | apply Kd.R_drewN | apply Kd.R_drew)); exact Kd.R_mono HO152.out (fun _ hk => hk.2)⟩, ⟨by (with_reducible repeat (first | refine blk_drewN ?_ _ | refine blk_drew ?_ | refine blk_alloc ?_ _)); exact BK146.out⟩, ⟨by repeat (first | (with_reducible first | exact HB.out | apply below_alloc | apply pw_below_drewN | apply below_drew1 | refine below_set ?_ GE146.out) | exact HB.out)⟩⟩
  case round =>
    clear H'
    try clear p2
    try clear hcz2_0
    try clear hcz2_1
    try clear hcz2_2
    try clear hcz2_3
    try clear hfz2_0
    try clear hfz2_1
    try clear hfz2_2
    try clear hfz2_3
    obtain ⟨x4_1, rfl, HA, HK1, HO_2, HO_3, BK146, HB⟩ := hrel
    cases gk with
    | zero => exact absurd HA.out (by simp [tattinglaw27_CostKnown.l0])
    | succ k1 =>
      have H := HA.out
      clear HA
      simp only [tattinglaw27_CostKnown.l0] at H
      by_cases c7 : x4_1 ≤ 8
      · rw [if_pos c7] at H
        have c7b0 : decide (x4_1 ≤ 8) = true := decide_eq_true c7
        clear c7
        replace H := Option.bind_eq_some_iff.mp H
        obtain ⟨⟨t153, t154⟩, A80, H⟩ := H
        replace H : ((cost_Work.f x4_1 5 130 7 20).bind fun bt155 => (if t154 = 0 then (if bt155.2 = 0 then (if 0 ≤ x4_1 then (if x4_1 < (y147.length : Int) then (if t153 = (rd y147 x4_1) then (if x4_1 < (y150.length : Int) then (if bt155.1 = (rd y150 x4_1) then ((cost_Fits.f x4_1 5 130 7 20 (rd y147 x4_1)).bind fun t160 => (if t160 = 0 then ((cost_Fits.f x4_1 5 130 7 20 (wrap64 ((rd y147 x4_1) - 1))).bind fun t162 => (if t162 = 2 then (tattinglaw27_CostKnown.l0 k1 y147 y150 (wrap64 (x4_1 + 1)) 5 130 7 20) else (some false))) else (some false))) else (some false)) else (none)) else (some false)) else (none)) else (none)) else (some false)) else (some false))) = some r := H
        have A8 := Aside0.mk A80
        clear A80
        replace H := Option.bind_eq_some_iff.mp H
        obtain ⟨⟨t155, t156⟩, A90, H⟩ := H
        replace H : (if t154 = 0 then (if t156 = 0 then (if 0 ≤ x4_1 then (if x4_1 < (y147.length : Int) then (if t153 = (rd y147 x4_1) then (if x4_1 < (y150.length : Int) then (if t155 = (rd y150 x4_1) then ((cost_Fits.f x4_1 5 130 7 20 (rd y147 x4_1)).bind fun t160 => (if t160 = 0 then ((cost_Fits.f x4_1 5 130 7 20 (wrap64 ((rd y147 x4_1) - 1))).bind fun t162 => (if t162 = 2 then (tattinglaw27_CostKnown.l0 k1 y147 y150 (wrap64 (x4_1 + 1)) 5 130 7 20) else (some false))) else (some false))) else (some false)) else (none)) else (some false)) else (none)) else (none)) else (some false)) else (some false)) = some r := H
        have A9 := Aside0.mk A90
        clear A90
        by_cases c10 : t154 = 0
        · rw [if_pos c10] at H
          have c10b0 : (t154 == 0) = true := beq_iff_eq.mpr c10
          have c10b1 : (t154 != 0) = false := bne_eq_false_iff_eq.mpr c10
          clear c10
          by_cases c11 : t156 = 0
          · rw [if_pos c11] at H
            have c11b0 : (t156 == 0) = true := beq_iff_eq.mpr c11
            have c11b1 : (t156 != 0) = false := bne_eq_false_iff_eq.mpr c11
            clear c11
            by_cases c12 : 0 ≤ x4_1
            · rw [if_pos c12] at H
              have c12b0 : decide (0 ≤ x4_1) = true := decide_eq_true c12
              clear c12
              by_cases c13 : x4_1 < (y147.length : Int)
              · rw [if_pos c13] at H
                have c13b0 : decide (x4_1 < (y147.length : Int)) = true := decide_eq_true c13
                clear c13
                by_cases c14 : t153 = (rd y147 x4_1)
                · rw [if_pos c14] at H
                  have c14b0 : (t153 == (rd y147 x4_1)) = true := beq_iff_eq.mpr c14
                  have c14b1 : (t153 != (rd y147 x4_1)) = false := bne_eq_false_iff_eq.mpr c14
                  clear c14
                  by_cases c15 : x4_1 < (y150.length : Int)
                  · rw [if_pos c15] at H
                    have c15b0 : decide (x4_1 < (y150.length : Int)) = true := decide_eq_true c15
                    clear c15
                    by_cases c16 : t155 = (rd y150 x4_1)
                    · rw [if_pos c16] at H
                      have c16b0 : (t155 == (rd y150 x4_1)) = true := beq_iff_eq.mpr c16
                      have c16b1 : (t155 != (rd y150 x4_1)) = false := bne_eq_false_iff_eq.mpr c16
                      clear c16
                      replace H := Option.bind_eq_some_iff.mp H
                      obtain ⟨t160, A170, H⟩ := H
                      replace H : (if t160 = 0 then ((cost_Fits.f x4_1 5 130 7 20 (wrap64 ((rd y147 x4_1) - 1))).bind fun t162 => (if t162 = 2 then (tattinglaw27_CostKnown.l0 k1 y147 y150 (wrap64 (x4_1 + 1)) 5 130 7 20) else (some false))) else (some false)) = some r := H
                      have A17 := Aside0.mk A170
                      clear A170
                      by_cases c18 : t160 = 0
                      · rw [if_pos c18] at H
                        have c18b0 : (t160 == 0) = true := beq_iff_eq.mpr c18
                        have c18b1 : (t160 != 0) = false := bne_eq_false_iff_eq.mpr c18
                        clear c18
                        replace H := Option.bind_eq_some_iff.mp H
                        obtain ⟨t162, A190, H⟩ := H
                        replace H : (if t162 = 2 then (tattinglaw27_CostKnown.l0 k1 y147 y150 (wrap64 (x4_1 + 1)) 5 130 7 20) else (some false)) = some r := H
                        have A19 := Aside0.mk A190
                        clear A190
                        by_cases c20 : t162 = 2
                        · rw [if_pos c20] at H
                          have c20b0 : (t162 == 2) = true := beq_iff_eq.mpr c20
                          have c20b1 : (t162 != 2) = false := bne_eq_false_iff_eq.mpr c20
                          clear c20
                          have H' := Aside0.mk H
                          clear H
                          have hcz21_0 : wr.cell? ⟨gb146, 0, none⟩ = some (.int .i64 5) := (blk_cell BK146.out 0).trans rfl
                          have hcz21_1 : wr.cell? ⟨gb146, 1, none⟩ = some (.int .i64 130) := (blk_cell BK146.out 1).trans rfl
                          have hcz21_2 : wr.cell? ⟨gb146, 2, none⟩ = some (.int .i64 7) := (blk_cell BK146.out 2).trans rfl
                          have hcz21_3 : wr.cell? ⟨gb146, 3, none⟩ = some (.int .i64 20) := (blk_cell BK146.out 3).trans rfl
                          have hfz21_0 := blk_frozen BK146.out 0
                          have hfz21_1 := blk_frozen BK146.out 1
                          have hfz21_2 := blk_frozen BK146.out 2
                          have hfz21_3 := blk_frozen BK146.out 3
                          try go_wp2_with (first | ((with_reducible refine gate_callee (f := 14) rfl ?_); refine goesL_ (some 31) rfl rfl Try.func14 (by kernel_rfl) rfl #[.int .i64 x4_1, .agg #[.int .i64 5, .int .i64 130, .int .i64 7, .int .i64 20]] rfl (by (try simp only [List.map_toArray, List.map_cons, List.map_nil]); first | done | rfl | (simp only [List.length_drop, List.length_take]; rfl)) ?_; (with_reducible refine (cost_Room.calls x4_1 5 130 7 20 t153 t154 _ A8.out).mono ?_); rintro e w22 ⟨rfl, hb⟩; refine ⟨_, rfl, ?_⟩; have n0_ := Aside0.mk (Kd.R_below (by (with_reducible repeat (first | apply Kd.R_alloc | apply Kd.R_drewN | apply Kd.R_drew)); exact HO_2.out) hb); have n1_ := Aside0.mk (Kd.R_below (by (with_reducible repeat (first | apply Kd.R_alloc | apply Kd.R_drewN | apply Kd.R_drew)); exact HO_3.out) hb); have n2_ := Aside0.mk (blk_below (g := gb146) (o := .cells #[.int .i64 5, .int .i64 130, .int .i64 7, .int .i64 20] 26 (0, 0)) (by (with_reducible repeat (first | refine blk_drewN ?_ _ | refine blk_drew ?_ | refine blk_alloc ?_ _)); exact BK146.out) hb); have n3_ := Aside0.mk (below_step (by repeat (first | (with_reducible first | exact HB.out | apply below_alloc | apply pw_below_drewN | apply below_drew1 | refine below_set ?_ GE146.out) | exact HB.out)) hb); clear HO_2; clear HO_3; clear BK146; clear HB; have HO_2 := n0_; have HO_3 := n1_; have BK146 := n2_; have HB := n3_; clear n0_ n1_ n2_ n3_; (try clear hb); (try clear hb2); (try clear hk); (try clear hi); have hcz23_0 : w22.cell? ⟨gb146, 0, none⟩ = some (.int .i64 5) := (blk_cell BK146.out 0).trans rfl; have hcz23_1 : w22.cell? ⟨gb146, 1, none⟩ = some (.int .i64 130) := (blk_cell BK146.out 1).trans rfl; have hcz23_2 : w22.cell? ⟨gb146, 2, none⟩ = some (.int .i64 7) := (blk_cell BK146.out 2).trans rfl; have hcz23_3 : w22.cell? ⟨gb146, 3, none⟩ = some (.int .i64 20) := (blk_cell BK146.out 3).trans rfl; have hfz23_0 := blk_frozen BK146.out 0; have hfz23_1 := blk_frozen BK146.out 1; have hfz23_2 := blk_frozen BK146.out 2; have hfz23_3 := blk_frozen BK146.out 3) | ((with_reducible refine gate_callee (f := 16) rfl ?_); refine goesL_ (some 37) rfl rfl Try.func16 (by kernel_rfl) rfl #[.int .i64 x4_1, .agg #[.int .i64 5, .int .i64 130, .int .i64 7, .int .i64 20]] rfl (by (try simp only [List.map_toArray, List.map_cons, List.map_nil]); first | done | rfl | (simp only [List.length_drop, List.length_take]; rfl)) ?_; (with_reducible refine (cost_Work.calls x4_1 5 130 7 20 t155 t156 _ A9.out).mono ?_); rintro e w24 ⟨rfl, hb⟩; refine ⟨_, rfl, ?_⟩; have n0_ := Aside0.mk (Kd.R_below (by (with_reducible repeat (first | apply Kd.R_alloc | apply Kd.R_drewN | apply Kd.R_drew)); exact HO_2.out) hb); have n1_ := Aside0.mk (Kd.R_below (by (with_reducible repeat (first | apply Kd.R_alloc | apply Kd.R_drewN | apply Kd.R_drew)); exact HO_3.out) hb); have n2_ := Aside0.mk (blk_below (g := gb146) (o := .cells #[.int .i64 5, .int .i64 130, .int .i64 7, .int .i64 20] 26 (0, 0)) (by (with_reducible repeat (first | refine blk_drewN ?_ _ | refine blk_drew ?_ | refine blk_alloc ?_ _)); exact BK146.out) hb); have n3_ := Aside0.mk (below_step (by repeat (first | (with_reducible first | exact HB.out | apply below_alloc | apply pw_below_drewN | apply below_drew1 | refine below_set ?_ GE146.out) | exact HB.out)) hb); clear HO_2; clear HO_3; clear BK146; clear HB; have HO_2 := n0_; have HO_3 := n1_; have BK146 := n2_; have HB := n3_; clear n0_ n1_ n2_ n3_; (try clear hb); (try clear hb2); (try clear hk); (try clear hi)))
                          have n0_ := Aside0.mk (Kd.R_drew HO_2.out)
                          have n1_ := Aside0.mk (Kd.R_drew HO_3.out)
                          have n2_ := Aside0.mk (blk_drew BK146.out)
                          have n3_ := Aside0.mk (below_drew1 HB.out)
                          clear HO_2
                          clear HO_3
                          clear BK146
                          clear HB
                          have HO_2 := n0_
                          have HO_3 := n1_
                          have BK146 := n2_
                          have HB := n3_
                          clear n0_ n1_ n2_ n3_
                          obtain ⟨Ao26, co26, eo26⟩ := Kd.R_slice HO_2.out
                          (first | subst eo26 | (injection eo26 with f1_ f2_ f3_; have f4_ := f1_.symm; have f5_ := f3_.symm; clear f1_ f2_ f3_; subst f4_; subst f5_))
                          have p157 : 0 ≤ (x4_1 : Int) := of_decide_eq_true (by first | (with_reducible assumption) | assumption)
                          have q157 : x4_1 < (y147.length : Int) := of_decide_eq_true (by first | (with_reducible assumption) | assumption)
                          obtain ⟨ad157, e157, hx157_0⟩ := Kd.at_int (Kd.R_reads' HO_2.out).2.2 x4_1 p157 q157
                          cases e157
                          replace p157 := eq_true p157
                          replace q157 := eq_true q157
                          obtain ⟨Ao27, co27, eo27⟩ := Kd.R_slice HO_3.out
                          (first | subst eo27 | (injection eo27 with f1_ f2_ f3_; have f4_ := f1_.symm; have f5_ := f3_.symm; clear f1_ f2_ f3_; subst f4_; subst f5_))
                          have p158 : 0 ≤ (x4_1 : Int) := of_decide_eq_true (by first | (with_reducible assumption) | assumption)
                          have q158 : x4_1 < (y150.length : Int) := of_decide_eq_true (by first | (with_reducible assumption) | assumption)
                          obtain ⟨ad158, e158, hx158_0⟩ := Kd.at_int (Kd.R_reads' HO_3.out).2.2 x4_1 p158 q158
                          cases e158
                          replace p158 := eq_true p158
                          replace q158 := eq_true q158
                          have p159 : 0 ≤ (x4_1 : Int) := of_decide_eq_true (by first | (with_reducible assumption) | assumption)
                          have q159 : x4_1 < (y147.length : Int) := of_decide_eq_true (by first | (with_reducible assumption) | assumption)
                          obtain ⟨ad159, e159, hx159_0⟩ := Kd.at_int (Kd.R_reads' HO_2.out).2.2 x4_1 p159 q159
                          obtain rfl : ad157 = ad159 := (by injection e159)
                          replace p159 := eq_true p159
                          replace q159 := eq_true q159
                          have p161 : 0 ≤ (x4_1 : Int) := of_decide_eq_true (by first | (with_reducible assumption) | assumption)
                          have q161 : x4_1 < (y147.length : Int) := of_decide_eq_true (by first | (with_reducible assumption) | assumption)
                          obtain ⟨ad161, e161, hx161_0⟩ := Kd.at_int (Kd.R_reads' HO_2.out).2.2 x4_1 p161 q161
                          obtain rfl : ad157 = ad161 := (by injection e161)
                          replace p161 := eq_true p161
                          replace q161 := eq_true q161
                          refine start_ (n := 43) (S := fun w' => w'.cell? ⟨gb146, 0, none⟩ = some (.int .i64 5) ∧ w'.cell? ⟨gb146, 1, none⟩ = some (.int .i64 130) ∧ w'.cell? ⟨gb146, 2, none⟩ = some (.int .i64 7) ∧ w'.cell? ⟨gb146, 3, none⟩ = some (.int .i64 20) ∧ w'.cell? (ad157.add (x4_1).toNat) = some (.int .i64 (rd y147 x4_1)) ∧ w'.cell? (ad158.add (x4_1).toNat) = some (.int .i64 (rd y150 x4_1)) ∧ w'.cell? (ad157.add (x4_1).toNat) = some (.int .i64 (rd y147 x4_1)) ∧ w'.cell? (ad157.add (x4_1).toNat) = some (.int .i64 (rd y147 x4_1))) (ds := []) #[false, false, false, false, false, false, false, false, false, false, false, false, false, false, false, false, false, false, false, false, false, false, false, false, false, false, false, false, false, false, false, false, false, false, false, false, false, false, false, false, false, false, false] (by kernel_rfl) rfl rfl ⟨(blk_cell BK146.out 0).trans rfl, (blk_cell BK146.out 1).trans rfl, (blk_cell BK146.out 2).trans rfl, (blk_cell BK146.out 3).trans rfl, hx157_0, hx158_0, hx159_0, hx161_0⟩ (fun hHeld => ?_); refine with_tabW tattinglaw27_CostKnown.tab9 tattinglaw27_CostKnown.bits9 (fun HT_ HW_ => ?_)
                          generalize w24.drew = w25 at HO_2 HO_3 BK146 HB hx157_0 hx158_0 hx159_0 hx161_0 hHeld ⊢
                          refine pure_ (i := 0) (N := some 40) (v := ?_) (a' := ?_) #[true, false, false, false, false, false, false, false, false, false, false, false, false, false, false, false, false, false, false, false, false, false, false, false, false, false, false, false, false, false, false, false, false, false, false, false, false, false, false, false, false, false, false] rfl rfl (any_of HT_.out (by kernel_rfl)) (fun _ _ _ h => h) (Or.inl ⟨by rfl, ?_⟩) ?_ ?_
                          rotate_left
                          · intro w'
                            go_simp
                            with_reducible rfl
                          rotate_left
                          · simp only [Act.put, List.setIfInBounds_toArray, List.set_cons_zero, List.set_cons_succ, i64_w, i32_w]
                            rfl
                          refine pure_ (i := 1) (N := some 41) (v := ?_) (a' := ?_) #[true, true, false, false, false, false, false, false, false, false, false, false, false, false, false, false, false, false, false, false, false, false, false, false, false, false, false, false, false, false, false, false, false, false, false, false, false, false, false, false, false, false, false] rfl rfl (any_of HT_.out (by kernel_rfl)) (fun _ _ _ h => h) (Or.inl ⟨by rfl, ?_⟩) ?_ ?_
                          rotate_left
                          · intro w'
                            go_simp
                            with_reducible rfl
                          rotate_left
                          · simp only [Act.put, List.setIfInBounds_toArray, List.set_cons_zero, List.set_cons_succ, i64_w, i32_w]
                            rfl
                          refine pure_ (i := 2) (N := some 42) (v := ?_) (a' := ?_) #[true, true, true, false, false, false, false, false, false, false, false, false, false, false, false, false, false, false, false, false, false, false, false, false, false, false, false, false, false, false, false, false, false, false, false, false, false, false, false, false, false, false, false] rfl rfl (any_of HT_.out (by kernel_rfl)) (fun _ _ _ h => h) (Or.inl ⟨by rfl, ?_⟩) ?_ ?_
                          rotate_left
                          · intro w'
                            go_simp
                            with_reducible rfl
                          rotate_left
                          · simp only [Act.put, List.setIfInBounds_toArray, List.set_cons_zero, List.set_cons_succ, i64_w, i32_w]
                            rfl
                          refine pure_ (i := 3) (N := some 43) (v := ?_) (a' := ?_) #[true, true, true, true, false, false, false, false, false, false, false, false, false, false, false, false, false, false, false, false, false, false, false, false, false, false, false, false, false, false, false, false, false, false, false, false, false, false, false, false, false, false, false] rfl rfl (any_of HT_.out (by kernel_rfl)) (fun _ _ _ h => h) (Or.inl ⟨by rfl, ?_⟩) ?_ ?_
                          rotate_left
                          · intro w'
                            go_simp
                            with_reducible rfl
                          rotate_left
                          · simp only [Act.put, List.setIfInBounds_toArray, List.set_cons_zero, List.set_cons_succ, i64_w, i32_w]
                            rfl
                          refine pure_ (i := 4) (N := some 44) (v := ?_) (a' := ?_) #[true, true, true, true, true, false, false, false, false, false, false, false, false, false, false, false, false, false, false, false, false, false, false, false, false, false, false, false, false, false, false, false, false, false, false, false, false, false, false, false, false, false, false] rfl rfl (any_of HT_.out (by kernel_rfl)) (fun _ _ _ h => h) (Or.inl ⟨by rfl, ?_⟩) ?_ ?_
                          rotate_left
                          · intro w'
                            go_simp
                            with_reducible rfl
                          rotate_left
                          · simp only [Act.put, List.setIfInBounds_toArray, List.set_cons_zero, List.set_cons_succ, i64_w, i32_w]
                            rfl
                          refine pure_ (i := 5) (N := some 45) (v := ?_) (a' := ?_) #[true, true, true, true, true, true, false, false, false, false, false, false, false, false, false, false, false, false, false, false, false, false, false, false, false, false, false, false, false, false, false, false, false, false, false, false, false, false, false, false, false, false, false] rfl rfl (any_of HT_.out (by kernel_rfl)) (fun _ _ _ h => h) (Or.inl ⟨by rfl, ?_⟩) ?_ ?_
                          rotate_left
                          · intro w'
                            go_simp
                            with_reducible rfl
                          rotate_left
                          · simp only [Act.put, List.setIfInBounds_toArray, List.set_cons_zero, List.set_cons_succ, i64_w, i32_w]
                            rfl
                          refine pure_ (i := 6) (N := some 46) (v := ?_) (a' := ?_) #[true, true, true, true, true, true, true, false, false, false, false, false, false, false, false, false, false, false, false, false, false, false, false, false, false, false, false, false, false, false, false, false, false, false, false, false, false, false, false, false, false, false, false] rfl rfl (any_of HT_.out (by kernel_rfl)) (fun _ _ _ h => h) (Or.inl ⟨by rfl, ?_⟩) ?_ ?_
                          rotate_left
                          · intro w'
                            go_simp
                            with_reducible rfl
                          rotate_left
                          · simp only [Act.put, List.setIfInBounds_toArray, List.set_cons_zero, List.set_cons_succ, i64_w, i32_w]
                            rfl
                          refine pure_ (i := 7) (N := some 47) (v := ?_) (a' := ?_) #[true, true, true, true, true, true, true, true, false, false, false, false, false, false, false, false, false, false, false, false, false, false, false, false, false, false, false, false, false, false, false, false, false, false, false, false, false, false, false, false, false, false, false] rfl rfl (any_of HT_.out (by kernel_rfl)) (fun _ _ _ h => h) (Or.inl ⟨by rfl, ?_⟩) ?_ ?_
                          rotate_left
                          · intro w'
                            go_simp
                            with_reducible rfl
                          rotate_left
                          · simp only [Act.put, List.setIfInBounds_toArray, List.set_cons_zero, List.set_cons_succ, i64_w, i32_w]
                            rfl
                          refine pure_ (i := 8) (N := some 48) (v := ?_) (a' := ?_) #[true, true, true, true, true, true, true, true, true, false, false, false, false, false, false, false, false, false, false, false, false, false, false, false, false, false, false, false, false, false, false, false, false, false, false, false, false, false, false, false, false, false, false] rfl rfl (any_of HT_.out (by kernel_rfl)) (fun _ _ _ h => h) (Or.inl ⟨by rfl, ?_⟩) ?_ ?_
                          rotate_left
                          · intro w'
                            go_simp
                            with_reducible rfl
                          rotate_left
                          · simp only [Act.put, List.setIfInBounds_toArray, List.set_cons_zero, List.set_cons_succ, i64_w, i32_w]
                            rfl
                          refine pure_ (i := 9) (N := some 49) (v := ?_) (a' := ?_) #[true, true, true, true, true, true, true, true, true, true, false, false, false, false, false, false, false, false, false, false, false, false, false, false, false, false, false, false, false, false, false, false, false, false, false, false, false, false, false, false, false, false, false] rfl rfl (any_of HT_.out (by kernel_rfl)) (fun _ _ _ h => h) (Or.inl ⟨by rfl, ?_⟩) ?_ ?_
                          rotate_left
                          · intro w'
                            go_simp
                            with_reducible rfl
                          rotate_left
                          · simp only [Act.put, List.setIfInBounds_toArray, List.set_cons_zero, List.set_cons_succ, i64_w, i32_w]
                            rfl
                          refine pure_ (i := 10) (N := some 50) (v := ?_) (a' := ?_) #[true, true, true, true, true, true, true, true, true, true, true, false, false, false, false, false, false, false, false, false, false, false, false, false, false, false, false, false, false, false, false, false, false, false, false, false, false, false, false, false, false, false, false] rfl rfl (any_of HT_.out (by kernel_rfl)) (fun _ _ _ h => h) (Or.inl ⟨by rfl, ?_⟩) ?_ ?_
                          rotate_left
                          · intro w'
                            go_simp
                            with_reducible rfl
                          rotate_left
                          · simp only [Act.put, List.setIfInBounds_toArray, List.set_cons_zero, List.set_cons_succ, i64_w, i32_w]
                            rfl
                          refine take_ (i := 11) (N := some 51) (v := ?_) (a' := ?_) #[true, true, true, true, true, true, true, true, true, true, true, true, false, false, false, false, false, false, false, false, false, false, false, false, false, false, false, false, false, false, false, false, false, false, false, false, false, false, false, false, false, false, false] rfl rfl (take_ofW HT_.out HW_.out (by kernel_rfl)) (fun _ _ _ h => h) (Or.inl ⟨by rfl, ?_⟩) hHeld ?_ ?_
                          rotate_left
                          · rintro w' ⟨s0, s1, s2, s3, s4, s5, s6, s7⟩
                            go_simp
                            with_reducible rfl
                          rotate_left
                          · simp only [Act.put, List.setIfInBounds_toArray, List.set_cons_zero, List.set_cons_succ, i64_w, i32_w]
                            rfl
                          refine pure_ (i := 12) (N := some 52) (v := ?_) (a' := ?_) #[true, true, true, true, true, true, true, true, true, true, true, true, true, false, false, false, false, false, false, false, false, false, false, false, false, false, false, false, false, false, false, false, false, false, false, false, false, false, false, false, false, false, false] rfl rfl (any_of HT_.out (by kernel_rfl)) (fun _ _ _ h => h) (Or.inl ⟨by rfl, ?_⟩) ?_ ?_
                          rotate_left
                          · intro w'
                            go_simp
                            with_reducible rfl
                          rotate_left
                          · simp only [Act.put, List.setIfInBounds_toArray, List.set_cons_zero, List.set_cons_succ, i64_w, i32_w]
                            rfl
                          refine pure_ (i := 13) (N := some 53) (v := ?_) (a' := ?_) #[true, true, true, true, true, true, true, true, true, true, true, true, true, true, false, false, false, false, false, false, false, false, false, false, false, false, false, false, false, false, false, false, false, false, false, false, false, false, false, false, false, false, false] rfl rfl (any_of HT_.out (by kernel_rfl)) (fun _ _ _ h => h) (Or.inl ⟨by rfl, ?_⟩) ?_ ?_
                          rotate_left
                          · intro w'
                            go_simp
                            with_reducible rfl
                          rotate_left
                          · simp only [Act.put, List.setIfInBounds_toArray, List.set_cons_zero, List.set_cons_succ, i64_w, i32_w]
                            rfl
                          refine pure_ (i := 14) (N := some 54) (v := ?_) (a' := ?_) #[true, true, true, true, true, true, true, true, true, true, true, true, true, true, true, false, false, false, false, false, false, false, false, false, false, false, false, false, false, false, false, false, false, false, false, false, false, false, false, false, false, false, false] rfl rfl (any_of HT_.out (by kernel_rfl)) (fun _ _ _ h => h) (Or.inl ⟨by rfl, ?_⟩) ?_ ?_
                          rotate_left
                          · intro w'
                            go_simp
                            with_reducible rfl
                          rotate_left
                          · simp only [Act.put, List.setIfInBounds_toArray, List.set_cons_zero, List.set_cons_succ, i64_w, i32_w]
                            rfl
                          refine pure_ (i := 15) (N := some 55) (v := ?_) (a' := ?_) #[true, true, true, true, true, true, true, true, true, true, true, true, true, true, true, true, false, false, false, false, false, false, false, false, false, false, false, false, false, false, false, false, false, false, false, false, false, false, false, false, false, false, false] rfl rfl (any_of HT_.out (by kernel_rfl)) (fun _ _ _ h => h) (Or.inl ⟨by rfl, ?_⟩) ?_ ?_
                          rotate_left
                          · intro w'
                            go_simp
                            with_reducible rfl
                          rotate_left
                          · simp only [Act.put, List.setIfInBounds_toArray, List.set_cons_zero, List.set_cons_succ, i64_w, i32_w]
                            rfl
                          refine pure_ (i := 16) (N := some 56) (v := ?_) (a' := ?_) #[true, true, true, true, true, true, true, true, true, true, true, true, true, true, true, true, true, false, false, false, false, false, false, false, false, false, false, false, false, false, false, false, false, false, false, false, false, false, false, false, false, false, false] rfl rfl (any_of HT_.out (by kernel_rfl)) (fun _ _ _ h => h) (Or.inl ⟨by rfl, ?_⟩) ?_ ?_
                          rotate_left
                          · intro w'
                            go_simp
                            with_reducible rfl
                          rotate_left
                          · simp only [Act.put, List.setIfInBounds_toArray, List.set_cons_zero, List.set_cons_succ, i64_w, i32_w]
                            rfl
                          refine pure_ (i := 17) (N := some 57) (v := ?_) (a' := ?_) #[true, true, true, true, true, true, true, true, true, true, true, true, true, true, true, true, true, true, false, false, false, false, false, false, false, false, false, false, false, false, false, false, false, false, false, false, false, false, false, false, false, false, false] rfl rfl (any_of HT_.out (by kernel_rfl)) (fun _ _ _ h => h) (Or.inl ⟨by rfl, ?_⟩) ?_ ?_
                          rotate_left
                          · intro w'
                            go_simp
                            with_reducible rfl
                          rotate_left
                          · simp only [Act.put, List.setIfInBounds_toArray, List.set_cons_zero, List.set_cons_succ, i64_w, i32_w]
                            rfl
                          refine pure_ (i := 18) (N := some 58) (v := ?_) (a' := ?_) #[true, true, true, true, true, true, true, true, true, true, true, true, true, true, true, true, true, true, true, false, false, false, false, false, false, false, false, false, false, false, false, false, false, false, false, false, false, false, false, false, false, false, false] rfl rfl (any_of HT_.out (by kernel_rfl)) (fun _ _ _ h => h) (Or.inl ⟨by rfl, ?_⟩) ?_ ?_
                          rotate_left
                          · intro w'
                            go_simp
                            with_reducible rfl
                          rotate_left
                          · simp only [Act.put, List.setIfInBounds_toArray, List.set_cons_zero, List.set_cons_succ, i64_w, i32_w]
                            rfl
                          refine take_ (i := 19) (N := some 59) (v := ?_) (a' := ?_) #[true, true, true, true, true, true, true, true, true, true, true, true, true, true, true, true, true, true, true, true, false, false, false, false, false, false, false, false, false, false, false, false, false, false, false, false, false, false, false, false, false, false, false] rfl rfl (take_ofW HT_.out HW_.out (by kernel_rfl)) (fun _ _ _ h => h) (Or.inl ⟨by rfl, ?_⟩) hHeld ?_ ?_
                          rotate_left
                          · rintro w' ⟨s0, s1, s2, s3, s4, s5, s6, s7⟩
                            go_simp
                            with_reducible rfl
                          rotate_left
                          · simp only [Act.put, List.setIfInBounds_toArray, List.set_cons_zero, List.set_cons_succ, i64_w, i32_w]
                            rfl
                          refine pure_ (i := 20) (N := some 60) (v := ?_) (a' := ?_) #[true, true, true, true, true, true, true, true, true, true, true, true, true, true, true, true, true, true, true, true, true, false, false, false, false, false, false, false, false, false, false, false, false, false, false, false, false, false, false, false, false, false, false] rfl rfl (any_of HT_.out (by kernel_rfl)) (fun _ _ _ h => h) (Or.inl ⟨by rfl, ?_⟩) ?_ ?_
                          rotate_left
                          · intro w'
                            go_simp
                            with_reducible rfl
                          rotate_left
                          · simp only [Act.put, List.setIfInBounds_toArray, List.set_cons_zero, List.set_cons_succ, i64_w, i32_w]
                            rfl
                          refine pure_ (i := 21) (N := some 61) (v := ?_) (a' := ?_) #[true, true, true, true, true, true, true, true, true, true, true, true, true, true, true, true, true, true, true, true, true, true, false, false, false, false, false, false, false, false, false, false, false, false, false, false, false, false, false, false, false, false, false] rfl rfl (any_of HT_.out (by kernel_rfl)) (fun _ _ _ h => h) (Or.inl ⟨by rfl, ?_⟩) ?_ ?_
                          rotate_left
                          · intro w'
                            go_simp
                            with_reducible rfl
                          rotate_left
                          · simp only [Act.put, List.setIfInBounds_toArray, List.set_cons_zero, List.set_cons_succ, i64_w, i32_w]
                            rfl
                          refine pure_ (i := 22) (N := some 62) (v := ?_) (a' := ?_) #[true, true, true, true, true, true, true, true, true, true, true, true, true, true, true, true, true, true, true, true, true, true, true, false, false, false, false, false, false, false, false, false, false, false, false, false, false, false, false, false, false, false, false] rfl rfl (any_of HT_.out (by kernel_rfl)) (fun _ _ _ h => h) (Or.inl ⟨by rfl, ?_⟩) ?_ ?_
                          rotate_left
                          · intro w'
                            go_simp
                            with_reducible rfl
                          rotate_left
                          · simp only [Act.put, List.setIfInBounds_toArray, List.set_cons_zero, List.set_cons_succ, i64_w, i32_w]
                            rfl
                          refine pure_ (i := 23) (N := some 63) (v := ?_) (a' := ?_) #[true, true, true, true, true, true, true, true, true, true, true, true, true, true, true, true, true, true, true, true, true, true, true, true, false, false, false, false, false, false, false, false, false, false, false, false, false, false, false, false, false, false, false] rfl rfl (any_of HT_.out (by kernel_rfl)) (fun _ _ _ h => h) (Or.inl ⟨by rfl, ?_⟩) ?_ ?_
                          rotate_left
                          · intro w'
                            go_simp
                            with_reducible rfl
                          rotate_left
                          · simp only [Act.put, List.setIfInBounds_toArray, List.set_cons_zero, List.set_cons_succ, i64_w, i32_w]
                            rfl
                          refine pure_ (i := 25) (N := some 65) (v := ?_) (a' := ?_) #[true, true, true, true, true, true, true, true, true, true, true, true, true, true, true, true, true, true, true, true, true, true, true, true, false, true, false, false, false, false, false, false, false, false, false, false, false, false, false, false, false, false, false] rfl rfl (any_of HT_.out (by kernel_rfl)) (fun _ _ _ h => h) (Or.inl ⟨by rfl, ?_⟩) ?_ ?_
                          rotate_left
                          · intro w'
                            go_simp
                            with_reducible rfl
                          rotate_left
                          · simp only [Act.put, List.setIfInBounds_toArray, List.set_cons_zero, List.set_cons_succ, i64_w, i32_w]
                            rfl
                          refine pure_ (i := 26) (N := some 66) (v := ?_) (a' := ?_) #[true, true, true, true, true, true, true, true, true, true, true, true, true, true, true, true, true, true, true, true, true, true, true, true, false, true, true, false, false, false, false, false, false, false, false, false, false, false, false, false, false, false, false] rfl rfl (any_of HT_.out (by kernel_rfl)) (fun _ _ _ h => h) (Or.inl ⟨by rfl, ?_⟩) ?_ ?_
                          rotate_left
                          · intro w'
                            go_simp
                            with_reducible rfl
                          rotate_left
                          · simp only [Act.put, List.setIfInBounds_toArray, List.set_cons_zero, List.set_cons_succ, i64_w, i32_w]
                            rfl
                          refine pure_ (i := 27) (N := some 67) (v := ?_) (a' := ?_) #[true, true, true, true, true, true, true, true, true, true, true, true, true, true, true, true, true, true, true, true, true, true, true, true, false, true, true, true, false, false, false, false, false, false, false, false, false, false, false, false, false, false, false] rfl rfl (any_of HT_.out (by kernel_rfl)) (fun _ _ _ h => h) (Or.inl ⟨by rfl, ?_⟩) ?_ ?_
                          rotate_left
                          · intro w'
                            go_simp
                            with_reducible rfl
                          rotate_left
                          · simp only [Act.put, List.setIfInBounds_toArray, List.set_cons_zero, List.set_cons_succ, i64_w, i32_w]
                            rfl
                          refine take_ (i := 24) (N := some 64) (v := ?_) (a' := ?_) #[true, true, true, true, true, true, true, true, true, true, true, true, true, true, true, true, true, true, true, true, true, true, true, true, true, true, true, true, false, false, false, false, false, false, false, false, false, false, false, false, false, false, false] rfl rfl (take_ofW HT_.out HW_.out (by kernel_rfl)) (fun _ _ _ h => h) (Or.inl ⟨by rfl, ?_⟩) hHeld ?_ ?_
                          rotate_left
                          · rintro w' ⟨s0, s1, s2, s3, s4, s5, s6, s7⟩
                            go_simp
                            with_reducible rfl
                          rotate_left
                          · simp only [Act.put, List.setIfInBounds_toArray, List.set_cons_zero, List.set_cons_succ, i64_w, i32_w]
                            rfl
                          refine take_ (i := 28) (N := some 68) (v := ?_) (a' := ?_) #[true, true, true, true, true, true, true, true, true, true, true, true, true, true, true, true, true, true, true, true, true, true, true, true, true, true, true, true, true, false, false, false, false, false, false, false, false, false, false, false, false, false, false] rfl rfl (take_ofW HT_.out HW_.out (by kernel_rfl)) (fun _ _ _ h => h) (Or.inl ⟨by rfl, ?_⟩) hHeld ?_ ?_
                          rotate_left
                          · rintro w' ⟨s0, s1, s2, s3, s4, s5, s6, s7⟩
                            go_simp
                            with_reducible rfl
                          rotate_left
                          · simp only [Act.put, List.setIfInBounds_toArray, List.set_cons_zero, List.set_cons_succ, i64_w, i32_w]
                            rfl
                          refine one_ (i := 29) (N := some 69) #[true, true, true, true, true, true, true, true, true, true, true, true, true, true, true, true, true, true, true, true, true, true, true, true, true, true, true, true, true, true, false, false, false, false, false, false, false, false, false, false, false, false, false] rfl rfl (one_of HT_.out (by kernel_rfl)) (by decide) (fun K hK => ?_)
                          refine goes_ Try.func21 (by kernel_rfl) rfl #[.int .i64 x4_1, .agg #[.int .i64 5, .int .i64 130, .int .i64 7, .int .i64 20], .int .i64 (rd y147 x4_1)] (by rfl) rfl rfl (by (try simp only [List.map_toArray, List.map_cons, List.map_nil]); first | done | rfl | (simp only [List.length_drop, List.length_take]; rfl)) ?_
                          with_reducible refine (cost_Fits.calls x4_1 5 130 7 20 (rd y147 x4_1) t160 _ A17.out).mono ?_
                          rintro e w28 ⟨rfl, hb⟩
                          have HS4_ := (hb.cell (World.block_lt_of_cell? _ _ (hHeld.2.2.2.2.1))).trans (hHeld.2.2.2.2.1)
                          have HS5_ := (hb.cell (World.block_lt_of_cell? _ _ (hHeld.2.2.2.2.2.1))).trans (hHeld.2.2.2.2.2.1)
                          have HS6_ := (hb.cell (World.block_lt_of_cell? _ _ (hHeld.2.2.2.2.2.2.1))).trans (hHeld.2.2.2.2.2.2.1)
                          have HS7_ := (hb.cell (World.block_lt_of_cell? _ _ (hHeld.2.2.2.2.2.2.2))).trans (hHeld.2.2.2.2.2.2.2)
                          refine ⟨_, rfl, ?_⟩
                          have n0_ := Aside0.mk (Kd.R_below (by (with_reducible repeat (first | apply Kd.R_alloc | apply Kd.R_drewN | apply Kd.R_drew)); exact HO_2.out) hb)
                          have n1_ := Aside0.mk (Kd.R_below (by (with_reducible repeat (first | apply Kd.R_alloc | apply Kd.R_drewN | apply Kd.R_drew)); exact HO_3.out) hb)
                          have n2_ := Aside0.mk (blk_below (g := gb146) (o := .cells #[.int .i64 5, .int .i64 130, .int .i64 7, .int .i64 20] 26 (0, 0)) (by (with_reducible repeat (first | refine blk_drewN ?_ _ | refine blk_drew ?_ | refine blk_alloc ?_ _)); exact BK146.out) hb)
                          have n3_ := Aside0.mk (below_step (by repeat (first | (with_reducible first | exact HB.out | apply below_alloc | apply pw_below_drewN | apply below_drew1 | refine below_set ?_ GE146.out) | exact HB.out)) hb)
                          clear HO_2
                          clear HO_3
                          clear BK146
                          clear HB
                          have HO_2 := n0_
                          have HO_3 := n1_
                          have BK146 := n2_
                          have HB := n3_
                          clear n0_ n1_ n2_ n3_
                          (try clear hb)
                          (try clear hb2)
                          (try clear hk)
                          (try clear hi)
                          refine hK.out _ _ ⟨(blk_cell BK146.out 0).trans rfl, (blk_cell BK146.out 1).trans rfl, (blk_cell BK146.out 2).trans rfl, (blk_cell BK146.out 3).trans rfl, HS4_, HS5_, HS6_, HS7_⟩ (fun hHeld => ?_)
                          clear hK K
                          refine norm_ (a' := ?_) ?_ ?_
                          rotate_left
                          · show Act.put _ (some 69) _ = _
                            simp only [Act.put, List.setIfInBounds_toArray, List.set_cons_zero, List.set_cons_succ, i64_w, i32_w]
                            rfl
                          refine pure_ (i := 30) (N := some 70) (v := ?_) (a' := ?_) #[true, true, true, true, true, true, true, true, true, true, true, true, true, true, true, true, true, true, true, true, true, true, true, true, true, true, true, true, true, true, true, false, false, false, false, false, false, false, false, false, false, false, false] rfl rfl (any_of HT_.out (by kernel_rfl)) (fun _ _ _ h => h) (Or.inl ⟨by rfl, ?_⟩) ?_ ?_
                          rotate_left
                          · intro w'
                            go_simp
                            with_reducible rfl
                          rotate_left
                          · simp only [Act.put, List.setIfInBounds_toArray, List.set_cons_zero, List.set_cons_succ, i64_w, i32_w]
                            rfl
                          refine pure_ (i := 31) (N := some 71) (v := ?_) (a' := ?_) #[true, true, true, true, true, true, true, true, true, true, true, true, true, true, true, true, true, true, true, true, true, true, true, true, true, true, true, true, true, true, true, true, false, false, false, false, false, false, false, false, false, false, false] rfl rfl (any_of HT_.out (by kernel_rfl)) (fun _ _ _ h => h) (Or.inl ⟨by rfl, ?_⟩) ?_ ?_
                          rotate_left
                          · intro w'
                            go_simp
                            with_reducible rfl
                          rotate_left
                          · simp only [Act.put, List.setIfInBounds_toArray, List.set_cons_zero, List.set_cons_succ, i64_w, i32_w]
                            rfl
                          refine pure_ (i := 32) (N := some 72) (v := ?_) (a' := ?_) #[true, true, true, true, true, true, true, true, true, true, true, true, true, true, true, true, true, true, true, true, true, true, true, true, true, true, true, true, true, true, true, true, true, false, false, false, false, false, false, false, false, false, false] rfl rfl (any_of HT_.out (by kernel_rfl)) (fun _ _ _ h => h) (Or.inl ⟨by rfl, ?_⟩) ?_ ?_
                          rotate_left
                          · intro w'
                            go_simp
                            with_reducible rfl
                          rotate_left
                          · simp only [Act.put, List.setIfInBounds_toArray, List.set_cons_zero, List.set_cons_succ, i64_w, i32_w]
                            rfl
                          refine pure_ (i := 33) (N := some 73) (v := ?_) (a' := ?_) #[true, true, true, true, true, true, true, true, true, true, true, true, true, true, true, true, true, true, true, true, true, true, true, true, true, true, true, true, true, true, true, true, true, true, false, false, false, false, false, false, false, false, false] rfl rfl (any_of HT_.out (by kernel_rfl)) (fun _ _ _ h => h) (Or.inl ⟨by rfl, ?_⟩) ?_ ?_
                          rotate_left
                          · intro w'
                            go_simp
                            with_reducible rfl
                          rotate_left
                          · simp only [Act.put, List.setIfInBounds_toArray, List.set_cons_zero, List.set_cons_succ, i64_w, i32_w]
                            rfl
                          refine pure_ (i := 35) (N := some 75) (v := ?_) (a' := ?_) #[true, true, true, true, true, true, true, true, true, true, true, true, true, true, true, true, true, true, true, true, true, true, true, true, true, true, true, true, true, true, true, true, true, true, false, true, false, false, false, false, false, false, false] rfl rfl (any_of HT_.out (by kernel_rfl)) (fun _ _ _ h => h) (Or.inl ⟨by rfl, ?_⟩) ?_ ?_
                          rotate_left
                          · intro w'
                            go_simp
                            with_reducible rfl
                          rotate_left
                          · simp only [Act.put, List.setIfInBounds_toArray, List.set_cons_zero, List.set_cons_succ, i64_w, i32_w]
                            rfl
                          refine pure_ (i := 36) (N := some 76) (v := ?_) (a' := ?_) #[true, true, true, true, true, true, true, true, true, true, true, true, true, true, true, true, true, true, true, true, true, true, true, true, true, true, true, true, true, true, true, true, true, true, false, true, true, false, false, false, false, false, false] rfl rfl (any_of HT_.out (by kernel_rfl)) (fun _ _ _ h => h) (Or.inl ⟨by rfl, ?_⟩) ?_ ?_
                          rotate_left
                          · intro w'
                            go_simp
                            with_reducible rfl
                          rotate_left
                          · simp only [Act.put, List.setIfInBounds_toArray, List.set_cons_zero, List.set_cons_succ, i64_w, i32_w]
                            rfl
                          refine pure_ (i := 37) (N := some 77) (v := ?_) (a' := ?_) #[true, true, true, true, true, true, true, true, true, true, true, true, true, true, true, true, true, true, true, true, true, true, true, true, true, true, true, true, true, true, true, true, true, true, false, true, true, true, false, false, false, false, false] rfl rfl (any_of HT_.out (by kernel_rfl)) (fun _ _ _ h => h) (Or.inl ⟨by rfl, ?_⟩) ?_ ?_
                          rotate_left
                          · intro w'
                            go_simp
                            with_reducible rfl
                          rotate_left
                          · simp only [Act.put, List.setIfInBounds_toArray, List.set_cons_zero, List.set_cons_succ, i64_w, i32_w]
                            rfl
                          refine take_ (i := 34) (N := some 74) (v := ?_) (a' := ?_) #[true, true, true, true, true, true, true, true, true, true, true, true, true, true, true, true, true, true, true, true, true, true, true, true, true, true, true, true, true, true, true, true, true, true, true, true, true, true, false, false, false, false, false] rfl rfl (take_ofW HT_.out HW_.out (by kernel_rfl)) (fun _ _ _ h => h) (Or.inl ⟨by rfl, ?_⟩) hHeld ?_ ?_
                          rotate_left
                          · rintro w' ⟨s0, s1, s2, s3, s4, s5, s6, s7⟩
                            go_simp
                            with_reducible rfl
                          rotate_left
                          · simp only [Act.put, List.setIfInBounds_toArray, List.set_cons_zero, List.set_cons_succ, i64_w, i32_w]
                            rfl
                          refine take_ (i := 38) (N := some 78) (v := ?_) (a' := ?_) #[true, true, true, true, true, true, true, true, true, true, true, true, true, true, true, true, true, true, true, true, true, true, true, true, true, true, true, true, true, true, true, true, true, true, true, true, true, true, true, false, false, false, false] rfl rfl (take_ofW HT_.out HW_.out (by kernel_rfl)) (fun _ _ _ h => h) (Or.inl ⟨by rfl, ?_⟩) hHeld ?_ ?_
                          rotate_left
                          · rintro w' ⟨s0, s1, s2, s3, s4, s5, s6, s7⟩
                            go_simp
                            with_reducible rfl
                          rotate_left
                          · simp only [Act.put, List.setIfInBounds_toArray, List.set_cons_zero, List.set_cons_succ, i64_w, i32_w]
                            rfl
                          refine pure_ (i := 39) (N := some 79) (v := ?_) (a' := ?_) #[true, true, true, true, true, true, true, true, true, true, true, true, true, true, true, true, true, true, true, true, true, true, true, true, true, true, true, true, true, true, true, true, true, true, true, true, true, true, true, true, false, false, false] rfl rfl (any_of HT_.out (by kernel_rfl)) (fun _ _ _ h => h) (Or.inl ⟨by rfl, ?_⟩) ?_ ?_
                          rotate_left
                          · intro w'
                            go_simp
                            with_reducible rfl
                          rotate_left
                          · simp only [Act.put, List.setIfInBounds_toArray, List.set_cons_zero, List.set_cons_succ, i64_w, i32_w]
                            rfl
                          refine one_ (i := 40) (N := some 80) #[true, true, true, true, true, true, true, true, true, true, true, true, true, true, true, true, true, true, true, true, true, true, true, true, true, true, true, true, true, true, true, true, true, true, true, true, true, true, true, true, true, false, false] rfl rfl (one_of HT_.out (by kernel_rfl)) (by decide) (fun K hK => ?_)
                          refine goes_ Try.func21 (by kernel_rfl) rfl #[.int .i64 x4_1, .agg #[.int .i64 5, .int .i64 130, .int .i64 7, .int .i64 20], .int .i64 (wrap64 ((rd y147 x4_1) - 1))] (by rfl) rfl rfl (by (try simp only [List.map_toArray, List.map_cons, List.map_nil]); first | done | rfl | (simp only [List.length_drop, List.length_take]; rfl)) ?_
                          with_reducible refine (cost_Fits.calls x4_1 5 130 7 20 (wrap64 ((rd y147 x4_1) - 1)) t162 _ A19.out).mono ?_
                          rintro e w29 ⟨rfl, hb⟩
                          have HS4_ := (hb.cell (World.block_lt_of_cell? _ _ (hHeld.2.2.2.2.1))).trans (hHeld.2.2.2.2.1)
                          have HS5_ := (hb.cell (World.block_lt_of_cell? _ _ (hHeld.2.2.2.2.2.1))).trans (hHeld.2.2.2.2.2.1)
                          have HS6_ := (hb.cell (World.block_lt_of_cell? _ _ (hHeld.2.2.2.2.2.2.1))).trans (hHeld.2.2.2.2.2.2.1)
                          have HS7_ := (hb.cell (World.block_lt_of_cell? _ _ (hHeld.2.2.2.2.2.2.2))).trans (hHeld.2.2.2.2.2.2.2)
                          refine ⟨_, rfl, ?_⟩
                          have n0_ := Aside0.mk (Kd.R_below (by (with_reducible repeat (first | apply Kd.R_alloc | apply Kd.R_drewN | apply Kd.R_drew)); exact HO_2.out) hb)
                          have n1_ := Aside0.mk (Kd.R_below (by (with_reducible repeat (first | apply Kd.R_alloc | apply Kd.R_drewN | apply Kd.R_drew)); exact HO_3.out) hb)
                          have n2_ := Aside0.mk (blk_below (g := gb146) (o := .cells #[.int .i64 5, .int .i64 130, .int .i64 7, .int .i64 20] 26 (0, 0)) (by (with_reducible repeat (first | refine blk_drewN ?_ _ | refine blk_drew ?_ | refine blk_alloc ?_ _)); exact BK146.out) hb)
                          have n3_ := Aside0.mk (below_step (by repeat (first | (with_reducible first | exact HB.out | apply below_alloc | apply pw_below_drewN | apply below_drew1 | refine below_set ?_ GE146.out) | exact HB.out)) hb)
                          clear HO_2
                          clear HO_3
                          clear BK146
                          clear HB
                          have HO_2 := n0_
                          have HO_3 := n1_
                          have BK146 := n2_
                          have HB := n3_
                          clear n0_ n1_ n2_ n3_
                          (try clear hb)
                          (try clear hb2)
                          (try clear hk)
                          (try clear hi)
                          refine hK.out _ _ ⟨(blk_cell BK146.out 0).trans rfl, (blk_cell BK146.out 1).trans rfl, (blk_cell BK146.out 2).trans rfl, (blk_cell BK146.out 3).trans rfl, HS4_, HS5_, HS6_, HS7_⟩ (fun hHeld => ?_)
                          clear hK K
                          refine norm_ (a' := ?_) ?_ ?_
                          rotate_left
                          · show Act.put _ (some 80) _ = _
                            simp only [Act.put, List.setIfInBounds_toArray, List.set_cons_zero, List.set_cons_succ, i64_w, i32_w]
                            rfl
                          refine pure_ (i := 41) (N := some 81) (v := ?_) (a' := ?_) #[true, true, true, true, true, true, true, true, true, true, true, true, true, true, true, true, true, true, true, true, true, true, true, true, true, true, true, true, true, true, true, true, true, true, true, true, true, true, true, true, true, true, false] rfl rfl (any_of HT_.out (by kernel_rfl)) (fun _ _ _ h => h) (Or.inl ⟨by rfl, ?_⟩) ?_ ?_
                          rotate_left
                          · intro w'
                            go_simp
                            with_reducible rfl
                          rotate_left
                          · simp only [Act.put, List.setIfInBounds_toArray, List.set_cons_zero, List.set_cons_succ, i64_w, i32_w]
                            rfl
                          refine pure_ (i := 42) (N := some 82) (v := ?_) (a' := ?_) #[true, true, true, true, true, true, true, true, true, true, true, true, true, true, true, true, true, true, true, true, true, true, true, true, true, true, true, true, true, true, true, true, true, true, true, true, true, true, true, true, true, true, true] rfl rfl (any_of HT_.out (by kernel_rfl)) (fun _ _ _ h => h) (Or.inl ⟨by rfl, ?_⟩) ?_ ?_
                          rotate_left
                          · intro w'
                            go_simp
                            with_reducible rfl
                          rotate_left
                          · simp only [Act.put, List.setIfInBounds_toArray, List.set_cons_zero, List.set_cons_succ, i64_w, i32_w]
                            rfl
                          refine done_ (done_of HT_.out (by kernel_rfl)) ?_
                          try go_wp2
                          go_roundg k1
                          case measure => have := HK1.out; omega
                          case rel => exact ⟨(wrap64 (x4_1 + 1)), (by first | rfl | (simp; done) | (simp [*]; done)), H', ⟨by have := HK1.out; omega⟩, ⟨by (with_reducible repeat (first | apply Kd.R_alloc | apply Kd.R_drewN | apply Kd.R_drew)); exact HO_2.out⟩, ⟨by (with_reducible repeat (first | apply Kd.R_alloc | apply Kd.R_drewN | apply Kd.R_drew)); exact HO_3.out⟩, ⟨by (with_reducible repeat (first | refine blk_drewN ?_ _ | refine blk_drew ?_ | refine blk_alloc ?_ _)); exact BK146.out⟩, ⟨by repeat (first | (with_reducible first | exact HB.out | apply below_alloc | apply pw_below_drewN | apply below_drew1 | refine below_set ?_ GE146.out) | exact HB.out)⟩⟩
                        · rw [if_neg c20] at H
                          have c20b0 : (t162 == 2) = false := beq_eq_false_iff_ne.mpr c20
                          have c20b1 : (t162 != 2) = true := bne_iff_ne.mpr c20
                          exact absurd (Option.some.inj H) (by rw [HRT.out]; decide)
                      · rw [if_neg c18] at H
                        have c18b0 : (t160 == 0) = false := beq_eq_false_iff_ne.mpr c18
                        have c18b1 : (t160 != 0) = true := bne_iff_ne.mpr c18
                        exact absurd (Option.some.inj H) (by rw [HRT.out]; decide)
                    · rw [if_neg c16] at H
                      have c16b0 : (t155 == (rd y150 x4_1)) = false := beq_eq_false_iff_ne.mpr c16
                      have c16b1 : (t155 != (rd y150 x4_1)) = true := bne_iff_ne.mpr c16
                      exact absurd (Option.some.inj H) (by rw [HRT.out]; decide)
                  · rw [if_neg c15] at H
                    exact absurd H (by simp)
                · rw [if_neg c14] at H
                  have c14b0 : (t153 == (rd y147 x4_1)) = false := beq_eq_false_iff_ne.mpr c14
                  have c14b1 : (t153 != (rd y147 x4_1)) = true := bne_iff_ne.mpr c14
                  exact absurd (Option.some.inj H) (by rw [HRT.out]; decide)
              · rw [if_neg c13] at H
                exact absurd H (by simp)
            · rw [if_neg c12] at H
              exact absurd H (by simp)
          · rw [if_neg c11] at H
            have c11b0 : (t156 == 0) = false := beq_eq_false_iff_ne.mpr c11
            have c11b1 : (t156 != 0) = true := bne_iff_ne.mpr c11
            exact absurd (Option.some.inj H) (by rw [HRT.out]; decide)
        · rw [if_neg c10] at H
          have c10b0 : (t154 == 0) = false := beq_eq_false_iff_ne.mpr c10
          have c10b1 : (t154 != 0) = true := bne_iff_ne.mpr c10
          exact absurd (Option.some.inj H) (by rw [HRT.out]; decide)
      · rw [if_neg c7] at H
        have c7b0 : decide (x4_1 ≤ 8) = false := decide_eq_false c7
        clear c7
        replace H := Option.bind_eq_some_iff.mp H
        obtain ⟨⟨t163, t164⟩, A300, H⟩ := H
        replace H : ((cost_Work.f 9 5 130 7 20).bind fun bt165 => ((cost_Room.f 1 1 1 3 0).bind fun bt167 => ((cost_Room.f 1 1 1 1 2).bind fun bt169 => ((cost_Tag.f k1 (⟨#[97, 110, 121]⟩ : ByteArray)).bind fun bt171 => ((cost_Tag.f k1 (⟨#[99, 114, 111, 99, 104]⟩ : ByteArray)).bind fun bt173 => ((tattinglaw27_awake.f k1).bind fun t175 => (if t175 = true then (if t164 = 1 then (if bt165.2 = 1 then (if bt167.2 = 1 then (if bt169.2 = 1 then (if bt171.2 = true then (some false) else (if bt173.2 = true then (if bt173.1 = 8 then ((cost_Name.f 0).bind fun t176 => (if t176.toList = ([] : List UInt8) then ((cost_Name.f 9).bind fun t177 => (if t177.toList = ([] : List UInt8) then ((cost_Choose.f k1 5 130 7 20).bind fun t178 => (if t178 = 7 then ((cost_Choose.f k1 (-1) 0 0 0).bind fun t179 => (if t179 = 0 then ((cost_Right.f 1048577 0 0 0).bind fun t180 => (if t180 = true then (some false) else ((cost_Fits.f 0 5 130 7 20 4611686018427387904).bind fun t181 => (some (t181 == 1))))) else (some false))) else (some false))) else (some false))) else (some false))) else (some false)) else (some false))) else (some false)) else (some false)) else (some false)) else (some false)) else (some false)))))))) = some r := H
        have A30 := Aside0.mk A300
        clear A300
        replace H := Option.bind_eq_some_iff.mp H
        obtain ⟨⟨t165, t166⟩, A310, H⟩ := H
        replace H : ((cost_Room.f 1 1 1 3 0).bind fun bt167 => ((cost_Room.f 1 1 1 1 2).bind fun bt169 => ((cost_Tag.f k1 (⟨#[97, 110, 121]⟩ : ByteArray)).bind fun bt171 => ((cost_Tag.f k1 (⟨#[99, 114, 111, 99, 104]⟩ : ByteArray)).bind fun bt173 => ((tattinglaw27_awake.f k1).bind fun t175 => (if t175 = true then (if t164 = 1 then (if t166 = 1 then (if bt167.2 = 1 then (if bt169.2 = 1 then (if bt171.2 = true then (some false) else (if bt173.2 = true then (if bt173.1 = 8 then ((cost_Name.f 0).bind fun t176 => (if t176.toList = ([] : List UInt8) then ((cost_Name.f 9).bind fun t177 => (if t177.toList = ([] : List UInt8) then ((cost_Choose.f k1 5 130 7 20).bind fun t178 => (if t178 = 7 then ((cost_Choose.f k1 (-1) 0 0 0).bind fun t179 => (if t179 = 0 then ((cost_Right.f 1048577 0 0 0).bind fun t180 => (if t180 = true then (some false) else ((cost_Fits.f 0 5 130 7 20 4611686018427387904).bind fun t181 => (some (t181 == 1))))) else (some false))) else (some false))) else (some false))) else (some false))) else (some false)) else (some false))) else (some false)) else (some false)) else (some false)) else (some false)) else (some false))))))) = some r := H
        have A31 := Aside0.mk A310
        clear A310
        replace H := Option.bind_eq_some_iff.mp H
        obtain ⟨⟨t167, t168⟩, A320, H⟩ := H
        replace H : ((cost_Room.f 1 1 1 1 2).bind fun bt169 => ((cost_Tag.f k1 (⟨#[97, 110, 121]⟩ : ByteArray)).bind fun bt171 => ((cost_Tag.f k1 (⟨#[99, 114, 111, 99, 104]⟩ : ByteArray)).bind fun bt173 => ((tattinglaw27_awake.f k1).bind fun t175 => (if t175 = true then (if t164 = 1 then (if t166 = 1 then (if t168 = 1 then (if bt169.2 = 1 then (if bt171.2 = true then (some false) else (if bt173.2 = true then (if bt173.1 = 8 then ((cost_Name.f 0).bind fun t176 => (if t176.toList = ([] : List UInt8) then ((cost_Name.f 9).bind fun t177 => (if t177.toList = ([] : List UInt8) then ((cost_Choose.f k1 5 130 7 20).bind fun t178 => (if t178 = 7 then ((cost_Choose.f k1 (-1) 0 0 0).bind fun t179 => (if t179 = 0 then ((cost_Right.f 1048577 0 0 0).bind fun t180 => (if t180 = true then (some false) else ((cost_Fits.f 0 5 130 7 20 4611686018427387904).bind fun t181 => (some (t181 == 1))))) else (some false))) else (some false))) else (some false))) else (some false))) else (some false)) else (some false))) else (some false)) else (some false)) else (some false)) else (some false)) else (some false)))))) = some r := H
        have A32 := Aside0.mk A320
        clear A320
        replace H := Option.bind_eq_some_iff.mp H
        obtain ⟨⟨t169, t170⟩, A330, H⟩ := H
        replace H : ((cost_Tag.f k1 (⟨#[97, 110, 121]⟩ : ByteArray)).bind fun bt171 => ((cost_Tag.f k1 (⟨#[99, 114, 111, 99, 104]⟩ : ByteArray)).bind fun bt173 => ((tattinglaw27_awake.f k1).bind fun t175 => (if t175 = true then (if t164 = 1 then (if t166 = 1 then (if t168 = 1 then (if t170 = 1 then (if bt171.2 = true then (some false) else (if bt173.2 = true then (if bt173.1 = 8 then ((cost_Name.f 0).bind fun t176 => (if t176.toList = ([] : List UInt8) then ((cost_Name.f 9).bind fun t177 => (if t177.toList = ([] : List UInt8) then ((cost_Choose.f k1 5 130 7 20).bind fun t178 => (if t178 = 7 then ((cost_Choose.f k1 (-1) 0 0 0).bind fun t179 => (if t179 = 0 then ((cost_Right.f 1048577 0 0 0).bind fun t180 => (if t180 = true then (some false) else ((cost_Fits.f 0 5 130 7 20 4611686018427387904).bind fun t181 => (some (t181 == 1))))) else (some false))) else (some false))) else (some false))) else (some false))) else (some false)) else (some false))) else (some false)) else (some false)) else (some false)) else (some false)) else (some false))))) = some r := H
        have A33 := Aside0.mk A330
        clear A330
        replace H := Option.bind_eq_some_iff.mp H
        obtain ⟨⟨t171, t172⟩, A340, H⟩ := H
        replace H : ((cost_Tag.f k1 (⟨#[99, 114, 111, 99, 104]⟩ : ByteArray)).bind fun bt173 => ((tattinglaw27_awake.f k1).bind fun t175 => (if t175 = true then (if t164 = 1 then (if t166 = 1 then (if t168 = 1 then (if t170 = 1 then (if t172 = true then (some false) else (if bt173.2 = true then (if bt173.1 = 8 then ((cost_Name.f 0).bind fun t176 => (if t176.toList = ([] : List UInt8) then ((cost_Name.f 9).bind fun t177 => (if t177.toList = ([] : List UInt8) then ((cost_Choose.f k1 5 130 7 20).bind fun t178 => (if t178 = 7 then ((cost_Choose.f k1 (-1) 0 0 0).bind fun t179 => (if t179 = 0 then ((cost_Right.f 1048577 0 0 0).bind fun t180 => (if t180 = true then (some false) else ((cost_Fits.f 0 5 130 7 20 4611686018427387904).bind fun t181 => (some (t181 == 1))))) else (some false))) else (some false))) else (some false))) else (some false))) else (some false)) else (some false))) else (some false)) else (some false)) else (some false)) else (some false)) else (some false)))) = some r := H
        have A34 := Aside0.mk A340
        clear A340
        replace H := Option.bind_eq_some_iff.mp H
        obtain ⟨⟨t173, t174⟩, A350, H⟩ := H
        replace H : ((tattinglaw27_awake.f k1).bind fun t175 => (if t175 = true then (if t164 = 1 then (if t166 = 1 then (if t168 = 1 then (if t170 = 1 then (if t172 = true then (some false) else (if t174 = true then (if t173 = 8 then ((cost_Name.f 0).bind fun t176 => (if t176.toList = ([] : List UInt8) then ((cost_Name.f 9).bind fun t177 => (if t177.toList = ([] : List UInt8) then ((cost_Choose.f k1 5 130 7 20).bind fun t178 => (if t178 = 7 then ((cost_Choose.f k1 (-1) 0 0 0).bind fun t179 => (if t179 = 0 then ((cost_Right.f 1048577 0 0 0).bind fun t180 => (if t180 = true then (some false) else ((cost_Fits.f 0 5 130 7 20 4611686018427387904).bind fun t181 => (some (t181 == 1))))) else (some false))) else (some false))) else (some false))) else (some false))) else (some false)) else (some false))) else (some false)) else (some false)) else (some false)) else (some false)) else (some false))) = some r := H
        have A35 := Aside0.mk A350
        clear A350
        replace H := Option.bind_eq_some_iff.mp H
        obtain ⟨t175, A360, H⟩ := H
        replace H : (if t175 = true then (if t164 = 1 then (if t166 = 1 then (if t168 = 1 then (if t170 = 1 then (if t172 = true then (some false) else (if t174 = true then (if t173 = 8 then ((cost_Name.f 0).bind fun t176 => (if t176.toList = ([] : List UInt8) then ((cost_Name.f 9).bind fun t177 => (if t177.toList = ([] : List UInt8) then ((cost_Choose.f k1 5 130 7 20).bind fun t178 => (if t178 = 7 then ((cost_Choose.f k1 (-1) 0 0 0).bind fun t179 => (if t179 = 0 then ((cost_Right.f 1048577 0 0 0).bind fun t180 => (if t180 = true then (some false) else ((cost_Fits.f 0 5 130 7 20 4611686018427387904).bind fun t181 => (some (t181 == 1))))) else (some false))) else (some false))) else (some false))) else (some false))) else (some false)) else (some false))) else (some false)) else (some false)) else (some false)) else (some false)) else (some false)) = some r := H
        have A36 := Aside0.mk A360
        clear A360
        by_cases c37 : t175 = true
        · subst c37
          have H1 : (if t164 = 1 then (if t166 = 1 then (if t168 = 1 then (if t170 = 1 then (if t172 = true then (some false) else (if t174 = true then (if t173 = 8 then ((cost_Name.f 0).bind fun t176 => (if t176.toList = ([] : List UInt8) then ((cost_Name.f 9).bind fun t177 => (if t177.toList = ([] : List UInt8) then ((cost_Choose.f k1 5 130 7 20).bind fun t178 => (if t178 = 7 then ((cost_Choose.f k1 (-1) 0 0 0).bind fun t179 => (if t179 = 0 then ((cost_Right.f 1048577 0 0 0).bind fun t180 => (if t180 = true then (some false) else ((cost_Fits.f 0 5 130 7 20 4611686018427387904).bind fun t181 => (some (t181 == 1))))) else (some false))) else (some false))) else (some false))) else (some false))) else (some false)) else (some false))) else (some false)) else (some false)) else (some false)) else (some false)) = some r := by rw [if_pos rfl] at H; exact H
          clear H
          have H := H1
          clear H1
          by_cases c38 : t164 = 1
          · rw [if_pos c38] at H
            have c38b0 : (t164 == 1) = true := beq_iff_eq.mpr c38
            have c38b1 : (t164 != 1) = false := bne_eq_false_iff_eq.mpr c38
            clear c38
            by_cases c39 : t166 = 1
            · rw [if_pos c39] at H
              have c39b0 : (t166 == 1) = true := beq_iff_eq.mpr c39
              have c39b1 : (t166 != 1) = false := bne_eq_false_iff_eq.mpr c39
              clear c39
              by_cases c40 : t168 = 1
              · rw [if_pos c40] at H
                have c40b0 : (t168 == 1) = true := beq_iff_eq.mpr c40
                have c40b1 : (t168 != 1) = false := bne_eq_false_iff_eq.mpr c40
                clear c40
                by_cases c41 : t170 = 1
                · rw [if_pos c41] at H
                  have c41b0 : (t170 == 1) = true := beq_iff_eq.mpr c41
                  have c41b1 : (t170 != 1) = false := bne_eq_false_iff_eq.mpr c41
                  clear c41
                  by_cases c42 : t172 = true
                  · subst c42
                    have H1 : (some false) = some r := by rw [if_pos rfl] at H; exact H
                    clear H
                    have H := H1
                    clear H1
                    exact absurd (Option.some.inj H) (by rw [HRT.out]; decide)
                  · replace c42 := Bool.eq_false_iff.mpr c42
                    subst c42
                    have H1 : (if t174 = true then (if t173 = 8 then ((cost_Name.f 0).bind fun t176 => (if t176.toList = ([] : List UInt8) then ((cost_Name.f 9).bind fun t177 => (if t177.toList = ([] : List UInt8) then ((cost_Choose.f k1 5 130 7 20).bind fun t178 => (if t178 = 7 then ((cost_Choose.f k1 (-1) 0 0 0).bind fun t179 => (if t179 = 0 then ((cost_Right.f 1048577 0 0 0).bind fun t180 => (if t180 = true then (some false) else ((cost_Fits.f 0 5 130 7 20 4611686018427387904).bind fun t181 => (some (t181 == 1))))) else (some false))) else (some false))) else (some false))) else (some false))) else (some false)) else (some false)) = some r := by rw [if_neg (show ¬ (false = true) by decide)] at H; exact H
                    clear H
                    have H := H1
                    clear H1
                    by_cases c43 : t174 = true
                    · subst c43
                      have H1 : (if t173 = 8 then ((cost_Name.f 0).bind fun t176 => (if t176.toList = ([] : List UInt8) then ((cost_Name.f 9).bind fun t177 => (if t177.toList = ([] : List UInt8) then ((cost_Choose.f k1 5 130 7 20).bind fun t178 => (if t178 = 7 then ((cost_Choose.f k1 (-1) 0 0 0).bind fun t179 => (if t179 = 0 then ((cost_Right.f 1048577 0 0 0).bind fun t180 => (if t180 = true then (some false) else ((cost_Fits.f 0 5 130 7 20 4611686018427387904).bind fun t181 => (some (t181 == 1))))) else (some false))) else (some false))) else (some false))) else (some false))) else (some false)) = some r := by rw [if_pos rfl] at H; exact H
                      clear H
                      have H := H1
                      clear H1
                      by_cases c44 : t173 = 8
                      · rw [if_pos c44] at H
                        have c44b0 : (t173 == 8) = true := beq_iff_eq.mpr c44
                        have c44b1 : (t173 != 8) = false := bne_eq_false_iff_eq.mpr c44
                        clear c44
                        replace H := Option.bind_eq_some_iff.mp H
                        obtain ⟨t176, A450, H⟩ := H
                        replace H : (if t176.toList = ([] : List UInt8) then ((cost_Name.f 9).bind fun t177 => (if t177.toList = ([] : List UInt8) then ((cost_Choose.f k1 5 130 7 20).bind fun t178 => (if t178 = 7 then ((cost_Choose.f k1 (-1) 0 0 0).bind fun t179 => (if t179 = 0 then ((cost_Right.f 1048577 0 0 0).bind fun t180 => (if t180 = true then (some false) else ((cost_Fits.f 0 5 130 7 20 4611686018427387904).bind fun t181 => (some (t181 == 1))))) else (some false))) else (some false))) else (some false))) else (some false)) = some r := H
                        have A45 := Aside0.mk A450
                        clear A450
                        by_cases c46 : t176.toList = ([] : List UInt8)
                        · rw [if_pos c46] at H
                          have c46b0 : (t176.toList == ([] : List UInt8)) = true := beq_iff_eq.mpr c46
                          have c46b1 : (t176.toList != ([] : List UInt8)) = false := bne_eq_false_iff_eq.mpr c46
                          clear c46
                          replace H := Option.bind_eq_some_iff.mp H
                          obtain ⟨t177, A470, H⟩ := H
                          replace H : (if t177.toList = ([] : List UInt8) then ((cost_Choose.f k1 5 130 7 20).bind fun t178 => (if t178 = 7 then ((cost_Choose.f k1 (-1) 0 0 0).bind fun t179 => (if t179 = 0 then ((cost_Right.f 1048577 0 0 0).bind fun t180 => (if t180 = true then (some false) else ((cost_Fits.f 0 5 130 7 20 4611686018427387904).bind fun t181 => (some (t181 == 1))))) else (some false))) else (some false))) else (some false)) = some r := H
                          have A47 := Aside0.mk A470
                          clear A470
                          by_cases c48 : t177.toList = ([] : List UInt8)
                          · rw [if_pos c48] at H
                            have c48b0 : (t177.toList == ([] : List UInt8)) = true := beq_iff_eq.mpr c48
                            have c48b1 : (t177.toList != ([] : List UInt8)) = false := bne_eq_false_iff_eq.mpr c48
                            clear c48
                            replace H := Option.bind_eq_some_iff.mp H
                            obtain ⟨t178, A490, H⟩ := H
                            replace H : (if t178 = 7 then ((cost_Choose.f k1 (-1) 0 0 0).bind fun t179 => (if t179 = 0 then ((cost_Right.f 1048577 0 0 0).bind fun t180 => (if t180 = true then (some false) else ((cost_Fits.f 0 5 130 7 20 4611686018427387904).bind fun t181 => (some (t181 == 1))))) else (some false))) else (some false)) = some r := H
                            have A49 := Aside0.mk A490
                            clear A490
                            by_cases c50 : t178 = 7
                            · rw [if_pos c50] at H
                              have c50b0 : (t178 == 7) = true := beq_iff_eq.mpr c50
                              have c50b1 : (t178 != 7) = false := bne_eq_false_iff_eq.mpr c50
                              clear c50
                              replace H := Option.bind_eq_some_iff.mp H
                              obtain ⟨t179, A510, H⟩ := H
                              replace H : (if t179 = 0 then ((cost_Right.f 1048577 0 0 0).bind fun t180 => (if t180 = true then (some false) else ((cost_Fits.f 0 5 130 7 20 4611686018427387904).bind fun t181 => (some (t181 == 1))))) else (some false)) = some r := H
                              have A51 := Aside0.mk A510
                              clear A510
                              by_cases c52 : t179 = 0
                              · rw [if_pos c52] at H
                                have c52b0 : (t179 == 0) = true := beq_iff_eq.mpr c52
                                have c52b1 : (t179 != 0) = false := bne_eq_false_iff_eq.mpr c52
                                clear c52
                                replace H := Option.bind_eq_some_iff.mp H
                                obtain ⟨t180, A530, H⟩ := H
                                replace H : (if t180 = true then (some false) else ((cost_Fits.f 0 5 130 7 20 4611686018427387904).bind fun t181 => (some (t181 == 1)))) = some r := H
                                have A53 := Aside0.mk A530
                                clear A530
                                by_cases c54 : t180 = true
                                · subst c54
                                  have H1 : (some false) = some r := by rw [if_pos rfl] at H; exact H
                                  clear H
                                  have H := H1
                                  clear H1
                                  exact absurd (Option.some.inj H) (by rw [HRT.out]; decide)
                                · replace c54 := Bool.eq_false_iff.mpr c54
                                  subst c54
                                  have H1 : ((cost_Fits.f 0 5 130 7 20 4611686018427387904).bind fun t181 => (some (t181 == 1))) = some r := by rw [if_neg (show ¬ (false = true) by decide)] at H; exact H
                                  clear H
                                  have H := H1
                                  clear H1
                                  replace H := Option.bind_eq_some_iff.mp H
                                  obtain ⟨t181, A550, H⟩ := H
                                  replace H : (some (t181 == 1)) = some r := H
                                  have A55 := Aside0.mk A550
                                  clear A550
                                  obtain rfl := Option.some.inj H
                                  have hcz56_0 : wr.cell? ⟨gb146, 0, none⟩ = some (.int .i64 5) := (blk_cell BK146.out 0).trans rfl
                                  have hcz56_1 : wr.cell? ⟨gb146, 1, none⟩ = some (.int .i64 130) := (blk_cell BK146.out 1).trans rfl
                                  have hcz56_2 : wr.cell? ⟨gb146, 2, none⟩ = some (.int .i64 7) := (blk_cell BK146.out 2).trans rfl
                                  have hcz56_3 : wr.cell? ⟨gb146, 3, none⟩ = some (.int .i64 20) := (blk_cell BK146.out 3).trans rfl
                                  have hfz56_0 := blk_frozen BK146.out 0
                                  have hfz56_1 := blk_frozen BK146.out 1
                                  have hfz56_2 := blk_frozen BK146.out 2
                                  have hfz56_3 := blk_frozen BK146.out 3
                                  go_wp2_with (first | ((with_reducible refine gate_callee (f := 14) rfl ?_); refine goesL_ (some 85) rfl rfl Try.func14 (by kernel_rfl) rfl #[.int .i64 0, .agg #[.int .i64 5, .int .i64 130, .int .i64 7, .int .i64 20]] rfl (by (try simp only [List.map_toArray, List.map_cons, List.map_nil]); first | done | rfl | (simp only [List.length_drop, List.length_take]; rfl)) ?_; (with_reducible refine (cost_Room.calls 0 5 130 7 20 t163 t164 _ A30.out).mono ?_); rintro e w57 ⟨rfl, hb⟩; refine ⟨_, rfl, ?_⟩; have n0_ := Aside0.mk (Kd.R_below (by (with_reducible repeat (first | apply Kd.R_alloc | apply Kd.R_drewN | apply Kd.R_drew)); exact HO_2.out) hb); have n1_ := Aside0.mk (Kd.R_below (by (with_reducible repeat (first | apply Kd.R_alloc | apply Kd.R_drewN | apply Kd.R_drew)); exact HO_3.out) hb); have n2_ := Aside0.mk (blk_below (g := gb146) (o := .cells #[.int .i64 5, .int .i64 130, .int .i64 7, .int .i64 20] 26 (0, 0)) (by (with_reducible repeat (first | refine blk_drewN ?_ _ | refine blk_drew ?_ | refine blk_alloc ?_ _)); exact BK146.out) hb); have n3_ := Aside0.mk (below_step (by repeat (first | (with_reducible first | exact HB.out | apply below_alloc | apply pw_below_drewN | apply below_drew1 | refine below_set ?_ GE146.out) | exact HB.out)) hb); clear HO_2; clear HO_3; clear BK146; clear HB; have HO_2 := n0_; have HO_3 := n1_; have BK146 := n2_; have HB := n3_; clear n0_ n1_ n2_ n3_; (try clear hb); (try clear hb2); (try clear hk); (try clear hi); have hcz58_0 : w57.cell? ⟨gb146, 0, none⟩ = some (.int .i64 5) := (blk_cell BK146.out 0).trans rfl; have hcz58_1 : w57.cell? ⟨gb146, 1, none⟩ = some (.int .i64 130) := (blk_cell BK146.out 1).trans rfl; have hcz58_2 : w57.cell? ⟨gb146, 2, none⟩ = some (.int .i64 7) := (blk_cell BK146.out 2).trans rfl; have hcz58_3 : w57.cell? ⟨gb146, 3, none⟩ = some (.int .i64 20) := (blk_cell BK146.out 3).trans rfl; have hfz58_0 := blk_frozen BK146.out 0; have hfz58_1 := blk_frozen BK146.out 1; have hfz58_2 := blk_frozen BK146.out 2; have hfz58_3 := blk_frozen BK146.out 3) | ((with_reducible refine gate_callee (f := 16) rfl ?_); refine goesL_ (some 90) rfl rfl Try.func16 (by kernel_rfl) rfl #[.int .i64 9, .agg #[.int .i64 5, .int .i64 130, .int .i64 7, .int .i64 20]] rfl (by (try simp only [List.map_toArray, List.map_cons, List.map_nil]); first | done | rfl | (simp only [List.length_drop, List.length_take]; rfl)) ?_; (with_reducible refine (cost_Work.calls 9 5 130 7 20 t165 t166 _ A31.out).mono ?_); rintro e w59 ⟨rfl, hb⟩; refine ⟨_, rfl, ?_⟩; have n0_ := Aside0.mk (Kd.R_below (by (with_reducible repeat (first | apply Kd.R_alloc | apply Kd.R_drewN | apply Kd.R_drew)); exact HO_2.out) hb); have n1_ := Aside0.mk (Kd.R_below (by (with_reducible repeat (first | apply Kd.R_alloc | apply Kd.R_drewN | apply Kd.R_drew)); exact HO_3.out) hb); have n2_ := Aside0.mk (blk_below (g := gb146) (o := .cells #[.int .i64 5, .int .i64 130, .int .i64 7, .int .i64 20] 26 (0, 0)) (by (with_reducible repeat (first | refine blk_drewN ?_ _ | refine blk_drew ?_ | refine blk_alloc ?_ _)); exact BK146.out) hb); have n3_ := Aside0.mk (below_step (by repeat (first | (with_reducible first | exact HB.out | apply below_alloc | apply pw_below_drewN | apply below_drew1 | refine below_set ?_ GE146.out) | exact HB.out)) hb); clear HO_2; clear HO_3; clear BK146; clear HB; have HO_2 := n0_; have HO_3 := n1_; have BK146 := n2_; have HB := n3_; clear n0_ n1_ n2_ n3_; (try clear hb); (try clear hb2); (try clear hk); (try clear hi)) | ((with_reducible refine gate_callee (f := 14) rfl ?_); refine goesL_ (some 95) rfl rfl Try.func14 (by kernel_rfl) rfl #[.int .i64 1, .agg #[.int .i64 1, .int .i64 1, .int .i64 3, .int .i64 0]] rfl (by (try simp only [List.map_toArray, List.map_cons, List.map_nil]); first | done | rfl | (simp only [List.length_drop, List.length_take]; rfl)) ?_; (with_reducible refine (cost_Room.calls 1 1 1 3 0 t167 t168 _ A32.out).mono ?_); rintro e w60 ⟨rfl, hb⟩; refine ⟨_, rfl, ?_⟩; have n0_ := Aside0.mk (Kd.R_below (by (with_reducible repeat (first | apply Kd.R_alloc | apply Kd.R_drewN | apply Kd.R_drew)); exact HO_2.out) hb); have n1_ := Aside0.mk (Kd.R_below (by (with_reducible repeat (first | apply Kd.R_alloc | apply Kd.R_drewN | apply Kd.R_drew)); exact HO_3.out) hb); have n2_ := Aside0.mk (blk_below (g := gb146) (o := .cells #[.int .i64 5, .int .i64 130, .int .i64 7, .int .i64 20] 26 (0, 0)) (by (with_reducible repeat (first | refine blk_drewN ?_ _ | refine blk_drew ?_ | refine blk_alloc ?_ _)); exact BK146.out) hb); have n3_ := Aside0.mk (below_step (by repeat (first | (with_reducible first | exact HB.out | apply below_alloc | apply pw_below_drewN | apply below_drew1 | refine below_set ?_ GE146.out) | exact HB.out)) hb); clear HO_2; clear HO_3; clear BK146; clear HB; have HO_2 := n0_; have HO_3 := n1_; have BK146 := n2_; have HB := n3_; clear n0_ n1_ n2_ n3_; (try clear hb); (try clear hb2); (try clear hk); (try clear hi)) | ((with_reducible refine gate_callee (f := 14) rfl ?_); refine goesL_ (some 100) rfl rfl Try.func14 (by kernel_rfl) rfl #[.int .i64 1, .agg #[.int .i64 1, .int .i64 1, .int .i64 1, .int .i64 2]] rfl (by (try simp only [List.map_toArray, List.map_cons, List.map_nil]); first | done | rfl | (simp only [List.length_drop, List.length_take]; rfl)) ?_; (with_reducible refine (cost_Room.calls 1 1 1 1 2 t169 t170 _ A33.out).mono ?_); rintro e w61 ⟨rfl, hb⟩; refine ⟨_, rfl, ?_⟩; have n0_ := Aside0.mk (Kd.R_below (by (with_reducible repeat (first | apply Kd.R_alloc | apply Kd.R_drewN | apply Kd.R_drew)); exact HO_2.out) hb); have n1_ := Aside0.mk (Kd.R_below (by (with_reducible repeat (first | apply Kd.R_alloc | apply Kd.R_drewN | apply Kd.R_drew)); exact HO_3.out) hb); have n2_ := Aside0.mk (blk_below (g := gb146) (o := .cells #[.int .i64 5, .int .i64 130, .int .i64 7, .int .i64 20] 26 (0, 0)) (by (with_reducible repeat (first | refine blk_drewN ?_ _ | refine blk_drew ?_ | refine blk_alloc ?_ _)); exact BK146.out) hb); have n3_ := Aside0.mk (below_step (by repeat (first | (with_reducible first | exact HB.out | apply below_alloc | apply pw_below_drewN | apply below_drew1 | refine below_set ?_ GE146.out) | exact HB.out)) hb); clear HO_2; clear HO_3; clear BK146; clear HB; have HO_2 := n0_; have HO_3 := n1_; have BK146 := n2_; have HB := n3_; clear n0_ n1_ n2_ n3_; (try clear hb); (try clear hb2); (try clear hk); (try clear hi)) | ((with_reducible refine gate_callee (f := 23) rfl ?_); refine goesL_ (some 104) rfl rfl Try.func23 (by kernel_rfl) rfl #[.string (⟨#[97, 110, 121]⟩ : ByteArray)] rfl (by (try simp only [List.map_toArray, List.map_cons, List.map_nil]); first | done | rfl | (simp only [List.length_drop, List.length_take]; rfl)) ?_; (with_reducible refine (cost_Tag.calls k1 (⟨#[97, 110, 121]⟩ : ByteArray) t171 false _ A34.out).mono ?_); rintro e w' ⟨rfl, ⟨nd, rfl⟩⟩; refine ⟨_, rfl, ?_⟩) | ((with_reducible refine gate_callee (f := 23) rfl ?_); refine goesL_ (some 108) rfl rfl Try.func23 (by kernel_rfl) rfl #[.string (⟨#[99, 114, 111, 99, 104]⟩ : ByteArray)] rfl (by (try simp only [List.map_toArray, List.map_cons, List.map_nil]); first | done | rfl | (simp only [List.length_drop, List.length_take]; rfl)) ?_; (with_reducible refine (cost_Tag.calls k1 (⟨#[99, 114, 111, 99, 104]⟩ : ByteArray) t173 true _ A35.out).mono ?_); rintro e w' ⟨rfl, ⟨nd, rfl⟩⟩; refine ⟨_, rfl, ?_⟩) | ((with_reducible refine gate_callee (f := 9) rfl ?_); refine goesL_ (some 111) rfl rfl Try.func9 (by kernel_rfl) rfl #[] rfl (by (try simp only [List.map_toArray, List.map_cons, List.map_nil]); first | done | rfl | (simp only [List.length_drop, List.length_take]; rfl)) ?_; (with_reducible refine (tattinglaw27_awake.calls k1  true _ A36.out).mono ?_); rintro e w62 ⟨rfl, hb⟩; refine ⟨_, rfl, ?_⟩; have n0_ := Aside0.mk (Kd.R_below (by (with_reducible repeat (first | apply Kd.R_alloc | apply Kd.R_drewN | apply Kd.R_drew)); exact HO_2.out) hb); have n1_ := Aside0.mk (Kd.R_below (by (with_reducible repeat (first | apply Kd.R_alloc | apply Kd.R_drewN | apply Kd.R_drew)); exact HO_3.out) hb); have n2_ := Aside0.mk (blk_below (g := gb146) (o := .cells #[.int .i64 5, .int .i64 130, .int .i64 7, .int .i64 20] 26 (0, 0)) (by (with_reducible repeat (first | refine blk_drewN ?_ _ | refine blk_drew ?_ | refine blk_alloc ?_ _)); exact BK146.out) hb); have n3_ := Aside0.mk (below_step (by repeat (first | (with_reducible first | exact HB.out | apply below_alloc | apply pw_below_drewN | apply below_drew1 | refine below_set ?_ GE146.out) | exact HB.out)) hb); clear HO_2; clear HO_3; clear BK146; clear HB; have HO_2 := n0_; have HO_3 := n1_; have BK146 := n2_; have HB := n3_; clear n0_ n1_ n2_ n3_; (try clear hb); (try clear hb2); (try clear hk); (try clear hi)) | (go_at_call 25; (with_reducible refine (cost_Name.calls 0 t176 _ A45.out).mono ?_); rintro e w' ⟨rfl, ⟨nd, rfl⟩⟩) | (go_at_call 25; (with_reducible refine (cost_Name.calls 9 t177 _ A47.out).mono ?_); rintro e w' ⟨rfl, ⟨nd, rfl⟩⟩; have hcz63_0 : w62.cell? ⟨gb146, 0, none⟩ = some (.int .i64 5) := (blk_cell BK146.out 0).trans rfl; have hcz63_1 : w62.cell? ⟨gb146, 1, none⟩ = some (.int .i64 130) := (blk_cell BK146.out 1).trans rfl; have hcz63_2 : w62.cell? ⟨gb146, 2, none⟩ = some (.int .i64 7) := (blk_cell BK146.out 2).trans rfl; have hcz63_3 : w62.cell? ⟨gb146, 3, none⟩ = some (.int .i64 20) := (blk_cell BK146.out 3).trans rfl; have hfz63_0 := blk_frozen BK146.out 0; have hfz63_1 := blk_frozen BK146.out 1; have hfz63_2 := blk_frozen BK146.out 2; have hfz63_3 := blk_frozen BK146.out 3) | (go_at_call 19; (with_reducible refine (cost_Choose.calls k1 5 130 7 20 t178 _ A49.out).mono ?_); rintro e w64 ⟨rfl, hb⟩; have n0_ := Aside0.mk (Kd.R_below (by (with_reducible repeat (first | apply Kd.R_alloc | apply Kd.R_drewN | apply Kd.R_drew)); exact HO_2.out) hb); have n1_ := Aside0.mk (Kd.R_below (by (with_reducible repeat (first | apply Kd.R_alloc | apply Kd.R_drewN | apply Kd.R_drew)); exact HO_3.out) hb); have n2_ := Aside0.mk (blk_below (g := gb146) (o := .cells #[.int .i64 5, .int .i64 130, .int .i64 7, .int .i64 20] 26 (0, 0)) (by (with_reducible repeat (first | refine blk_drewN ?_ _ | refine blk_drew ?_ | refine blk_alloc ?_ _)); exact BK146.out) hb); have n3_ := Aside0.mk (below_step (by repeat (first | (with_reducible first | exact HB.out | apply below_alloc | apply pw_below_drewN | apply below_drew1 | refine below_set ?_ GE146.out) | exact HB.out)) hb); clear HO_2; clear HO_3; clear BK146; clear HB; have HO_2 := n0_; have HO_3 := n1_; have BK146 := n2_; have HB := n3_; clear n0_ n1_ n2_ n3_; (try clear hb); (try clear hb2); (try clear hk); (try clear hi)) | (go_at_call 19; (with_reducible refine (cost_Choose.calls k1 (-1) 0 0 0 t179 _ A51.out).mono ?_); rintro e w65 ⟨rfl, hb⟩; have n0_ := Aside0.mk (Kd.R_below (by (with_reducible repeat (first | apply Kd.R_alloc | apply Kd.R_drewN | apply Kd.R_drew)); exact HO_2.out) hb); have n1_ := Aside0.mk (Kd.R_below (by (with_reducible repeat (first | apply Kd.R_alloc | apply Kd.R_drewN | apply Kd.R_drew)); exact HO_3.out) hb); have n2_ := Aside0.mk (blk_below (g := gb146) (o := .cells #[.int .i64 5, .int .i64 130, .int .i64 7, .int .i64 20] 26 (0, 0)) (by (with_reducible repeat (first | refine blk_drewN ?_ _ | refine blk_drew ?_ | refine blk_alloc ?_ _)); exact BK146.out) hb); have n3_ := Aside0.mk (below_step (by repeat (first | (with_reducible first | exact HB.out | apply below_alloc | apply pw_below_drewN | apply below_drew1 | refine below_set ?_ GE146.out) | exact HB.out)) hb); clear HO_2; clear HO_3; clear BK146; clear HB; have HO_2 := n0_; have HO_3 := n1_; have BK146 := n2_; have HB := n3_; clear n0_ n1_ n2_ n3_; (try clear hb); (try clear hb2); (try clear hk); (try clear hi)) | (go_at_call 13; (with_reducible refine (cost_Right.calls 1048577 0 0 0 false _ A53.out).mono ?_); rintro e w66 ⟨rfl, hb⟩; have n0_ := Aside0.mk (Kd.R_below (by (with_reducible repeat (first | apply Kd.R_alloc | apply Kd.R_drewN | apply Kd.R_drew)); exact HO_2.out) hb); have n1_ := Aside0.mk (Kd.R_below (by (with_reducible repeat (first | apply Kd.R_alloc | apply Kd.R_drewN | apply Kd.R_drew)); exact HO_3.out) hb); have n2_ := Aside0.mk (blk_below (g := gb146) (o := .cells #[.int .i64 5, .int .i64 130, .int .i64 7, .int .i64 20] 26 (0, 0)) (by (with_reducible repeat (first | refine blk_drewN ?_ _ | refine blk_drew ?_ | refine blk_alloc ?_ _)); exact BK146.out) hb); have n3_ := Aside0.mk (below_step (by repeat (first | (with_reducible first | exact HB.out | apply below_alloc | apply pw_below_drewN | apply below_drew1 | refine below_set ?_ GE146.out) | exact HB.out)) hb); clear HO_2; clear HO_3; clear BK146; clear HB; have HO_2 := n0_; have HO_3 := n1_; have BK146 := n2_; have HB := n3_; clear n0_ n1_ n2_ n3_; (try clear hb); (try clear hb2); (try clear hk); (try clear hi); have hcz67_0 : w66.cell? ⟨gb146, 0, none⟩ = some (.int .i64 5) := (blk_cell BK146.out 0).trans rfl; have hcz67_1 : w66.cell? ⟨gb146, 1, none⟩ = some (.int .i64 130) := (blk_cell BK146.out 1).trans rfl; have hcz67_2 : w66.cell? ⟨gb146, 2, none⟩ = some (.int .i64 7) := (blk_cell BK146.out 2).trans rfl; have hcz67_3 : w66.cell? ⟨gb146, 3, none⟩ = some (.int .i64 20) := (blk_cell BK146.out 3).trans rfl; have hfz67_0 := blk_frozen BK146.out 0; have hfz67_1 := blk_frozen BK146.out 1; have hfz67_2 := blk_frozen BK146.out 2; have hfz67_3 := blk_frozen BK146.out 3) | (go_at_call 21; (with_reducible refine (cost_Fits.calls 0 5 130 7 20 4611686018427387904 t181 _ A55.out).mono ?_); rintro e w68 ⟨rfl, hb⟩; have n0_ := Aside0.mk (Kd.R_below (by (with_reducible repeat (first | apply Kd.R_alloc | apply Kd.R_drewN | apply Kd.R_drew)); exact HO_2.out) hb); have n1_ := Aside0.mk (Kd.R_below (by (with_reducible repeat (first | apply Kd.R_alloc | apply Kd.R_drewN | apply Kd.R_drew)); exact HO_3.out) hb); have n2_ := Aside0.mk (blk_below (g := gb146) (o := .cells #[.int .i64 5, .int .i64 130, .int .i64 7, .int .i64 20] 26 (0, 0)) (by (with_reducible repeat (first | refine blk_drewN ?_ _ | refine blk_drew ?_ | refine blk_alloc ?_ _)); exact BK146.out) hb); have n3_ := Aside0.mk (below_step (by repeat (first | (with_reducible first | exact HB.out | apply below_alloc | apply pw_below_drewN | apply below_drew1 | refine below_set ?_ GE146.out) | exact HB.out)) hb); clear HO_2; clear HO_3; clear BK146; clear HB; have HO_2 := n0_; have HO_3 := n1_; have BK146 := n2_; have HB := n3_; clear n0_ n1_ n2_ n3_; (try clear hb); (try clear hb2); (try clear hk); (try clear hi)))
                                  go_ret
                                  exact ⟨by first | rfl | (simp [errW_none, errW_some] <;> rfl) | (simp [*, errW_none, errW_some] <;> rfl), by repeat (first | (with_reducible first | exact HB.out | apply below_alloc | apply pw_below_drewN | apply below_drew1 | refine below_set ?_ GE146.out) | exact HB.out)⟩
                              · rw [if_neg c52] at H
                                have c52b0 : (t179 == 0) = false := beq_eq_false_iff_ne.mpr c52
                                have c52b1 : (t179 != 0) = true := bne_iff_ne.mpr c52
                                exact absurd (Option.some.inj H) (by rw [HRT.out]; decide)
                            · rw [if_neg c50] at H
                              have c50b0 : (t178 == 7) = false := beq_eq_false_iff_ne.mpr c50
                              have c50b1 : (t178 != 7) = true := bne_iff_ne.mpr c50
                              exact absurd (Option.some.inj H) (by rw [HRT.out]; decide)
                          · rw [if_neg c48] at H
                            have c48b0 : (t177.toList == ([] : List UInt8)) = false := beq_eq_false_iff_ne.mpr c48
                            have c48b1 : (t177.toList != ([] : List UInt8)) = true := bne_iff_ne.mpr c48
                            exact absurd (Option.some.inj H) (by rw [HRT.out]; decide)
                        · rw [if_neg c46] at H
                          have c46b0 : (t176.toList == ([] : List UInt8)) = false := beq_eq_false_iff_ne.mpr c46
                          have c46b1 : (t176.toList != ([] : List UInt8)) = true := bne_iff_ne.mpr c46
                          exact absurd (Option.some.inj H) (by rw [HRT.out]; decide)
                      · rw [if_neg c44] at H
                        have c44b0 : (t173 == 8) = false := beq_eq_false_iff_ne.mpr c44
                        have c44b1 : (t173 != 8) = true := bne_iff_ne.mpr c44
                        exact absurd (Option.some.inj H) (by rw [HRT.out]; decide)
                    · replace c43 := Bool.eq_false_iff.mpr c43
                      subst c43
                      have H1 : (some false) = some r := by rw [if_neg (show ¬ (false = true) by decide)] at H; exact H
                      clear H
                      have H := H1
                      clear H1
                      exact absurd (Option.some.inj H) (by rw [HRT.out]; decide)
                · rw [if_neg c41] at H
                  have c41b0 : (t170 == 1) = false := beq_eq_false_iff_ne.mpr c41
                  have c41b1 : (t170 != 1) = true := bne_iff_ne.mpr c41
                  exact absurd (Option.some.inj H) (by rw [HRT.out]; decide)
              · rw [if_neg c40] at H
                have c40b0 : (t168 == 1) = false := beq_eq_false_iff_ne.mpr c40
                have c40b1 : (t168 != 1) = true := bne_iff_ne.mpr c40
                exact absurd (Option.some.inj H) (by rw [HRT.out]; decide)
            · rw [if_neg c39] at H
              have c39b0 : (t166 == 1) = false := beq_eq_false_iff_ne.mpr c39
              have c39b1 : (t166 != 1) = true := bne_iff_ne.mpr c39
              exact absurd (Option.some.inj H) (by rw [HRT.out]; decide)
          · rw [if_neg c38] at H
            have c38b0 : (t164 == 1) = false := beq_eq_false_iff_ne.mpr c38
            have c38b1 : (t164 != 1) = true := bne_iff_ne.mpr c38
            exact absurd (Option.some.inj H) (by rw [HRT.out]; decide)
        · replace c37 := Bool.eq_false_iff.mpr c37
          subst c37
          have H1 : (some false) = some r := by rw [if_neg (show ¬ (false = true) by decide)] at H; exact H
          clear H
          have H := H1
          clear H1
          exact absurd (Option.some.inj H) (by rw [HRT.out]; decide)

/-- THE ONE PURE STATEMENT of tattinglaw27_CostKnown: yours. -/
def tattinglaw27_CostKnown.Pure : Prop := ∃ k, tattinglaw27_CostKnown.f k  = some true
theorem tattinglaw27_CostKnown.walk (P : tattinglaw27_CostKnown.Pure)  (w : World)  :
    Calls Try.prog 8 #[] w fun e w' => e = .returned (.bool true) ∧ Below w.heap.size w w' := by
  obtain ⟨k, h⟩ := P  
  refine (tattinglaw27_CostKnown.calls k  true w h ⟨rfl⟩).mono ?_
  rintro e w' ⟨rfl, hd⟩
  exact ⟨rfl, hd⟩

end Go.Proofs.Ytkcodmdfjpndiaa.PCostKnown
