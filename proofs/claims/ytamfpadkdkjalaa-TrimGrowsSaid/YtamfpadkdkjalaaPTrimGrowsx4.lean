-- Laid by wip/myprint.py: the kit's print, with contracts typed by hand for what it does not take.
import Derived.Test.YtamfpadkdkjalaaPTrimGrowsx0
namespace Go.Proofs.Ytamfpadkdkjalaa.PTrimGrows
open Go.RowKit Go.Proofs.YtamfpadkdkjalaaW.PrintWords Go.Proofs.YtamfpadkdkjalaaW.PrintLast Go.Proofs.YtamfpadkdkjalaaW.PrintMore
attribute [local go_sem] max2_int min2_int max_two min_two max_three min_three max_four min_four   -- for this text's walks alone
set_option linter.unusedVariables false
set_option linter.unusedSimpArgs false

/-! ### tattingref1_Grow: function 18 -/
mutual
def tattingref1_Grow.j0 : Nat → List (S30) → Int → Int → Int → Int → Bool → Option ((List (S30)) × Int)
  | 0, _, _, _, _, _, _ => none
  | k + 1, x0, x1, x2, x3, x4, x62 => if x62 = true then (some (([] : List (S30)), 1)) else (tattingref1_Grow.l0 k x0 x1 x2 x3 x4 0)
def tattingref1_Grow.l0 : Nat → List (S30) → Int → Int → Int → Int → Int → Option ((List (S30)) × Int)
  | 0, _, _, _, _, _, _ => none
  | k + 1, x0, x1, x2, x3, x4, x12 => if x12 < (x0.length : Int) then (if 0 ≤ x12 then (if ((rd_T30 x0 x12).f0) < 0 then (some (([] : List (S30)), 1)) else (if ((rd_T30 x0 x12).f1) < 0 then (some (([] : List (S30)), 1)) else (if ((rd_T30 x0 x12).f0) ≥ (wrap64 ((wrap64 (x3 - x1)) - x2)) then (some (([] : List (S30)), 1)) else (if ((rd_T30 x0 x12).f1) ≥ (wrap64 ((wrap64 (x4 - x1)) - x2)) then (some (([] : List (S30)), 1)) else (tattingref1_Grow.l0 k x0 x1 x2 x3 x4 (wrap64 (x12 + 1))))))) else (none)) else (tattingref1_Grow.l1 k x0 x1 x2 x3 x4 ([] : List (S30)) 0)
def tattingref1_Grow.l1 : Nat → List (S30) → Int → Int → Int → Int → List (S30) → Int → Option ((List (S30)) × Int)
  | 0, _, _, _, _, _, _, _ => none
  | k + 1, x0, x1, x2, x3, x4, x13, x14 => if x14 < x1 then (if x13.length < 8796093022208 then (tattingref1_Grow.l1 k x0 x1 x2 x3 x4 (x13 ++ [(⟨x14, x14⟩ : S30)]) (wrap64 (x14 + 1))) else (none)) else (tattingref1_Grow.l2 k x0 x1 x2 x3 x4 x13 0)
def tattingref1_Grow.l2 : Nat → List (S30) → Int → Int → Int → Int → List (S30) → Int → Option ((List (S30)) × Int)
  | 0, _, _, _, _, _, _, _ => none
  | k + 1, x0, x1, x2, x3, x4, x13, x15 => if x15 < (x0.length : Int) then (if 0 ≤ x15 then (if x13.length < 8796093022208 then (tattingref1_Grow.l2 k x0 x1 x2 x3 x4 (x13 ++ [(⟨wrap64 (((rd_T30 x0 x15).f0) + x1), wrap64 (((rd_T30 x0 x15).f1) + x1)⟩ : S30)]) (wrap64 (x15 + 1))) else (none)) else (none)) else (tattingref1_Grow.l3 k x2 x3 x4 x13 0)
def tattingref1_Grow.l3 : Nat → Int → Int → Int → List (S30) → Int → Option ((List (S30)) × Int)
  | 0, _, _, _, _, _ => none
  | k + 1, x2, x3, x4, x13, x16 => if x16 < x2 then (if x13.length < 8796093022208 then (tattingref1_Grow.l3 k x2 x3 x4 (x13 ++ [(⟨wrap64 ((wrap64 (x3 - x2)) + x16), wrap64 ((wrap64 (x4 - x2)) + x16)⟩ : S30)]) (wrap64 (x16 + 1))) else (none)) else (some (x13, 0))
end
def tattingref1_Grow.f (k : Nat) (l0 : List (S30)) (a1 : Int) (a2 : Int) (a3 : Int) (a4 : Int) : Option ((List (S30)) × Int) := if a1 < 0 then (tattingref1_Grow.j0 k l0 a1 a2 a3 a4 true) else (if a2 < 0 then (tattingref1_Grow.j0 k l0 a1 a2 a3 a4 true) else (if a3 < 0 then (tattingref1_Grow.j0 k l0 a1 a2 a3 a4 true) else (if a4 < 0 then (tattingref1_Grow.j0 k l0 a1 a2 a3 a4 true) else (if a3 > 1048576 then (tattingref1_Grow.j0 k l0 a1 a2 a3 a4 true) else (if a4 > 1048576 then (tattingref1_Grow.j0 k l0 a1 a2 a3 a4 true) else (if a1 > a3 then (tattingref1_Grow.j0 k l0 a1 a2 a3 a4 true) else (if a1 > a4 then (tattingref1_Grow.j0 k l0 a1 a2 a3 a4 true) else (if a2 > (wrap64 (a3 - a1)) then (tattingref1_Grow.j0 k l0 a1 a2 a3 a4 true) else (tattingref1_Grow.j0 k l0 a1 a2 a3 a4 (decide (a2 > (wrap64 (a4 - a1)))))))))))))
theorem tattingref1_Grow.mono_l : ∀ k, (∀ y0 y1 y2 y3 y4 y5, LeO (tattingref1_Grow.j0 k y0 y1 y2 y3 y4 y5) (tattingref1_Grow.j0 (k + 1) y0 y1 y2 y3 y4 y5)) ∧ (∀ y0 y1 y2 y3 y4 y5, LeO (tattingref1_Grow.l0 k y0 y1 y2 y3 y4 y5) (tattingref1_Grow.l0 (k + 1) y0 y1 y2 y3 y4 y5)) ∧ (∀ y0 y1 y2 y3 y4 y5 y6, LeO (tattingref1_Grow.l1 k y0 y1 y2 y3 y4 y5 y6) (tattingref1_Grow.l1 (k + 1) y0 y1 y2 y3 y4 y5 y6)) ∧ (∀ y0 y1 y2 y3 y4 y5 y6, LeO (tattingref1_Grow.l2 k y0 y1 y2 y3 y4 y5 y6) (tattingref1_Grow.l2 (k + 1) y0 y1 y2 y3 y4 y5 y6)) ∧ (∀ y0 y1 y2 y3 y4, LeO (tattingref1_Grow.l3 k y0 y1 y2 y3 y4) (tattingref1_Grow.l3 (k + 1) y0 y1 y2 y3 y4))
  | 0 => ⟨fun _ _ _ _ _ _ r h => by simp [tattingref1_Grow.j0] at h, fun _ _ _ _ _ _ r h => by simp [tattingref1_Grow.l0] at h, fun _ _ _ _ _ _ _ r h => by simp [tattingref1_Grow.l1] at h, fun _ _ _ _ _ _ _ r h => by simp [tattingref1_Grow.l2] at h, fun _ _ _ _ _ r h => by simp [tattingref1_Grow.l3] at h⟩
  | k + 1 => by
    obtain ⟨ih0, ih1, ih2, ih3, ih4⟩ := tattingref1_Grow.mono_l k
    refine ⟨?_, ?_, ?_, ?_, ?_⟩
    · intro y0 y1 y2 y3 y4 y5
      unfold tattingref1_Grow.j0
      repeat' first
      | (with_reducible exact ih0 _ _ _ _ _ _)
      | (with_reducible exact ih1 _ _ _ _ _ _)
      | (with_reducible exact ih2 _ _ _ _ _ _ _)
      | (with_reducible exact ih3 _ _ _ _ _ _ _)
      | (with_reducible exact ih4 _ _ _ _ _)
      | (with_reducible exact LeO.refl _)
      | (with_reducible exact LeO.none _)
      | (with_reducible refine LeO.ite ?_ ?_)
      | (with_reducible refine LeO.bind ?_ (fun _ => ?_))
      | exact ih0 _ _ _ _ _ _
      | exact ih1 _ _ _ _ _ _
      | exact ih2 _ _ _ _ _ _ _
      | exact ih3 _ _ _ _ _ _ _
      | exact ih4 _ _ _ _ _
      | exact LeO.none _
      | refine LeO.ite ?_ ?_
      | refine LeO.bind ?_ (fun _ => ?_)
    · intro y0 y1 y2 y3 y4 y5
      unfold tattingref1_Grow.l0
      repeat' first
      | (with_reducible exact ih0 _ _ _ _ _ _)
      | (with_reducible exact ih1 _ _ _ _ _ _)
      | (with_reducible exact ih2 _ _ _ _ _ _ _)
      | (with_reducible exact ih3 _ _ _ _ _ _ _)
      | (with_reducible exact ih4 _ _ _ _ _)
      | (with_reducible exact LeO.refl _)
      | (with_reducible exact LeO.none _)
      | (with_reducible refine LeO.ite ?_ ?_)
      | (with_reducible refine LeO.bind ?_ (fun _ => ?_))
      | exact ih0 _ _ _ _ _ _
      | exact ih1 _ _ _ _ _ _
      | exact ih2 _ _ _ _ _ _ _
      | exact ih3 _ _ _ _ _ _ _
      | exact ih4 _ _ _ _ _
      | exact LeO.none _
      | refine LeO.ite ?_ ?_
      | refine LeO.bind ?_ (fun _ => ?_)
    · intro y0 y1 y2 y3 y4 y5 y6
      unfold tattingref1_Grow.l1
      repeat' first
      | (with_reducible exact ih0 _ _ _ _ _ _)
      | (with_reducible exact ih1 _ _ _ _ _ _)
      | (with_reducible exact ih2 _ _ _ _ _ _ _)
      | (with_reducible exact ih3 _ _ _ _ _ _ _)
      | (with_reducible exact ih4 _ _ _ _ _)
      | (with_reducible exact LeO.refl _)
      | (with_reducible exact LeO.none _)
      | (with_reducible refine LeO.ite ?_ ?_)
      | (with_reducible refine LeO.bind ?_ (fun _ => ?_))
      | exact ih0 _ _ _ _ _ _
      | exact ih1 _ _ _ _ _ _
      | exact ih2 _ _ _ _ _ _ _
      | exact ih3 _ _ _ _ _ _ _
      | exact ih4 _ _ _ _ _
      | exact LeO.none _
      | refine LeO.ite ?_ ?_
      | refine LeO.bind ?_ (fun _ => ?_)
    · intro y0 y1 y2 y3 y4 y5 y6
      unfold tattingref1_Grow.l2
      repeat' first
      | (with_reducible exact ih0 _ _ _ _ _ _)
      | (with_reducible exact ih1 _ _ _ _ _ _)
      | (with_reducible exact ih2 _ _ _ _ _ _ _)
      | (with_reducible exact ih3 _ _ _ _ _ _ _)
      | (with_reducible exact ih4 _ _ _ _ _)
      | (with_reducible exact LeO.refl _)
      | (with_reducible exact LeO.none _)
      | (with_reducible refine LeO.ite ?_ ?_)
      | (with_reducible refine LeO.bind ?_ (fun _ => ?_))
      | exact ih0 _ _ _ _ _ _
      | exact ih1 _ _ _ _ _ _
      | exact ih2 _ _ _ _ _ _ _
      | exact ih3 _ _ _ _ _ _ _
      | exact ih4 _ _ _ _ _
      | exact LeO.none _
      | refine LeO.ite ?_ ?_
      | refine LeO.bind ?_ (fun _ => ?_)
    · intro y0 y1 y2 y3 y4
      unfold tattingref1_Grow.l3
      repeat' first
      | (with_reducible exact ih0 _ _ _ _ _ _)
      | (with_reducible exact ih1 _ _ _ _ _ _)
      | (with_reducible exact ih2 _ _ _ _ _ _ _)
      | (with_reducible exact ih3 _ _ _ _ _ _ _)
      | (with_reducible exact ih4 _ _ _ _ _)
      | (with_reducible exact LeO.refl _)
      | (with_reducible exact LeO.none _)
      | (with_reducible refine LeO.ite ?_ ?_)
      | (with_reducible refine LeO.bind ?_ (fun _ => ?_))
      | exact ih0 _ _ _ _ _ _
      | exact ih1 _ _ _ _ _ _
      | exact ih2 _ _ _ _ _ _ _
      | exact ih3 _ _ _ _ _ _ _
      | exact ih4 _ _ _ _ _
      | exact LeO.none _
      | refine LeO.ite ?_ ?_
      | refine LeO.bind ?_ (fun _ => ?_)
theorem tattingref1_Grow.mono : ∀ a0 a1 a2 a3 a4 k, LeO (tattingref1_Grow.f k a0 a1 a2 a3 a4) (tattingref1_Grow.f (k + 1) a0 a1 a2 a3 a4) := by
  intro a0 a1 a2 a3 a4 k
  obtain ⟨ih0, ih1, ih2, ih3, ih4⟩ := tattingref1_Grow.mono_l k
  unfold tattingref1_Grow.f
  repeat' first
      | (with_reducible exact ih0 _ _ _ _ _ _)
      | (with_reducible exact ih1 _ _ _ _ _ _)
      | (with_reducible exact ih2 _ _ _ _ _ _ _)
      | (with_reducible exact ih3 _ _ _ _ _ _ _)
      | (with_reducible exact ih4 _ _ _ _ _)
      | (with_reducible exact LeO.refl _)
      | (with_reducible exact LeO.none _)
      | (with_reducible refine LeO.ite ?_ ?_)
      | (with_reducible refine LeO.bind ?_ (fun _ => ?_))
      | exact ih0 _ _ _ _ _ _
      | exact ih1 _ _ _ _ _ _
      | exact ih2 _ _ _ _ _ _ _
      | exact ih3 _ _ _ _ _ _ _
      | exact ih4 _ _ _ _ _
      | exact LeO.none _
      | refine LeO.ite ?_ ?_
      | refine LeO.bind ?_ (fun _ => ?_)
def tattingref1_Grow.T16 : Bool × List (List Nat × List Nat) := (true, [([], []), ([], []), ([], []), ([1, 2], [1, 2]), ([3], [3]), ([4], [4]), ([], []), ([5, 6], [5, 6]), ([], []), ([], []), ([8, 9], [8, 9]), ([10], [10]), ([11], [11]), ([], []), ([12, 13], [12, 13]), ([7, 14], [7, 14]), ([15], [15]), ([0, 16], [0, 16]), ([17, 17, 0, 1, 2, 3, 4, 5, 6, 7, 8, 9, 10, 11, 12, 13, 14, 15, 16, 17], [0, 17])])
def tattingref1_Grow.B16 : List Nat := [0, 0, 0, 6, 14, 30, 0, 126, 0, 0, 768, 1792, 3840, 0, 16128, 32766, 65534, 131071, 262143]
theorem tattingref1_Grow.tab16 : rtab .any (opsOf Try.f18 16) = tattingref1_Grow.T16 := by kernel_rfl
theorem tattingref1_Grow.bits16 : waitsOk tattingref1_Grow.T16.2 tattingref1_Grow.B16 = true := by kernel_rfl
set_option maxHeartbeats 8000000 in
set_option maxRecDepth 100000 in
theorem tattingref1_Grow.calls (k : Nat) (A0 : Option Addr) (c0 : Nat) (l0 : List (S30)) (a1 : Int) (a2 : Int) (a3 : Int) (a4 : Int) (r1 : List (S30)) (r2 : Int) (w : World) (hr0 : Kd.C k30 w A0 l0.length l0) (hc0 : l0.length ≤ c0) (h : tattingref1_Grow.f k l0 a1 a2 a3 a4 = some (r1, r2)) :
    Calls Try.prog 18 #[.slice A0 l0.length c0, .int .i64 a1, .int .i64 a2, .int .i64 a3, .int .i64 a4] w fun e w' => ∃ v0_ : Value, e = .returned (.tuple #[v0_, .int .i64 r2]) ∧ Kd.R k30 30 w' w.heap.size (fun _ => True) v0_ r1 ∧ Below w.heap.size w w' := by
  have hu30 := Try.underlying30
  have HR0 := Aside0.mk hr0
  have HC0 := Aside0.mk hc0
  clear hr0 hc0
  have HB := Aside0.mk (Below.refl w.heap.size w)
  have H : (if a1 < 0 then (tattingref1_Grow.j0 k l0 a1 a2 a3 a4 true) else (if a2 < 0 then (tattingref1_Grow.j0 k l0 a1 a2 a3 a4 true) else (if a3 < 0 then (tattingref1_Grow.j0 k l0 a1 a2 a3 a4 true) else (if a4 < 0 then (tattingref1_Grow.j0 k l0 a1 a2 a3 a4 true) else (if a3 > 1048576 then (tattingref1_Grow.j0 k l0 a1 a2 a3 a4 true) else (if a4 > 1048576 then (tattingref1_Grow.j0 k l0 a1 a2 a3 a4 true) else (if a1 > a3 then (tattingref1_Grow.j0 k l0 a1 a2 a3 a4 true) else (if a1 > a4 then (tattingref1_Grow.j0 k l0 a1 a2 a3 a4 true) else (if a2 > (wrap64 (a3 - a1)) then (tattingref1_Grow.j0 k l0 a1 a2 a3 a4 true) else (tattingref1_Grow.j0 k l0 a1 a2 a3 a4 (decide (a2 > (wrap64 (a4 - a1)))))))))))))) = some (r1, r2) := h
  clear h
  have HC6 := Aside0.mk H
  clear H
  go_enter Try.func18, Try.ntmps18
  go_upto_region 1 with (fail)
  go_cut [62] (fun v62 wc => ∃ (kq : Nat) (x62_5 : Bool), v62 = .bool x62_5 ∧ Aside0 (tattingref1_Grow.j0 kq l0 a1 a2 a3 a4 x62_5 = some (r1, r2)) ∧ Aside0 (kq ≤ k) ∧ Aside0 (Below w.heap.size w wc))
  case first =>
    have H := HC6.out
    clear HC6
    by_cases c7 : a1 < 0
    · rw [if_pos c7] at H
      have c7b0 : decide (a1 < 0) = true := decide_eq_true c7
      clear c7
      (first | rw [c7b0] | (simp only [i64_w, i32_w]; rw [c7b0]) | skip)
      have H' := Aside0.mk H
      clear H
      go_wp2
      go_meet
      case rel => exact ⟨_, (true), (by first | rfl | (simp; done) | (simp [*]; done)), H', ⟨by first | omega | exact Nat.le_refl _⟩, ⟨by repeat (first | (with_reducible first | exact HB.out | apply below_alloc | apply pw_below_drewN | apply below_drew1) | exact HB.out)⟩⟩
    · rw [if_neg c7] at H
      have c7b0 : decide (a1 < 0) = false := decide_eq_false c7
      clear c7
      (first | rw [c7b0] | (simp only [i64_w, i32_w]; rw [c7b0]) | skip)
      by_cases c8 : a2 < 0
      · rw [if_pos c8] at H
        have c8b0 : decide (a2 < 0) = true := decide_eq_true c8
        clear c8
        have H' := Aside0.mk H
        clear H
        go_wp2
        go_meet
        case rel => exact ⟨_, (true), (by first | rfl | (simp; done) | (simp [*]; done)), H', ⟨by first | omega | exact Nat.le_refl _⟩, ⟨by repeat (first | (with_reducible first | exact HB.out | apply below_alloc | apply pw_below_drewN | apply below_drew1) | exact HB.out)⟩⟩
      · rw [if_neg c8] at H
        have c8b0 : decide (a2 < 0) = false := decide_eq_false c8
        clear c8
        by_cases c9 : a3 < 0
        · rw [if_pos c9] at H
          have c9b0 : decide (a3 < 0) = true := decide_eq_true c9
          clear c9
          have H' := Aside0.mk H
          clear H
          go_wp2
          go_meet
          case rel => exact ⟨_, (true), (by first | rfl | (simp; done) | (simp [*]; done)), H', ⟨by first | omega | exact Nat.le_refl _⟩, ⟨by repeat (first | (with_reducible first | exact HB.out | apply below_alloc | apply pw_below_drewN | apply below_drew1) | exact HB.out)⟩⟩
        · rw [if_neg c9] at H
          have c9b0 : decide (a3 < 0) = false := decide_eq_false c9
          clear c9
          by_cases c10 : a4 < 0
          · rw [if_pos c10] at H
            have c10b0 : decide (a4 < 0) = true := decide_eq_true c10
            clear c10
            have H' := Aside0.mk H
            clear H
            go_wp2
            go_meet
            case rel => exact ⟨_, (true), (by first | rfl | (simp; done) | (simp [*]; done)), H', ⟨by first | omega | exact Nat.le_refl _⟩, ⟨by repeat (first | (with_reducible first | exact HB.out | apply below_alloc | apply pw_below_drewN | apply below_drew1) | exact HB.out)⟩⟩
          · rw [if_neg c10] at H
            have c10b0 : decide (a4 < 0) = false := decide_eq_false c10
            clear c10
            by_cases c11 : a3 > 1048576
            · rw [if_pos c11] at H
              have c11b0 : decide (1048576 < a3) = true := decide_eq_true c11
              clear c11
              have H' := Aside0.mk H
              clear H
              go_wp2
              go_meet
              case rel => exact ⟨_, (true), (by first | rfl | (simp; done) | (simp [*]; done)), H', ⟨by first | omega | exact Nat.le_refl _⟩, ⟨by repeat (first | (with_reducible first | exact HB.out | apply below_alloc | apply pw_below_drewN | apply below_drew1) | exact HB.out)⟩⟩
            · rw [if_neg c11] at H
              have c11b0 : decide (1048576 < a3) = false := decide_eq_false c11
              clear c11
              by_cases c12 : a4 > 1048576
              · rw [if_pos c12] at H
                have c12b0 : decide (1048576 < a4) = true := decide_eq_true c12
                clear c12
                have H' := Aside0.mk H
                clear H
                go_wp2
                go_meet
                case rel => exact ⟨_, (true), (by first | rfl | (simp; done) | (simp [*]; done)), H', ⟨by first | omega | exact Nat.le_refl _⟩, ⟨by repeat (first | (with_reducible first | exact HB.out | apply below_alloc | apply pw_below_drewN | apply below_drew1) | exact HB.out)⟩⟩
              · rw [if_neg c12] at H
                have c12b0 : decide (1048576 < a4) = false := decide_eq_false c12
                clear c12
                by_cases c13 : a1 > a3
                · rw [if_pos c13] at H
                  have c13b0 : decide (a3 < a1) = true := decide_eq_true c13
                  clear c13
                  have H' := Aside0.mk H
                  clear H
                  go_wp2
                  go_meet
                  case rel => exact ⟨_, (true), (by first | rfl | (simp; done) | (simp [*]; done)), H', ⟨by first | omega | exact Nat.le_refl _⟩, ⟨by repeat (first | (with_reducible first | exact HB.out | apply below_alloc | apply pw_below_drewN | apply below_drew1) | exact HB.out)⟩⟩
                · rw [if_neg c13] at H
                  have c13b0 : decide (a3 < a1) = false := decide_eq_false c13
                  clear c13
                  by_cases c14 : a1 > a4
                  · rw [if_pos c14] at H
                    have c14b0 : decide (a4 < a1) = true := decide_eq_true c14
                    clear c14
                    have H' := Aside0.mk H
                    clear H
                    go_wp2
                    go_meet
                    case rel => exact ⟨_, (true), (by first | rfl | (simp; done) | (simp [*]; done)), H', ⟨by first | omega | exact Nat.le_refl _⟩, ⟨by repeat (first | (with_reducible first | exact HB.out | apply below_alloc | apply pw_below_drewN | apply below_drew1) | exact HB.out)⟩⟩
                  · rw [if_neg c14] at H
                    have c14b0 : decide (a4 < a1) = false := decide_eq_false c14
                    clear c14
                    by_cases c15 : a2 > (wrap64 (a3 - a1))
                    · rw [if_pos c15] at H
                      have c15b0 : decide ((wrap64 (a3 - a1)) < a2) = true := decide_eq_true c15
                      clear c15
                      have H' := Aside0.mk H
                      clear H
                      go_wp2
                      go_meet
                      case rel => exact ⟨_, (true), (by first | rfl | (simp; done) | (simp [*]; done)), H', ⟨by first | omega | exact Nat.le_refl _⟩, ⟨by repeat (first | (with_reducible first | exact HB.out | apply below_alloc | apply pw_below_drewN | apply below_drew1) | exact HB.out)⟩⟩
                    · rw [if_neg c15] at H
                      have c15b0 : decide ((wrap64 (a3 - a1)) < a2) = false := decide_eq_false c15
                      clear c15
                      have H' := Aside0.mk H
                      clear H
                      go_wp2
                      go_meet
                      case rel => exact ⟨_, (decide (a2 > (wrap64 (a4 - a1)))), (by first | rfl | (simp; done) | (simp [*]; done)), H', ⟨by first | omega | exact Nat.le_refl _⟩, ⟨by repeat (first | (with_reducible first | exact HB.out | apply below_alloc | apply pw_below_drewN | apply below_drew1) | exact HB.out)⟩⟩
  case rest =>
    clear HC6
    try clear c1
    try clear p2
    try clear p6
    try clear c7
    try clear c7b0
    try clear c8
    try clear c8b0
    try clear c9
    try clear c9b0
    try clear c10
    try clear c10b0
    try clear c11
    try clear c11b0
    try clear c12
    try clear c12b0
    try clear c13
    try clear c13b0
    try clear c14
    try clear c14b0
    try clear c15
    try clear c15b0
    obtain ⟨kq, x62_5, rfl, HA, HJ5, HB⟩ := hcut
    cases kq with
    | zero => exact absurd HA.out (by simp [tattingref1_Grow.j0])
    | succ kj5 =>
      have H := HA.out
      clear HA
      simp only [tattingref1_Grow.j0] at H
      by_cases c16 : x62_5 = true
      · subst c16
        have H1 : (some (([] : List (S30)), 1)) = some (r1, r2) := by rw [if_pos rfl] at H; exact H
        clear H
        have H := H1
        clear H1
        simp only [Option.some.injEq, Prod.mk.injEq] at H
        obtain ⟨rfl, rfl⟩ := H
        go_wp2
        go_ret2
        exact ⟨_, by first | rfl | (simp [errW_none, errW_some] <;> rfl) | (simp [*, errW_none, errW_some] <;> rfl), by first | exact Kd.R_nil _ _ _ _ _ | exact Kd.N_nil _ _ _ _ _ | exact Kd.V_nil _ _ _ _ _ | exact Kd.Q_nil _ _ _ _ _ | exact Kd.S_nil _ _ _ _ _, by repeat (first | (with_reducible first | exact HB.out | apply below_alloc | apply pw_below_drewN | apply below_drew1) | exact HB.out)⟩
      · replace c16 := Bool.eq_false_iff.mpr c16
        subst c16
        have H1 : (tattingref1_Grow.l0 kj5 l0 a1 a2 a3 a4 0) = some (r1, r2) := by rw [if_neg (show ¬ (false = true) by decide)] at H; exact H
        clear H
        have H := H1
        clear H1
        have H' := Aside0.mk H
        clear H
        go_wp2
        go_loopg [12] kj5 (fun kq v12 w' => ∃ (x12_2 : Int), v12 = .int .i64 x12_2 ∧ Aside0 (tattingref1_Grow.l0 kq l0 a1 a2 a3 a4 x12_2 = some (r1, r2)) ∧ Aside0 (kq ≤ kj5) ∧ Aside0 (Below w.heap.size w w'))
        case atStart => exact ⟨(0), (by first | rfl | (simp; done) | (simp [*]; done)), H', ⟨Nat.le_refl _⟩, ⟨by repeat (first | (with_reducible first | exact HB.out | apply below_alloc | apply pw_below_drewN | apply below_drew1) | exact HB.out)⟩⟩
        case round =>
          clear H'
          try clear c1
          try clear p2
          try clear p6
          try clear c7
          try clear c7b0
          try clear c8
          try clear c8b0
          try clear c9
          try clear c9b0
          try clear c10
          try clear c10b0
          try clear c11
          try clear c11b0
          try clear c12
          try clear c12b0
          try clear c13
          try clear c13b0
          try clear c14
          try clear c14b0
          try clear c15
          try clear c15b0
          try clear c16
          try clear p2
          try clear p6
          obtain ⟨x12_2, rfl, HA, HK2, HB⟩ := hrel
          cases gk with
          | zero => exact absurd HA.out (by simp [tattingref1_Grow.l0])
          | succ k2 =>
            have H := HA.out
            clear HA
            simp only [tattingref1_Grow.l0] at H
            by_cases c17 : x12_2 < (l0.length : Int)
            · rw [if_pos c17] at H
              have c17b0 : decide (x12_2 < (l0.length : Int)) = true := decide_eq_true c17
              clear c17
              by_cases c18 : 0 ≤ x12_2
              · rw [if_pos c18] at H
                have c18b0 : decide (0 ≤ x12_2) = true := decide_eq_true c18
                clear c18
                by_cases c19 : ((rd_T30 l0 x12_2).f0) < 0
                · rw [if_pos c19] at H
                  have c19b0 : decide (((rd_T30 l0 x12_2).f0) < 0) = true := decide_eq_true c19
                  clear c19
                  simp only [Option.some.injEq, Prod.mk.injEq] at H
                  obtain ⟨rfl, rfl⟩ := H
                  have p164 : 0 ≤ (x12_2 : Int) := of_decide_eq_true (by first | (with_reducible assumption) | assumption)
                  have q164 : x12_2 < (l0.length : Int) := of_decide_eq_true (by first | (with_reducible assumption) | assumption)
                  obtain ⟨ad164, e164, hx164_0, hx164_1⟩ := at_T30 HR0.out x12_2 p164 q164
                  cases e164
                  replace hx164_0 := (HB.out.cell (World.block_lt_of_cell? w _ hx164_0)).trans hx164_0
                  replace hx164_1 := (HB.out.cell (World.block_lt_of_cell? w _ hx164_1)).trans hx164_1
                  replace p164 := eq_true p164
                  replace q164 := eq_true q164
                  go_wp2
                  go_ret2
                  exact ⟨_, by first | rfl | (simp [errW_none, errW_some] <;> rfl) | (simp [*, errW_none, errW_some] <;> rfl), by first | exact Kd.R_nil _ _ _ _ _ | exact Kd.N_nil _ _ _ _ _ | exact Kd.V_nil _ _ _ _ _ | exact Kd.Q_nil _ _ _ _ _ | exact Kd.S_nil _ _ _ _ _, by repeat (first | (with_reducible first | exact HB.out | apply below_alloc | apply pw_below_drewN | apply below_drew1) | exact HB.out)⟩
                · rw [if_neg c19] at H
                  have c19b0 : decide (((rd_T30 l0 x12_2).f0) < 0) = false := decide_eq_false c19
                  clear c19
                  by_cases c20 : ((rd_T30 l0 x12_2).f1) < 0
                  · rw [if_pos c20] at H
                    have c20b0 : decide (((rd_T30 l0 x12_2).f1) < 0) = true := decide_eq_true c20
                    clear c20
                    simp only [Option.some.injEq, Prod.mk.injEq] at H
                    obtain ⟨rfl, rfl⟩ := H
                    have p164 : 0 ≤ (x12_2 : Int) := of_decide_eq_true (by first | (with_reducible assumption) | assumption)
                    have q164 : x12_2 < (l0.length : Int) := of_decide_eq_true (by first | (with_reducible assumption) | assumption)
                    obtain ⟨ad164, e164, hx164_0, hx164_1⟩ := at_T30 HR0.out x12_2 p164 q164
                    cases e164
                    replace hx164_0 := (HB.out.cell (World.block_lt_of_cell? w _ hx164_0)).trans hx164_0
                    replace hx164_1 := (HB.out.cell (World.block_lt_of_cell? w _ hx164_1)).trans hx164_1
                    replace p164 := eq_true p164
                    replace q164 := eq_true q164
                    have p165 : 0 ≤ (x12_2 : Int) := of_decide_eq_true (by first | (with_reducible assumption) | assumption)
                    have q165 : x12_2 < (l0.length : Int) := of_decide_eq_true (by first | (with_reducible assumption) | assumption)
                    obtain ⟨ad165, e165, hx165_0, hx165_1⟩ := at_T30 HR0.out x12_2 p165 q165
                    obtain rfl : ad164 = ad165 := (by injection e165)
                    replace hx165_0 := (HB.out.cell (World.block_lt_of_cell? w _ hx165_0)).trans hx165_0
                    replace hx165_1 := (HB.out.cell (World.block_lt_of_cell? w _ hx165_1)).trans hx165_1
                    replace p165 := eq_true p165
                    replace q165 := eq_true q165
                    go_wp2
                    go_ret2
                    exact ⟨_, by first | rfl | (simp [errW_none, errW_some] <;> rfl) | (simp [*, errW_none, errW_some] <;> rfl), by first | exact Kd.R_nil _ _ _ _ _ | exact Kd.N_nil _ _ _ _ _ | exact Kd.V_nil _ _ _ _ _ | exact Kd.Q_nil _ _ _ _ _ | exact Kd.S_nil _ _ _ _ _, by repeat (first | (with_reducible first | exact HB.out | apply below_alloc | apply pw_below_drewN | apply below_drew1) | exact HB.out)⟩
                  · rw [if_neg c20] at H
                    have c20b0 : decide (((rd_T30 l0 x12_2).f1) < 0) = false := decide_eq_false c20
                    clear c20
                    by_cases c21 : ((rd_T30 l0 x12_2).f0) ≥ (wrap64 ((wrap64 (a3 - a1)) - a2))
                    · rw [if_pos c21] at H
                      have c21b0 : decide ((wrap64 ((wrap64 (a3 - a1)) - a2)) ≤ ((rd_T30 l0 x12_2).f0)) = true := decide_eq_true c21
                      clear c21
                      simp only [Option.some.injEq, Prod.mk.injEq] at H
                      obtain ⟨rfl, rfl⟩ := H
                      have p164 : 0 ≤ (x12_2 : Int) := of_decide_eq_true (by first | (with_reducible assumption) | assumption)
                      have q164 : x12_2 < (l0.length : Int) := of_decide_eq_true (by first | (with_reducible assumption) | assumption)
                      obtain ⟨ad164, e164, hx164_0, hx164_1⟩ := at_T30 HR0.out x12_2 p164 q164
                      cases e164
                      replace hx164_0 := (HB.out.cell (World.block_lt_of_cell? w _ hx164_0)).trans hx164_0
                      replace hx164_1 := (HB.out.cell (World.block_lt_of_cell? w _ hx164_1)).trans hx164_1
                      replace p164 := eq_true p164
                      replace q164 := eq_true q164
                      have p165 : 0 ≤ (x12_2 : Int) := of_decide_eq_true (by first | (with_reducible assumption) | assumption)
                      have q165 : x12_2 < (l0.length : Int) := of_decide_eq_true (by first | (with_reducible assumption) | assumption)
                      obtain ⟨ad165, e165, hx165_0, hx165_1⟩ := at_T30 HR0.out x12_2 p165 q165
                      obtain rfl : ad164 = ad165 := (by injection e165)
                      replace hx165_0 := (HB.out.cell (World.block_lt_of_cell? w _ hx165_0)).trans hx165_0
                      replace hx165_1 := (HB.out.cell (World.block_lt_of_cell? w _ hx165_1)).trans hx165_1
                      replace p165 := eq_true p165
                      replace q165 := eq_true q165
                      have p166 : 0 ≤ (x12_2 : Int) := of_decide_eq_true (by first | (with_reducible assumption) | assumption)
                      have q166 : x12_2 < (l0.length : Int) := of_decide_eq_true (by first | (with_reducible assumption) | assumption)
                      obtain ⟨ad166, e166, hx166_0, hx166_1⟩ := at_T30 HR0.out x12_2 p166 q166
                      obtain rfl : ad164 = ad166 := (by injection e166)
                      replace hx166_0 := (HB.out.cell (World.block_lt_of_cell? w _ hx166_0)).trans hx166_0
                      replace hx166_1 := (HB.out.cell (World.block_lt_of_cell? w _ hx166_1)).trans hx166_1
                      replace p166 := eq_true p166
                      replace q166 := eq_true q166
                      go_wp2
                      go_ret2
                      exact ⟨_, by first | rfl | (simp [errW_none, errW_some] <;> rfl) | (simp [*, errW_none, errW_some] <;> rfl), by first | exact Kd.R_nil _ _ _ _ _ | exact Kd.N_nil _ _ _ _ _ | exact Kd.V_nil _ _ _ _ _ | exact Kd.Q_nil _ _ _ _ _ | exact Kd.S_nil _ _ _ _ _, by repeat (first | (with_reducible first | exact HB.out | apply below_alloc | apply pw_below_drewN | apply below_drew1) | exact HB.out)⟩
                    · rw [if_neg c21] at H
                      have c21b0 : decide ((wrap64 ((wrap64 (a3 - a1)) - a2)) ≤ ((rd_T30 l0 x12_2).f0)) = false := decide_eq_false c21
                      clear c21
                      by_cases c22 : ((rd_T30 l0 x12_2).f1) ≥ (wrap64 ((wrap64 (a4 - a1)) - a2))
                      · rw [if_pos c22] at H
                        have c22b0 : decide ((wrap64 ((wrap64 (a4 - a1)) - a2)) ≤ ((rd_T30 l0 x12_2).f1)) = true := decide_eq_true c22
                        clear c22
                        simp only [Option.some.injEq, Prod.mk.injEq] at H
                        obtain ⟨rfl, rfl⟩ := H
                        have p164 : 0 ≤ (x12_2 : Int) := of_decide_eq_true (by first | (with_reducible assumption) | assumption)
                        have q164 : x12_2 < (l0.length : Int) := of_decide_eq_true (by first | (with_reducible assumption) | assumption)
                        obtain ⟨ad164, e164, hx164_0, hx164_1⟩ := at_T30 HR0.out x12_2 p164 q164
                        cases e164
                        replace hx164_0 := (HB.out.cell (World.block_lt_of_cell? w _ hx164_0)).trans hx164_0
                        replace hx164_1 := (HB.out.cell (World.block_lt_of_cell? w _ hx164_1)).trans hx164_1
                        replace p164 := eq_true p164
                        replace q164 := eq_true q164
                        have p165 : 0 ≤ (x12_2 : Int) := of_decide_eq_true (by first | (with_reducible assumption) | assumption)
                        have q165 : x12_2 < (l0.length : Int) := of_decide_eq_true (by first | (with_reducible assumption) | assumption)
                        obtain ⟨ad165, e165, hx165_0, hx165_1⟩ := at_T30 HR0.out x12_2 p165 q165
                        obtain rfl : ad164 = ad165 := (by injection e165)
                        replace hx165_0 := (HB.out.cell (World.block_lt_of_cell? w _ hx165_0)).trans hx165_0
                        replace hx165_1 := (HB.out.cell (World.block_lt_of_cell? w _ hx165_1)).trans hx165_1
                        replace p165 := eq_true p165
                        replace q165 := eq_true q165
                        have p166 : 0 ≤ (x12_2 : Int) := of_decide_eq_true (by first | (with_reducible assumption) | assumption)
                        have q166 : x12_2 < (l0.length : Int) := of_decide_eq_true (by first | (with_reducible assumption) | assumption)
                        obtain ⟨ad166, e166, hx166_0, hx166_1⟩ := at_T30 HR0.out x12_2 p166 q166
                        obtain rfl : ad164 = ad166 := (by injection e166)
                        replace hx166_0 := (HB.out.cell (World.block_lt_of_cell? w _ hx166_0)).trans hx166_0
                        replace hx166_1 := (HB.out.cell (World.block_lt_of_cell? w _ hx166_1)).trans hx166_1
                        replace p166 := eq_true p166
                        replace q166 := eq_true q166
                        have p167 : 0 ≤ (x12_2 : Int) := of_decide_eq_true (by first | (with_reducible assumption) | assumption)
                        have q167 : x12_2 < (l0.length : Int) := of_decide_eq_true (by first | (with_reducible assumption) | assumption)
                        obtain ⟨ad167, e167, hx167_0, hx167_1⟩ := at_T30 HR0.out x12_2 p167 q167
                        obtain rfl : ad164 = ad167 := (by injection e167)
                        replace hx167_0 := (HB.out.cell (World.block_lt_of_cell? w _ hx167_0)).trans hx167_0
                        replace hx167_1 := (HB.out.cell (World.block_lt_of_cell? w _ hx167_1)).trans hx167_1
                        replace p167 := eq_true p167
                        replace q167 := eq_true q167
                        go_wp2
                        go_ret2
                        exact ⟨_, by first | rfl | (simp [errW_none, errW_some] <;> rfl) | (simp [*, errW_none, errW_some] <;> rfl), by first | exact Kd.R_nil _ _ _ _ _ | exact Kd.N_nil _ _ _ _ _ | exact Kd.V_nil _ _ _ _ _ | exact Kd.Q_nil _ _ _ _ _ | exact Kd.S_nil _ _ _ _ _, by repeat (first | (with_reducible first | exact HB.out | apply below_alloc | apply pw_below_drewN | apply below_drew1) | exact HB.out)⟩
                      · rw [if_neg c22] at H
                        have c22b0 : decide ((wrap64 ((wrap64 (a4 - a1)) - a2)) ≤ ((rd_T30 l0 x12_2).f1)) = false := decide_eq_false c22
                        clear c22
                        have H' := Aside0.mk H
                        clear H
                        have p164 : 0 ≤ (x12_2 : Int) := of_decide_eq_true (by first | (with_reducible assumption) | assumption)
                        have q164 : x12_2 < (l0.length : Int) := of_decide_eq_true (by first | (with_reducible assumption) | assumption)
                        obtain ⟨ad164, e164, hx164_0, hx164_1⟩ := at_T30 HR0.out x12_2 p164 q164
                        cases e164
                        replace hx164_0 := (HB.out.cell (World.block_lt_of_cell? w _ hx164_0)).trans hx164_0
                        replace hx164_1 := (HB.out.cell (World.block_lt_of_cell? w _ hx164_1)).trans hx164_1
                        replace p164 := eq_true p164
                        replace q164 := eq_true q164
                        have p165 : 0 ≤ (x12_2 : Int) := of_decide_eq_true (by first | (with_reducible assumption) | assumption)
                        have q165 : x12_2 < (l0.length : Int) := of_decide_eq_true (by first | (with_reducible assumption) | assumption)
                        obtain ⟨ad165, e165, hx165_0, hx165_1⟩ := at_T30 HR0.out x12_2 p165 q165
                        obtain rfl : ad164 = ad165 := (by injection e165)
                        replace hx165_0 := (HB.out.cell (World.block_lt_of_cell? w _ hx165_0)).trans hx165_0
                        replace hx165_1 := (HB.out.cell (World.block_lt_of_cell? w _ hx165_1)).trans hx165_1
                        replace p165 := eq_true p165
                        replace q165 := eq_true q165
                        have p166 : 0 ≤ (x12_2 : Int) := of_decide_eq_true (by first | (with_reducible assumption) | assumption)
                        have q166 : x12_2 < (l0.length : Int) := of_decide_eq_true (by first | (with_reducible assumption) | assumption)
                        obtain ⟨ad166, e166, hx166_0, hx166_1⟩ := at_T30 HR0.out x12_2 p166 q166
                        obtain rfl : ad164 = ad166 := (by injection e166)
                        replace hx166_0 := (HB.out.cell (World.block_lt_of_cell? w _ hx166_0)).trans hx166_0
                        replace hx166_1 := (HB.out.cell (World.block_lt_of_cell? w _ hx166_1)).trans hx166_1
                        replace p166 := eq_true p166
                        replace q166 := eq_true q166
                        have p167 : 0 ≤ (x12_2 : Int) := of_decide_eq_true (by first | (with_reducible assumption) | assumption)
                        have q167 : x12_2 < (l0.length : Int) := of_decide_eq_true (by first | (with_reducible assumption) | assumption)
                        obtain ⟨ad167, e167, hx167_0, hx167_1⟩ := at_T30 HR0.out x12_2 p167 q167
                        obtain rfl : ad164 = ad167 := (by injection e167)
                        replace hx167_0 := (HB.out.cell (World.block_lt_of_cell? w _ hx167_0)).trans hx167_0
                        replace hx167_1 := (HB.out.cell (World.block_lt_of_cell? w _ hx167_1)).trans hx167_1
                        replace p167 := eq_true p167
                        replace q167 := eq_true q167
                        go_wp2
                        go_roundg k2
                        case measure => have := HJ5.out; have := HK2.out; omega
                        case rel => exact ⟨(wrap64 (x12_2 + 1)), (by first | rfl | (simp; done) | (simp [*]; done)), H', ⟨by have := HJ5.out; have := HK2.out; omega⟩, ⟨by repeat (first | (with_reducible first | exact HB.out | apply below_alloc | apply pw_below_drewN | apply below_drew1) | exact HB.out)⟩⟩
              · rw [if_neg c18] at H
                exact absurd H (by simp)
            · rw [if_neg c17] at H
              have c17b0 : decide (x12_2 < (l0.length : Int)) = false := decide_eq_false c17
              clear c17
              have H' := Aside0.mk H
              clear H
              go_wp2
              go_loopg [13, 14] k2 (fun kq v13 v14 w' => ∃ (x13_3 : List (S30)) (x14_3 : Int), v14 = .int .i64 x14_3 ∧ Aside0 (tattingref1_Grow.l1 kq l0 a1 a2 a3 a4 x13_3 x14_3 = some (r1, r2)) ∧ Aside0 (kq ≤ k2) ∧ Aside0 (Kd.R k30 30 w' w.heap.size (fun _ => True) v13 x13_3) ∧ Aside0 (Below w.heap.size w w'))
              case atStart => exact ⟨(([] : List (S30))), (0), (by first | rfl | (simp; done) | (simp [*]; done)), H', ⟨Nat.le_refl _⟩, ⟨by first | exact Kd.R_nil _ _ _ _ _ | exact Kd.N_nil _ _ _ _ _ | exact Kd.V_nil _ _ _ _ _ | exact Kd.Q_nil _ _ _ _ _ | exact Kd.S_nil _ _ _ _ _⟩, ⟨by repeat (first | (with_reducible first | exact HB.out | apply below_alloc | apply pw_below_drewN | apply below_drew1) | exact HB.out)⟩⟩
              case round =>
                clear H'
                try clear c1
                try clear p1
                try clear q1
                try clear hx1
                try clear c2
                try clear p2
                try clear p6
                try clear c7
                try clear c7b0
                try clear c8
                try clear c8b0
                try clear c9
                try clear c9b0
                try clear c10
                try clear c10b0
                try clear c11
                try clear c11b0
                try clear c12
                try clear c12b0
                try clear c13
                try clear c13b0
                try clear c14
                try clear c14b0
                try clear c15
                try clear c15b0
                try clear c16
                try clear p16
                try clear q16
                try clear hx16
                try clear c17
                try clear c17b0
                try clear c18
                try clear c18b0
                try clear c19
                try clear c19b0
                try clear c20
                try clear c20b0
                try clear c21
                try clear c21b0
                try clear c22
                try clear c22b0
                try clear hx164_0
                try clear hx164_1
                try clear hx165_0
                try clear hx165_1
                try clear hx166_0
                try clear hx166_1
                try clear hx167_0
                try clear hx167_1
                try clear p164
                try clear p165
                try clear p166
                try clear p167
                try clear p2
                try clear p6
                try clear q164
                try clear q165
                try clear q166
                try clear q167
                obtain ⟨x13_3, x14_3, rfl, HA, HK3, HO_13, HB⟩ := hrel
                cases gk with
                | zero => exact absurd HA.out (by simp [tattingref1_Grow.l1])
                | succ k3 =>
                  have H := HA.out
                  clear HA
                  simp only [tattingref1_Grow.l1] at H
                  by_cases c23 : x14_3 < a1
                  · rw [if_pos c23] at H
                    have c23b0 : decide (x14_3 < a1) = true := decide_eq_true c23
                    clear c23
                    by_cases c24 : x13_3.length < 8796093022208
                    · rw [if_pos c24] at H
                      have LMc24 := Aside0.mk c24
                      clear c24
                      obtain ⟨y168, hy168⟩ : ∃ y_ : List (S30), y_ = (x13_3 ++ [(⟨x14_3, x14_3⟩ : S30)]) := ⟨_, rfl⟩
                      replace H : (tattingref1_Grow.l1 k3 l0 a1 a2 a3 a4 y168 (wrap64 (x14_3 + 1))) = some (r1, r2) := by first | (rw [hy168]; with_reducible exact H) | (have H2_ := (Option.bind_some _ _).symm.trans H; rw [hy168]; with_reducible exact H2_) | (have H2_ := (Option.bind_some _ _).symm.trans H; with_reducible exact H2_) | with_reducible exact H | (rw [hy168]; exact H) | exact H
                      have Ny168 := Aside0.mk hy168
                      clear hy168
                      have H' := Aside0.mk H
                      clear H
                      go_wp2_with (first | ((with_reducible refine gate_builtin (b := .append) (xs := #[.tmp 114, .tmp 118]) rfl ?_); at_builtin; refine Kd.R_append k30 (w0 := w) w.heap.size rfl (.tmp 114) (.tmp 118) 25 30 (.agg #[(.int .i64 0), (.int .i64 0)]) 16 rfl Try.underlying25 info30 rfl (by decide) (by omega) u13 x13_3 (⟨x14_3, x14_3⟩ : S30) [.int .i64 x14_3, .int .i64 x14_3] (fun _ => True) (fun _ => False) rfl rfl ?aP (fun _ hk => hk.elim) ?aF ?aO ?aB ?aS ?aL ?_; (case aP => exact k30_mkM _ _ _ (⟨x14_3, x14_3⟩ : S30)); (case aB => exact (by repeat (first | (with_reducible first | exact HB.out | apply below_alloc | apply pw_below_drewN | apply below_drew1) | exact HB.out))); (case aF => exact (fun _ _ => trivial)); (case aO => exact (by (with_reducible repeat (first | apply Kd.R_alloc | apply Kd.R_drewN | apply Kd.R_drew)); exact HO_13.out)); (case aS => exact (below_size (by repeat (first | (with_reducible first | exact HB.out | apply below_alloc | apply pw_below_drewN | apply below_drew1) | exact HB.out)))); (case aL => have := LMc24.out; omega); intro v169 w25 ho hb hg hat; rw [← Ny168.out] at ho; have n0_ := Aside0.mk (hb); have n1_ := Aside0.mk (ho); clear HB; clear HO_13; have HB := n0_; have HO170 := n1_; clear n0_ n1_; clear ho hb hg hat))
                      go_roundg k3
                      case measure => have := HJ5.out; have := HK2.out; have := HK3.out; omega
                      case rel => exact ⟨(y168), (wrap64 (x14_3 + 1)), (by first | rfl | (simp; done) | (simp [*]; done)), H', ⟨by have := HJ5.out; have := HK2.out; have := HK3.out; omega⟩, ⟨by (with_reducible repeat (first | apply Kd.R_alloc | apply Kd.R_drewN | apply Kd.R_drew)); exact HO170.out⟩, ⟨by repeat (first | (with_reducible first | exact HB.out | apply below_alloc | apply pw_below_drewN | apply below_drew1) | exact HB.out)⟩⟩
                    · rw [if_neg c24] at H
                      exact absurd H (by simp)
                  · rw [if_neg c23] at H
                    have c23b0 : decide (x14_3 < a1) = false := decide_eq_false c23
                    clear c23
                    have H' := Aside0.mk H
                    clear H
                    go_wp2
                    go_loopg [13, 15] k3 (fun kq v13 v15 w' => ∃ (x13_4 : List (S30)) (x15_4 : Int), v15 = .int .i64 x15_4 ∧ Aside0 (tattingref1_Grow.l2 kq l0 a1 a2 a3 a4 x13_4 x15_4 = some (r1, r2)) ∧ Aside0 (kq ≤ k3) ∧ Aside0 (Kd.R k30 30 w' w.heap.size (fun _ => True) v13 x13_4) ∧ Aside0 (Below w.heap.size w w'))
                    case atStart => exact ⟨(x13_3), (0), (by first | rfl | (simp; done) | (simp [*]; done)), H', ⟨Nat.le_refl _⟩, ⟨by (with_reducible repeat (first | apply Kd.R_alloc | apply Kd.R_drewN | apply Kd.R_drew)); exact HO_13.out⟩, ⟨by repeat (first | (with_reducible first | exact HB.out | apply below_alloc | apply pw_below_drewN | apply below_drew1) | exact HB.out)⟩⟩
                    case round =>
                      clear H'
                      try clear c1
                      try clear p1
                      try clear q1
                      try clear hx1
                      try clear c2
                      try clear p2
                      try clear p6
                      try clear c7
                      try clear c7b0
                      try clear c8
                      try clear c8b0
                      try clear c9
                      try clear c9b0
                      try clear c10
                      try clear c10b0
                      try clear c11
                      try clear c11b0
                      try clear c12
                      try clear c12b0
                      try clear c13
                      try clear c13b0
                      try clear c14
                      try clear c14b0
                      try clear c15
                      try clear c15b0
                      try clear c16
                      try clear p16
                      try clear q16
                      try clear hx16
                      try clear c17
                      try clear c17b0
                      try clear c18
                      try clear c18b0
                      try clear c19
                      try clear c19b0
                      try clear c20
                      try clear c20b0
                      try clear c21
                      try clear c21b0
                      try clear c22
                      try clear c22b0
                      try clear c23
                      try clear c23b0
                      try clear c24
                      try clear hx164_0
                      try clear hx164_1
                      try clear hx165_0
                      try clear hx165_1
                      try clear hx166_0
                      try clear hx166_1
                      try clear hx167_0
                      try clear hx167_1
                      try clear p1
                      try clear p16
                      try clear p164
                      try clear p165
                      try clear p166
                      try clear p167
                      try clear p2
                      try clear p6
                      try clear q1
                      try clear q16
                      try clear q164
                      try clear q165
                      try clear q166
                      try clear q167
                      obtain ⟨x13_4, x15_4, rfl, HA, HK4, HO_13, HB⟩ := hrel
                      cases gk with
                      | zero => exact absurd HA.out (by simp [tattingref1_Grow.l2])
                      | succ k4 =>
                        have H := HA.out
                        clear HA
                        simp only [tattingref1_Grow.l2] at H
                        by_cases c26 : x15_4 < (l0.length : Int)
                        · rw [if_pos c26] at H
                          have c26b0 : decide (x15_4 < (l0.length : Int)) = true := decide_eq_true c26
                          clear c26
                          by_cases c27 : 0 ≤ x15_4
                          · rw [if_pos c27] at H
                            have c27b0 : decide (0 ≤ x15_4) = true := decide_eq_true c27
                            clear c27
                            by_cases c28 : x13_4.length < 8796093022208
                            · rw [if_pos c28] at H
                              have LMc28 := Aside0.mk c28
                              clear c28
                              obtain ⟨y173, hy173⟩ : ∃ y_ : List (S30), y_ = (x13_4 ++ [(⟨wrap64 (((rd_T30 l0 x15_4).f0) + a1), wrap64 (((rd_T30 l0 x15_4).f1) + a1)⟩ : S30)]) := ⟨_, rfl⟩
                              replace H : (tattingref1_Grow.l2 k4 l0 a1 a2 a3 a4 y173 (wrap64 (x15_4 + 1))) = some (r1, r2) := by first | (rw [hy173]; with_reducible exact H) | (have H2_ := (Option.bind_some _ _).symm.trans H; rw [hy173]; with_reducible exact H2_) | (have H2_ := (Option.bind_some _ _).symm.trans H; with_reducible exact H2_) | with_reducible exact H | (rw [hy173]; exact H) | exact H
                              have Ny173 := Aside0.mk hy173
                              clear hy173
                              have H' := Aside0.mk H
                              clear H
                              try go_wp2
                              have n0_ := Aside0.mk (Kd.R_drew HO_13.out)
                              have n1_ := Aside0.mk (below_drew1 HB.out)
                              clear HO_13
                              clear HB
                              have HO_13 := n0_
                              have HB := n1_
                              clear n0_ n1_
                              have p171 : 0 ≤ (x15_4 : Int) := of_decide_eq_true (by first | (with_reducible assumption) | assumption)
                              have q171 : x15_4 < (l0.length : Int) := of_decide_eq_true (by first | (with_reducible assumption) | assumption)
                              obtain ⟨ad171, e171, hx171_0, hx171_1⟩ := at_T30 HR0.out x15_4 p171 q171
                              have hw171_1 := hx171_1
                              have hw171_0 := hx171_0
                              cases e171
                              replace hx171_0 := (HB.out.cell (World.block_lt_of_cell? w _ hx171_0)).trans hx171_0
                              replace hx171_1 := (HB.out.cell (World.block_lt_of_cell? w _ hx171_1)).trans hx171_1
                              replace p171 := eq_true p171
                              replace q171 := eq_true q171
                              have p172 : 0 ≤ (x15_4 : Int) := of_decide_eq_true (by first | (with_reducible assumption) | assumption)
                              have q172 : x15_4 < (l0.length : Int) := of_decide_eq_true (by first | (with_reducible assumption) | assumption)
                              obtain ⟨ad172, e172, hx172_0, hx172_1⟩ := at_T30 HR0.out x15_4 p172 q172
                              have hw172_1 := hx172_1
                              have hw172_0 := hx172_0
                              obtain rfl : ad171 = ad172 := (by injection e172)
                              replace hx172_0 := (HB.out.cell (World.block_lt_of_cell? w _ hx172_0)).trans hx172_0
                              replace hx172_1 := (HB.out.cell (World.block_lt_of_cell? w _ hx172_1)).trans hx172_1
                              replace p172 := eq_true p172
                              replace q172 := eq_true q172
                              refine start_ (n := 19) (S := fun w' => w'.cell? (ad171.add ((x15_4).toNat * 2)) = some (.int .i64 ((rd_T30 l0 x15_4).f0)) ∧ w'.cell? ⟨(ad171.add ((x15_4).toNat * 2)).block, (ad171.add ((x15_4).toNat * 2)).off + 1, none⟩ = some (.int .i64 ((rd_T30 l0 x15_4).f1)) ∧ w'.cell? (ad171.add ((x15_4).toNat * 2)) = some (.int .i64 ((rd_T30 l0 x15_4).f0)) ∧ w'.cell? ⟨(ad171.add ((x15_4).toNat * 2)).block, (ad171.add ((x15_4).toNat * 2)).off + 1, none⟩ = some (.int .i64 ((rd_T30 l0 x15_4).f1))) (ds := []) #[false, false, false, false, false, false, false, false, false, false, false, false, false, false, false, false, false, false, false] (by kernel_rfl) rfl rfl ⟨((HB.out.cell (World.block_lt_of_cell? w _ hw171_0)).trans hw171_0), ((HB.out.cell (World.block_lt_of_cell? w _ hw171_1)).trans hw171_1), ((HB.out.cell (World.block_lt_of_cell? w _ hw172_0)).trans hw172_0), ((HB.out.cell (World.block_lt_of_cell? w _ hw172_1)).trans hw172_1)⟩ (fun hHeld => ?_); refine with_tabW tattingref1_Grow.tab16 tattingref1_Grow.bits16 (fun HT_ HW_ => ?_)
                              generalize wr.drew = w29 at HO_13 HB hx171_0 hx171_1 hx172_0 hx172_1 hHeld ⊢
                              refine pure_ (i := 0) (N := some 126) (v := ?_) (a' := ?_) #[true, false, false, false, false, false, false, false, false, false, false, false, false, false, false, false, false, false, false] rfl rfl (any_of HT_.out (by kernel_rfl)) (fun _ _ _ h => h) (Or.inl ⟨by rfl, ?_⟩) ?_ ?_
                              rotate_left
                              · intro w'
                                go_simp
                                with_reducible rfl
                              rotate_left
                              · simp only [Act.put, List.setIfInBounds_toArray, List.set_cons_zero, List.set_cons_succ, i64_w, i32_w]
                                rfl
                              refine pure_ (i := 1) (N := some 127) (v := ?_) (a' := ?_) #[true, true, false, false, false, false, false, false, false, false, false, false, false, false, false, false, false, false, false] rfl rfl (any_of HT_.out (by kernel_rfl)) (fun _ _ _ h => h) (Or.inl ⟨by rfl, ?_⟩) ?_ ?_
                              rotate_left
                              · intro w'
                                go_simp
                                with_reducible rfl
                              rotate_left
                              · simp only [Act.put, List.setIfInBounds_toArray, List.set_cons_zero, List.set_cons_succ, i64_w, i32_w]
                                rfl
                              refine pure_ (i := 2) (N := some 128) (v := ?_) (a' := ?_) #[true, true, true, false, false, false, false, false, false, false, false, false, false, false, false, false, false, false, false] rfl rfl (any_of HT_.out (by kernel_rfl)) (fun _ _ _ h => h) (Or.inl ⟨by rfl, ?_⟩) ?_ ?_
                              rotate_left
                              · intro w'
                                go_simp
                                with_reducible rfl
                              rotate_left
                              · simp only [Act.put, List.setIfInBounds_toArray, List.set_cons_zero, List.set_cons_succ, i64_w, i32_w]
                                rfl
                              refine pure_ (i := 3) (N := some 129) (v := ?_) (a' := ?_) #[true, true, true, true, false, false, false, false, false, false, false, false, false, false, false, false, false, false, false] rfl rfl (any_of HT_.out (by kernel_rfl)) (fun _ _ _ h => h) (Or.inl ⟨by rfl, ?_⟩) ?_ ?_
                              rotate_left
                              · intro w'
                                go_simp
                                with_reducible rfl
                              rotate_left
                              · simp only [Act.put, List.setIfInBounds_toArray, List.set_cons_zero, List.set_cons_succ, i64_w, i32_w]
                                rfl
                              refine pure_ (i := 4) (N := some 130) (v := ?_) (a' := ?_) #[true, true, true, true, true, false, false, false, false, false, false, false, false, false, false, false, false, false, false] rfl rfl (any_of HT_.out (by kernel_rfl)) (fun _ _ _ h => h) (Or.inl ⟨by rfl, ?_⟩) ?_ ?_
                              rotate_left
                              · intro w'
                                go_simp
                                with_reducible rfl
                              rotate_left
                              · simp only [Act.put, List.setIfInBounds_toArray, List.set_cons_zero, List.set_cons_succ, i64_w, i32_w]
                                rfl
                              refine pure_ (i := 6) (N := some 132) (v := ?_) (a' := ?_) #[true, true, true, true, true, false, true, false, false, false, false, false, false, false, false, false, false, false, false] rfl rfl (any_of HT_.out (by kernel_rfl)) (fun _ _ _ h => h) (Or.inl ⟨by rfl, ?_⟩) ?_ ?_
                              rotate_left
                              · intro w'
                                go_simp
                                with_reducible rfl
                              rotate_left
                              · simp only [Act.put, List.setIfInBounds_toArray, List.set_cons_zero, List.set_cons_succ, i64_w, i32_w]
                                rfl
                              refine pure_ (i := 8) (N := some 134) (v := ?_) (a' := ?_) #[true, true, true, true, true, false, true, false, true, false, false, false, false, false, false, false, false, false, false] rfl rfl (any_of HT_.out (by kernel_rfl)) (fun _ _ _ h => h) (Or.inl ⟨by rfl, ?_⟩) ?_ ?_
                              rotate_left
                              · intro w'
                                go_simp
                                with_reducible rfl
                              rotate_left
                              · simp only [Act.put, List.setIfInBounds_toArray, List.set_cons_zero, List.set_cons_succ, i64_w, i32_w]
                                rfl
                              refine pure_ (i := 9) (N := some 135) (v := ?_) (a' := ?_) #[true, true, true, true, true, false, true, false, true, true, false, false, false, false, false, false, false, false, false] rfl rfl (any_of HT_.out (by kernel_rfl)) (fun _ _ _ h => h) (Or.inl ⟨by rfl, ?_⟩) ?_ ?_
                              rotate_left
                              · intro w'
                                go_simp
                                with_reducible rfl
                              rotate_left
                              · simp only [Act.put, List.setIfInBounds_toArray, List.set_cons_zero, List.set_cons_succ, i64_w, i32_w]
                                rfl
                              refine pure_ (i := 10) (N := some 136) (v := ?_) (a' := ?_) #[true, true, true, true, true, false, true, false, true, true, true, false, false, false, false, false, false, false, false] rfl rfl (any_of HT_.out (by kernel_rfl)) (fun _ _ _ h => h) (Or.inl ⟨by rfl, ?_⟩) ?_ ?_
                              rotate_left
                              · intro w'
                                go_simp
                                with_reducible rfl
                              rotate_left
                              · simp only [Act.put, List.setIfInBounds_toArray, List.set_cons_zero, List.set_cons_succ, i64_w, i32_w]
                                rfl
                              refine pure_ (i := 11) (N := some 137) (v := ?_) (a' := ?_) #[true, true, true, true, true, false, true, false, true, true, true, true, false, false, false, false, false, false, false] rfl rfl (any_of HT_.out (by kernel_rfl)) (fun _ _ _ h => h) (Or.inl ⟨by rfl, ?_⟩) ?_ ?_
                              rotate_left
                              · intro w'
                                go_simp
                                with_reducible rfl
                              rotate_left
                              · simp only [Act.put, List.setIfInBounds_toArray, List.set_cons_zero, List.set_cons_succ, i64_w, i32_w]
                                rfl
                              refine pure_ (i := 13) (N := some 139) (v := ?_) (a' := ?_) #[true, true, true, true, true, false, true, false, true, true, true, true, false, true, false, false, false, false, false] rfl rfl (any_of HT_.out (by kernel_rfl)) (fun _ _ _ h => h) (Or.inl ⟨by rfl, ?_⟩) ?_ ?_
                              rotate_left
                              · intro w'
                                go_simp
                                with_reducible rfl
                              rotate_left
                              · simp only [Act.put, List.setIfInBounds_toArray, List.set_cons_zero, List.set_cons_succ, i64_w, i32_w]
                                rfl
                              refine take_ (i := 5) (N := some 131) (v := ?_) (a' := ?_) #[true, true, true, true, true, true, true, false, true, true, true, true, false, true, false, false, false, false, false] rfl rfl (take_ofW HT_.out HW_.out (by kernel_rfl)) (fun _ _ _ h => h) (Or.inl ⟨by rfl, ?_⟩) hHeld ?_ ?_
                              rotate_left
                              · rintro w' ⟨s0, s1, s2, s3⟩
                                go_simp
                                with_reducible rfl
                              rotate_left
                              · simp only [Act.put, List.setIfInBounds_toArray, List.set_cons_zero, List.set_cons_succ, i64_w, i32_w]
                                rfl
                              refine pure_ (i := 7) (N := some 133) (v := ?_) (a' := ?_) #[true, true, true, true, true, true, true, true, true, true, true, true, false, true, false, false, false, false, false] rfl rfl (any_of HT_.out (by kernel_rfl)) (fun _ _ _ h => h) (Or.inl ⟨by rfl, ?_⟩) ?_ ?_
                              rotate_left
                              · intro w'
                                go_simp
                                with_reducible rfl
                              rotate_left
                              · simp only [Act.put, List.setIfInBounds_toArray, List.set_cons_zero, List.set_cons_succ, i64_w, i32_w]
                                rfl
                              refine take_ (i := 12) (N := some 138) (v := ?_) (a' := ?_) #[true, true, true, true, true, true, true, true, true, true, true, true, true, true, false, false, false, false, false] rfl rfl (take_ofW HT_.out HW_.out (by kernel_rfl)) (fun _ _ _ h => h) (Or.inl ⟨by rfl, ?_⟩) hHeld ?_ ?_
                              rotate_left
                              · rintro w' ⟨s0, s1, s2, s3⟩
                                go_simp
                                with_reducible rfl
                              rotate_left
                              · simp only [Act.put, List.setIfInBounds_toArray, List.set_cons_zero, List.set_cons_succ, i64_w, i32_w]
                                rfl
                              refine pure_ (i := 14) (N := some 140) (v := ?_) (a' := ?_) #[true, true, true, true, true, true, true, true, true, true, true, true, true, true, true, false, false, false, false] rfl rfl (any_of HT_.out (by kernel_rfl)) (fun _ _ _ h => h) (Or.inl ⟨by rfl, ?_⟩) ?_ ?_
                              rotate_left
                              · intro w'
                                go_simp
                                with_reducible rfl
                              rotate_left
                              · simp only [Act.put, List.setIfInBounds_toArray, List.set_cons_zero, List.set_cons_succ, i64_w, i32_w]
                                rfl
                              refine pure_ (i := 15) (N := some 141) (v := ?_) (a' := ?_) #[true, true, true, true, true, true, true, true, true, true, true, true, true, true, true, true, false, false, false] rfl rfl (any_of HT_.out (by kernel_rfl)) (fun _ _ _ h => h) (Or.inl ⟨by rfl, ?_⟩) ?_ ?_
                              rotate_left
                              · intro w'
                                go_simp
                                with_reducible rfl
                              rotate_left
                              · simp only [Act.put, List.setIfInBounds_toArray, List.set_cons_zero, List.set_cons_succ, i64_w, i32_w]
                                rfl
                              refine one_ (i := 16) (N := some 142) #[true, true, true, true, true, true, true, true, true, true, true, true, true, true, true, true, true, false, false] rfl rfl (one_of HT_.out (by kernel_rfl)) (by decide) (fun K hK => ?_)
                              refine value_ (w1 := ?_) (v := ?_) (by rfl) rfl ?_ ?_
                              rotate_left 2
                              · go_simp
                                constructor
                                · rfl
                                · rfl
                              refine hK.out _ _ ⟨(World.cell?_alloc_lt _ _ _ (World.block_lt_of_cell? _ _ (((HB.out.cell (World.block_lt_of_cell? w _ hw171_0)).trans hw171_0)))).trans (((HB.out.cell (World.block_lt_of_cell? w _ hw171_0)).trans hw171_0)), (World.cell?_alloc_lt _ _ _ (World.block_lt_of_cell? _ _ (((HB.out.cell (World.block_lt_of_cell? w _ hw171_1)).trans hw171_1)))).trans (((HB.out.cell (World.block_lt_of_cell? w _ hw171_1)).trans hw171_1)), (World.cell?_alloc_lt _ _ _ (World.block_lt_of_cell? _ _ (((HB.out.cell (World.block_lt_of_cell? w _ hw172_0)).trans hw172_0)))).trans (((HB.out.cell (World.block_lt_of_cell? w _ hw172_0)).trans hw172_0)), (World.cell?_alloc_lt _ _ _ (World.block_lt_of_cell? _ _ (((HB.out.cell (World.block_lt_of_cell? w _ hw172_1)).trans hw172_1)))).trans (((HB.out.cell (World.block_lt_of_cell? w _ hw172_1)).trans hw172_1))⟩ (fun hHeld => ?_)
                              clear hK K
                              refine norm_ (a' := ?_) ?_ ?_
                              rotate_left
                              · show Act.put _ (some 142) _ = _
                                simp only [Act.put, List.setIfInBounds_toArray, List.set_cons_zero, List.set_cons_succ, i64_w, i32_w]
                                rfl
                              refine one_ (i := 17) (N := some 143) #[true, true, true, true, true, true, true, true, true, true, true, true, true, true, true, true, true, true, false] rfl rfl (one_of HT_.out (by kernel_rfl)) (by decide) (fun K hK => ?_)
                              refine Kd.R_append_step k30 (w0 := w) w.heap.size (by rfl) (.tmp 126) (.tmp 142) 25 30 (.agg #[(.int .i64 0), (.int .i64 0)]) 16 rfl Try.underlying25 info30 rfl (by decide) (by omega) u13 x13_4 (⟨wrap64 (((rd_T30 l0 x15_4).f0) + a1), wrap64 (((rd_T30 l0 x15_4).f1) + a1)⟩ : S30) [.int .i64 (wrap64 (((rd_T30 l0 x15_4).f0) + a1)), .int .i64 (wrap64 (((rd_T30 l0 x15_4).f1) + a1))] (fun _ => True) (fun _ => False) rfl rfl ?aP (fun _ hk => hk.elim) ?aF ?aO ?aB ?aS ?aL ?_
                              (case aP => exact k30_mkM _ _ _ (⟨wrap64 (((rd_T30 l0 x15_4).f0) + a1), wrap64 (((rd_T30 l0 x15_4).f1) + a1)⟩ : S30))
                              (case aB => exact (by repeat (first | (with_reducible first | exact HB.out | apply below_alloc | apply pw_below_drewN | apply below_drew1) | exact HB.out)))
                              (case aF => exact (fun _ _ => trivial))
                              (case aO => exact (by (with_reducible repeat (first | apply Kd.R_alloc | apply Kd.R_drewN | apply Kd.R_drew)); exact HO_13.out))
                              (case aS => exact (below_size (by repeat (first | (with_reducible first | exact HB.out | apply below_alloc | apply pw_below_drewN | apply below_drew1) | exact HB.out))))
                              (case aL => have := LMc28.out; omega)
                              intro v174 w30 ho hb hg hat
                              rw [← Ny173.out] at ho
                              have n0_ := Aside0.mk (hb)
                              have n1_ := Aside0.mk (ho)
                              clear HB
                              clear HO_13
                              have HB := n0_
                              have HO175 := n1_
                              clear n0_ n1_
                              clear ho hb hg hat
                              refine hK.out _ _ ⟨((HB.out.cell (World.block_lt_of_cell? w _ hw171_0)).trans hw171_0), ((HB.out.cell (World.block_lt_of_cell? w _ hw171_1)).trans hw171_1), ((HB.out.cell (World.block_lt_of_cell? w _ hw172_0)).trans hw172_0), ((HB.out.cell (World.block_lt_of_cell? w _ hw172_1)).trans hw172_1)⟩ (fun hHeld => ?_)
                              clear hK K
                              refine norm_ (a' := ?_) ?_ ?_
                              rotate_left
                              · show Act.put _ (some 143) _ = _
                                simp only [Act.put, List.setIfInBounds_toArray, List.set_cons_zero, List.set_cons_succ, i64_w, i32_w]
                                rfl
                              refine pure_ (i := 18) (N := some 13) (v := ?_) (a' := ?_) #[true, true, true, true, true, true, true, true, true, true, true, true, true, true, true, true, true, true, true] rfl rfl (any_of HT_.out (by kernel_rfl)) (fun _ _ _ h => h) (Or.inl ⟨by rfl, ?_⟩) ?_ ?_
                              rotate_left
                              · intro w'
                                go_simp
                                with_reducible rfl
                              rotate_left
                              · simp only [Act.put, List.setIfInBounds_toArray, List.set_cons_zero, List.set_cons_succ, i64_w, i32_w]
                                rfl
                              refine done_ (done_of HT_.out (by kernel_rfl)) ?_
                              try go_wp2
                              go_roundg k4
                              case measure => have := HJ5.out; have := HK2.out; have := HK3.out; have := HK4.out; omega
                              case rel => exact ⟨(y173), (wrap64 (x15_4 + 1)), (by first | rfl | (simp; done) | (simp [*]; done)), H', ⟨by have := HJ5.out; have := HK2.out; have := HK3.out; have := HK4.out; omega⟩, ⟨by (with_reducible repeat (first | apply Kd.R_alloc | apply Kd.R_drewN | apply Kd.R_drew)); exact HO175.out⟩, ⟨by repeat (first | (with_reducible first | exact HB.out | apply below_alloc | apply pw_below_drewN | apply below_drew1) | exact HB.out)⟩⟩
                            · rw [if_neg c28] at H
                              exact absurd H (by simp)
                          · rw [if_neg c27] at H
                            exact absurd H (by simp)
                        · rw [if_neg c26] at H
                          have c26b0 : decide (x15_4 < (l0.length : Int)) = false := decide_eq_false c26
                          clear c26
                          have H' := Aside0.mk H
                          clear H
                          go_wp2
                          go_loopg [13, 16] k4 (fun kq v13 v16 w' => ∃ (x13_5 : List (S30)) (x16_5 : Int), v16 = .int .i64 x16_5 ∧ Aside0 (tattingref1_Grow.l3 kq a2 a3 a4 x13_5 x16_5 = some (r1, r2)) ∧ Aside0 (kq ≤ k4) ∧ Aside0 (Kd.R k30 30 w' w.heap.size (fun _ => True) v13 x13_5) ∧ Aside0 (Below w.heap.size w w'))
                          case atStart => exact ⟨(x13_4), (0), (by first | rfl | (simp; done) | (simp [*]; done)), H', ⟨Nat.le_refl _⟩, ⟨by (with_reducible repeat (first | apply Kd.R_alloc | apply Kd.R_drewN | apply Kd.R_drew)); exact HO_13.out⟩, ⟨by repeat (first | (with_reducible first | exact HB.out | apply below_alloc | apply pw_below_drewN | apply below_drew1) | exact HB.out)⟩⟩
                          case round =>
                            clear H'
                            try clear c1
                            try clear p1
                            try clear q1
                            try clear hx1
                            try clear c2
                            try clear p2
                            try clear p6
                            try clear c7
                            try clear c7b0
                            try clear c8
                            try clear c8b0
                            try clear c9
                            try clear c9b0
                            try clear c10
                            try clear c10b0
                            try clear c11
                            try clear c11b0
                            try clear c12
                            try clear c12b0
                            try clear c13
                            try clear c13b0
                            try clear c14
                            try clear c14b0
                            try clear c15
                            try clear c15b0
                            try clear c16
                            try clear p16
                            try clear q16
                            try clear hx16
                            try clear c17
                            try clear c17b0
                            try clear p17
                            try clear q17
                            try clear hx17
                            try clear c18
                            try clear c18b0
                            try clear c19
                            try clear c19b0
                            try clear c20
                            try clear c20b0
                            try clear c21
                            try clear c21b0
                            try clear c22
                            try clear c22b0
                            try clear c23
                            try clear c23b0
                            try clear c24
                            try clear c26
                            try clear c26b0
                            try clear c27
                            try clear c27b0
                            try clear c28
                            try clear hx164_0
                            try clear hx164_1
                            try clear hx165_0
                            try clear hx165_1
                            try clear hx166_0
                            try clear hx166_1
                            try clear hx167_0
                            try clear hx167_1
                            try clear hx171_0
                            try clear hx171_1
                            try clear hx172_0
                            try clear hx172_1
                            try clear p1
                            try clear p16
                            try clear p164
                            try clear p165
                            try clear p166
                            try clear p167
                            try clear p171
                            try clear p172
                            try clear p2
                            try clear p6
                            try clear q1
                            try clear q16
                            try clear q164
                            try clear q165
                            try clear q166
                            try clear q167
                            try clear q171
                            try clear q172
                            obtain ⟨x13_5, x16_5, rfl, HA, HK5, HO_13, HB⟩ := hrel
                            cases gk with
                            | zero => exact absurd HA.out (by simp [tattingref1_Grow.l3])
                            | succ k5 =>
                              have H := HA.out
                              clear HA
                              simp only [tattingref1_Grow.l3] at H
                              by_cases c31 : x16_5 < a2
                              · rw [if_pos c31] at H
                                have c31b0 : decide (x16_5 < a2) = true := decide_eq_true c31
                                clear c31
                                by_cases c32 : x13_5.length < 8796093022208
                                · rw [if_pos c32] at H
                                  have LMc32 := Aside0.mk c32
                                  clear c32
                                  obtain ⟨y176, hy176⟩ : ∃ y_ : List (S30), y_ = (x13_5 ++ [(⟨wrap64 ((wrap64 (a3 - a2)) + x16_5), wrap64 ((wrap64 (a4 - a2)) + x16_5)⟩ : S30)]) := ⟨_, rfl⟩
                                  replace H : (tattingref1_Grow.l3 k5 a2 a3 a4 y176 (wrap64 (x16_5 + 1))) = some (r1, r2) := by first | (rw [hy176]; with_reducible exact H) | (have H2_ := (Option.bind_some _ _).symm.trans H; rw [hy176]; with_reducible exact H2_) | (have H2_ := (Option.bind_some _ _).symm.trans H; with_reducible exact H2_) | with_reducible exact H | (rw [hy176]; exact H) | exact H
                                  have Ny176 := Aside0.mk hy176
                                  clear hy176
                                  have H' := Aside0.mk H
                                  clear H
                                  go_wp2_with (first | ((with_reducible refine gate_builtin (b := .append) (xs := #[.tmp 149, .tmp 161]) rfl ?_); at_builtin; refine Kd.R_append k30 (w0 := w) w.heap.size rfl (.tmp 149) (.tmp 161) 25 30 (.agg #[(.int .i64 0), (.int .i64 0)]) 16 rfl Try.underlying25 info30 rfl (by decide) (by omega) u13 x13_5 (⟨wrap64 ((wrap64 (a3 - a2)) + x16_5), wrap64 ((wrap64 (a4 - a2)) + x16_5)⟩ : S30) [.int .i64 (wrap64 ((wrap64 (a3 - a2)) + x16_5)), .int .i64 (wrap64 ((wrap64 (a4 - a2)) + x16_5))] (fun _ => True) (fun _ => False) rfl rfl ?aP (fun _ hk => hk.elim) ?aF ?aO ?aB ?aS ?aL ?_; (case aP => exact k30_mkM _ _ _ (⟨wrap64 ((wrap64 (a3 - a2)) + x16_5), wrap64 ((wrap64 (a4 - a2)) + x16_5)⟩ : S30)); (case aB => exact (by repeat (first | (with_reducible first | exact HB.out | apply below_alloc | apply pw_below_drewN | apply below_drew1) | exact HB.out))); (case aF => exact (fun _ _ => trivial)); (case aO => exact (by (with_reducible repeat (first | apply Kd.R_alloc | apply Kd.R_drewN | apply Kd.R_drew)); exact HO_13.out)); (case aS => exact (below_size (by repeat (first | (with_reducible first | exact HB.out | apply below_alloc | apply pw_below_drewN | apply below_drew1) | exact HB.out)))); (case aL => have := LMc32.out; omega); intro v177 w33 ho hb hg hat; rw [← Ny176.out] at ho; have n0_ := Aside0.mk (hb); have n1_ := Aside0.mk (ho); clear HB; clear HO_13; have HB := n0_; have HO178 := n1_; clear n0_ n1_; clear ho hb hg hat))
                                  go_roundg k5
                                  case measure => have := HJ5.out; have := HK2.out; have := HK3.out; have := HK4.out; have := HK5.out; omega
                                  case rel => exact ⟨(y176), (wrap64 (x16_5 + 1)), (by first | rfl | (simp; done) | (simp [*]; done)), H', ⟨by have := HJ5.out; have := HK2.out; have := HK3.out; have := HK4.out; have := HK5.out; omega⟩, ⟨by (with_reducible repeat (first | apply Kd.R_alloc | apply Kd.R_drewN | apply Kd.R_drew)); exact HO178.out⟩, ⟨by repeat (first | (with_reducible first | exact HB.out | apply below_alloc | apply pw_below_drewN | apply below_drew1) | exact HB.out)⟩⟩
                                · rw [if_neg c32] at H
                                  exact absurd H (by simp)
                              · rw [if_neg c31] at H
                                have c31b0 : decide (x16_5 < a2) = false := decide_eq_false c31
                                clear c31
                                simp only [Option.some.injEq, Prod.mk.injEq] at H
                                obtain ⟨rfl, rfl⟩ := H
                                go_wp2
                                go_ret2
                                exact ⟨_, by first | rfl | (simp [errW_none, errW_some] <;> rfl) | (simp [*, errW_none, errW_some] <;> rfl), by (with_reducible repeat (first | apply Kd.R_alloc | apply Kd.R_drewN | apply Kd.R_drew)); exact HO_13.out, by repeat (first | (with_reducible first | exact HB.out | apply below_alloc | apply pw_below_drewN | apply below_drew1) | exact HB.out)⟩

end Go.Proofs.Ytamfpadkdkjalaa.PTrimGrows
