/- Words of the printer, those that are used. -/
import Derived.Test.YtjkjanegankdhaaGreatZPTopRowsx0
import Derived.Test.YtjkjanegankdhaaGreatZPTopRowsx1
import Derived.Test.YtjkjanegankdhaaGreatZPTopRowsx2
import Derived.Test.YtjkjanegankdhaaGreatZPTopRowsx3
import Derived.Test.YtjkjanegankdhaaGreatZPTopRowsx4
namespace Go.Proofs.YtjkjanegankdhaaGreat.PTopRows
open Go.RowKit Go.Proofs.YtjkjanegankdhaaGreatW.PrintWords Go.Proofs.YtjkjanegankdhaaGreatW.PrintLast Go.Proofs.YtjkjanegankdhaaGreatW.PrintMore
attribute [local go_sem] max2_int min2_int max_two min_two max_three min_three max_four min_four   -- for this text's walks alone
set_option linter.unusedVariables false
set_option linter.unusedSimpArgs false
/-! ### tattingtop_TopRows: function 7 -/
mutual
def tattingtop_TopRows.j0 : Nat → List Int → List Int → Bool → Option (Bool)
  | 0, _, _, _ => none
  | k + 1, x0, x1, x24 => if x24 = true then (some true) else ((tattingref1_Few.f k x0 4).bind fun t214 => ((tattingref1_Few.f k x1 4).bind fun t217 => ((rows_Front.f k t214 t217).bind fun t220 => ((delta_Of.f k t220).bind fun bt223 => ((hyyro_Rows.f t214 t217).bind fun t227 => ((croch_Rows.f t214 t217).bind fun t230 => (if bt223.2 = 0 then (if (t220.length : Int) = (wrap64 ((t217.length : Int) + 1)) then (if (bt223.1.length : Int) = (t217.length : Int) then (if (t227.length : Int) = (wrap64 ((t214.length : Int) + 1)) then (tattingtop_TopRows.j1 k t214 t217 t220 bt223.1 t227 t230 ((t230.length : Int) != (wrap64 ((t214.length : Int) + 1)))) else (tattingtop_TopRows.j1 k t214 t217 t220 bt223.1 t227 t230 true)) else (tattingtop_TopRows.j1 k t214 t217 t220 bt223.1 t227 t230 true)) else (tattingtop_TopRows.j1 k t214 t217 t220 bt223.1 t227 t230 true)) else (tattingtop_TopRows.j1 k t214 t217 t220 bt223.1 t227 t230 true))))))))
def tattingtop_TopRows.j1 : Nat → List Int → List Int → List Int → List Int → List (List Int) → List (List Int) → Bool → Option (Bool)
  | 0, _, _, _, _, _, _, _ => none
  | k + 1, x5, x6, x7, x8, x10, x11, x75 => if x75 = true then (some false) else (tattingtop_TopRows.l0 k x5 x6 x7 x8 x10 x11 ([] : List Int) 0)
def tattingtop_TopRows.l0 : Nat → List Int → List Int → List Int → List Int → List (List Int) → List (List Int) → List Int → Int → Option (Bool)
  | 0, _, _, _, _, _, _, _, _ => none
  | k + 1, x5, x6, x7, x8, x10, x11, x12, x13 => if x13 < (x6.length : Int) then (if 0 ≤ (wrap64 (x13 + 1)) then (if (wrap64 (x13 + 1)) < (x7.length : Int) then (if 0 ≤ x13 then (if x13 < (x7.length : Int) then (if x13 < (x8.length : Int) then (if (((rd x8 x13) == 1) != (decide ((rd x7 (wrap64 (x13 + 1))) > (rd x7 x13)))) = true then (tattingtop_TopRows.j3 k x5 x6 x7 x8 x10 x11 x12 x13 (decide ((rd x7 (wrap64 (x13 + 1))) > (rd x7 x13))) true) else (if 0 ≤ (x5.length : Int) then (if (x5.length : Int) < (x10.length : Int) then ((tattingref5_Get.f (rd_L3 x10 (x5.length : Int)) x13).bind fun t244 => (if (t244 == (decide ((rd x7 (wrap64 (x13 + 1))) > (rd x7 x13)))) = true then (tattingtop_TopRows.j3 k x5 x6 x7 x8 x10 x11 x12 x13 (decide ((rd x7 (wrap64 (x13 + 1))) > (rd x7 x13))) true) else (if (x5.length : Int) < (x11.length : Int) then ((tattingref5_Get.f (rd_L3 x11 (x5.length : Int)) x13).bind fun t246 => (tattingtop_TopRows.j3 k x5 x6 x7 x8 x10 x11 x12 x13 (decide ((rd x7 (wrap64 (x13 + 1))) > (rd x7 x13))) (t246 == (decide ((rd x7 (wrap64 (x13 + 1))) > (rd x7 x13)))))) else (none)))) else (none)) else (none))) else (none)) else (none)) else (none)) else (none)) else (none)) else ((hunt_Thresholds.f k x5 x6).bind fun t233 => ((tattingref1_SameInts.f k t233 x12).bind fun t236 => (if t236 = true then ((grid_Len.f k x5 x6).bind fun t237 => (if (x12.length : Int) = t237 then (if 0 < (x7.length : Int) then (if (rd x7 0) = 0 then (if 0 ≤ (x6.length : Int) then (if (x6.length : Int) < (x7.length : Int) then (some ((rd x7 (x6.length : Int)) == (x12.length : Int))) else (none)) else (none)) else (some false)) else (none)) else (some false))) else (some false))))
def tattingtop_TopRows.j3 : Nat → List Int → List Int → List Int → List Int → List (List Int) → List (List Int) → List Int → Int → Bool → Bool → Option (Bool)
  | 0, _, _, _, _, _, _, _, _, _, _ => none
  | k + 1, x5, x6, x7, x8, x10, x11, x12, x13, x14, x120 => if x120 = true then (some false) else (if x14 = true then (if x12.length < 17592186044416 then (tattingtop_TopRows.l0 k x5 x6 x7 x8 x10 x11 (x12 ++ [x13]) (wrap64 (x13 + 1))) else (none)) else (tattingtop_TopRows.l0 k x5 x6 x7 x8 x10 x11 x12 (wrap64 (x13 + 1))))
end
def tattingtop_TopRows.f (k : Nat) (l0 : List Int) (l1 : List Int) : Option (Bool) := (tattingtop_awake.f).bind fun t213 => (if t213 = true then (if (l0.length : Int) > 40 then (tattingtop_TopRows.j0 k l0 l1 true) else (tattingtop_TopRows.j0 k l0 l1 (decide ((l1.length : Int) > 130)))) else (some false))
theorem tattingtop_TopRows.mono_l : ∀ k, (∀ y0 y1 y2, LeO (tattingtop_TopRows.j0 k y0 y1 y2) (tattingtop_TopRows.j0 (k + 1) y0 y1 y2)) ∧ (∀ y0 y1 y2 y3 y4 y5 y6, LeO (tattingtop_TopRows.j1 k y0 y1 y2 y3 y4 y5 y6) (tattingtop_TopRows.j1 (k + 1) y0 y1 y2 y3 y4 y5 y6)) ∧ (∀ y0 y1 y2 y3 y4 y5 y6 y7, LeO (tattingtop_TopRows.l0 k y0 y1 y2 y3 y4 y5 y6 y7) (tattingtop_TopRows.l0 (k + 1) y0 y1 y2 y3 y4 y5 y6 y7)) ∧ (∀ y0 y1 y2 y3 y4 y5 y6 y7 y8 y9, LeO (tattingtop_TopRows.j3 k y0 y1 y2 y3 y4 y5 y6 y7 y8 y9) (tattingtop_TopRows.j3 (k + 1) y0 y1 y2 y3 y4 y5 y6 y7 y8 y9))
  | 0 => ⟨fun _ _ _ r h => by simp [tattingtop_TopRows.j0] at h, fun _ _ _ _ _ _ _ r h => by simp [tattingtop_TopRows.j1] at h, fun _ _ _ _ _ _ _ _ r h => by simp [tattingtop_TopRows.l0] at h, fun _ _ _ _ _ _ _ _ _ _ r h => by simp [tattingtop_TopRows.j3] at h⟩
  | k + 1 => by
    obtain ⟨ih0, ih1, ih2, ih3⟩ := tattingtop_TopRows.mono_l k
    refine ⟨?_, ?_, ?_, ?_⟩
    · intro y0 y1 y2
      unfold tattingtop_TopRows.j0
      repeat' first
      | (with_reducible exact ih0 _ _ _)
      | (with_reducible exact ih1 _ _ _ _ _ _ _)
      | (with_reducible exact ih2 _ _ _ _ _ _ _ _)
      | (with_reducible exact ih3 _ _ _ _ _ _ _ _ _ _)
      | (with_reducible exact delta_Of.mono _ _)
      | (with_reducible exact grid_Len.mono _ _ _)
      | (with_reducible exact hunt_Thresholds.mono _ _ _)
      | (with_reducible exact rows_Front.mono _ _ _)
      | (with_reducible exact tattingref1_Few.mono _ _ _)
      | (with_reducible exact tattingref1_SameInts.mono _ _ _)
      | (with_reducible exact LeO.refl _)
      | (with_reducible exact LeO.none _)
      | (with_reducible refine LeO.ite ?_ ?_)
      | (with_reducible refine LeO.bind ?_ (fun _ => ?_))
      | exact ih0 _ _ _
      | exact ih1 _ _ _ _ _ _ _
      | exact ih2 _ _ _ _ _ _ _ _
      | exact ih3 _ _ _ _ _ _ _ _ _ _
      | exact delta_Of.mono _ _
      | exact grid_Len.mono _ _ _
      | exact hunt_Thresholds.mono _ _ _
      | exact rows_Front.mono _ _ _
      | exact tattingref1_Few.mono _ _ _
      | exact tattingref1_SameInts.mono _ _ _
      | exact LeO.none _
      | refine LeO.ite ?_ ?_
      | refine LeO.bind ?_ (fun _ => ?_)
    · intro y0 y1 y2 y3 y4 y5 y6
      unfold tattingtop_TopRows.j1
      repeat' first
      | (with_reducible exact ih0 _ _ _)
      | (with_reducible exact ih1 _ _ _ _ _ _ _)
      | (with_reducible exact ih2 _ _ _ _ _ _ _ _)
      | (with_reducible exact ih3 _ _ _ _ _ _ _ _ _ _)
      | (with_reducible exact delta_Of.mono _ _)
      | (with_reducible exact grid_Len.mono _ _ _)
      | (with_reducible exact hunt_Thresholds.mono _ _ _)
      | (with_reducible exact rows_Front.mono _ _ _)
      | (with_reducible exact tattingref1_Few.mono _ _ _)
      | (with_reducible exact tattingref1_SameInts.mono _ _ _)
      | (with_reducible exact LeO.refl _)
      | (with_reducible exact LeO.none _)
      | (with_reducible refine LeO.ite ?_ ?_)
      | (with_reducible refine LeO.bind ?_ (fun _ => ?_))
      | exact ih0 _ _ _
      | exact ih1 _ _ _ _ _ _ _
      | exact ih2 _ _ _ _ _ _ _ _
      | exact ih3 _ _ _ _ _ _ _ _ _ _
      | exact delta_Of.mono _ _
      | exact grid_Len.mono _ _ _
      | exact hunt_Thresholds.mono _ _ _
      | exact rows_Front.mono _ _ _
      | exact tattingref1_Few.mono _ _ _
      | exact tattingref1_SameInts.mono _ _ _
      | exact LeO.none _
      | refine LeO.ite ?_ ?_
      | refine LeO.bind ?_ (fun _ => ?_)
    · intro y0 y1 y2 y3 y4 y5 y6 y7
      unfold tattingtop_TopRows.l0
      repeat' first
      | (with_reducible exact ih0 _ _ _)
      | (with_reducible exact ih1 _ _ _ _ _ _ _)
      | (with_reducible exact ih2 _ _ _ _ _ _ _ _)
      | (with_reducible exact ih3 _ _ _ _ _ _ _ _ _ _)
      | (with_reducible exact delta_Of.mono _ _)
      | (with_reducible exact grid_Len.mono _ _ _)
      | (with_reducible exact hunt_Thresholds.mono _ _ _)
      | (with_reducible exact rows_Front.mono _ _ _)
      | (with_reducible exact tattingref1_Few.mono _ _ _)
      | (with_reducible exact tattingref1_SameInts.mono _ _ _)
      | (with_reducible exact LeO.refl _)
      | (with_reducible exact LeO.none _)
      | (with_reducible refine LeO.ite ?_ ?_)
      | (with_reducible refine LeO.bind ?_ (fun _ => ?_))
      | exact ih0 _ _ _
      | exact ih1 _ _ _ _ _ _ _
      | exact ih2 _ _ _ _ _ _ _ _
      | exact ih3 _ _ _ _ _ _ _ _ _ _
      | exact delta_Of.mono _ _
      | exact grid_Len.mono _ _ _
      | exact hunt_Thresholds.mono _ _ _
      | exact rows_Front.mono _ _ _
      | exact tattingref1_Few.mono _ _ _
      | exact tattingref1_SameInts.mono _ _ _
      | exact LeO.none _
      | refine LeO.ite ?_ ?_
      | refine LeO.bind ?_ (fun _ => ?_)
    · intro y0 y1 y2 y3 y4 y5 y6 y7 y8 y9
      unfold tattingtop_TopRows.j3
      repeat' first
      | (with_reducible exact ih0 _ _ _)
      | (with_reducible exact ih1 _ _ _ _ _ _ _)
      | (with_reducible exact ih2 _ _ _ _ _ _ _ _)
      | (with_reducible exact ih3 _ _ _ _ _ _ _ _ _ _)
      | (with_reducible exact delta_Of.mono _ _)
      | (with_reducible exact grid_Len.mono _ _ _)
      | (with_reducible exact hunt_Thresholds.mono _ _ _)
      | (with_reducible exact rows_Front.mono _ _ _)
      | (with_reducible exact tattingref1_Few.mono _ _ _)
      | (with_reducible exact tattingref1_SameInts.mono _ _ _)
      | (with_reducible exact LeO.refl _)
      | (with_reducible exact LeO.none _)
      | (with_reducible refine LeO.ite ?_ ?_)
      | (with_reducible refine LeO.bind ?_ (fun _ => ?_))
      | exact ih0 _ _ _
      | exact ih1 _ _ _ _ _ _ _
      | exact ih2 _ _ _ _ _ _ _ _
      | exact ih3 _ _ _ _ _ _ _ _ _ _
      | exact delta_Of.mono _ _
      | exact grid_Len.mono _ _ _
      | exact hunt_Thresholds.mono _ _ _
      | exact rows_Front.mono _ _ _
      | exact tattingref1_Few.mono _ _ _
      | exact tattingref1_SameInts.mono _ _ _
      | exact LeO.none _
      | refine LeO.ite ?_ ?_
      | refine LeO.bind ?_ (fun _ => ?_)
theorem tattingtop_TopRows.mono : ∀ a0 a1 k, LeO (tattingtop_TopRows.f k a0 a1) (tattingtop_TopRows.f (k + 1) a0 a1) := by
  intro a0 a1 k
  obtain ⟨ih0, ih1, ih2, ih3⟩ := tattingtop_TopRows.mono_l k
  unfold tattingtop_TopRows.f
  repeat' first
      | (with_reducible exact ih0 _ _ _)
      | (with_reducible exact ih1 _ _ _ _ _ _ _)
      | (with_reducible exact ih2 _ _ _ _ _ _ _ _)
      | (with_reducible exact ih3 _ _ _ _ _ _ _ _ _ _)
      | (with_reducible exact delta_Of.mono _ _)
      | (with_reducible exact grid_Len.mono _ _ _)
      | (with_reducible exact hunt_Thresholds.mono _ _ _)
      | (with_reducible exact rows_Front.mono _ _ _)
      | (with_reducible exact tattingref1_Few.mono _ _ _)
      | (with_reducible exact tattingref1_SameInts.mono _ _ _)
      | (with_reducible exact LeO.refl _)
      | (with_reducible exact LeO.none _)
      | (with_reducible refine LeO.ite ?_ ?_)
      | (with_reducible refine LeO.bind ?_ (fun _ => ?_))
      | exact ih0 _ _ _
      | exact ih1 _ _ _ _ _ _ _
      | exact ih2 _ _ _ _ _ _ _ _
      | exact ih3 _ _ _ _ _ _ _ _ _ _
      | exact delta_Of.mono _ _
      | exact grid_Len.mono _ _ _
      | exact hunt_Thresholds.mono _ _ _
      | exact rows_Front.mono _ _ _
      | exact tattingref1_Few.mono _ _ _
      | exact tattingref1_SameInts.mono _ _ _
      | exact LeO.none _
      | refine LeO.ite ?_ ?_
      | refine LeO.bind ?_ (fun _ => ?_)
set_option maxHeartbeats 8000000 in
set_option maxRecDepth 100000 in
theorem tattingtop_TopRows.calls (k : Nat) (A0 : Option Addr) (c0 : Nat) (l0 : List Int) (A1 : Option Addr) (c1 : Nat) (l1 : List Int) (r : Bool) (w : World) (hr0 : Kd.C (Kd.int .i64) w A0 l0.length l0) (hc0 : l0.length ≤ c0) (hr1 : Kd.C (Kd.int .i64) w A1 l1.length l1) (hc1 : l1.length ≤ c1) (h : tattingtop_TopRows.f k l0 l1 = some r) (HRT : Aside0 (r = true)) :
    Calls Tryz.prog 7 #[.slice A0 l0.length c0, .slice A1 l1.length c1] w fun e w' => e = .returned (.bool r) ∧ Below w.heap.size w w' := by
  have HR0 := Aside0.mk hr0
  have HC0 := Aside0.mk hc0
  clear hr0 hc0
  have HR1 := Aside0.mk hr1
  have HC1 := Aside0.mk hc1
  clear hr1 hc1
  have HB := Aside0.mk (Below.refl w.heap.size w)
  have H : ((tattingtop_awake.f).bind fun t213 => (if t213 = true then (if (l0.length : Int) > 40 then (tattingtop_TopRows.j0 k l0 l1 true) else (tattingtop_TopRows.j0 k l0 l1 (decide ((l1.length : Int) > 130)))) else (some false))) = some r := h
  clear h
  replace H := Option.bind_eq_some_iff.mp H
  obtain ⟨t213, A30, H⟩ := H
  replace H : (if t213 = true then (if (l0.length : Int) > 40 then (tattingtop_TopRows.j0 k l0 l1 true) else (tattingtop_TopRows.j0 k l0 l1 (decide ((l1.length : Int) > 130)))) else (some false)) = some r := H
  have A3 := Aside0.mk A30
  clear A30
  by_cases c4 : t213 = true
  · subst c4
    have H1 : (if (l0.length : Int) > 40 then (tattingtop_TopRows.j0 k l0 l1 true) else (tattingtop_TopRows.j0 k l0 l1 (decide ((l1.length : Int) > 130)))) = some r := by rw [if_pos rfl] at H; exact H
    clear H
    have H := H1
    clear H1
    have HC5 := Aside0.mk H
    clear H
    go_enter Tryz.func7, Tryz.ntmps7
    go_upto_region 3 with (first | (go_at_call 9; (with_reducible refine (tattingtop_awake.calls  true _ A3.out).mono ?_); rintro e w6 ⟨rfl, hb⟩; have n0_ := Aside0.mk (below_step (by repeat (first | (with_reducible first | exact HB.out | apply below_alloc | apply pw_below_drewN | apply below_drew1) | exact HB.out)) hb); clear HB; have HB := n0_; clear n0_; (try clear hb); (try clear hb2); (try clear hk); (try clear hi)))
    repeat (go_quiet (first | (go_at_call 9; (with_reducible refine (tattingtop_awake.calls  true _ A3.out).mono ?_); rintro e w6 ⟨rfl, hb⟩; have n0_ := Aside0.mk (below_step (by repeat (first | (with_reducible first | exact HB.out | apply below_alloc | apply pw_below_drewN | apply below_drew1) | exact HB.out)) hb); clear HB; have HB := n0_; clear n0_; (try clear hb); (try clear hb2); (try clear hk); (try clear hi))); go_upto_region 3 with (first | (go_at_call 9; (with_reducible refine (tattingtop_awake.calls  true _ A3.out).mono ?_); rintro e w6 ⟨rfl, hb⟩; have n0_ := Aside0.mk (below_step (by repeat (first | (with_reducible first | exact HB.out | apply below_alloc | apply pw_below_drewN | apply below_drew1) | exact HB.out)) hb); clear HB; have HB := n0_; clear n0_; (try clear hb); (try clear hb2); (try clear hk); (try clear hi))))
    (try simp only [Act.put, List.setIfInBounds_toArray, List.set_cons_zero, List.set_cons_succ])
    go_cut [24] (fun v24 wc => ∃ (kq : Nat) (x24_4 : Bool), v24 = .bool x24_4 ∧ Aside0 (tattingtop_TopRows.j0 kq l0 l1 x24_4 = some r) ∧ Aside0 (kq ≤ k) ∧ Aside0 (Below w.heap.size w wc))
    case first =>
      have H := HC5.out
      clear HC5
      by_cases c7 : (l0.length : Int) > 40
      · rw [if_pos c7] at H
        have c7b0 : decide (40 < (l0.length : Int)) = true := decide_eq_true c7
        have c7b1 : decide (40 < l0.length) = true := decide_eq_true (by omega)
        clear c7
        (first | rw [c7b0] | (simp only [i64_w, i32_w]; rw [c7b0]) | skip)
        have H' := Aside0.mk H
        clear H
        go_wp2
        repeat (go_quiet (fail); try go_wp2)
        go_meet
        case rel => exact ⟨_, (true), (by first | rfl | (simp; done) | (simp [*]; done)), H', ⟨by first | omega | exact Nat.le_refl _⟩, ⟨by repeat (first | (with_reducible first | exact HB.out | apply below_alloc | apply pw_below_drewN | apply below_drew1) | exact HB.out)⟩⟩
      · rw [if_neg c7] at H
        have c7b0 : decide (40 < (l0.length : Int)) = false := decide_eq_false c7
        have c7b1 : decide (40 < l0.length) = false := decide_eq_false (by omega)
        clear c7
        (first | rw [c7b0] | (simp only [i64_w, i32_w]; rw [c7b0]) | skip)
        have H' := Aside0.mk H
        clear H
        go_wp2
        repeat (go_quiet (fail); try go_wp2)
        go_meet
        case rel => exact ⟨_, (decide ((l1.length : Int) > 130)), (by first | rfl | (simp; done) | (simp [*]; done)), H', ⟨by first | omega | exact Nat.le_refl _⟩, ⟨by repeat (first | (with_reducible first | exact HB.out | apply below_alloc | apply pw_below_drewN | apply below_drew1) | exact HB.out)⟩⟩
    case rest =>
      clear HC5
      try clear c1
      try clear p2
      try clear c4
      try clear c7
      try clear c7b0
      try clear c7b1
      obtain ⟨kq, x24_4, rfl, HA, HJ4, HB⟩ := hcut
      cases kq with
      | zero => exact absurd HA.out (by simp [tattingtop_TopRows.j0])
      | succ kj4 =>
        have H := HA.out
        clear HA
        simp only [tattingtop_TopRows.j0] at H
        by_cases c8 : x24_4 = true
        · subst c8
          have H1 : (some true) = some r := by rw [if_pos rfl] at H; exact H
          clear H
          have H := H1
          clear H1
          obtain rfl := Option.some.inj H
          go_wp2
          repeat (go_quiet (fail); try go_wp2)
          go_ret
          exact ⟨by first | rfl | (simp [errW_none, errW_some] <;> rfl) | (simp [*, errW_none, errW_some] <;> rfl), by repeat (first | (with_reducible first | exact HB.out | apply below_alloc | apply pw_below_drewN | apply below_drew1) | exact HB.out)⟩
        · replace c8 := Bool.eq_false_iff.mpr c8
          subst c8
          have H1 : ((tattingref1_Few.f kj4 l0 4).bind fun t214 => ((tattingref1_Few.f kj4 l1 4).bind fun t217 => ((rows_Front.f kj4 t214 t217).bind fun t220 => ((delta_Of.f kj4 t220).bind fun bt223 => ((hyyro_Rows.f t214 t217).bind fun t227 => ((croch_Rows.f t214 t217).bind fun t230 => (if bt223.2 = 0 then (if (t220.length : Int) = (wrap64 ((t217.length : Int) + 1)) then (if (bt223.1.length : Int) = (t217.length : Int) then (if (t227.length : Int) = (wrap64 ((t214.length : Int) + 1)) then (tattingtop_TopRows.j1 kj4 t214 t217 t220 bt223.1 t227 t230 ((t230.length : Int) != (wrap64 ((t214.length : Int) + 1)))) else (tattingtop_TopRows.j1 kj4 t214 t217 t220 bt223.1 t227 t230 true)) else (tattingtop_TopRows.j1 kj4 t214 t217 t220 bt223.1 t227 t230 true)) else (tattingtop_TopRows.j1 kj4 t214 t217 t220 bt223.1 t227 t230 true)) else (tattingtop_TopRows.j1 kj4 t214 t217 t220 bt223.1 t227 t230 true)))))))) = some r := by rw [if_neg (show ¬ (false = true) by decide)] at H; exact H
          clear H
          have H := H1
          clear H1
          replace H := Option.bind_eq_some_iff.mp H
          obtain ⟨t214, A90, H⟩ := H
          replace H : ((tattingref1_Few.f kj4 l1 4).bind fun t217 => ((rows_Front.f kj4 t214 t217).bind fun t220 => ((delta_Of.f kj4 t220).bind fun bt223 => ((hyyro_Rows.f t214 t217).bind fun t227 => ((croch_Rows.f t214 t217).bind fun t230 => (if bt223.2 = 0 then (if (t220.length : Int) = (wrap64 ((t217.length : Int) + 1)) then (if (bt223.1.length : Int) = (t217.length : Int) then (if (t227.length : Int) = (wrap64 ((t214.length : Int) + 1)) then (tattingtop_TopRows.j1 kj4 t214 t217 t220 bt223.1 t227 t230 ((t230.length : Int) != (wrap64 ((t214.length : Int) + 1)))) else (tattingtop_TopRows.j1 kj4 t214 t217 t220 bt223.1 t227 t230 true)) else (tattingtop_TopRows.j1 kj4 t214 t217 t220 bt223.1 t227 t230 true)) else (tattingtop_TopRows.j1 kj4 t214 t217 t220 bt223.1 t227 t230 true)) else (tattingtop_TopRows.j1 kj4 t214 t217 t220 bt223.1 t227 t230 true))))))) = some r := H
          have A9 := Aside0.mk A90
          clear A90
          replace H := Option.bind_eq_some_iff.mp H
          obtain ⟨t217, A100, H⟩ := H
          replace H : ((rows_Front.f kj4 t214 t217).bind fun t220 => ((delta_Of.f kj4 t220).bind fun bt223 => ((hyyro_Rows.f t214 t217).bind fun t227 => ((croch_Rows.f t214 t217).bind fun t230 => (if bt223.2 = 0 then (if (t220.length : Int) = (wrap64 ((t217.length : Int) + 1)) then (if (bt223.1.length : Int) = (t217.length : Int) then (if (t227.length : Int) = (wrap64 ((t214.length : Int) + 1)) then (tattingtop_TopRows.j1 kj4 t214 t217 t220 bt223.1 t227 t230 ((t230.length : Int) != (wrap64 ((t214.length : Int) + 1)))) else (tattingtop_TopRows.j1 kj4 t214 t217 t220 bt223.1 t227 t230 true)) else (tattingtop_TopRows.j1 kj4 t214 t217 t220 bt223.1 t227 t230 true)) else (tattingtop_TopRows.j1 kj4 t214 t217 t220 bt223.1 t227 t230 true)) else (tattingtop_TopRows.j1 kj4 t214 t217 t220 bt223.1 t227 t230 true)))))) = some r := H
          have A10 := Aside0.mk A100
          clear A100
          replace H := Option.bind_eq_some_iff.mp H
          obtain ⟨t220, A110, H⟩ := H
          replace H : ((delta_Of.f kj4 t220).bind fun bt223 => ((hyyro_Rows.f t214 t217).bind fun t227 => ((croch_Rows.f t214 t217).bind fun t230 => (if bt223.2 = 0 then (if (t220.length : Int) = (wrap64 ((t217.length : Int) + 1)) then (if (bt223.1.length : Int) = (t217.length : Int) then (if (t227.length : Int) = (wrap64 ((t214.length : Int) + 1)) then (tattingtop_TopRows.j1 kj4 t214 t217 t220 bt223.1 t227 t230 ((t230.length : Int) != (wrap64 ((t214.length : Int) + 1)))) else (tattingtop_TopRows.j1 kj4 t214 t217 t220 bt223.1 t227 t230 true)) else (tattingtop_TopRows.j1 kj4 t214 t217 t220 bt223.1 t227 t230 true)) else (tattingtop_TopRows.j1 kj4 t214 t217 t220 bt223.1 t227 t230 true)) else (tattingtop_TopRows.j1 kj4 t214 t217 t220 bt223.1 t227 t230 true))))) = some r := H
          have A11 := Aside0.mk A110
          clear A110
          replace H := Option.bind_eq_some_iff.mp H
          obtain ⟨⟨t223, t224⟩, A120, H⟩ := H
          replace H : ((hyyro_Rows.f t214 t217).bind fun t227 => ((croch_Rows.f t214 t217).bind fun t230 => (if t224 = 0 then (if (t220.length : Int) = (wrap64 ((t217.length : Int) + 1)) then (if (t223.length : Int) = (t217.length : Int) then (if (t227.length : Int) = (wrap64 ((t214.length : Int) + 1)) then (tattingtop_TopRows.j1 kj4 t214 t217 t220 t223 t227 t230 ((t230.length : Int) != (wrap64 ((t214.length : Int) + 1)))) else (tattingtop_TopRows.j1 kj4 t214 t217 t220 t223 t227 t230 true)) else (tattingtop_TopRows.j1 kj4 t214 t217 t220 t223 t227 t230 true)) else (tattingtop_TopRows.j1 kj4 t214 t217 t220 t223 t227 t230 true)) else (tattingtop_TopRows.j1 kj4 t214 t217 t220 t223 t227 t230 true)))) = some r := H
          have A12 := Aside0.mk A120
          clear A120
          replace H := Option.bind_eq_some_iff.mp H
          obtain ⟨t227, A130, H⟩ := H
          replace H : ((croch_Rows.f t214 t217).bind fun t230 => (if t224 = 0 then (if (t220.length : Int) = (wrap64 ((t217.length : Int) + 1)) then (if (t223.length : Int) = (t217.length : Int) then (if (t227.length : Int) = (wrap64 ((t214.length : Int) + 1)) then (tattingtop_TopRows.j1 kj4 t214 t217 t220 t223 t227 t230 ((t230.length : Int) != (wrap64 ((t214.length : Int) + 1)))) else (tattingtop_TopRows.j1 kj4 t214 t217 t220 t223 t227 t230 true)) else (tattingtop_TopRows.j1 kj4 t214 t217 t220 t223 t227 t230 true)) else (tattingtop_TopRows.j1 kj4 t214 t217 t220 t223 t227 t230 true)) else (tattingtop_TopRows.j1 kj4 t214 t217 t220 t223 t227 t230 true))) = some r := H
          have A13 := Aside0.mk A130
          clear A130
          replace H := Option.bind_eq_some_iff.mp H
          obtain ⟨t230, A140, H⟩ := H
          replace H : (if t224 = 0 then (if (t220.length : Int) = (wrap64 ((t217.length : Int) + 1)) then (if (t223.length : Int) = (t217.length : Int) then (if (t227.length : Int) = (wrap64 ((t214.length : Int) + 1)) then (tattingtop_TopRows.j1 kj4 t214 t217 t220 t223 t227 t230 ((t230.length : Int) != (wrap64 ((t214.length : Int) + 1)))) else (tattingtop_TopRows.j1 kj4 t214 t217 t220 t223 t227 t230 true)) else (tattingtop_TopRows.j1 kj4 t214 t217 t220 t223 t227 t230 true)) else (tattingtop_TopRows.j1 kj4 t214 t217 t220 t223 t227 t230 true)) else (tattingtop_TopRows.j1 kj4 t214 t217 t220 t223 t227 t230 true)) = some r := H
          have A14 := Aside0.mk A140
          clear A140
          have HC15 := Aside0.mk H
          clear H
          go_upto_region 9 with (first | (go_at_call 10; (with_reducible refine (tattingref1_Few.calls kj4 _ _ l0 4 t214 _ ?side1 ?side2 A9.out).mono ?_); (case side1 => repeat (first | exact (Kd.C_below HR0.out HB.out) | (with_reducible refine Kd.C_alloc ?_ _) | (with_reducible refine Kd.C_drewN ?_ _) | (with_reducible refine Kd.C_drew ?_))); (case side2 => exact HC0.out); rintro e w16 ⟨v215, rfl, ho0, hb⟩; have n0_ := Aside0.mk (Kd.R_lower ho0 (below_size (by repeat (first | (with_reducible first | exact HB.out | apply below_alloc | apply pw_below_drewN | apply below_drew1) | exact HB.out)))); have n1_ := Aside0.mk (below_step (by repeat (first | (with_reducible first | exact HB.out | apply below_alloc | apply pw_below_drewN | apply below_drew1) | exact HB.out)) hb); clear HB; have HO216 := n0_; have HB := n1_; clear n0_ n1_; (try clear hb); (try clear hb2); (try clear hk); (try clear hi); (try clear ho0)) | (go_at_call 10; (with_reducible refine (tattingref1_Few.calls kj4 _ _ l1 4 t217 _ ?side1 ?side2 A10.out).mono ?_); (case side1 => repeat (first | exact (Kd.C_below HR1.out HB.out) | (with_reducible refine Kd.C_alloc ?_ _) | (with_reducible refine Kd.C_drewN ?_ _) | (with_reducible refine Kd.C_drew ?_))); (case side2 => exact HC1.out); rintro e w17 ⟨v218, rfl, ho0, hb⟩; have n0_ := Aside0.mk (Kd.R_elder' (by (with_reducible repeat (first | apply Kd.R_alloc | apply Kd.R_drewN | apply Kd.R_drew)); exact HO216.out) (Kd.R_base ho0) hb); have n1_ := Aside0.mk (Kd.R_lower (Kd.R_new' ho0 (Kd.R_lt (by (with_reducible repeat (first | apply Kd.R_alloc | apply Kd.R_drewN | apply Kd.R_drew)); exact HO216.out))) (below_size (by repeat (first | (with_reducible first | exact HB.out | apply below_alloc | apply pw_below_drewN | apply below_drew1) | exact HB.out)))); have n2_ := Aside0.mk (below_step (by repeat (first | (with_reducible first | exact HB.out | apply below_alloc | apply pw_below_drewN | apply below_drew1) | exact HB.out)) hb); clear HO216; clear HB; have HO216 := n0_; have HO219 := n1_; have HB := n2_; clear n0_ n1_ n2_; (try clear hb); (try clear hb2); (try clear hk); (try clear hi); (try clear ho0); obtain ⟨Ao18, co18, eo18⟩ := Kd.R_slice HO216.out; subst eo18; obtain ⟨Ao19, co19, eo19⟩ := Kd.R_slice HO219.out; subst eo19) | (go_at_call 26; (with_reducible refine (rows_Front.calls kj4 _ _ t214 _ _ t217 t220 _ ?side1 ?side2 ?side3 ?side4 A11.out).mono ?_); (case side1 => repeat (first | exact (Kd.R_reads' HO216.out).2.2 | (with_reducible refine Kd.C_alloc ?_ _) | (with_reducible refine Kd.C_drewN ?_ _) | (with_reducible refine Kd.C_drew ?_))); (case side2 => exact (Kd.R_reads' HO216.out).2.1); (case side3 => repeat (first | exact (Kd.R_reads' HO219.out).2.2 | (with_reducible refine Kd.C_alloc ?_ _) | (with_reducible refine Kd.C_drewN ?_ _) | (with_reducible refine Kd.C_drew ?_))); (case side4 => exact (Kd.R_reads' HO219.out).2.1); rintro e w20 ⟨v221, rfl, ho0, hb⟩; have n0_ := Aside0.mk (Kd.R_elder' (by (with_reducible repeat (first | apply Kd.R_alloc | apply Kd.R_drewN | apply Kd.R_drew)); exact HO216.out) (Kd.R_base ho0) hb); have n1_ := Aside0.mk (Kd.R_elder' (by (with_reducible repeat (first | apply Kd.R_alloc | apply Kd.R_drewN | apply Kd.R_drew)); exact HO219.out) (Kd.R_base ho0) hb); have n2_ := Aside0.mk (Kd.R_lower (Kd.R_new' (Kd.R_new' ho0 (Kd.R_lt (by (with_reducible repeat (first | apply Kd.R_alloc | apply Kd.R_drewN | apply Kd.R_drew)); exact HO216.out))) (Kd.R_lt (by (with_reducible repeat (first | apply Kd.R_alloc | apply Kd.R_drewN | apply Kd.R_drew)); exact HO219.out))) (below_size (by repeat (first | (with_reducible first | exact HB.out | apply below_alloc | apply pw_below_drewN | apply below_drew1) | exact HB.out)))); have n3_ := Aside0.mk (below_step (by repeat (first | (with_reducible first | exact HB.out | apply below_alloc | apply pw_below_drewN | apply below_drew1) | exact HB.out)) hb); clear HO216; clear HO219; clear HB; have HO216 := n0_; have HO219 := n1_; have HO222 := n2_; have HB := n3_; clear n0_ n1_ n2_ n3_; (try clear hb); (try clear hb2); (try clear hk); (try clear hi); (try clear ho0); obtain ⟨Ao21, co21, eo21⟩ := Kd.R_slice HO222.out; subst eo21) | (go_at_call 27; (with_reducible refine (delta_Of.calls kj4 _ _ t220 t223 t224 _ ?side1 ?side2 A12.out).mono ?_); (case side1 => repeat (first | exact (Kd.R_reads' HO222.out).2.2 | (with_reducible refine Kd.C_alloc ?_ _) | (with_reducible refine Kd.C_drewN ?_ _) | (with_reducible refine Kd.C_drew ?_))); (case side2 => exact (Kd.R_reads' HO222.out).2.1); rintro e w22 ⟨v225, rfl, ho0, hb⟩; have n0_ := Aside0.mk (Kd.R_below (by (with_reducible repeat (first | apply Kd.R_alloc | apply Kd.R_drewN | apply Kd.R_drew)); exact HO216.out) hb); have n1_ := Aside0.mk (Kd.R_below (by (with_reducible repeat (first | apply Kd.R_alloc | apply Kd.R_drewN | apply Kd.R_drew)); exact HO219.out) hb); have n2_ := Aside0.mk (Kd.R_below (by (with_reducible repeat (first | apply Kd.R_alloc | apply Kd.R_drewN | apply Kd.R_drew)); exact HO222.out) hb); have n3_ := Aside0.mk (Kd.R_lower ho0 (below_size (by repeat (first | (with_reducible first | exact HB.out | apply below_alloc | apply pw_below_drewN | apply below_drew1) | exact HB.out)))); have n4_ := Aside0.mk (below_step (by repeat (first | (with_reducible first | exact HB.out | apply below_alloc | apply pw_below_drewN | apply below_drew1) | exact HB.out)) hb); clear HO216; clear HO219; clear HO222; clear HB; have HO216 := n0_; have HO219 := n1_; have HO222 := n2_; have HO226 := n3_; have HB := n4_; clear n0_ n1_ n2_ n3_ n4_; (try clear hb); (try clear hb2); (try clear hk); (try clear hi); (try clear ho0)) | (go_at_call 28; (with_reducible refine (hyyro_Rows.calls _ _ t214 _ _ t217 t227 _ ?side1 ?side2 ?side3 ?side4 A13.out).mono ?_); (case side1 => repeat (first | exact (Kd.R_reads' HO216.out).2.2 | (with_reducible refine Kd.C_alloc ?_ _) | (with_reducible refine Kd.C_drewN ?_ _) | (with_reducible refine Kd.C_drew ?_))); (case side2 => exact (Kd.R_reads' HO216.out).2.1); (case side3 => repeat (first | exact (Kd.R_reads' HO219.out).2.2 | (with_reducible refine Kd.C_alloc ?_ _) | (with_reducible refine Kd.C_drewN ?_ _) | (with_reducible refine Kd.C_drew ?_))); (case side4 => exact (Kd.R_reads' HO219.out).2.1); rintro e w23 ⟨v228, rfl, ho0, hb⟩; have n0_ := Aside0.mk (Kd.R_below (by (with_reducible repeat (first | apply Kd.R_alloc | apply Kd.R_drewN | apply Kd.R_drew)); exact HO216.out) hb); have n1_ := Aside0.mk (Kd.R_below (by (with_reducible repeat (first | apply Kd.R_alloc | apply Kd.R_drewN | apply Kd.R_drew)); exact HO219.out) hb); have n2_ := Aside0.mk (Kd.R_below (by (with_reducible repeat (first | apply Kd.R_alloc | apply Kd.R_drewN | apply Kd.R_drew)); exact HO222.out) hb); have n3_ := Aside0.mk (Kd.R_below (by (with_reducible repeat (first | apply Kd.R_alloc | apply Kd.R_drewN | apply Kd.R_drew)); exact HO226.out) hb); have n4_ := Aside0.mk (Kd.S_lower ho0 (below_size (by repeat (first | (with_reducible first | exact HB.out | apply below_alloc | apply pw_below_drewN | apply below_drew1) | exact HB.out)))); have n5_ := Aside0.mk (below_step (by repeat (first | (with_reducible first | exact HB.out | apply below_alloc | apply pw_below_drewN | apply below_drew1) | exact HB.out)) hb); clear HO216; clear HO219; clear HO222; clear HO226; clear HB; have HO216 := n0_; have HO219 := n1_; have HO222 := n2_; have HO226 := n3_; have HO229 := n4_; have HB := n5_; clear n0_ n1_ n2_ n3_ n4_ n5_; (try clear hb); (try clear hb2); (try clear hk); (try clear hi); (try clear ho0)) | (go_at_call 29; (with_reducible refine (croch_Rows.calls _ _ t214 _ _ t217 t230 _ ?side1 ?side2 ?side3 ?side4 A14.out).mono ?_); (case side1 => repeat (first | exact (Kd.R_reads' HO216.out).2.2 | (with_reducible refine Kd.C_alloc ?_ _) | (with_reducible refine Kd.C_drewN ?_ _) | (with_reducible refine Kd.C_drew ?_))); (case side2 => exact (Kd.R_reads' HO216.out).2.1); (case side3 => repeat (first | exact (Kd.R_reads' HO219.out).2.2 | (with_reducible refine Kd.C_alloc ?_ _) | (with_reducible refine Kd.C_drewN ?_ _) | (with_reducible refine Kd.C_drew ?_))); (case side4 => exact (Kd.R_reads' HO219.out).2.1); rintro e w24 ⟨v231, rfl, ho0, hb⟩; have n0_ := Aside0.mk (Kd.R_below (by (with_reducible repeat (first | apply Kd.R_alloc | apply Kd.R_drewN | apply Kd.R_drew)); exact HO216.out) hb); have n1_ := Aside0.mk (Kd.R_below (by (with_reducible repeat (first | apply Kd.R_alloc | apply Kd.R_drewN | apply Kd.R_drew)); exact HO219.out) hb); have n2_ := Aside0.mk (Kd.R_below (by (with_reducible repeat (first | apply Kd.R_alloc | apply Kd.R_drewN | apply Kd.R_drew)); exact HO222.out) hb); have n3_ := Aside0.mk (Kd.R_below (by (with_reducible repeat (first | apply Kd.R_alloc | apply Kd.R_drewN | apply Kd.R_drew)); exact HO226.out) hb); have n4_ := Aside0.mk (Kd.S_elder' (by (with_reducible repeat (first | apply Kd.S_alloc | apply Kd.S_drewN | apply Kd.S_drew)); exact HO229.out) (Kd.S_base ho0) hb); have n5_ := Aside0.mk (Kd.S_lower (Kd.S_new' ho0 (Kd.S_lt (by (with_reducible repeat (first | apply Kd.S_alloc | apply Kd.S_drewN | apply Kd.S_drew)); exact HO229.out))) (below_size (by repeat (first | (with_reducible first | exact HB.out | apply below_alloc | apply pw_below_drewN | apply below_drew1) | exact HB.out)))); have n6_ := Aside0.mk (below_step (by repeat (first | (with_reducible first | exact HB.out | apply below_alloc | apply pw_below_drewN | apply below_drew1) | exact HB.out)) hb); clear HO216; clear HO219; clear HO222; clear HO226; clear HO229; clear HB; have HO216 := n0_; have HO219 := n1_; have HO222 := n2_; have HO226 := n3_; have HO229 := n4_; have HO232 := n5_; have HB := n6_; clear n0_ n1_ n2_ n3_ n4_ n5_ n6_; (try clear hb); (try clear hb2); (try clear hk); (try clear hi); (try clear ho0)))
          repeat (go_quiet (first | (go_at_call 10; (with_reducible refine (tattingref1_Few.calls kj4 _ _ l0 4 t214 _ ?side1 ?side2 A9.out).mono ?_); (case side1 => repeat (first | exact (Kd.C_below HR0.out HB.out) | (with_reducible refine Kd.C_alloc ?_ _) | (with_reducible refine Kd.C_drewN ?_ _) | (with_reducible refine Kd.C_drew ?_))); (case side2 => exact HC0.out); rintro e w16 ⟨v215, rfl, ho0, hb⟩; have n0_ := Aside0.mk (Kd.R_lower ho0 (below_size (by repeat (first | (with_reducible first | exact HB.out | apply below_alloc | apply pw_below_drewN | apply below_drew1) | exact HB.out)))); have n1_ := Aside0.mk (below_step (by repeat (first | (with_reducible first | exact HB.out | apply below_alloc | apply pw_below_drewN | apply below_drew1) | exact HB.out)) hb); clear HB; have HO216 := n0_; have HB := n1_; clear n0_ n1_; (try clear hb); (try clear hb2); (try clear hk); (try clear hi); (try clear ho0)) | (go_at_call 10; (with_reducible refine (tattingref1_Few.calls kj4 _ _ l1 4 t217 _ ?side1 ?side2 A10.out).mono ?_); (case side1 => repeat (first | exact (Kd.C_below HR1.out HB.out) | (with_reducible refine Kd.C_alloc ?_ _) | (with_reducible refine Kd.C_drewN ?_ _) | (with_reducible refine Kd.C_drew ?_))); (case side2 => exact HC1.out); rintro e w17 ⟨v218, rfl, ho0, hb⟩; have n0_ := Aside0.mk (Kd.R_elder' (by (with_reducible repeat (first | apply Kd.R_alloc | apply Kd.R_drewN | apply Kd.R_drew)); exact HO216.out) (Kd.R_base ho0) hb); have n1_ := Aside0.mk (Kd.R_lower (Kd.R_new' ho0 (Kd.R_lt (by (with_reducible repeat (first | apply Kd.R_alloc | apply Kd.R_drewN | apply Kd.R_drew)); exact HO216.out))) (below_size (by repeat (first | (with_reducible first | exact HB.out | apply below_alloc | apply pw_below_drewN | apply below_drew1) | exact HB.out)))); have n2_ := Aside0.mk (below_step (by repeat (first | (with_reducible first | exact HB.out | apply below_alloc | apply pw_below_drewN | apply below_drew1) | exact HB.out)) hb); clear HO216; clear HB; have HO216 := n0_; have HO219 := n1_; have HB := n2_; clear n0_ n1_ n2_; (try clear hb); (try clear hb2); (try clear hk); (try clear hi); (try clear ho0); obtain ⟨Ao18, co18, eo18⟩ := Kd.R_slice HO216.out; subst eo18; obtain ⟨Ao19, co19, eo19⟩ := Kd.R_slice HO219.out; subst eo19) | (go_at_call 26; (with_reducible refine (rows_Front.calls kj4 _ _ t214 _ _ t217 t220 _ ?side1 ?side2 ?side3 ?side4 A11.out).mono ?_); (case side1 => repeat (first | exact (Kd.R_reads' HO216.out).2.2 | (with_reducible refine Kd.C_alloc ?_ _) | (with_reducible refine Kd.C_drewN ?_ _) | (with_reducible refine Kd.C_drew ?_))); (case side2 => exact (Kd.R_reads' HO216.out).2.1); (case side3 => repeat (first | exact (Kd.R_reads' HO219.out).2.2 | (with_reducible refine Kd.C_alloc ?_ _) | (with_reducible refine Kd.C_drewN ?_ _) | (with_reducible refine Kd.C_drew ?_))); (case side4 => exact (Kd.R_reads' HO219.out).2.1); rintro e w20 ⟨v221, rfl, ho0, hb⟩; have n0_ := Aside0.mk (Kd.R_elder' (by (with_reducible repeat (first | apply Kd.R_alloc | apply Kd.R_drewN | apply Kd.R_drew)); exact HO216.out) (Kd.R_base ho0) hb); have n1_ := Aside0.mk (Kd.R_elder' (by (with_reducible repeat (first | apply Kd.R_alloc | apply Kd.R_drewN | apply Kd.R_drew)); exact HO219.out) (Kd.R_base ho0) hb); have n2_ := Aside0.mk (Kd.R_lower (Kd.R_new' (Kd.R_new' ho0 (Kd.R_lt (by (with_reducible repeat (first | apply Kd.R_alloc | apply Kd.R_drewN | apply Kd.R_drew)); exact HO216.out))) (Kd.R_lt (by (with_reducible repeat (first | apply Kd.R_alloc | apply Kd.R_drewN | apply Kd.R_drew)); exact HO219.out))) (below_size (by repeat (first | (with_reducible first | exact HB.out | apply below_alloc | apply pw_below_drewN | apply below_drew1) | exact HB.out)))); have n3_ := Aside0.mk (below_step (by repeat (first | (with_reducible first | exact HB.out | apply below_alloc | apply pw_below_drewN | apply below_drew1) | exact HB.out)) hb); clear HO216; clear HO219; clear HB; have HO216 := n0_; have HO219 := n1_; have HO222 := n2_; have HB := n3_; clear n0_ n1_ n2_ n3_; (try clear hb); (try clear hb2); (try clear hk); (try clear hi); (try clear ho0); obtain ⟨Ao21, co21, eo21⟩ := Kd.R_slice HO222.out; subst eo21) | (go_at_call 27; (with_reducible refine (delta_Of.calls kj4 _ _ t220 t223 t224 _ ?side1 ?side2 A12.out).mono ?_); (case side1 => repeat (first | exact (Kd.R_reads' HO222.out).2.2 | (with_reducible refine Kd.C_alloc ?_ _) | (with_reducible refine Kd.C_drewN ?_ _) | (with_reducible refine Kd.C_drew ?_))); (case side2 => exact (Kd.R_reads' HO222.out).2.1); rintro e w22 ⟨v225, rfl, ho0, hb⟩; have n0_ := Aside0.mk (Kd.R_below (by (with_reducible repeat (first | apply Kd.R_alloc | apply Kd.R_drewN | apply Kd.R_drew)); exact HO216.out) hb); have n1_ := Aside0.mk (Kd.R_below (by (with_reducible repeat (first | apply Kd.R_alloc | apply Kd.R_drewN | apply Kd.R_drew)); exact HO219.out) hb); have n2_ := Aside0.mk (Kd.R_below (by (with_reducible repeat (first | apply Kd.R_alloc | apply Kd.R_drewN | apply Kd.R_drew)); exact HO222.out) hb); have n3_ := Aside0.mk (Kd.R_lower ho0 (below_size (by repeat (first | (with_reducible first | exact HB.out | apply below_alloc | apply pw_below_drewN | apply below_drew1) | exact HB.out)))); have n4_ := Aside0.mk (below_step (by repeat (first | (with_reducible first | exact HB.out | apply below_alloc | apply pw_below_drewN | apply below_drew1) | exact HB.out)) hb); clear HO216; clear HO219; clear HO222; clear HB; have HO216 := n0_; have HO219 := n1_; have HO222 := n2_; have HO226 := n3_; have HB := n4_; clear n0_ n1_ n2_ n3_ n4_; (try clear hb); (try clear hb2); (try clear hk); (try clear hi); (try clear ho0)) | (go_at_call 28; (with_reducible refine (hyyro_Rows.calls _ _ t214 _ _ t217 t227 _ ?side1 ?side2 ?side3 ?side4 A13.out).mono ?_); (case side1 => repeat (first | exact (Kd.R_reads' HO216.out).2.2 | (with_reducible refine Kd.C_alloc ?_ _) | (with_reducible refine Kd.C_drewN ?_ _) | (with_reducible refine Kd.C_drew ?_))); (case side2 => exact (Kd.R_reads' HO216.out).2.1); (case side3 => repeat (first | exact (Kd.R_reads' HO219.out).2.2 | (with_reducible refine Kd.C_alloc ?_ _) | (with_reducible refine Kd.C_drewN ?_ _) | (with_reducible refine Kd.C_drew ?_))); (case side4 => exact (Kd.R_reads' HO219.out).2.1); rintro e w23 ⟨v228, rfl, ho0, hb⟩; have n0_ := Aside0.mk (Kd.R_below (by (with_reducible repeat (first | apply Kd.R_alloc | apply Kd.R_drewN | apply Kd.R_drew)); exact HO216.out) hb); have n1_ := Aside0.mk (Kd.R_below (by (with_reducible repeat (first | apply Kd.R_alloc | apply Kd.R_drewN | apply Kd.R_drew)); exact HO219.out) hb); have n2_ := Aside0.mk (Kd.R_below (by (with_reducible repeat (first | apply Kd.R_alloc | apply Kd.R_drewN | apply Kd.R_drew)); exact HO222.out) hb); have n3_ := Aside0.mk (Kd.R_below (by (with_reducible repeat (first | apply Kd.R_alloc | apply Kd.R_drewN | apply Kd.R_drew)); exact HO226.out) hb); have n4_ := Aside0.mk (Kd.S_lower ho0 (below_size (by repeat (first | (with_reducible first | exact HB.out | apply below_alloc | apply pw_below_drewN | apply below_drew1) | exact HB.out)))); have n5_ := Aside0.mk (below_step (by repeat (first | (with_reducible first | exact HB.out | apply below_alloc | apply pw_below_drewN | apply below_drew1) | exact HB.out)) hb); clear HO216; clear HO219; clear HO222; clear HO226; clear HB; have HO216 := n0_; have HO219 := n1_; have HO222 := n2_; have HO226 := n3_; have HO229 := n4_; have HB := n5_; clear n0_ n1_ n2_ n3_ n4_ n5_; (try clear hb); (try clear hb2); (try clear hk); (try clear hi); (try clear ho0)) | (go_at_call 29; (with_reducible refine (croch_Rows.calls _ _ t214 _ _ t217 t230 _ ?side1 ?side2 ?side3 ?side4 A14.out).mono ?_); (case side1 => repeat (first | exact (Kd.R_reads' HO216.out).2.2 | (with_reducible refine Kd.C_alloc ?_ _) | (with_reducible refine Kd.C_drewN ?_ _) | (with_reducible refine Kd.C_drew ?_))); (case side2 => exact (Kd.R_reads' HO216.out).2.1); (case side3 => repeat (first | exact (Kd.R_reads' HO219.out).2.2 | (with_reducible refine Kd.C_alloc ?_ _) | (with_reducible refine Kd.C_drewN ?_ _) | (with_reducible refine Kd.C_drew ?_))); (case side4 => exact (Kd.R_reads' HO219.out).2.1); rintro e w24 ⟨v231, rfl, ho0, hb⟩; have n0_ := Aside0.mk (Kd.R_below (by (with_reducible repeat (first | apply Kd.R_alloc | apply Kd.R_drewN | apply Kd.R_drew)); exact HO216.out) hb); have n1_ := Aside0.mk (Kd.R_below (by (with_reducible repeat (first | apply Kd.R_alloc | apply Kd.R_drewN | apply Kd.R_drew)); exact HO219.out) hb); have n2_ := Aside0.mk (Kd.R_below (by (with_reducible repeat (first | apply Kd.R_alloc | apply Kd.R_drewN | apply Kd.R_drew)); exact HO222.out) hb); have n3_ := Aside0.mk (Kd.R_below (by (with_reducible repeat (first | apply Kd.R_alloc | apply Kd.R_drewN | apply Kd.R_drew)); exact HO226.out) hb); have n4_ := Aside0.mk (Kd.S_elder' (by (with_reducible repeat (first | apply Kd.S_alloc | apply Kd.S_drewN | apply Kd.S_drew)); exact HO229.out) (Kd.S_base ho0) hb); have n5_ := Aside0.mk (Kd.S_lower (Kd.S_new' ho0 (Kd.S_lt (by (with_reducible repeat (first | apply Kd.S_alloc | apply Kd.S_drewN | apply Kd.S_drew)); exact HO229.out))) (below_size (by repeat (first | (with_reducible first | exact HB.out | apply below_alloc | apply pw_below_drewN | apply below_drew1) | exact HB.out)))); have n6_ := Aside0.mk (below_step (by repeat (first | (with_reducible first | exact HB.out | apply below_alloc | apply pw_below_drewN | apply below_drew1) | exact HB.out)) hb); clear HO216; clear HO219; clear HO222; clear HO226; clear HO229; clear HB; have HO216 := n0_; have HO219 := n1_; have HO222 := n2_; have HO226 := n3_; have HO229 := n4_; have HO232 := n5_; have HB := n6_; clear n0_ n1_ n2_ n3_ n4_ n5_ n6_; (try clear hb); (try clear hb2); (try clear hk); (try clear hi); (try clear ho0))); go_upto_region 9 with (first | (go_at_call 10; (with_reducible refine (tattingref1_Few.calls kj4 _ _ l0 4 t214 _ ?side1 ?side2 A9.out).mono ?_); (case side1 => repeat (first | exact (Kd.C_below HR0.out HB.out) | (with_reducible refine Kd.C_alloc ?_ _) | (with_reducible refine Kd.C_drewN ?_ _) | (with_reducible refine Kd.C_drew ?_))); (case side2 => exact HC0.out); rintro e w16 ⟨v215, rfl, ho0, hb⟩; have n0_ := Aside0.mk (Kd.R_lower ho0 (below_size (by repeat (first | (with_reducible first | exact HB.out | apply below_alloc | apply pw_below_drewN | apply below_drew1) | exact HB.out)))); have n1_ := Aside0.mk (below_step (by repeat (first | (with_reducible first | exact HB.out | apply below_alloc | apply pw_below_drewN | apply below_drew1) | exact HB.out)) hb); clear HB; have HO216 := n0_; have HB := n1_; clear n0_ n1_; (try clear hb); (try clear hb2); (try clear hk); (try clear hi); (try clear ho0)) | (go_at_call 10; (with_reducible refine (tattingref1_Few.calls kj4 _ _ l1 4 t217 _ ?side1 ?side2 A10.out).mono ?_); (case side1 => repeat (first | exact (Kd.C_below HR1.out HB.out) | (with_reducible refine Kd.C_alloc ?_ _) | (with_reducible refine Kd.C_drewN ?_ _) | (with_reducible refine Kd.C_drew ?_))); (case side2 => exact HC1.out); rintro e w17 ⟨v218, rfl, ho0, hb⟩; have n0_ := Aside0.mk (Kd.R_elder' (by (with_reducible repeat (first | apply Kd.R_alloc | apply Kd.R_drewN | apply Kd.R_drew)); exact HO216.out) (Kd.R_base ho0) hb); have n1_ := Aside0.mk (Kd.R_lower (Kd.R_new' ho0 (Kd.R_lt (by (with_reducible repeat (first | apply Kd.R_alloc | apply Kd.R_drewN | apply Kd.R_drew)); exact HO216.out))) (below_size (by repeat (first | (with_reducible first | exact HB.out | apply below_alloc | apply pw_below_drewN | apply below_drew1) | exact HB.out)))); have n2_ := Aside0.mk (below_step (by repeat (first | (with_reducible first | exact HB.out | apply below_alloc | apply pw_below_drewN | apply below_drew1) | exact HB.out)) hb); clear HO216; clear HB; have HO216 := n0_; have HO219 := n1_; have HB := n2_; clear n0_ n1_ n2_; (try clear hb); (try clear hb2); (try clear hk); (try clear hi); (try clear ho0); obtain ⟨Ao18, co18, eo18⟩ := Kd.R_slice HO216.out; subst eo18; obtain ⟨Ao19, co19, eo19⟩ := Kd.R_slice HO219.out; subst eo19) | (go_at_call 26; (with_reducible refine (rows_Front.calls kj4 _ _ t214 _ _ t217 t220 _ ?side1 ?side2 ?side3 ?side4 A11.out).mono ?_); (case side1 => repeat (first | exact (Kd.R_reads' HO216.out).2.2 | (with_reducible refine Kd.C_alloc ?_ _) | (with_reducible refine Kd.C_drewN ?_ _) | (with_reducible refine Kd.C_drew ?_))); (case side2 => exact (Kd.R_reads' HO216.out).2.1); (case side3 => repeat (first | exact (Kd.R_reads' HO219.out).2.2 | (with_reducible refine Kd.C_alloc ?_ _) | (with_reducible refine Kd.C_drewN ?_ _) | (with_reducible refine Kd.C_drew ?_))); (case side4 => exact (Kd.R_reads' HO219.out).2.1); rintro e w20 ⟨v221, rfl, ho0, hb⟩; have n0_ := Aside0.mk (Kd.R_elder' (by (with_reducible repeat (first | apply Kd.R_alloc | apply Kd.R_drewN | apply Kd.R_drew)); exact HO216.out) (Kd.R_base ho0) hb); have n1_ := Aside0.mk (Kd.R_elder' (by (with_reducible repeat (first | apply Kd.R_alloc | apply Kd.R_drewN | apply Kd.R_drew)); exact HO219.out) (Kd.R_base ho0) hb); have n2_ := Aside0.mk (Kd.R_lower (Kd.R_new' (Kd.R_new' ho0 (Kd.R_lt (by (with_reducible repeat (first | apply Kd.R_alloc | apply Kd.R_drewN | apply Kd.R_drew)); exact HO216.out))) (Kd.R_lt (by (with_reducible repeat (first | apply Kd.R_alloc | apply Kd.R_drewN | apply Kd.R_drew)); exact HO219.out))) (below_size (by repeat (first | (with_reducible first | exact HB.out | apply below_alloc | apply pw_below_drewN | apply below_drew1) | exact HB.out)))); have n3_ := Aside0.mk (below_step (by repeat (first | (with_reducible first | exact HB.out | apply below_alloc | apply pw_below_drewN | apply below_drew1) | exact HB.out)) hb); clear HO216; clear HO219; clear HB; have HO216 := n0_; have HO219 := n1_; have HO222 := n2_; have HB := n3_; clear n0_ n1_ n2_ n3_; (try clear hb); (try clear hb2); (try clear hk); (try clear hi); (try clear ho0); obtain ⟨Ao21, co21, eo21⟩ := Kd.R_slice HO222.out; subst eo21) | (go_at_call 27; (with_reducible refine (delta_Of.calls kj4 _ _ t220 t223 t224 _ ?side1 ?side2 A12.out).mono ?_); (case side1 => repeat (first | exact (Kd.R_reads' HO222.out).2.2 | (with_reducible refine Kd.C_alloc ?_ _) | (with_reducible refine Kd.C_drewN ?_ _) | (with_reducible refine Kd.C_drew ?_))); (case side2 => exact (Kd.R_reads' HO222.out).2.1); rintro e w22 ⟨v225, rfl, ho0, hb⟩; have n0_ := Aside0.mk (Kd.R_below (by (with_reducible repeat (first | apply Kd.R_alloc | apply Kd.R_drewN | apply Kd.R_drew)); exact HO216.out) hb); have n1_ := Aside0.mk (Kd.R_below (by (with_reducible repeat (first | apply Kd.R_alloc | apply Kd.R_drewN | apply Kd.R_drew)); exact HO219.out) hb); have n2_ := Aside0.mk (Kd.R_below (by (with_reducible repeat (first | apply Kd.R_alloc | apply Kd.R_drewN | apply Kd.R_drew)); exact HO222.out) hb); have n3_ := Aside0.mk (Kd.R_lower ho0 (below_size (by repeat (first | (with_reducible first | exact HB.out | apply below_alloc | apply pw_below_drewN | apply below_drew1) | exact HB.out)))); have n4_ := Aside0.mk (below_step (by repeat (first | (with_reducible first | exact HB.out | apply below_alloc | apply pw_below_drewN | apply below_drew1) | exact HB.out)) hb); clear HO216; clear HO219; clear HO222; clear HB; have HO216 := n0_; have HO219 := n1_; have HO222 := n2_; have HO226 := n3_; have HB := n4_; clear n0_ n1_ n2_ n3_ n4_; (try clear hb); (try clear hb2); (try clear hk); (try clear hi); (try clear ho0)) | (go_at_call 28; (with_reducible refine (hyyro_Rows.calls _ _ t214 _ _ t217 t227 _ ?side1 ?side2 ?side3 ?side4 A13.out).mono ?_); (case side1 => repeat (first | exact (Kd.R_reads' HO216.out).2.2 | (with_reducible refine Kd.C_alloc ?_ _) | (with_reducible refine Kd.C_drewN ?_ _) | (with_reducible refine Kd.C_drew ?_))); (case side2 => exact (Kd.R_reads' HO216.out).2.1); (case side3 => repeat (first | exact (Kd.R_reads' HO219.out).2.2 | (with_reducible refine Kd.C_alloc ?_ _) | (with_reducible refine Kd.C_drewN ?_ _) | (with_reducible refine Kd.C_drew ?_))); (case side4 => exact (Kd.R_reads' HO219.out).2.1); rintro e w23 ⟨v228, rfl, ho0, hb⟩; have n0_ := Aside0.mk (Kd.R_below (by (with_reducible repeat (first | apply Kd.R_alloc | apply Kd.R_drewN | apply Kd.R_drew)); exact HO216.out) hb); have n1_ := Aside0.mk (Kd.R_below (by (with_reducible repeat (first | apply Kd.R_alloc | apply Kd.R_drewN | apply Kd.R_drew)); exact HO219.out) hb); have n2_ := Aside0.mk (Kd.R_below (by (with_reducible repeat (first | apply Kd.R_alloc | apply Kd.R_drewN | apply Kd.R_drew)); exact HO222.out) hb); have n3_ := Aside0.mk (Kd.R_below (by (with_reducible repeat (first | apply Kd.R_alloc | apply Kd.R_drewN | apply Kd.R_drew)); exact HO226.out) hb); have n4_ := Aside0.mk (Kd.S_lower ho0 (below_size (by repeat (first | (with_reducible first | exact HB.out | apply below_alloc | apply pw_below_drewN | apply below_drew1) | exact HB.out)))); have n5_ := Aside0.mk (below_step (by repeat (first | (with_reducible first | exact HB.out | apply below_alloc | apply pw_below_drewN | apply below_drew1) | exact HB.out)) hb); clear HO216; clear HO219; clear HO222; clear HO226; clear HB; have HO216 := n0_; have HO219 := n1_; have HO222 := n2_; have HO226 := n3_; have HO229 := n4_; have HB := n5_; clear n0_ n1_ n2_ n3_ n4_ n5_; (try clear hb); (try clear hb2); (try clear hk); (try clear hi); (try clear ho0)) | (go_at_call 29; (with_reducible refine (croch_Rows.calls _ _ t214 _ _ t217 t230 _ ?side1 ?side2 ?side3 ?side4 A14.out).mono ?_); (case side1 => repeat (first | exact (Kd.R_reads' HO216.out).2.2 | (with_reducible refine Kd.C_alloc ?_ _) | (with_reducible refine Kd.C_drewN ?_ _) | (with_reducible refine Kd.C_drew ?_))); (case side2 => exact (Kd.R_reads' HO216.out).2.1); (case side3 => repeat (first | exact (Kd.R_reads' HO219.out).2.2 | (with_reducible refine Kd.C_alloc ?_ _) | (with_reducible refine Kd.C_drewN ?_ _) | (with_reducible refine Kd.C_drew ?_))); (case side4 => exact (Kd.R_reads' HO219.out).2.1); rintro e w24 ⟨v231, rfl, ho0, hb⟩; have n0_ := Aside0.mk (Kd.R_below (by (with_reducible repeat (first | apply Kd.R_alloc | apply Kd.R_drewN | apply Kd.R_drew)); exact HO216.out) hb); have n1_ := Aside0.mk (Kd.R_below (by (with_reducible repeat (first | apply Kd.R_alloc | apply Kd.R_drewN | apply Kd.R_drew)); exact HO219.out) hb); have n2_ := Aside0.mk (Kd.R_below (by (with_reducible repeat (first | apply Kd.R_alloc | apply Kd.R_drewN | apply Kd.R_drew)); exact HO222.out) hb); have n3_ := Aside0.mk (Kd.R_below (by (with_reducible repeat (first | apply Kd.R_alloc | apply Kd.R_drewN | apply Kd.R_drew)); exact HO226.out) hb); have n4_ := Aside0.mk (Kd.S_elder' (by (with_reducible repeat (first | apply Kd.S_alloc | apply Kd.S_drewN | apply Kd.S_drew)); exact HO229.out) (Kd.S_base ho0) hb); have n5_ := Aside0.mk (Kd.S_lower (Kd.S_new' ho0 (Kd.S_lt (by (with_reducible repeat (first | apply Kd.S_alloc | apply Kd.S_drewN | apply Kd.S_drew)); exact HO229.out))) (below_size (by repeat (first | (with_reducible first | exact HB.out | apply below_alloc | apply pw_below_drewN | apply below_drew1) | exact HB.out)))); have n6_ := Aside0.mk (below_step (by repeat (first | (with_reducible first | exact HB.out | apply below_alloc | apply pw_below_drewN | apply below_drew1) | exact HB.out)) hb); clear HO216; clear HO219; clear HO222; clear HO226; clear HO229; clear HB; have HO216 := n0_; have HO219 := n1_; have HO222 := n2_; have HO226 := n3_; have HO229 := n4_; have HO232 := n5_; have HB := n6_; clear n0_ n1_ n2_ n3_ n4_ n5_ n6_; (try clear hb); (try clear hb2); (try clear hk); (try clear hi); (try clear ho0))))
          (try simp only [Act.put, List.setIfInBounds_toArray, List.set_cons_zero, List.set_cons_succ])
          go_cut [75] (fun v75 wc => ∃ (kq : Nat) (x75_14 : Bool), v75 = .bool x75_14 ∧ Aside0 (tattingtop_TopRows.j1 kq t214 t217 t220 t223 t227 t230 x75_14 = some r) ∧ Aside0 (kq ≤ kj4) ∧ Aside0 (Kd.R (Kd.int .i64) 3 wc w.heap.size (fun k_ => some k_ ≠ ((.slice Ao19 t217.length co19) : Value).ownBlock ∧ some k_ ≠ ((.slice Ao21 t220.length co21) : Value).ownBlock) (.slice Ao18 t214.length co18) t214) ∧ Aside0 (Kd.R (Kd.int .i64) 3 wc w.heap.size (fun k_ => some k_ ≠ ((.slice Ao18 t214.length co18) : Value).ownBlock ∧ some k_ ≠ ((.slice Ao21 t220.length co21) : Value).ownBlock) (.slice Ao19 t217.length co19) t217) ∧ Aside0 (Kd.R (Kd.int .i64) 3 wc w.heap.size (fun k_ => some k_ ≠ ((.slice Ao18 t214.length co18) : Value).ownBlock ∧ some k_ ≠ ((.slice Ao19 t217.length co19) : Value).ownBlock) (.slice Ao21 t220.length co21) t220) ∧ Aside0 (Kd.R (Kd.int .u8) 5 wc w.heap.size (fun _ => True) v225 t223) ∧ Aside0 (Kd.S (Kd.slice 104 (Kd.int .u64)) 62 wc w.heap.size (fun k_ => some k_ ≠ (v231 : Value).ownBlock) v228 t227) ∧ Aside0 (Kd.S (Kd.slice 104 (Kd.int .u64)) 62 wc w.heap.size (fun k_ => some k_ ≠ (v228 : Value).ownBlock) v231 t230) ∧ Aside0 (Below w.heap.size w wc))
          case first =>
            have H := HC15.out
            clear HC15
            by_cases c25 : t224 = 0
            · rw [if_pos c25] at H
              have c25b0 : (t224 == 0) = true := beq_iff_eq.mpr c25
              have c25b1 : (t224 != 0) = false := bne_eq_false_iff_eq.mpr c25
              clear c25
              (first | rw [c25b0] | (simp only [i64_w, i32_w]; rw [c25b0]) | skip)
              by_cases c26 : (t220.length : Int) = (wrap64 ((t217.length : Int) + 1))
              · rw [if_pos c26] at H
                have c26b0 : ((t220.length : Int) == (wrap64 ((t217.length : Int) + 1))) = true := beq_iff_eq.mpr c26
                have c26b1 : ((t220.length : Int) != (wrap64 ((t217.length : Int) + 1))) = false := bne_eq_false_iff_eq.mpr c26
                clear c26
                by_cases c27 : (t223.length : Int) = (t217.length : Int)
                · rw [if_pos c27] at H
                  have c27b0 : ((t223.length : Int) == (t217.length : Int)) = true := beq_iff_eq.mpr c27
                  have c27b1 : ((t223.length : Int) != (t217.length : Int)) = false := bne_eq_false_iff_eq.mpr c27
                  have c27b2 : (t223.length == t217.length) = true := by first | simpa using c27 | (simp at c27 ⊢; omega)
                  clear c27
                  by_cases c28 : (t227.length : Int) = (wrap64 ((t214.length : Int) + 1))
                  · rw [if_pos c28] at H
                    have c28b0 : ((t227.length : Int) == (wrap64 ((t214.length : Int) + 1))) = true := beq_iff_eq.mpr c28
                    have c28b1 : ((t227.length : Int) != (wrap64 ((t214.length : Int) + 1))) = false := bne_eq_false_iff_eq.mpr c28
                    clear c28
                    have H' := Aside0.mk H
                    clear H
                    obtain ⟨Ao29, co29, eo29⟩ := Kd.R_slice HO226.out
                    subst eo29
                    obtain ⟨Ao30, co30, eo30⟩ := Kd.S_slice HO229.out
                    subst eo30
                    obtain ⟨Ao31, co31, eo31⟩ := Kd.S_slice HO232.out
                    subst eo31
                    go_wp2
                    repeat (go_quiet (fail); try go_wp2)
                    go_meet
                    case rel => exact ⟨_, (((t230.length : Int) != (wrap64 ((t214.length : Int) + 1)))), (by first | rfl | (simp; done) | (simp [*]; done)), H', ⟨by have := HJ4.out; first | omega | exact Nat.le_refl _⟩, ⟨by (with_reducible repeat (first | apply Kd.R_alloc | apply Kd.R_drewN | apply Kd.R_drew)); exact Kd.R_mono HO216.out (fun _ hk => ⟨hk.1.2, hk.2⟩)⟩, ⟨by (with_reducible repeat (first | apply Kd.R_alloc | apply Kd.R_drewN | apply Kd.R_drew)); exact Kd.R_mono HO219.out (fun _ hk => ⟨hk.1.2, hk.2⟩)⟩, ⟨by (with_reducible repeat (first | apply Kd.R_alloc | apply Kd.R_drewN | apply Kd.R_drew)); exact Kd.R_mono HO222.out (fun _ hk => ⟨hk.1.2, hk.2⟩)⟩, ⟨by (with_reducible repeat (first | apply Kd.R_alloc | apply Kd.R_drewN | apply Kd.R_drew)); exact HO226.out⟩, ⟨by (with_reducible repeat (first | apply Kd.S_alloc | apply Kd.S_drewN | apply Kd.S_drew)); exact Kd.S_mono HO229.out (fun _ hk => hk.2)⟩, ⟨by (with_reducible repeat (first | apply Kd.S_alloc | apply Kd.S_drewN | apply Kd.S_drew)); exact Kd.S_mono HO232.out (fun _ hk => hk.2)⟩, ⟨by repeat (first | (with_reducible first | exact HB.out | apply below_alloc | apply pw_below_drewN | apply below_drew1) | exact HB.out)⟩⟩
                  · rw [if_neg c28] at H
                    have c28b0 : ((t227.length : Int) == (wrap64 ((t214.length : Int) + 1))) = false := beq_eq_false_iff_ne.mpr c28
                    have c28b1 : ((t227.length : Int) != (wrap64 ((t214.length : Int) + 1))) = true := bne_iff_ne.mpr c28
                    have H' := Aside0.mk H
                    clear H
                    obtain ⟨Ao32, co32, eo32⟩ := Kd.R_slice HO226.out
                    subst eo32
                    obtain ⟨Ao33, co33, eo33⟩ := Kd.S_slice HO229.out
                    subst eo33
                    go_wp2
                    repeat (go_quiet (fail); try go_wp2)
                    go_meet
                    case rel => exact ⟨_, (true), (by first | rfl | (simp; done) | (simp [*]; done)), H', ⟨by have := HJ4.out; first | omega | exact Nat.le_refl _⟩, ⟨by (with_reducible repeat (first | apply Kd.R_alloc | apply Kd.R_drewN | apply Kd.R_drew)); exact Kd.R_mono HO216.out (fun _ hk => ⟨hk.1.2, hk.2⟩)⟩, ⟨by (with_reducible repeat (first | apply Kd.R_alloc | apply Kd.R_drewN | apply Kd.R_drew)); exact Kd.R_mono HO219.out (fun _ hk => ⟨hk.1.2, hk.2⟩)⟩, ⟨by (with_reducible repeat (first | apply Kd.R_alloc | apply Kd.R_drewN | apply Kd.R_drew)); exact Kd.R_mono HO222.out (fun _ hk => ⟨hk.1.2, hk.2⟩)⟩, ⟨by (with_reducible repeat (first | apply Kd.R_alloc | apply Kd.R_drewN | apply Kd.R_drew)); exact HO226.out⟩, ⟨by (with_reducible repeat (first | apply Kd.S_alloc | apply Kd.S_drewN | apply Kd.S_drew)); exact Kd.S_mono HO229.out (fun _ hk => hk.2)⟩, ⟨by (with_reducible repeat (first | apply Kd.S_alloc | apply Kd.S_drewN | apply Kd.S_drew)); exact Kd.S_mono HO232.out (fun _ hk => hk.2)⟩, ⟨by repeat (first | (with_reducible first | exact HB.out | apply below_alloc | apply pw_below_drewN | apply below_drew1) | exact HB.out)⟩⟩
                · rw [if_neg c27] at H
                  have c27b0 : ((t223.length : Int) == (t217.length : Int)) = false := beq_eq_false_iff_ne.mpr c27
                  have c27b1 : ((t223.length : Int) != (t217.length : Int)) = true := bne_iff_ne.mpr c27
                  have c27b2 : (t223.length == t217.length) = false := by first | simpa using c27 | (simp at c27 ⊢; omega)
                  have H' := Aside0.mk H
                  clear H
                  obtain ⟨Ao34, co34, eo34⟩ := Kd.R_slice HO226.out
                  subst eo34
                  go_wp2
                  repeat (go_quiet (fail); try go_wp2)
                  go_meet
                  case rel => exact ⟨_, (true), (by first | rfl | (simp; done) | (simp [*]; done)), H', ⟨by have := HJ4.out; first | omega | exact Nat.le_refl _⟩, ⟨by (with_reducible repeat (first | apply Kd.R_alloc | apply Kd.R_drewN | apply Kd.R_drew)); exact Kd.R_mono HO216.out (fun _ hk => ⟨hk.1.2, hk.2⟩)⟩, ⟨by (with_reducible repeat (first | apply Kd.R_alloc | apply Kd.R_drewN | apply Kd.R_drew)); exact Kd.R_mono HO219.out (fun _ hk => ⟨hk.1.2, hk.2⟩)⟩, ⟨by (with_reducible repeat (first | apply Kd.R_alloc | apply Kd.R_drewN | apply Kd.R_drew)); exact Kd.R_mono HO222.out (fun _ hk => ⟨hk.1.2, hk.2⟩)⟩, ⟨by (with_reducible repeat (first | apply Kd.R_alloc | apply Kd.R_drewN | apply Kd.R_drew)); exact HO226.out⟩, ⟨by (with_reducible repeat (first | apply Kd.S_alloc | apply Kd.S_drewN | apply Kd.S_drew)); exact Kd.S_mono HO229.out (fun _ hk => hk.2)⟩, ⟨by (with_reducible repeat (first | apply Kd.S_alloc | apply Kd.S_drewN | apply Kd.S_drew)); exact Kd.S_mono HO232.out (fun _ hk => hk.2)⟩, ⟨by repeat (first | (with_reducible first | exact HB.out | apply below_alloc | apply pw_below_drewN | apply below_drew1) | exact HB.out)⟩⟩
              · rw [if_neg c26] at H
                have c26b0 : ((t220.length : Int) == (wrap64 ((t217.length : Int) + 1))) = false := beq_eq_false_iff_ne.mpr c26
                have c26b1 : ((t220.length : Int) != (wrap64 ((t217.length : Int) + 1))) = true := bne_iff_ne.mpr c26
                have H' := Aside0.mk H
                clear H
                go_wp2
                repeat (go_quiet (fail); try go_wp2)
                go_meet
                case rel => exact ⟨_, (true), (by first | rfl | (simp; done) | (simp [*]; done)), H', ⟨by have := HJ4.out; first | omega | exact Nat.le_refl _⟩, ⟨by (with_reducible repeat (first | apply Kd.R_alloc | apply Kd.R_drewN | apply Kd.R_drew)); exact Kd.R_mono HO216.out (fun _ hk => ⟨hk.1.2, hk.2⟩)⟩, ⟨by (with_reducible repeat (first | apply Kd.R_alloc | apply Kd.R_drewN | apply Kd.R_drew)); exact Kd.R_mono HO219.out (fun _ hk => ⟨hk.1.2, hk.2⟩)⟩, ⟨by (with_reducible repeat (first | apply Kd.R_alloc | apply Kd.R_drewN | apply Kd.R_drew)); exact Kd.R_mono HO222.out (fun _ hk => ⟨hk.1.2, hk.2⟩)⟩, ⟨by (with_reducible repeat (first | apply Kd.R_alloc | apply Kd.R_drewN | apply Kd.R_drew)); exact HO226.out⟩, ⟨by (with_reducible repeat (first | apply Kd.S_alloc | apply Kd.S_drewN | apply Kd.S_drew)); exact Kd.S_mono HO229.out (fun _ hk => hk.2)⟩, ⟨by (with_reducible repeat (first | apply Kd.S_alloc | apply Kd.S_drewN | apply Kd.S_drew)); exact Kd.S_mono HO232.out (fun _ hk => hk.2)⟩, ⟨by repeat (first | (with_reducible first | exact HB.out | apply below_alloc | apply pw_below_drewN | apply below_drew1) | exact HB.out)⟩⟩
            · rw [if_neg c25] at H
              have c25b0 : (t224 == 0) = false := beq_eq_false_iff_ne.mpr c25
              have c25b1 : (t224 != 0) = true := bne_iff_ne.mpr c25
              (first | rw [c25b0] | (simp only [i64_w, i32_w]; rw [c25b0]) | skip)
              have H' := Aside0.mk H
              clear H
              go_wp2
              repeat (go_quiet (fail); try go_wp2)
              go_meet
              case rel => exact ⟨_, (true), (by first | rfl | (simp; done) | (simp [*]; done)), H', ⟨by have := HJ4.out; first | omega | exact Nat.le_refl _⟩, ⟨by (with_reducible repeat (first | apply Kd.R_alloc | apply Kd.R_drewN | apply Kd.R_drew)); exact Kd.R_mono HO216.out (fun _ hk => ⟨hk.1.2, hk.2⟩)⟩, ⟨by (with_reducible repeat (first | apply Kd.R_alloc | apply Kd.R_drewN | apply Kd.R_drew)); exact Kd.R_mono HO219.out (fun _ hk => ⟨hk.1.2, hk.2⟩)⟩, ⟨by (with_reducible repeat (first | apply Kd.R_alloc | apply Kd.R_drewN | apply Kd.R_drew)); exact Kd.R_mono HO222.out (fun _ hk => ⟨hk.1.2, hk.2⟩)⟩, ⟨by (with_reducible repeat (first | apply Kd.R_alloc | apply Kd.R_drewN | apply Kd.R_drew)); exact HO226.out⟩, ⟨by (with_reducible repeat (first | apply Kd.S_alloc | apply Kd.S_drewN | apply Kd.S_drew)); exact Kd.S_mono HO229.out (fun _ hk => hk.2)⟩, ⟨by (with_reducible repeat (first | apply Kd.S_alloc | apply Kd.S_drewN | apply Kd.S_drew)); exact Kd.S_mono HO232.out (fun _ hk => hk.2)⟩, ⟨by repeat (first | (with_reducible first | exact HB.out | apply below_alloc | apply pw_below_drewN | apply below_drew1) | exact HB.out)⟩⟩
          case rest =>
            clear HC15
            try clear c1
            try clear c2
            try clear p2
            try clear c4
            try clear p6
            try clear c7
            try clear c7b0
            try clear c7b1
            try clear c8
            try clear c25
            try clear c25b0
            try clear c25b1
            try clear c26
            try clear c26b0
            try clear c26b1
            try clear c27
            try clear c27b0
            try clear c27b1
            try clear c27b2
            try clear c28
            try clear c28b0
            try clear c28b1
            try clear p2
            obtain ⟨kq, x75_14, rfl, HA, HJ14, HO_5, HO_6, HO_7, HO_8, HO_10, HO_11, HB⟩ := hcut
            cases kq with
            | zero => exact absurd HA.out (by simp [tattingtop_TopRows.j1])
            | succ kj14 =>
              have H := HA.out
              clear HA
              simp only [tattingtop_TopRows.j1] at H
              by_cases c35 : x75_14 = true
              · subst c35
                have H1 : (some false) = some r := by rw [if_pos rfl] at H; exact H
                clear H
                have H := H1
                clear H1
                exact absurd (Option.some.inj H) (by rw [HRT.out]; decide)
              · replace c35 := Bool.eq_false_iff.mpr c35
                subst c35
                have H1 : (tattingtop_TopRows.l0 kj14 t214 t217 t220 t223 t227 t230 ([] : List Int) 0) = some r := by rw [if_neg (show ¬ (false = true) by decide)] at H; exact H
                clear H
                have H := H1
                clear H1
                have H' := Aside0.mk H
                clear H
                go_wp2
                repeat (go_quiet (fail); try go_wp2)
                go_loopg [12, 13] kj14 (fun kq v12 v13 w' => ∃ (x12_3 : List Int) (x13_3 : Int), v13 = .int .i64 x13_3 ∧ Aside0 (tattingtop_TopRows.l0 kq t214 t217 t220 t223 t227 t230 x12_3 x13_3 = some r) ∧ Aside0 (kq ≤ kj14) ∧ Aside0 (Kd.R (Kd.int .i64) 3 w' w.heap.size (fun k_ => some k_ ≠ ((.slice Ao19 t217.length co19) : Value).ownBlock ∧ some k_ ≠ ((.slice Ao21 t220.length co21) : Value).ownBlock ∧ some k_ ≠ (v12 : Value).ownBlock) (.slice Ao18 t214.length co18) t214) ∧ Aside0 (Kd.R (Kd.int .i64) 3 w' w.heap.size (fun k_ => some k_ ≠ ((.slice Ao18 t214.length co18) : Value).ownBlock ∧ some k_ ≠ ((.slice Ao21 t220.length co21) : Value).ownBlock ∧ some k_ ≠ (v12 : Value).ownBlock) (.slice Ao19 t217.length co19) t217) ∧ Aside0 (Kd.R (Kd.int .i64) 3 w' w.heap.size (fun k_ => some k_ ≠ ((.slice Ao18 t214.length co18) : Value).ownBlock ∧ some k_ ≠ ((.slice Ao19 t217.length co19) : Value).ownBlock ∧ some k_ ≠ (v12 : Value).ownBlock) (.slice Ao21 t220.length co21) t220) ∧ Aside0 (Kd.R (Kd.int .u8) 5 w' w.heap.size (fun _ => True) v225 t223) ∧ Aside0 (Kd.S (Kd.slice 104 (Kd.int .u64)) 62 w' w.heap.size (fun k_ => some k_ ≠ (v231 : Value).ownBlock) v228 t227) ∧ Aside0 (Kd.S (Kd.slice 104 (Kd.int .u64)) 62 w' w.heap.size (fun k_ => some k_ ≠ (v228 : Value).ownBlock) v231 t230) ∧ Aside0 (Kd.R (Kd.int .i64) 3 w' w.heap.size (fun k_ => some k_ ≠ ((.slice Ao18 t214.length co18) : Value).ownBlock ∧ some k_ ≠ ((.slice Ao19 t217.length co19) : Value).ownBlock ∧ some k_ ≠ ((.slice Ao21 t220.length co21) : Value).ownBlock) v12 x12_3) ∧ Aside0 (Below w.heap.size w w'))
                case atStart => exact ⟨(([] : List Int)), (0), (by first | rfl | (simp; done) | (simp [*]; done)), H', ⟨Nat.le_refl _⟩, ⟨by (with_reducible repeat (first | apply Kd.R_alloc | apply Kd.R_drewN | apply Kd.R_drew)); exact Kd.R_mono HO_5.out (fun _ hk => ⟨hk.1, ⟨hk.2, (by simp [Value.ownBlock])⟩⟩)⟩, ⟨by (with_reducible repeat (first | apply Kd.R_alloc | apply Kd.R_drewN | apply Kd.R_drew)); exact Kd.R_mono HO_6.out (fun _ hk => ⟨hk.1, ⟨hk.2, (by simp [Value.ownBlock])⟩⟩)⟩, ⟨by (with_reducible repeat (first | apply Kd.R_alloc | apply Kd.R_drewN | apply Kd.R_drew)); exact Kd.R_mono HO_7.out (fun _ hk => ⟨hk.1, ⟨hk.2, (by simp [Value.ownBlock])⟩⟩)⟩, ⟨by (with_reducible repeat (first | apply Kd.R_alloc | apply Kd.R_drewN | apply Kd.R_drew)); exact HO_8.out⟩, ⟨by (with_reducible repeat (first | apply Kd.S_alloc | apply Kd.S_drewN | apply Kd.S_drew)); exact HO_10.out⟩, ⟨by (with_reducible repeat (first | apply Kd.S_alloc | apply Kd.S_drewN | apply Kd.S_drew)); exact HO_11.out⟩, ⟨by first | exact Kd.R_nil _ _ _ _ _ | exact Kd.N_nil _ _ _ _ _ | exact Kd.V_nil _ _ _ _ _ | exact Kd.Q_nil _ _ _ _ _ | exact Kd.S_nil _ _ _ _ _⟩, ⟨by repeat (first | (with_reducible first | exact HB.out | apply below_alloc | apply pw_below_drewN | apply below_drew1) | exact HB.out)⟩⟩
                case round =>
                  clear H'
                  try clear c1
                  try clear c2
                  try clear p2
                  try clear c3
                  try clear c4
                  try clear p6
                  try clear c7
                  try clear c7b0
                  try clear c7b1
                  try clear c8
                  try clear c25
                  try clear c25b0
                  try clear c25b1
                  try clear c26
                  try clear c26b0
                  try clear c26b1
                  try clear c27
                  try clear c27b0
                  try clear c27b1
                  try clear c27b2
                  try clear c28
                  try clear c28b0
                  try clear c28b1
                  try clear c35
                  try clear p2
                  try clear p6
                  obtain ⟨x12_3, x13_3, rfl, HA, HK3, HO_5, HO_6, HO_7, HO_8, HO_10, HO_11, HO_12, HB⟩ := hrel
                  cases gk with
                  | zero => exact absurd HA.out (by simp [tattingtop_TopRows.l0])
                  | succ k3 =>
                    have H := HA.out
                    clear HA
                    simp only [tattingtop_TopRows.l0] at H
                    by_cases c36 : x13_3 < (t217.length : Int)
                    · rw [if_pos c36] at H
                      have c36b0 : decide (x13_3 < (t217.length : Int)) = true := decide_eq_true c36
                      clear c36
                      obtain ⟨ji37, hji37⟩ : ∃ j_ : Int, (wrap64 (x13_3 + 1)) = j_ := ⟨_, rfl⟩
                      replace H : (if 0 ≤ (ji37) then (if (ji37) < (t220.length : Int) then (if 0 ≤ x13_3 then (if x13_3 < (t220.length : Int) then (if x13_3 < (t223.length : Int) then (if (((rd t223 x13_3) == 1) != (decide ((rd t220 (ji37)) > (rd t220 x13_3)))) = true then (tattingtop_TopRows.j3 k3 t214 t217 t220 t223 t227 t230 x12_3 x13_3 (decide ((rd t220 (ji37)) > (rd t220 x13_3))) true) else (if 0 ≤ (t214.length : Int) then (if (t214.length : Int) < (t227.length : Int) then ((tattingref5_Get.f (rd_L3 t227 (t214.length : Int)) x13_3).bind fun t244 => (if (t244 == (decide ((rd t220 (ji37)) > (rd t220 x13_3)))) = true then (tattingtop_TopRows.j3 k3 t214 t217 t220 t223 t227 t230 x12_3 x13_3 (decide ((rd t220 (ji37)) > (rd t220 x13_3))) true) else (if (t214.length : Int) < (t230.length : Int) then ((tattingref5_Get.f (rd_L3 t230 (t214.length : Int)) x13_3).bind fun t246 => (tattingtop_TopRows.j3 k3 t214 t217 t220 t223 t227 t230 x12_3 x13_3 (decide ((rd t220 (ji37)) > (rd t220 x13_3))) (t246 == (decide ((rd t220 (ji37)) > (rd t220 x13_3)))))) else (none)))) else (none)) else (none))) else (none)) else (none)) else (none)) else (none)) else (none)) = some r := by first | (rw [hji37] at H; exact H) | (simp only [hji37] at H ⊢; exact H)
                      have hji37w : (IntKind.i64.wrap (x13_3 + 1)) = ji37 := (i64_w _).trans hji37
                      by_cases c38 : 0 ≤ (ji37)
                      · rw [if_pos c38] at H
                        have c38b0 : decide (0 ≤ (ji37)) = true := decide_eq_true c38
                        clear c38
                        by_cases c39 : (ji37) < (t220.length : Int)
                        · rw [if_pos c39] at H
                          have c39b0 : decide ((ji37) < (t220.length : Int)) = true := decide_eq_true c39
                          clear c39
                          by_cases c40 : 0 ≤ x13_3
                          · rw [if_pos c40] at H
                            have c40b0 : decide (0 ≤ x13_3) = true := decide_eq_true c40
                            clear c40
                            by_cases c41 : x13_3 < (t220.length : Int)
                            · rw [if_pos c41] at H
                              have c41b0 : decide (x13_3 < (t220.length : Int)) = true := decide_eq_true c41
                              clear c41
                              have HC42 := Aside0.mk H
                              clear H
                              have p240 : 0 ≤ ((ji37) : Int) := of_decide_eq_true (by first | (with_reducible assumption) | assumption)
                              have q240 : (ji37) < (t220.length : Int) := of_decide_eq_true (by first | (with_reducible assumption) | assumption)
                              obtain ⟨ad240, e240, hx240_0⟩ := Kd.at_int (Kd.R_reads' HO_7.out).2.2 (ji37) p240 q240
                              cases e240
                              replace p240 := eq_true p240
                              replace q240 := eq_true q240
                              have p241 : 0 ≤ (x13_3 : Int) := of_decide_eq_true (by first | (with_reducible assumption) | assumption)
                              have q241 : x13_3 < (t220.length : Int) := of_decide_eq_true (by first | (with_reducible assumption) | assumption)
                              obtain ⟨ad241, e241, hx241_0⟩ := Kd.at_int (Kd.R_reads' HO_7.out).2.2 x13_3 p241 q241
                              obtain rfl : ad240 = ad241 := (by injection e241)
                              replace p241 := eq_true p241
                              replace q241 := eq_true q241
                              go_upto_region 16 with (fail)
                              repeat (go_quiet (fail); go_upto_region 16 with (fail))
                              go_cut [120] (fun v120 wc => ∃ (kq : Nat) (x120_41 : Bool), v120 = .bool x120_41 ∧ Aside0 (tattingtop_TopRows.j3 kq t214 t217 t220 t223 t227 t230 x12_3 x13_3 (decide ((rd t220 (ji37)) > (rd t220 x13_3))) x120_41 = some r) ∧ Aside0 (kq ≤ k3) ∧ Aside0 (Kd.R (Kd.int .i64) 3 wc w.heap.size (fun k_ => some k_ ≠ ((.slice Ao19 t217.length co19) : Value).ownBlock ∧ some k_ ≠ ((.slice (some ad240) t220.length co21) : Value).ownBlock ∧ some k_ ≠ (u12 : Value).ownBlock) (.slice Ao18 t214.length co18) t214) ∧ Aside0 (Kd.R (Kd.int .i64) 3 wc w.heap.size (fun k_ => some k_ ≠ ((.slice Ao18 t214.length co18) : Value).ownBlock ∧ some k_ ≠ ((.slice (some ad240) t220.length co21) : Value).ownBlock ∧ some k_ ≠ (u12 : Value).ownBlock) (.slice Ao19 t217.length co19) t217) ∧ Aside0 (Kd.R (Kd.int .i64) 3 wc w.heap.size (fun k_ => some k_ ≠ ((.slice Ao18 t214.length co18) : Value).ownBlock ∧ some k_ ≠ ((.slice Ao19 t217.length co19) : Value).ownBlock ∧ some k_ ≠ (u12 : Value).ownBlock) (.slice (some ad240) t220.length co21) t220) ∧ Aside0 (Kd.R (Kd.int .u8) 5 wc w.heap.size (fun _ => True) v225 t223) ∧ Aside0 (Kd.S (Kd.slice 104 (Kd.int .u64)) 62 wc w.heap.size (fun k_ => some k_ ≠ (v231 : Value).ownBlock) v228 t227) ∧ Aside0 (Kd.S (Kd.slice 104 (Kd.int .u64)) 62 wc w.heap.size (fun k_ => some k_ ≠ (v228 : Value).ownBlock) v231 t230) ∧ Aside0 (Kd.R (Kd.int .i64) 3 wc w.heap.size (fun k_ => some k_ ≠ ((.slice Ao18 t214.length co18) : Value).ownBlock ∧ some k_ ≠ ((.slice Ao19 t217.length co19) : Value).ownBlock ∧ some k_ ≠ ((.slice (some ad240) t220.length co21) : Value).ownBlock) u12 x12_3) ∧ Aside0 (Below w.heap.size w wc))
                              case first =>
                                have H := HC42.out
                                clear HC42
                                by_cases c43 : x13_3 < (t223.length : Int)
                                · rw [if_pos c43] at H
                                  have c43b0 : decide (x13_3 < (t223.length : Int)) = true := decide_eq_true c43
                                  clear c43
                                  (first | rw [c43b0] | (simp only [i64_w, i32_w]; rw [c43b0]) | skip)
                                  by_cases c44 : (((rd t223 x13_3) == 1) != (decide ((rd t220 (ji37)) > (rd t220 x13_3)))) = true
                                  · rw [if_pos c44] at H
                                    have c44b0 : (((rd t223 x13_3) == 1) != (decide ((rd t220 (ji37)) > (rd t220 x13_3)))) = true := c44
                                    (try (have c44b1 : decide (((rd t223 x13_3) == 1) = (decide ((rd t220 (ji37)) > (rd t220 x13_3)))) = false := by simpa using c44))
                                    (try (have c44b2 : (((rd t223 x13_3) == 1) == (decide ((rd t220 (ji37)) > (rd t220 x13_3)))) = false := by simpa using c44))
                                    (try (have c44b3 : ¬ (((rd t223 x13_3) == 1) = (decide ((rd t220 (ji37)) > (rd t220 x13_3)))) := by simpa using c44))
                                    clear c44
                                    have H' := Aside0.mk H
                                    clear H
                                    obtain ⟨Ao45, co45, eo45⟩ := Kd.R_slice HO_8.out
                                    subst eo45
                                    have p242 : 0 ≤ (x13_3 : Int) := of_decide_eq_true (by first | (with_reducible assumption) | assumption)
                                    have q242 : x13_3 < (t223.length : Int) := of_decide_eq_true (by first | (with_reducible assumption) | assumption)
                                    obtain ⟨ad242, e242, hx242_0⟩ := Kd.at_int (Kd.R_reads' HO_8.out).2.2 x13_3 p242 q242
                                    cases e242
                                    replace p242 := eq_true p242
                                    replace q242 := eq_true q242
                                    go_wp2
                                    repeat (go_quiet (fail); try go_wp2)
                                    go_meet
                                    case rel => exact ⟨_, (true), (by first | rfl | (simp; done) | (simp [*]; done)), H', ⟨by have := HJ4.out; have := HJ14.out; have := HK3.out; first | omega | exact Nat.le_refl _⟩, ⟨by (with_reducible repeat (first | apply Kd.R_alloc | apply Kd.R_drewN | apply Kd.R_drew)); exact HO_5.out⟩, ⟨by (with_reducible repeat (first | apply Kd.R_alloc | apply Kd.R_drewN | apply Kd.R_drew)); exact HO_6.out⟩, ⟨by (with_reducible repeat (first | apply Kd.R_alloc | apply Kd.R_drewN | apply Kd.R_drew)); exact HO_7.out⟩, ⟨by (with_reducible repeat (first | apply Kd.R_alloc | apply Kd.R_drewN | apply Kd.R_drew)); exact HO_8.out⟩, ⟨by (with_reducible repeat (first | apply Kd.S_alloc | apply Kd.S_drewN | apply Kd.S_drew)); exact HO_10.out⟩, ⟨by (with_reducible repeat (first | apply Kd.S_alloc | apply Kd.S_drewN | apply Kd.S_drew)); exact HO_11.out⟩, ⟨by (with_reducible repeat (first | apply Kd.R_alloc | apply Kd.R_drewN | apply Kd.R_drew)); exact HO_12.out⟩, ⟨by repeat (first | (with_reducible first | exact HB.out | apply below_alloc | apply pw_below_drewN | apply below_drew1) | exact HB.out)⟩⟩
                                  · rw [if_neg c44] at H
                                    have c44b0 : (((rd t223 x13_3) == 1) != (decide ((rd t220 (ji37)) > (rd t220 x13_3)))) = false := by simpa using c44
                                    (try (have c44b1 : decide (((rd t223 x13_3) == 1) = (decide ((rd t220 (ji37)) > (rd t220 x13_3)))) = true := by simpa using c44))
                                    (try (have c44b2 : (((rd t223 x13_3) == 1) == (decide ((rd t220 (ji37)) > (rd t220 x13_3)))) = true := by simpa using c44))
                                    clear c44
                                    by_cases c46 : 0 ≤ (t214.length : Int)
                                    · rw [if_pos c46] at H
                                      have c46b0 : decide (0 ≤ (t214.length : Int)) = true := decide_eq_true c46
                                      have c46b1 : decide (0 ≤ t214.length) = true := decide_eq_true (by omega)
                                      clear c46
                                      by_cases c47 : (t214.length : Int) < (t227.length : Int)
                                      · rw [if_pos c47] at H
                                        have c47b0 : decide ((t214.length : Int) < (t227.length : Int)) = true := decide_eq_true c47
                                        have c47b1 : decide (t214.length < t227.length) = true := decide_eq_true (Int.ofNat_lt.mp c47)
                                        clear c47
                                        replace H := Option.bind_eq_some_iff.mp H
                                        obtain ⟨t244, A480, H⟩ := H
                                        replace H : (if (t244 == (decide ((rd t220 (ji37)) > (rd t220 x13_3)))) = true then (tattingtop_TopRows.j3 k3 t214 t217 t220 t223 t227 t230 x12_3 x13_3 (decide ((rd t220 (ji37)) > (rd t220 x13_3))) true) else (if (t214.length : Int) < (t230.length : Int) then ((tattingref5_Get.f (rd_L3 t230 (t214.length : Int)) x13_3).bind fun t246 => (tattingtop_TopRows.j3 k3 t214 t217 t220 t223 t227 t230 x12_3 x13_3 (decide ((rd t220 (ji37)) > (rd t220 x13_3))) (t246 == (decide ((rd t220 (ji37)) > (rd t220 x13_3)))))) else (none))) = some r := H
                                        have A48 := Aside0.mk A480
                                        clear A480
                                        by_cases c49 : (t244 == (decide ((rd t220 (ji37)) > (rd t220 x13_3)))) = true
                                        · rw [if_pos c49] at H
                                          have c49b0 : (t244 == (decide ((rd t220 (ji37)) > (rd t220 x13_3)))) = true := c49
                                          (try (have c49b1 : decide (t244 = (decide ((rd t220 (ji37)) > (rd t220 x13_3)))) = true := by simpa using c49))
                                          (try (have c49b2 : (t244 == (decide ((rd t220 (ji37)) > (rd t220 x13_3)))) = true := by simpa using c49))
                                          clear c49
                                          have H' := Aside0.mk H
                                          clear H
                                          obtain ⟨Ao50, co50, eo50⟩ := Kd.R_slice HO_8.out
                                          subst eo50
                                          have p242 : 0 ≤ (x13_3 : Int) := of_decide_eq_true (by first | (with_reducible assumption) | assumption)
                                          have q242 : x13_3 < (t223.length : Int) := of_decide_eq_true (by first | (with_reducible assumption) | assumption)
                                          obtain ⟨ad242, e242, hx242_0⟩ := Kd.at_int (Kd.R_reads' HO_8.out).2.2 x13_3 p242 q242
                                          cases e242
                                          replace p242 := eq_true p242
                                          replace q242 := eq_true q242
                                          obtain ⟨Ao51, co51, eo51⟩ := Kd.S_slice HO_10.out
                                          subst eo51
                                          have p243 : 0 ≤ ((t214.length : Int) : Int) := of_decide_eq_true (by first | (with_reducible assumption) | assumption)
                                          have q243 : (t214.length : Int) < (t227.length : Int) := of_decide_eq_true (by first | (with_reducible assumption) | assumption)
                                          obtain ⟨ad243, A243_0, c243_0, e243, hx243_0, hl243_0, hi243_0⟩ := at_L3 (Kd.S_reads' HO_10.out).2.2 (t214.length : Int) p243 q243
                                          cases e243
                                          obtain ⟨ce243, hce243, hMe243, hcc243⟩ := Kd.S_get HO_10.out [] (t214.length : Int) p243 (by first | exact q243 | exact of_decide_eq_true (by first | (with_reducible assumption) | assumption) | (have e_ := (Kd.S_reads' HO_10.out).1; omega))
                                          obtain ⟨ve243_0, rfl, ge243_0⟩ := hMe243
                                          have hv243_0 := hcc243 0 _ rfl
                                          rw [Nat.add_zero, show ((Kd.slice 104 (Kd.int .u64))).sz = 1 from rfl, Nat.mul_one] at hv243_0
                                          replace hv243_0 := Option.some.inj (hv243_0.symm.trans hx243_0)
                                          rw [hv243_0] at ge243_0
                                          have HL243_0 := Aside0.mk (show Kd.R (Kd.int .u64) 104 _ _ _ _ (rd_L3 t227 (t214.length : Int)) from ge243_0)
                                          clear hv243_0 ge243_0
                                          clear hcc243 hce243
                                          have HR243_0 := Aside0.mk hi243_0
                                          have HC243_0 := Aside0.mk hl243_0
                                          clear hi243_0 hl243_0
                                          (try simp only [Go.IntWalk.toNatUp] at hx243_0)
                                          replace p243 := eq_true p243
                                          replace q243 := eq_true q243
                                          go_wp2_with (first | (go_at_call 30; (with_reducible refine (tattingref5_Get.calls _ _ (rd_L3 t227 (t214.length : Int)) x13_3 t244 _ ?side1 ?side2 A48.out).mono ?_); (case side1 => repeat (first | exact (by repeat (first | (with_reducible exact HR243_0.out) | (with_reducible refine Kd.C_alloc ?_ _) | (with_reducible refine Kd.C_drewN ?_ _) | (with_reducible refine Kd.C_drew ?_) | exact HR243_0.out)) | (with_reducible refine Kd.C_alloc ?_ _) | (with_reducible refine Kd.C_drewN ?_ _) | (with_reducible refine Kd.C_drew ?_))); (case side2 => exact HC243_0.out); rintro e w' ⟨rfl, ⟨nd, rfl⟩⟩; (try first | exact ⟨rfl, _, World.drewN_drewN _ _ _⟩ | exact ⟨rfl, _, Eq.trans (World.drewN_drewN _ _ _) (congrArg (World.drewN _) (Nat.add_assoc _ _ _))⟩)))
                                          repeat (go_quiet (first | (go_at_call 30; (with_reducible refine (tattingref5_Get.calls _ _ (rd_L3 t227 (t214.length : Int)) x13_3 t244 _ ?side1 ?side2 A48.out).mono ?_); (case side1 => repeat (first | exact (by repeat (first | (with_reducible exact HR243_0.out) | (with_reducible refine Kd.C_alloc ?_ _) | (with_reducible refine Kd.C_drewN ?_ _) | (with_reducible refine Kd.C_drew ?_) | exact HR243_0.out)) | (with_reducible refine Kd.C_alloc ?_ _) | (with_reducible refine Kd.C_drewN ?_ _) | (with_reducible refine Kd.C_drew ?_))); (case side2 => exact HC243_0.out); rintro e w' ⟨rfl, ⟨nd, rfl⟩⟩; (try first | exact ⟨rfl, _, World.drewN_drewN _ _ _⟩ | exact ⟨rfl, _, Eq.trans (World.drewN_drewN _ _ _) (congrArg (World.drewN _) (Nat.add_assoc _ _ _))⟩))); try go_wp2_with (first | (go_at_call 30; (with_reducible refine (tattingref5_Get.calls _ _ (rd_L3 t227 (t214.length : Int)) x13_3 t244 _ ?side1 ?side2 A48.out).mono ?_); (case side1 => repeat (first | exact (by repeat (first | (with_reducible exact HR243_0.out) | (with_reducible refine Kd.C_alloc ?_ _) | (with_reducible refine Kd.C_drewN ?_ _) | (with_reducible refine Kd.C_drew ?_) | exact HR243_0.out)) | (with_reducible refine Kd.C_alloc ?_ _) | (with_reducible refine Kd.C_drewN ?_ _) | (with_reducible refine Kd.C_drew ?_))); (case side2 => exact HC243_0.out); rintro e w' ⟨rfl, ⟨nd, rfl⟩⟩; (try first | exact ⟨rfl, _, World.drewN_drewN _ _ _⟩ | exact ⟨rfl, _, Eq.trans (World.drewN_drewN _ _ _) (congrArg (World.drewN _) (Nat.add_assoc _ _ _))⟩))))
                                          go_meet
                                          case rel => exact ⟨_, (true), (by first | rfl | (simp; done) | (simp [*]; done)), H', ⟨by have := HJ4.out; have := HJ14.out; have := HK3.out; first | omega | exact Nat.le_refl _⟩, ⟨by (with_reducible repeat (first | apply Kd.R_alloc | apply Kd.R_drewN | apply Kd.R_drew)); exact HO_5.out⟩, ⟨by (with_reducible repeat (first | apply Kd.R_alloc | apply Kd.R_drewN | apply Kd.R_drew)); exact HO_6.out⟩, ⟨by (with_reducible repeat (first | apply Kd.R_alloc | apply Kd.R_drewN | apply Kd.R_drew)); exact HO_7.out⟩, ⟨by (with_reducible repeat (first | apply Kd.R_alloc | apply Kd.R_drewN | apply Kd.R_drew)); exact HO_8.out⟩, ⟨by (with_reducible repeat (first | apply Kd.S_alloc | apply Kd.S_drewN | apply Kd.S_drew)); exact HO_10.out⟩, ⟨by (with_reducible repeat (first | apply Kd.S_alloc | apply Kd.S_drewN | apply Kd.S_drew)); exact HO_11.out⟩, ⟨by (with_reducible repeat (first | apply Kd.R_alloc | apply Kd.R_drewN | apply Kd.R_drew)); exact HO_12.out⟩, ⟨by repeat (first | (with_reducible first | exact HB.out | apply below_alloc | apply pw_below_drewN | apply below_drew1) | exact HB.out)⟩⟩
                                        · rw [if_neg c49] at H
                                          have c49b0 : (t244 == (decide ((rd t220 (ji37)) > (rd t220 x13_3)))) = false := by simpa using c49
                                          (try (have c49b1 : decide (t244 = (decide ((rd t220 (ji37)) > (rd t220 x13_3)))) = false := by simpa using c49))
                                          (try (have c49b2 : (t244 == (decide ((rd t220 (ji37)) > (rd t220 x13_3)))) = false := by simpa using c49))
                                          (try (have c49b3 : ¬ (t244 = (decide ((rd t220 (ji37)) > (rd t220 x13_3)))) := by simpa using c49))
                                          clear c49
                                          by_cases c52 : (t214.length : Int) < (t230.length : Int)
                                          · rw [if_pos c52] at H
                                            have c52b0 : decide ((t214.length : Int) < (t230.length : Int)) = true := decide_eq_true c52
                                            have c52b1 : decide (t214.length < t230.length) = true := decide_eq_true (Int.ofNat_lt.mp c52)
                                            clear c52
                                            replace H := Option.bind_eq_some_iff.mp H
                                            obtain ⟨t246, A530, H⟩ := H
                                            replace H : (tattingtop_TopRows.j3 k3 t214 t217 t220 t223 t227 t230 x12_3 x13_3 (decide ((rd t220 (ji37)) > (rd t220 x13_3))) (t246 == (decide ((rd t220 (ji37)) > (rd t220 x13_3))))) = some r := H
                                            have A53 := Aside0.mk A530
                                            clear A530
                                            have H' := Aside0.mk H
                                            clear H
                                            obtain ⟨Ao54, co54, eo54⟩ := Kd.R_slice HO_8.out
                                            subst eo54
                                            have p242 : 0 ≤ (x13_3 : Int) := of_decide_eq_true (by first | (with_reducible assumption) | assumption)
                                            have q242 : x13_3 < (t223.length : Int) := of_decide_eq_true (by first | (with_reducible assumption) | assumption)
                                            obtain ⟨ad242, e242, hx242_0⟩ := Kd.at_int (Kd.R_reads' HO_8.out).2.2 x13_3 p242 q242
                                            cases e242
                                            replace p242 := eq_true p242
                                            replace q242 := eq_true q242
                                            obtain ⟨Ao55, co55, eo55⟩ := Kd.S_slice HO_10.out
                                            subst eo55
                                            have p243 : 0 ≤ ((t214.length : Int) : Int) := of_decide_eq_true (by first | (with_reducible assumption) | assumption)
                                            have q243 : (t214.length : Int) < (t227.length : Int) := of_decide_eq_true (by first | (with_reducible assumption) | assumption)
                                            obtain ⟨ad243, A243_0, c243_0, e243, hx243_0, hl243_0, hi243_0⟩ := at_L3 (Kd.S_reads' HO_10.out).2.2 (t214.length : Int) p243 q243
                                            cases e243
                                            obtain ⟨ce243, hce243, hMe243, hcc243⟩ := Kd.S_get HO_10.out [] (t214.length : Int) p243 (by first | exact q243 | exact of_decide_eq_true (by first | (with_reducible assumption) | assumption) | (have e_ := (Kd.S_reads' HO_10.out).1; omega))
                                            obtain ⟨ve243_0, rfl, ge243_0⟩ := hMe243
                                            have hv243_0 := hcc243 0 _ rfl
                                            rw [Nat.add_zero, show ((Kd.slice 104 (Kd.int .u64))).sz = 1 from rfl, Nat.mul_one] at hv243_0
                                            replace hv243_0 := Option.some.inj (hv243_0.symm.trans hx243_0)
                                            rw [hv243_0] at ge243_0
                                            have HL243_0 := Aside0.mk (show Kd.R (Kd.int .u64) 104 _ _ _ _ (rd_L3 t227 (t214.length : Int)) from ge243_0)
                                            clear hv243_0 ge243_0
                                            clear hcc243 hce243
                                            have HR243_0 := Aside0.mk hi243_0
                                            have HC243_0 := Aside0.mk hl243_0
                                            clear hi243_0 hl243_0
                                            (try simp only [Go.IntWalk.toNatUp] at hx243_0)
                                            replace p243 := eq_true p243
                                            replace q243 := eq_true q243
                                            go_wp2_with (first | (go_at_call 30; (with_reducible refine (tattingref5_Get.calls _ _ (rd_L3 t227 (t214.length : Int)) x13_3 t244 _ ?side1 ?side2 A48.out).mono ?_); (case side1 => repeat (first | exact (by repeat (first | (with_reducible exact HR243_0.out) | (with_reducible refine Kd.C_alloc ?_ _) | (with_reducible refine Kd.C_drewN ?_ _) | (with_reducible refine Kd.C_drew ?_) | exact HR243_0.out)) | (with_reducible refine Kd.C_alloc ?_ _) | (with_reducible refine Kd.C_drewN ?_ _) | (with_reducible refine Kd.C_drew ?_))); (case side2 => exact HC243_0.out); rintro e w' ⟨rfl, ⟨nd, rfl⟩⟩; (try first | exact ⟨rfl, _, World.drewN_drewN _ _ _⟩ | exact ⟨rfl, _, Eq.trans (World.drewN_drewN _ _ _) (congrArg (World.drewN _) (Nat.add_assoc _ _ _))⟩); obtain ⟨Ao56, co56, eo56⟩ := Kd.S_slice HO_11.out; subst eo56; have p245 : 0 ≤ ((t214.length : Int) : Int) := of_decide_eq_true (by first | (with_reducible assumption) | assumption); have q245 : (t214.length : Int) < (t230.length : Int) := of_decide_eq_true (by first | (with_reducible assumption) | assumption); obtain ⟨ad245, A245_0, c245_0, e245, hx245_0, hl245_0, hi245_0⟩ := at_L3 (Kd.S_reads' HO_11.out).2.2 (t214.length : Int) p245 q245; cases e245; obtain ⟨ce245, hce245, hMe245, hcc245⟩ := Kd.S_get HO_11.out [] (t214.length : Int) p245 (by first | exact q245 | exact of_decide_eq_true (by first | (with_reducible assumption) | assumption) | (have e_ := (Kd.S_reads' HO_11.out).1; omega)); obtain ⟨ve245_0, rfl, ge245_0⟩ := hMe245; have hv245_0 := hcc245 0 _ rfl; rw [Nat.add_zero, show ((Kd.slice 104 (Kd.int .u64))).sz = 1 from rfl, Nat.mul_one] at hv245_0; replace hv245_0 := Option.some.inj (hv245_0.symm.trans hx245_0); rw [hv245_0] at ge245_0; have HL245_0 := Aside0.mk (show Kd.R (Kd.int .u64) 104 _ _ _ _ (rd_L3 t230 (t214.length : Int)) from ge245_0); clear hv245_0 ge245_0; clear hcc245 hce245; have HR245_0 := Aside0.mk hi245_0; have HC245_0 := Aside0.mk hl245_0; clear hi245_0 hl245_0; (try simp only [Go.IntWalk.toNatUp] at hx245_0); replace p245 := eq_true p245; replace q245 := eq_true q245) | (go_at_call 30; (with_reducible refine (tattingref5_Get.calls _ _ (rd_L3 t230 (t214.length : Int)) x13_3 t246 _ ?side1 ?side2 A53.out).mono ?_); (case side1 => repeat (first | exact (by repeat (first | (with_reducible exact HR245_0.out) | (with_reducible refine Kd.C_alloc ?_ _) | (with_reducible refine Kd.C_drewN ?_ _) | (with_reducible refine Kd.C_drew ?_) | exact HR245_0.out)) | (with_reducible refine Kd.C_alloc ?_ _) | (with_reducible refine Kd.C_drewN ?_ _) | (with_reducible refine Kd.C_drew ?_))); (case side2 => exact HC245_0.out); rintro e w' ⟨rfl, ⟨nd, rfl⟩⟩; (try first | exact ⟨rfl, _, World.drewN_drewN _ _ _⟩ | exact ⟨rfl, _, Eq.trans (World.drewN_drewN _ _ _) (congrArg (World.drewN _) (Nat.add_assoc _ _ _))⟩)))
                                            repeat (go_quiet (first | (go_at_call 30; (with_reducible refine (tattingref5_Get.calls _ _ (rd_L3 t227 (t214.length : Int)) x13_3 t244 _ ?side1 ?side2 A48.out).mono ?_); (case side1 => repeat (first | exact (by repeat (first | (with_reducible exact HR243_0.out) | (with_reducible refine Kd.C_alloc ?_ _) | (with_reducible refine Kd.C_drewN ?_ _) | (with_reducible refine Kd.C_drew ?_) | exact HR243_0.out)) | (with_reducible refine Kd.C_alloc ?_ _) | (with_reducible refine Kd.C_drewN ?_ _) | (with_reducible refine Kd.C_drew ?_))); (case side2 => exact HC243_0.out); rintro e w' ⟨rfl, ⟨nd, rfl⟩⟩; (try first | exact ⟨rfl, _, World.drewN_drewN _ _ _⟩ | exact ⟨rfl, _, Eq.trans (World.drewN_drewN _ _ _) (congrArg (World.drewN _) (Nat.add_assoc _ _ _))⟩); obtain ⟨Ao56, co56, eo56⟩ := Kd.S_slice HO_11.out; subst eo56; have p245 : 0 ≤ ((t214.length : Int) : Int) := of_decide_eq_true (by first | (with_reducible assumption) | assumption); have q245 : (t214.length : Int) < (t230.length : Int) := of_decide_eq_true (by first | (with_reducible assumption) | assumption); obtain ⟨ad245, A245_0, c245_0, e245, hx245_0, hl245_0, hi245_0⟩ := at_L3 (Kd.S_reads' HO_11.out).2.2 (t214.length : Int) p245 q245; cases e245; obtain ⟨ce245, hce245, hMe245, hcc245⟩ := Kd.S_get HO_11.out [] (t214.length : Int) p245 (by first | exact q245 | exact of_decide_eq_true (by first | (with_reducible assumption) | assumption) | (have e_ := (Kd.S_reads' HO_11.out).1; omega)); obtain ⟨ve245_0, rfl, ge245_0⟩ := hMe245; have hv245_0 := hcc245 0 _ rfl; rw [Nat.add_zero, show ((Kd.slice 104 (Kd.int .u64))).sz = 1 from rfl, Nat.mul_one] at hv245_0; replace hv245_0 := Option.some.inj (hv245_0.symm.trans hx245_0); rw [hv245_0] at ge245_0; have HL245_0 := Aside0.mk (show Kd.R (Kd.int .u64) 104 _ _ _ _ (rd_L3 t230 (t214.length : Int)) from ge245_0); clear hv245_0 ge245_0; clear hcc245 hce245; have HR245_0 := Aside0.mk hi245_0; have HC245_0 := Aside0.mk hl245_0; clear hi245_0 hl245_0; (try simp only [Go.IntWalk.toNatUp] at hx245_0); replace p245 := eq_true p245; replace q245 := eq_true q245) | (go_at_call 30; (with_reducible refine (tattingref5_Get.calls _ _ (rd_L3 t230 (t214.length : Int)) x13_3 t246 _ ?side1 ?side2 A53.out).mono ?_); (case side1 => repeat (first | exact (by repeat (first | (with_reducible exact HR245_0.out) | (with_reducible refine Kd.C_alloc ?_ _) | (with_reducible refine Kd.C_drewN ?_ _) | (with_reducible refine Kd.C_drew ?_) | exact HR245_0.out)) | (with_reducible refine Kd.C_alloc ?_ _) | (with_reducible refine Kd.C_drewN ?_ _) | (with_reducible refine Kd.C_drew ?_))); (case side2 => exact HC245_0.out); rintro e w' ⟨rfl, ⟨nd, rfl⟩⟩; (try first | exact ⟨rfl, _, World.drewN_drewN _ _ _⟩ | exact ⟨rfl, _, Eq.trans (World.drewN_drewN _ _ _) (congrArg (World.drewN _) (Nat.add_assoc _ _ _))⟩))); try go_wp2_with (first | (go_at_call 30; (with_reducible refine (tattingref5_Get.calls _ _ (rd_L3 t227 (t214.length : Int)) x13_3 t244 _ ?side1 ?side2 A48.out).mono ?_); (case side1 => repeat (first | exact (by repeat (first | (with_reducible exact HR243_0.out) | (with_reducible refine Kd.C_alloc ?_ _) | (with_reducible refine Kd.C_drewN ?_ _) | (with_reducible refine Kd.C_drew ?_) | exact HR243_0.out)) | (with_reducible refine Kd.C_alloc ?_ _) | (with_reducible refine Kd.C_drewN ?_ _) | (with_reducible refine Kd.C_drew ?_))); (case side2 => exact HC243_0.out); rintro e w' ⟨rfl, ⟨nd, rfl⟩⟩; (try first | exact ⟨rfl, _, World.drewN_drewN _ _ _⟩ | exact ⟨rfl, _, Eq.trans (World.drewN_drewN _ _ _) (congrArg (World.drewN _) (Nat.add_assoc _ _ _))⟩); obtain ⟨Ao56, co56, eo56⟩ := Kd.S_slice HO_11.out; subst eo56; have p245 : 0 ≤ ((t214.length : Int) : Int) := of_decide_eq_true (by first | (with_reducible assumption) | assumption); have q245 : (t214.length : Int) < (t230.length : Int) := of_decide_eq_true (by first | (with_reducible assumption) | assumption); obtain ⟨ad245, A245_0, c245_0, e245, hx245_0, hl245_0, hi245_0⟩ := at_L3 (Kd.S_reads' HO_11.out).2.2 (t214.length : Int) p245 q245; cases e245; obtain ⟨ce245, hce245, hMe245, hcc245⟩ := Kd.S_get HO_11.out [] (t214.length : Int) p245 (by first | exact q245 | exact of_decide_eq_true (by first | (with_reducible assumption) | assumption) | (have e_ := (Kd.S_reads' HO_11.out).1; omega)); obtain ⟨ve245_0, rfl, ge245_0⟩ := hMe245; have hv245_0 := hcc245 0 _ rfl; rw [Nat.add_zero, show ((Kd.slice 104 (Kd.int .u64))).sz = 1 from rfl, Nat.mul_one] at hv245_0; replace hv245_0 := Option.some.inj (hv245_0.symm.trans hx245_0); rw [hv245_0] at ge245_0; have HL245_0 := Aside0.mk (show Kd.R (Kd.int .u64) 104 _ _ _ _ (rd_L3 t230 (t214.length : Int)) from ge245_0); clear hv245_0 ge245_0; clear hcc245 hce245; have HR245_0 := Aside0.mk hi245_0; have HC245_0 := Aside0.mk hl245_0; clear hi245_0 hl245_0; (try simp only [Go.IntWalk.toNatUp] at hx245_0); replace p245 := eq_true p245; replace q245 := eq_true q245) | (go_at_call 30; (with_reducible refine (tattingref5_Get.calls _ _ (rd_L3 t230 (t214.length : Int)) x13_3 t246 _ ?side1 ?side2 A53.out).mono ?_); (case side1 => repeat (first | exact (by repeat (first | (with_reducible exact HR245_0.out) | (with_reducible refine Kd.C_alloc ?_ _) | (with_reducible refine Kd.C_drewN ?_ _) | (with_reducible refine Kd.C_drew ?_) | exact HR245_0.out)) | (with_reducible refine Kd.C_alloc ?_ _) | (with_reducible refine Kd.C_drewN ?_ _) | (with_reducible refine Kd.C_drew ?_))); (case side2 => exact HC245_0.out); rintro e w' ⟨rfl, ⟨nd, rfl⟩⟩; (try first | exact ⟨rfl, _, World.drewN_drewN _ _ _⟩ | exact ⟨rfl, _, Eq.trans (World.drewN_drewN _ _ _) (congrArg (World.drewN _) (Nat.add_assoc _ _ _))⟩))))
                                            go_meet
                                            case rel => exact ⟨_, ((t246 == (decide ((rd t220 (ji37)) > (rd t220 x13_3))))), (by first | rfl | (simp; done) | (simp only [← hji37] <;> (first | rfl | simp)) | (simp [*]; done)), H', ⟨by have := HJ4.out; have := HJ14.out; have := HK3.out; first | omega | exact Nat.le_refl _⟩, ⟨by (with_reducible repeat (first | apply Kd.R_alloc | apply Kd.R_drewN | apply Kd.R_drew)); exact HO_5.out⟩, ⟨by (with_reducible repeat (first | apply Kd.R_alloc | apply Kd.R_drewN | apply Kd.R_drew)); exact HO_6.out⟩, ⟨by (with_reducible repeat (first | apply Kd.R_alloc | apply Kd.R_drewN | apply Kd.R_drew)); exact HO_7.out⟩, ⟨by (with_reducible repeat (first | apply Kd.R_alloc | apply Kd.R_drewN | apply Kd.R_drew)); exact HO_8.out⟩, ⟨by (with_reducible repeat (first | apply Kd.S_alloc | apply Kd.S_drewN | apply Kd.S_drew)); exact HO_10.out⟩, ⟨by (with_reducible repeat (first | apply Kd.S_alloc | apply Kd.S_drewN | apply Kd.S_drew)); exact HO_11.out⟩, ⟨by (with_reducible repeat (first | apply Kd.R_alloc | apply Kd.R_drewN | apply Kd.R_drew)); exact HO_12.out⟩, ⟨by repeat (first | (with_reducible first | exact HB.out | apply below_alloc | apply pw_below_drewN | apply below_drew1) | exact HB.out)⟩⟩
                                          · rw [if_neg c52] at H
                                            exact absurd H (by simp)
                                      · rw [if_neg c47] at H
                                        exact absurd H (by simp)
                                    · rw [if_neg c46] at H
                                      exact absurd H (by simp)
                                · rw [if_neg c43] at H
                                  exact absurd H (by simp)
                              case rest =>
                                clear HC42
                                try clear c1
                                try clear c2
                                try clear p2
                                try clear q2
                                try clear hx2
                                try clear c3
                                try clear c4
                                try clear c5
                                try clear p6
                                try clear c7
                                try clear c7b0
                                try clear c7b1
                                try clear c8
                                try clear c24
                                try clear p24
                                try clear q24
                                try clear hx24
                                try clear c25
                                try clear c25b0
                                try clear c25b1
                                try clear c26
                                try clear c26b0
                                try clear c26b1
                                try clear c27
                                try clear c27b0
                                try clear c27b1
                                try clear c27b2
                                try clear c28
                                try clear c28b0
                                try clear c28b1
                                try clear c35
                                try clear c36
                                try clear c36b0
                                try clear c38
                                try clear c38b0
                                try clear c39
                                try clear c39b0
                                try clear c40
                                try clear c40b0
                                try clear c41
                                try clear c41b0
                                try clear c43
                                try clear c43b0
                                try clear c44
                                try clear c44b0
                                try clear c44b1
                                try clear c44b2
                                try clear c46
                                try clear c46b0
                                try clear c46b1
                                try clear c47
                                try clear c47b0
                                try clear c47b1
                                try clear c49
                                try clear c49b0
                                try clear c49b1
                                try clear c49b2
                                try clear c52
                                try clear c52b0
                                try clear c52b1
                                try clear hx240_0
                                try clear hx241_0
                                try clear hx242_0
                                try clear hx243_0
                                try clear hx245_0
                                try clear p2
                                try clear p240
                                try clear p241
                                try clear p242
                                try clear p243
                                try clear p245
                                try clear p6
                                try clear q240
                                try clear q241
                                try clear q242
                                try clear q243
                                try clear q245
                                obtain ⟨kq, x120_41, rfl, HA, HJ41, HO_5, HO_6, HO_7, HO_8, HO_10, HO_11, HO_12, HB⟩ := hcut
                                cases kq with
                                | zero => exact absurd HA.out (by simp [tattingtop_TopRows.j3])
                                | succ kj41 =>
                                  have H := HA.out
                                  clear HA
                                  simp only [tattingtop_TopRows.j3] at H
                                  by_cases c57 : x120_41 = true
                                  · subst c57
                                    have H1 : (some false) = some r := by rw [if_pos rfl] at H; exact H
                                    clear H
                                    have H := H1
                                    clear H1
                                    exact absurd (Option.some.inj H) (by rw [HRT.out]; decide)
                                  · replace c57 := Bool.eq_false_iff.mpr c57
                                    subst c57
                                    have H1 : (if (decide ((rd t220 (ji37)) > (rd t220 x13_3))) = true then (if x12_3.length < 17592186044416 then (tattingtop_TopRows.l0 kj41 t214 t217 t220 t223 t227 t230 (x12_3 ++ [x13_3]) (wrap64 (x13_3 + 1))) else (none)) else (tattingtop_TopRows.l0 kj41 t214 t217 t220 t223 t227 t230 x12_3 (wrap64 (x13_3 + 1)))) = some r := by rw [if_neg (show ¬ (false = true) by decide)] at H; exact H
                                    clear H
                                    have H := H1
                                    clear H1
                                    by_cases c58 : (decide ((rd t220 (ji37)) > (rd t220 x13_3))) = true
                                    · rw [if_pos c58] at H
                                      have c58b0 : (decide ((rd t220 (ji37)) > (rd t220 x13_3))) = true := c58
                                      have c58b1 : (decide ((rd t220 x13_3) < (rd t220 (ji37)))) = true := c58b0
                                      have c58b2 : (rd t220 x13_3) < (rd t220 (ji37)) := of_decide_eq_true c58b1
                                      clear c58
                                      by_cases c59 : x12_3.length < 17592186044416
                                      · rw [if_pos c59] at H
                                        have LMc59 := Aside0.mk c59
                                        clear c59
                                        obtain ⟨y247, hy247⟩ : ∃ y_ : List Int, y_ = (x12_3 ++ [x13_3]) := ⟨_, rfl⟩
                                        replace H : (tattingtop_TopRows.l0 kj41 t214 t217 t220 t223 t227 t230 y247 (wrap64 (x13_3 + 1))) = some r := by first | (rw [hy247]; with_reducible exact H) | (have H2_ := (Option.bind_some _ _).symm.trans H; rw [hy247]; with_reducible exact H2_) | (have H2_ := (Option.bind_some _ _).symm.trans H; with_reducible exact H2_) | with_reducible exact H | (rw [hy247]; exact H) | exact H
                                        have Ny247 := Aside0.mk hy247
                                        clear hy247
                                        have H' := Aside0.mk H
                                        clear H
                                        go_wp2_with (first | (at_builtin; (with_reducible refine gate_builtin (b := .append) (xs := #[.tmp 122, .tmp 124]) rfl ?_); refine Kd.R_append (Kd.int .i64) (w0 := w) w.heap.size rfl (.tmp 122) (.tmp 124) 22 3 (.int .i64 0) 8 rfl Tryz.underlying22 info3 rfl (by decide) (by omega) u12 x12_3 x13_3 [.int .i64 x13_3] (fun k_ => some k_ ≠ (.slice Ao18 t214.length co18 : Value).ownBlock ∧ some k_ ≠ (.slice Ao19 t217.length co19 : Value).ownBlock ∧ some k_ ≠ (.slice (some ad240) t220.length co21 : Value).ownBlock) (fun _ => False) rfl rfl ?aP (fun _ hk => hk.elim) ?aF ?aO ?aB ?aS ?aL ?_; (case aP => exact rfl); (case aB => exact (by repeat (first | (with_reducible first | exact HB.out | apply below_alloc | apply pw_below_drewN | apply below_drew1) | exact HB.out))); (case aF => exact (fun k_ hk => ⟨Kd.fresh' (Kd.R_lt (by (with_reducible repeat (first | apply Kd.R_alloc | apply Kd.R_drewN | apply Kd.R_drew)); exact HO_5.out)) k_ hk, Kd.fresh' (Kd.R_lt (by (with_reducible repeat (first | apply Kd.R_alloc | apply Kd.R_drewN | apply Kd.R_drew)); exact HO_6.out)) k_ hk, Kd.fresh' (Kd.R_lt (by (with_reducible repeat (first | apply Kd.R_alloc | apply Kd.R_drewN | apply Kd.R_drew)); exact HO_7.out)) k_ hk⟩)); (case aO => exact (by (with_reducible repeat (first | apply Kd.R_alloc | apply Kd.R_drewN | apply Kd.R_drew)); exact HO_12.out)); (case aS => exact (below_size (by repeat (first | (with_reducible first | exact HB.out | apply below_alloc | apply pw_below_drewN | apply below_drew1) | exact HB.out)))); (case aL => have := LMc59.out; omega); intro v248 w60 ho hb hg hat; rw [← Ny247.out] at ho; have n0_ := Aside0.mk (Kd.R_after (ok := (fun k_ => some k_ ≠ (.slice Ao19 t217.length co19 : Value).ownBlock ∧ some k_ ≠ (.slice (some ad240) t220.length co21 : Value).ownBlock)) (by (with_reducible repeat (first | apply Kd.R_alloc | apply Kd.R_drewN | apply Kd.R_drew)); exact Kd.R_mono HO_5.out (fun _ hk => ⟨⟨hk.1, hk.2.1⟩, hk.2.2⟩)) hg hat); have n1_ := Aside0.mk (Kd.R_after (ok := (fun k_ => some k_ ≠ (.slice Ao18 t214.length co18 : Value).ownBlock ∧ some k_ ≠ (.slice (some ad240) t220.length co21 : Value).ownBlock)) (by (with_reducible repeat (first | apply Kd.R_alloc | apply Kd.R_drewN | apply Kd.R_drew)); exact Kd.R_mono HO_6.out (fun _ hk => ⟨⟨hk.1, hk.2.1⟩, hk.2.2⟩)) hg hat); have n2_ := Aside0.mk (Kd.R_after (ok := (fun k_ => some k_ ≠ (.slice Ao18 t214.length co18 : Value).ownBlock ∧ some k_ ≠ (.slice Ao19 t217.length co19 : Value).ownBlock)) (by (with_reducible repeat (first | apply Kd.R_alloc | apply Kd.R_drewN | apply Kd.R_drew)); exact Kd.R_mono HO_7.out (fun _ hk => ⟨⟨hk.1, hk.2.1⟩, hk.2.2⟩)) hg hat); have n3_ := Aside0.mk (Kd.R_over' (by (with_reducible repeat (first | apply Kd.R_alloc | apply Kd.R_drewN | apply Kd.R_drew)); exact HO_8.out) (Kd.R_typed (by (with_reducible repeat (first | apply Kd.R_alloc | apply Kd.R_drewN | apply Kd.R_drew)); exact HO_12.out)) (by decide) hg); have n4_ := Aside0.mk (Kd.S_over' (by (with_reducible repeat (first | apply Kd.S_alloc | apply Kd.S_drewN | apply Kd.S_drew)); exact HO_10.out) (Kd.R_typed (by (with_reducible repeat (first | apply Kd.R_alloc | apply Kd.R_drewN | apply Kd.R_drew)); exact HO_12.out)) (by decide) hg); have n5_ := Aside0.mk (Kd.S_over' (by (with_reducible repeat (first | apply Kd.S_alloc | apply Kd.S_drewN | apply Kd.S_drew)); exact HO_11.out) (Kd.R_typed (by (with_reducible repeat (first | apply Kd.R_alloc | apply Kd.R_drewN | apply Kd.R_drew)); exact HO_12.out)) (by decide) hg); have n6_ := Aside0.mk (hb); have n7_ := Aside0.mk (ho); clear HO_5; clear HO_6; clear HO_7; clear HO_8; clear HO_10; clear HO_11; clear HB; clear HO_12; have HO_5 := n0_; have HO_6 := n1_; have HO_7 := n2_; have HO_8 := n3_; have HO_10 := n4_; have HO_11 := n5_; have HB := n6_; have HO249 := n7_; clear n0_ n1_ n2_ n3_ n4_ n5_ n6_ n7_; clear ho hb hg hat))
                                        repeat (go_quiet (first | (at_builtin; (with_reducible refine gate_builtin (b := .append) (xs := #[.tmp 122, .tmp 124]) rfl ?_); refine Kd.R_append (Kd.int .i64) (w0 := w) w.heap.size rfl (.tmp 122) (.tmp 124) 22 3 (.int .i64 0) 8 rfl Tryz.underlying22 info3 rfl (by decide) (by omega) u12 x12_3 x13_3 [.int .i64 x13_3] (fun k_ => some k_ ≠ (.slice Ao18 t214.length co18 : Value).ownBlock ∧ some k_ ≠ (.slice Ao19 t217.length co19 : Value).ownBlock ∧ some k_ ≠ (.slice (some ad240) t220.length co21 : Value).ownBlock) (fun _ => False) rfl rfl ?aP (fun _ hk => hk.elim) ?aF ?aO ?aB ?aS ?aL ?_; (case aP => exact rfl); (case aB => exact (by repeat (first | (with_reducible first | exact HB.out | apply below_alloc | apply pw_below_drewN | apply below_drew1) | exact HB.out))); (case aF => exact (fun k_ hk => ⟨Kd.fresh' (Kd.R_lt (by (with_reducible repeat (first | apply Kd.R_alloc | apply Kd.R_drewN | apply Kd.R_drew)); exact HO_5.out)) k_ hk, Kd.fresh' (Kd.R_lt (by (with_reducible repeat (first | apply Kd.R_alloc | apply Kd.R_drewN | apply Kd.R_drew)); exact HO_6.out)) k_ hk, Kd.fresh' (Kd.R_lt (by (with_reducible repeat (first | apply Kd.R_alloc | apply Kd.R_drewN | apply Kd.R_drew)); exact HO_7.out)) k_ hk⟩)); (case aO => exact (by (with_reducible repeat (first | apply Kd.R_alloc | apply Kd.R_drewN | apply Kd.R_drew)); exact HO_12.out)); (case aS => exact (below_size (by repeat (first | (with_reducible first | exact HB.out | apply below_alloc | apply pw_below_drewN | apply below_drew1) | exact HB.out)))); (case aL => have := LMc59.out; omega); intro v248 w60 ho hb hg hat; rw [← Ny247.out] at ho; have n0_ := Aside0.mk (Kd.R_after (ok := (fun k_ => some k_ ≠ (.slice Ao19 t217.length co19 : Value).ownBlock ∧ some k_ ≠ (.slice (some ad240) t220.length co21 : Value).ownBlock)) (by (with_reducible repeat (first | apply Kd.R_alloc | apply Kd.R_drewN | apply Kd.R_drew)); exact Kd.R_mono HO_5.out (fun _ hk => ⟨⟨hk.1, hk.2.1⟩, hk.2.2⟩)) hg hat); have n1_ := Aside0.mk (Kd.R_after (ok := (fun k_ => some k_ ≠ (.slice Ao18 t214.length co18 : Value).ownBlock ∧ some k_ ≠ (.slice (some ad240) t220.length co21 : Value).ownBlock)) (by (with_reducible repeat (first | apply Kd.R_alloc | apply Kd.R_drewN | apply Kd.R_drew)); exact Kd.R_mono HO_6.out (fun _ hk => ⟨⟨hk.1, hk.2.1⟩, hk.2.2⟩)) hg hat); have n2_ := Aside0.mk (Kd.R_after (ok := (fun k_ => some k_ ≠ (.slice Ao18 t214.length co18 : Value).ownBlock ∧ some k_ ≠ (.slice Ao19 t217.length co19 : Value).ownBlock)) (by (with_reducible repeat (first | apply Kd.R_alloc | apply Kd.R_drewN | apply Kd.R_drew)); exact Kd.R_mono HO_7.out (fun _ hk => ⟨⟨hk.1, hk.2.1⟩, hk.2.2⟩)) hg hat); have n3_ := Aside0.mk (Kd.R_over' (by (with_reducible repeat (first | apply Kd.R_alloc | apply Kd.R_drewN | apply Kd.R_drew)); exact HO_8.out) (Kd.R_typed (by (with_reducible repeat (first | apply Kd.R_alloc | apply Kd.R_drewN | apply Kd.R_drew)); exact HO_12.out)) (by decide) hg); have n4_ := Aside0.mk (Kd.S_over' (by (with_reducible repeat (first | apply Kd.S_alloc | apply Kd.S_drewN | apply Kd.S_drew)); exact HO_10.out) (Kd.R_typed (by (with_reducible repeat (first | apply Kd.R_alloc | apply Kd.R_drewN | apply Kd.R_drew)); exact HO_12.out)) (by decide) hg); have n5_ := Aside0.mk (Kd.S_over' (by (with_reducible repeat (first | apply Kd.S_alloc | apply Kd.S_drewN | apply Kd.S_drew)); exact HO_11.out) (Kd.R_typed (by (with_reducible repeat (first | apply Kd.R_alloc | apply Kd.R_drewN | apply Kd.R_drew)); exact HO_12.out)) (by decide) hg); have n6_ := Aside0.mk (hb); have n7_ := Aside0.mk (ho); clear HO_5; clear HO_6; clear HO_7; clear HO_8; clear HO_10; clear HO_11; clear HB; clear HO_12; have HO_5 := n0_; have HO_6 := n1_; have HO_7 := n2_; have HO_8 := n3_; have HO_10 := n4_; have HO_11 := n5_; have HB := n6_; have HO249 := n7_; clear n0_ n1_ n2_ n3_ n4_ n5_ n6_ n7_; clear ho hb hg hat)); try go_wp2_with (first | (at_builtin; (with_reducible refine gate_builtin (b := .append) (xs := #[.tmp 122, .tmp 124]) rfl ?_); refine Kd.R_append (Kd.int .i64) (w0 := w) w.heap.size rfl (.tmp 122) (.tmp 124) 22 3 (.int .i64 0) 8 rfl Tryz.underlying22 info3 rfl (by decide) (by omega) u12 x12_3 x13_3 [.int .i64 x13_3] (fun k_ => some k_ ≠ (.slice Ao18 t214.length co18 : Value).ownBlock ∧ some k_ ≠ (.slice Ao19 t217.length co19 : Value).ownBlock ∧ some k_ ≠ (.slice (some ad240) t220.length co21 : Value).ownBlock) (fun _ => False) rfl rfl ?aP (fun _ hk => hk.elim) ?aF ?aO ?aB ?aS ?aL ?_; (case aP => exact rfl); (case aB => exact (by repeat (first | (with_reducible first | exact HB.out | apply below_alloc | apply pw_below_drewN | apply below_drew1) | exact HB.out))); (case aF => exact (fun k_ hk => ⟨Kd.fresh' (Kd.R_lt (by (with_reducible repeat (first | apply Kd.R_alloc | apply Kd.R_drewN | apply Kd.R_drew)); exact HO_5.out)) k_ hk, Kd.fresh' (Kd.R_lt (by (with_reducible repeat (first | apply Kd.R_alloc | apply Kd.R_drewN | apply Kd.R_drew)); exact HO_6.out)) k_ hk, Kd.fresh' (Kd.R_lt (by (with_reducible repeat (first | apply Kd.R_alloc | apply Kd.R_drewN | apply Kd.R_drew)); exact HO_7.out)) k_ hk⟩)); (case aO => exact (by (with_reducible repeat (first | apply Kd.R_alloc | apply Kd.R_drewN | apply Kd.R_drew)); exact HO_12.out)); (case aS => exact (below_size (by repeat (first | (with_reducible first | exact HB.out | apply below_alloc | apply pw_below_drewN | apply below_drew1) | exact HB.out)))); (case aL => have := LMc59.out; omega); intro v248 w60 ho hb hg hat; rw [← Ny247.out] at ho; have n0_ := Aside0.mk (Kd.R_after (ok := (fun k_ => some k_ ≠ (.slice Ao19 t217.length co19 : Value).ownBlock ∧ some k_ ≠ (.slice (some ad240) t220.length co21 : Value).ownBlock)) (by (with_reducible repeat (first | apply Kd.R_alloc | apply Kd.R_drewN | apply Kd.R_drew)); exact Kd.R_mono HO_5.out (fun _ hk => ⟨⟨hk.1, hk.2.1⟩, hk.2.2⟩)) hg hat); have n1_ := Aside0.mk (Kd.R_after (ok := (fun k_ => some k_ ≠ (.slice Ao18 t214.length co18 : Value).ownBlock ∧ some k_ ≠ (.slice (some ad240) t220.length co21 : Value).ownBlock)) (by (with_reducible repeat (first | apply Kd.R_alloc | apply Kd.R_drewN | apply Kd.R_drew)); exact Kd.R_mono HO_6.out (fun _ hk => ⟨⟨hk.1, hk.2.1⟩, hk.2.2⟩)) hg hat); have n2_ := Aside0.mk (Kd.R_after (ok := (fun k_ => some k_ ≠ (.slice Ao18 t214.length co18 : Value).ownBlock ∧ some k_ ≠ (.slice Ao19 t217.length co19 : Value).ownBlock)) (by (with_reducible repeat (first | apply Kd.R_alloc | apply Kd.R_drewN | apply Kd.R_drew)); exact Kd.R_mono HO_7.out (fun _ hk => ⟨⟨hk.1, hk.2.1⟩, hk.2.2⟩)) hg hat); have n3_ := Aside0.mk (Kd.R_over' (by (with_reducible repeat (first | apply Kd.R_alloc | apply Kd.R_drewN | apply Kd.R_drew)); exact HO_8.out) (Kd.R_typed (by (with_reducible repeat (first | apply Kd.R_alloc | apply Kd.R_drewN | apply Kd.R_drew)); exact HO_12.out)) (by decide) hg); have n4_ := Aside0.mk (Kd.S_over' (by (with_reducible repeat (first | apply Kd.S_alloc | apply Kd.S_drewN | apply Kd.S_drew)); exact HO_10.out) (Kd.R_typed (by (with_reducible repeat (first | apply Kd.R_alloc | apply Kd.R_drewN | apply Kd.R_drew)); exact HO_12.out)) (by decide) hg); have n5_ := Aside0.mk (Kd.S_over' (by (with_reducible repeat (first | apply Kd.S_alloc | apply Kd.S_drewN | apply Kd.S_drew)); exact HO_11.out) (Kd.R_typed (by (with_reducible repeat (first | apply Kd.R_alloc | apply Kd.R_drewN | apply Kd.R_drew)); exact HO_12.out)) (by decide) hg); have n6_ := Aside0.mk (hb); have n7_ := Aside0.mk (ho); clear HO_5; clear HO_6; clear HO_7; clear HO_8; clear HO_10; clear HO_11; clear HB; clear HO_12; have HO_5 := n0_; have HO_6 := n1_; have HO_7 := n2_; have HO_8 := n3_; have HO_10 := n4_; have HO_11 := n5_; have HB := n6_; have HO249 := n7_; clear n0_ n1_ n2_ n3_ n4_ n5_ n6_ n7_; clear ho hb hg hat)))
                                        go_roundg kj41
                                        case measure => have := HJ4.out; have := HJ14.out; have := HK3.out; have := HJ41.out; omega
                                        case rel => exact ⟨(y247), (wrap64 (x13_3 + 1)), (by first | rfl | (simp; done) | (simp [*]; done)), H', ⟨by have := HJ4.out; have := HJ14.out; have := HK3.out; have := HJ41.out; omega⟩, ⟨by (with_reducible repeat (first | apply Kd.R_alloc | apply Kd.R_drewN | apply Kd.R_drew)); exact Kd.R_mono HO_5.out (fun _ hk => ⟨hk.1.1, ⟨hk.1.2, hk.2⟩⟩)⟩, ⟨by (with_reducible repeat (first | apply Kd.R_alloc | apply Kd.R_drewN | apply Kd.R_drew)); exact Kd.R_mono HO_6.out (fun _ hk => ⟨hk.1.1, ⟨hk.1.2, hk.2⟩⟩)⟩, ⟨by (with_reducible repeat (first | apply Kd.R_alloc | apply Kd.R_drewN | apply Kd.R_drew)); exact Kd.R_mono HO_7.out (fun _ hk => ⟨hk.1.1, ⟨hk.1.2, hk.2⟩⟩)⟩, ⟨by (with_reducible repeat (first | apply Kd.R_alloc | apply Kd.R_drewN | apply Kd.R_drew)); exact HO_8.out⟩, ⟨by (with_reducible repeat (first | apply Kd.S_alloc | apply Kd.S_drewN | apply Kd.S_drew)); exact HO_10.out⟩, ⟨by (with_reducible repeat (first | apply Kd.S_alloc | apply Kd.S_drewN | apply Kd.S_drew)); exact HO_11.out⟩, ⟨by (with_reducible repeat (first | apply Kd.R_alloc | apply Kd.R_drewN | apply Kd.R_drew)); exact HO249.out⟩, ⟨by repeat (first | (with_reducible first | exact HB.out | apply below_alloc | apply pw_below_drewN | apply below_drew1) | exact HB.out)⟩⟩
                                      · rw [if_neg c59] at H
                                        exact absurd H (by simp)
                                    · rw [if_neg c58] at H
                                      have c58b0 : (decide ((rd t220 (ji37)) > (rd t220 x13_3))) = false := by simpa using c58
                                      have c58b1 : (decide ((rd t220 x13_3) < (rd t220 (ji37)))) = false := c58b0
                                      have c58b2 : (rd t220 (ji37)) ≤ (rd t220 x13_3) := Int.not_lt.1 (of_decide_eq_false c58b1)
                                      have c58b3 := Int.not_lt.2 c58b2
                                      clear c58
                                      have H' := Aside0.mk H
                                      clear H
                                      go_wp2
                                      repeat (go_quiet (fail); try go_wp2)
                                      go_roundg kj41
                                      case measure => have := HJ4.out; have := HJ14.out; have := HK3.out; have := HJ41.out; omega
                                      case rel => exact ⟨(x12_3), (wrap64 (x13_3 + 1)), (by first | rfl | (simp; done) | (simp [*]; done)), H', ⟨by have := HJ4.out; have := HJ14.out; have := HK3.out; have := HJ41.out; omega⟩, ⟨by (with_reducible repeat (first | apply Kd.R_alloc | apply Kd.R_drewN | apply Kd.R_drew)); exact HO_5.out⟩, ⟨by (with_reducible repeat (first | apply Kd.R_alloc | apply Kd.R_drewN | apply Kd.R_drew)); exact HO_6.out⟩, ⟨by (with_reducible repeat (first | apply Kd.R_alloc | apply Kd.R_drewN | apply Kd.R_drew)); exact HO_7.out⟩, ⟨by (with_reducible repeat (first | apply Kd.R_alloc | apply Kd.R_drewN | apply Kd.R_drew)); exact HO_8.out⟩, ⟨by (with_reducible repeat (first | apply Kd.S_alloc | apply Kd.S_drewN | apply Kd.S_drew)); exact HO_10.out⟩, ⟨by (with_reducible repeat (first | apply Kd.S_alloc | apply Kd.S_drewN | apply Kd.S_drew)); exact HO_11.out⟩, ⟨by (with_reducible repeat (first | apply Kd.R_alloc | apply Kd.R_drewN | apply Kd.R_drew)); exact HO_12.out⟩, ⟨by repeat (first | (with_reducible first | exact HB.out | apply below_alloc | apply pw_below_drewN | apply below_drew1) | exact HB.out)⟩⟩
                            · rw [if_neg c41] at H
                              exact absurd H (by simp)
                          · rw [if_neg c40] at H
                            exact absurd H (by simp)
                        · rw [if_neg c39] at H
                          exact absurd H (by simp)
                      · rw [if_neg c38] at H
                        exact absurd H (by simp)
                    · rw [if_neg c36] at H
                      have c36b0 : decide (x13_3 < (t217.length : Int)) = false := decide_eq_false c36
                      clear c36
                      replace H := Option.bind_eq_some_iff.mp H
                      obtain ⟨t233, A610, H⟩ := H
                      replace H : ((tattingref1_SameInts.f k3 t233 x12_3).bind fun t236 => (if t236 = true then ((grid_Len.f k3 t214 t217).bind fun t237 => (if (x12_3.length : Int) = t237 then (if 0 < (t220.length : Int) then (if (rd t220 0) = 0 then (if 0 ≤ (t217.length : Int) then (if (t217.length : Int) < (t220.length : Int) then (some ((rd t220 (t217.length : Int)) == (x12_3.length : Int))) else (none)) else (none)) else (some false)) else (none)) else (some false))) else (some false))) = some r := H
                      have A61 := Aside0.mk A610
                      clear A610
                      replace H := Option.bind_eq_some_iff.mp H
                      obtain ⟨t236, A620, H⟩ := H
                      replace H : (if t236 = true then ((grid_Len.f k3 t214 t217).bind fun t237 => (if (x12_3.length : Int) = t237 then (if 0 < (t220.length : Int) then (if (rd t220 0) = 0 then (if 0 ≤ (t217.length : Int) then (if (t217.length : Int) < (t220.length : Int) then (some ((rd t220 (t217.length : Int)) == (x12_3.length : Int))) else (none)) else (none)) else (some false)) else (none)) else (some false))) else (some false)) = some r := H
                      have A62 := Aside0.mk A620
                      clear A620
                      by_cases c63 : t236 = true
                      · subst c63
                        have H1 : ((grid_Len.f k3 t214 t217).bind fun t237 => (if (x12_3.length : Int) = t237 then (if 0 < (t220.length : Int) then (if (rd t220 0) = 0 then (if 0 ≤ (t217.length : Int) then (if (t217.length : Int) < (t220.length : Int) then (some ((rd t220 (t217.length : Int)) == (x12_3.length : Int))) else (none)) else (none)) else (some false)) else (none)) else (some false))) = some r := by rw [if_pos rfl] at H; exact H
                        clear H
                        have H := H1
                        clear H1
                        replace H := Option.bind_eq_some_iff.mp H
                        obtain ⟨t237, A640, H⟩ := H
                        replace H : (if (x12_3.length : Int) = t237 then (if 0 < (t220.length : Int) then (if (rd t220 0) = 0 then (if 0 ≤ (t217.length : Int) then (if (t217.length : Int) < (t220.length : Int) then (some ((rd t220 (t217.length : Int)) == (x12_3.length : Int))) else (none)) else (none)) else (some false)) else (none)) else (some false)) = some r := H
                        have A64 := Aside0.mk A640
                        clear A640
                        by_cases c65 : (x12_3.length : Int) = t237
                        · rw [if_pos c65] at H
                          have c65b0 : ((x12_3.length : Int) == t237) = true := beq_iff_eq.mpr c65
                          have c65b1 : ((x12_3.length : Int) != t237) = false := bne_eq_false_iff_eq.mpr c65
                          clear c65
                          by_cases c66 : 0 < (t220.length : Int)
                          · rw [if_pos c66] at H
                            have c66b0 : decide (0 < (t220.length : Int)) = true := decide_eq_true c66
                            have c66b1 : decide (0 < t220.length) = true := decide_eq_true (by omega)
                            clear c66
                            by_cases c67 : (rd t220 0) = 0
                            · rw [if_pos c67] at H
                              have c67b0 : ((rd t220 0) == 0) = true := beq_iff_eq.mpr c67
                              have c67b1 : ((rd t220 0) != 0) = false := bne_eq_false_iff_eq.mpr c67
                              clear c67
                              by_cases c68 : 0 ≤ (t217.length : Int)
                              · rw [if_pos c68] at H
                                have c68b0 : decide (0 ≤ (t217.length : Int)) = true := decide_eq_true c68
                                have c68b1 : decide (0 ≤ t217.length) = true := decide_eq_true (by omega)
                                clear c68
                                by_cases c69 : (t217.length : Int) < (t220.length : Int)
                                · rw [if_pos c69] at H
                                  have c69b0 : decide ((t217.length : Int) < (t220.length : Int)) = true := decide_eq_true c69
                                  have c69b1 : decide (t217.length < t220.length) = true := decide_eq_true (Int.ofNat_lt.mp c69)
                                  clear c69
                                  obtain rfl := Option.some.inj H
                                  go_wp2_with (first | (go_at_call 32; (with_reducible refine (hunt_Thresholds.calls k3 _ _ t214 _ _ t217 t233 _ ?side1 ?side2 ?side3 ?side4 A61.out).mono ?_); (case side1 => repeat (first | exact (Kd.R_reads' HO_5.out).2.2 | (with_reducible refine Kd.C_alloc ?_ _) | (with_reducible refine Kd.C_drewN ?_ _) | (with_reducible refine Kd.C_drew ?_))); (case side2 => exact (Kd.R_reads' HO_5.out).2.1); (case side3 => repeat (first | exact (Kd.R_reads' HO_6.out).2.2 | (with_reducible refine Kd.C_alloc ?_ _) | (with_reducible refine Kd.C_drewN ?_ _) | (with_reducible refine Kd.C_drew ?_))); (case side4 => exact (Kd.R_reads' HO_6.out).2.1); rintro e w70 ⟨v234, rfl, ho0, hb⟩; have n0_ := Aside0.mk (Kd.R_elder' (by (with_reducible repeat (first | apply Kd.R_alloc | apply Kd.R_drewN | apply Kd.R_drew)); exact HO_5.out) (Kd.R_base ho0) hb); have n1_ := Aside0.mk (Kd.R_elder' (by (with_reducible repeat (first | apply Kd.R_alloc | apply Kd.R_drewN | apply Kd.R_drew)); exact HO_6.out) (Kd.R_base ho0) hb); have n2_ := Aside0.mk (Kd.R_elder' (by (with_reducible repeat (first | apply Kd.R_alloc | apply Kd.R_drewN | apply Kd.R_drew)); exact HO_7.out) (Kd.R_base ho0) hb); have n3_ := Aside0.mk (Kd.R_below (by (with_reducible repeat (first | apply Kd.R_alloc | apply Kd.R_drewN | apply Kd.R_drew)); exact HO_8.out) hb); have n4_ := Aside0.mk (Kd.S_below (by (with_reducible repeat (first | apply Kd.S_alloc | apply Kd.S_drewN | apply Kd.S_drew)); exact HO_10.out) hb); have n5_ := Aside0.mk (Kd.S_below (by (with_reducible repeat (first | apply Kd.S_alloc | apply Kd.S_drewN | apply Kd.S_drew)); exact HO_11.out) hb); have n6_ := Aside0.mk (Kd.R_elder' (by (with_reducible repeat (first | apply Kd.R_alloc | apply Kd.R_drewN | apply Kd.R_drew)); exact HO_12.out) (Kd.R_base ho0) hb); have n7_ := Aside0.mk (Kd.R_lower (Kd.R_new' (Kd.R_new' (Kd.R_new' (Kd.R_new' ho0 (Kd.R_lt (by (with_reducible repeat (first | apply Kd.R_alloc | apply Kd.R_drewN | apply Kd.R_drew)); exact HO_5.out))) (Kd.R_lt (by (with_reducible repeat (first | apply Kd.R_alloc | apply Kd.R_drewN | apply Kd.R_drew)); exact HO_6.out))) (Kd.R_lt (by (with_reducible repeat (first | apply Kd.R_alloc | apply Kd.R_drewN | apply Kd.R_drew)); exact HO_7.out))) (Kd.R_lt (by (with_reducible repeat (first | apply Kd.R_alloc | apply Kd.R_drewN | apply Kd.R_drew)); exact HO_12.out))) (below_size (by repeat (first | (with_reducible first | exact HB.out | apply below_alloc | apply pw_below_drewN | apply below_drew1) | exact HB.out)))); have n8_ := Aside0.mk (below_step (by repeat (first | (with_reducible first | exact HB.out | apply below_alloc | apply pw_below_drewN | apply below_drew1) | exact HB.out)) hb); clear HO_5; clear HO_6; clear HO_7; clear HO_8; clear HO_10; clear HO_11; clear HO_12; clear HB; have HO_5 := n0_; have HO_6 := n1_; have HO_7 := n2_; have HO_8 := n3_; have HO_10 := n4_; have HO_11 := n5_; have HO_12 := n6_; have HO235 := n7_; have HB := n8_; clear n0_ n1_ n2_ n3_ n4_ n5_ n6_ n7_ n8_; (try clear hb); (try clear hb2); (try clear hk); (try clear hi); (try clear ho0); obtain ⟨Ao71, co71, eo71⟩ := Kd.R_slice HO235.out; subst eo71; obtain ⟨Ao72, co72, eo72⟩ := Kd.R_slice HO_12.out; subst eo72) | (go_at_call 31; (with_reducible refine (tattingref1_SameInts.calls k3 _ _ t233 _ _ x12_3 true _ ?side1 ?side2 ?side3 ?side4 A62.out).mono ?_); (case side1 => repeat (first | exact (Kd.R_reads' HO235.out).2.2 | (with_reducible refine Kd.C_alloc ?_ _) | (with_reducible refine Kd.C_drewN ?_ _) | (with_reducible refine Kd.C_drew ?_))); (case side2 => exact (Kd.R_reads' HO235.out).2.1); (case side3 => repeat (first | exact (Kd.R_reads' HO_12.out).2.2 | (with_reducible refine Kd.C_alloc ?_ _) | (with_reducible refine Kd.C_drewN ?_ _) | (with_reducible refine Kd.C_drew ?_))); (case side4 => exact (Kd.R_reads' HO_12.out).2.1); rintro e w' ⟨rfl, ⟨nd, rfl⟩⟩; (try first | exact ⟨rfl, _, World.drewN_drewN _ _ _⟩ | exact ⟨rfl, _, Eq.trans (World.drewN_drewN _ _ _) (congrArg (World.drewN _) (Nat.add_assoc _ _ _))⟩)) | (go_at_call 33; (with_reducible refine (grid_Len.calls k3 _ _ t214 _ _ t217 t237 _ ?side1 ?side2 ?side3 ?side4 A64.out).mono ?_); (case side1 => repeat (first | exact (Kd.R_reads' HO_5.out).2.2 | (with_reducible refine Kd.C_alloc ?_ _) | (with_reducible refine Kd.C_drewN ?_ _) | (with_reducible refine Kd.C_drew ?_))); (case side2 => exact (Kd.R_reads' HO_5.out).2.1); (case side3 => repeat (first | exact (Kd.R_reads' HO_6.out).2.2 | (with_reducible refine Kd.C_alloc ?_ _) | (with_reducible refine Kd.C_drewN ?_ _) | (with_reducible refine Kd.C_drew ?_))); (case side4 => exact (Kd.R_reads' HO_6.out).2.1); rintro e w73 ⟨rfl, hb⟩; have n0_ := Aside0.mk (Kd.R_below (by (with_reducible repeat (first | apply Kd.R_alloc | apply Kd.R_drewN | apply Kd.R_drew)); exact HO_5.out) hb); have n1_ := Aside0.mk (Kd.R_below (by (with_reducible repeat (first | apply Kd.R_alloc | apply Kd.R_drewN | apply Kd.R_drew)); exact HO_6.out) hb); have n2_ := Aside0.mk (Kd.R_below (by (with_reducible repeat (first | apply Kd.R_alloc | apply Kd.R_drewN | apply Kd.R_drew)); exact HO_7.out) hb); have n3_ := Aside0.mk (Kd.R_below (by (with_reducible repeat (first | apply Kd.R_alloc | apply Kd.R_drewN | apply Kd.R_drew)); exact HO_8.out) hb); have n4_ := Aside0.mk (Kd.S_below (by (with_reducible repeat (first | apply Kd.S_alloc | apply Kd.S_drewN | apply Kd.S_drew)); exact HO_10.out) hb); have n5_ := Aside0.mk (Kd.S_below (by (with_reducible repeat (first | apply Kd.S_alloc | apply Kd.S_drewN | apply Kd.S_drew)); exact HO_11.out) hb); have n6_ := Aside0.mk (Kd.R_below (by (with_reducible repeat (first | apply Kd.R_alloc | apply Kd.R_drewN | apply Kd.R_drew)); exact HO_12.out) hb); have n7_ := Aside0.mk (Kd.R_below (by (with_reducible repeat (first | apply Kd.R_alloc | apply Kd.R_drewN | apply Kd.R_drew)); exact HO235.out) hb); have n8_ := Aside0.mk (below_step (by repeat (first | (with_reducible first | exact HB.out | apply below_alloc | apply pw_below_drewN | apply below_drew1) | exact HB.out)) hb); clear HO_5; clear HO_6; clear HO_7; clear HO_8; clear HO_10; clear HO_11; clear HO_12; clear HO235; clear HB; have HO_5 := n0_; have HO_6 := n1_; have HO_7 := n2_; have HO_8 := n3_; have HO_10 := n4_; have HO_11 := n5_; have HO_12 := n6_; have HO235 := n7_; have HB := n8_; clear n0_ n1_ n2_ n3_ n4_ n5_ n6_ n7_ n8_; (try clear hb); (try clear hb2); (try clear hk); (try clear hi); have p238 : 0 ≤ (0 : Int) := (by omega); have q238 : 0 < (t220.length : Int) := of_decide_eq_true (by first | (with_reducible assumption) | assumption); obtain ⟨ad238, e238, hx238_0⟩ := Kd.at_int (Kd.R_reads' HO_7.out).2.2 0 p238 q238; cases e238; have qi238 : (0 < t220.length) = True := eq_true (by omega); (try rw [show ((0 : Int)).toNat = 0 from rfl] at hx238_0); (try rw [Addr.add_zero'] at hx238_0); replace p238 := eq_true p238; replace q238 := eq_true q238; have p239 : 0 ≤ ((t217.length : Int) : Int) := of_decide_eq_true (by first | (with_reducible assumption) | assumption); have q239 : (t217.length : Int) < (t220.length : Int) := of_decide_eq_true (by first | (with_reducible assumption) | assumption); obtain ⟨ad239, e239, hx239_0⟩ := Kd.at_int (Kd.R_reads' HO_7.out).2.2 (t217.length : Int) p239 q239; obtain rfl : ad238 = ad239 := (by injection e239); (try simp only [Go.IntWalk.toNatUp] at hx239_0); replace p239 := eq_true p239; replace q239 := eq_true q239))
                                  repeat (go_quiet (first | (go_at_call 32; (with_reducible refine (hunt_Thresholds.calls k3 _ _ t214 _ _ t217 t233 _ ?side1 ?side2 ?side3 ?side4 A61.out).mono ?_); (case side1 => repeat (first | exact (Kd.R_reads' HO_5.out).2.2 | (with_reducible refine Kd.C_alloc ?_ _) | (with_reducible refine Kd.C_drewN ?_ _) | (with_reducible refine Kd.C_drew ?_))); (case side2 => exact (Kd.R_reads' HO_5.out).2.1); (case side3 => repeat (first | exact (Kd.R_reads' HO_6.out).2.2 | (with_reducible refine Kd.C_alloc ?_ _) | (with_reducible refine Kd.C_drewN ?_ _) | (with_reducible refine Kd.C_drew ?_))); (case side4 => exact (Kd.R_reads' HO_6.out).2.1); rintro e w70 ⟨v234, rfl, ho0, hb⟩; have n0_ := Aside0.mk (Kd.R_elder' (by (with_reducible repeat (first | apply Kd.R_alloc | apply Kd.R_drewN | apply Kd.R_drew)); exact HO_5.out) (Kd.R_base ho0) hb); have n1_ := Aside0.mk (Kd.R_elder' (by (with_reducible repeat (first | apply Kd.R_alloc | apply Kd.R_drewN | apply Kd.R_drew)); exact HO_6.out) (Kd.R_base ho0) hb); have n2_ := Aside0.mk (Kd.R_elder' (by (with_reducible repeat (first | apply Kd.R_alloc | apply Kd.R_drewN | apply Kd.R_drew)); exact HO_7.out) (Kd.R_base ho0) hb); have n3_ := Aside0.mk (Kd.R_below (by (with_reducible repeat (first | apply Kd.R_alloc | apply Kd.R_drewN | apply Kd.R_drew)); exact HO_8.out) hb); have n4_ := Aside0.mk (Kd.S_below (by (with_reducible repeat (first | apply Kd.S_alloc | apply Kd.S_drewN | apply Kd.S_drew)); exact HO_10.out) hb); have n5_ := Aside0.mk (Kd.S_below (by (with_reducible repeat (first | apply Kd.S_alloc | apply Kd.S_drewN | apply Kd.S_drew)); exact HO_11.out) hb); have n6_ := Aside0.mk (Kd.R_elder' (by (with_reducible repeat (first | apply Kd.R_alloc | apply Kd.R_drewN | apply Kd.R_drew)); exact HO_12.out) (Kd.R_base ho0) hb); have n7_ := Aside0.mk (Kd.R_lower (Kd.R_new' (Kd.R_new' (Kd.R_new' (Kd.R_new' ho0 (Kd.R_lt (by (with_reducible repeat (first | apply Kd.R_alloc | apply Kd.R_drewN | apply Kd.R_drew)); exact HO_5.out))) (Kd.R_lt (by (with_reducible repeat (first | apply Kd.R_alloc | apply Kd.R_drewN | apply Kd.R_drew)); exact HO_6.out))) (Kd.R_lt (by (with_reducible repeat (first | apply Kd.R_alloc | apply Kd.R_drewN | apply Kd.R_drew)); exact HO_7.out))) (Kd.R_lt (by (with_reducible repeat (first | apply Kd.R_alloc | apply Kd.R_drewN | apply Kd.R_drew)); exact HO_12.out))) (below_size (by repeat (first | (with_reducible first | exact HB.out | apply below_alloc | apply pw_below_drewN | apply below_drew1) | exact HB.out)))); have n8_ := Aside0.mk (below_step (by repeat (first | (with_reducible first | exact HB.out | apply below_alloc | apply pw_below_drewN | apply below_drew1) | exact HB.out)) hb); clear HO_5; clear HO_6; clear HO_7; clear HO_8; clear HO_10; clear HO_11; clear HO_12; clear HB; have HO_5 := n0_; have HO_6 := n1_; have HO_7 := n2_; have HO_8 := n3_; have HO_10 := n4_; have HO_11 := n5_; have HO_12 := n6_; have HO235 := n7_; have HB := n8_; clear n0_ n1_ n2_ n3_ n4_ n5_ n6_ n7_ n8_; (try clear hb); (try clear hb2); (try clear hk); (try clear hi); (try clear ho0); obtain ⟨Ao71, co71, eo71⟩ := Kd.R_slice HO235.out; subst eo71; obtain ⟨Ao72, co72, eo72⟩ := Kd.R_slice HO_12.out; subst eo72) | (go_at_call 31; (with_reducible refine (tattingref1_SameInts.calls k3 _ _ t233 _ _ x12_3 true _ ?side1 ?side2 ?side3 ?side4 A62.out).mono ?_); (case side1 => repeat (first | exact (Kd.R_reads' HO235.out).2.2 | (with_reducible refine Kd.C_alloc ?_ _) | (with_reducible refine Kd.C_drewN ?_ _) | (with_reducible refine Kd.C_drew ?_))); (case side2 => exact (Kd.R_reads' HO235.out).2.1); (case side3 => repeat (first | exact (Kd.R_reads' HO_12.out).2.2 | (with_reducible refine Kd.C_alloc ?_ _) | (with_reducible refine Kd.C_drewN ?_ _) | (with_reducible refine Kd.C_drew ?_))); (case side4 => exact (Kd.R_reads' HO_12.out).2.1); rintro e w' ⟨rfl, ⟨nd, rfl⟩⟩; (try first | exact ⟨rfl, _, World.drewN_drewN _ _ _⟩ | exact ⟨rfl, _, Eq.trans (World.drewN_drewN _ _ _) (congrArg (World.drewN _) (Nat.add_assoc _ _ _))⟩)) | (go_at_call 33; (with_reducible refine (grid_Len.calls k3 _ _ t214 _ _ t217 t237 _ ?side1 ?side2 ?side3 ?side4 A64.out).mono ?_); (case side1 => repeat (first | exact (Kd.R_reads' HO_5.out).2.2 | (with_reducible refine Kd.C_alloc ?_ _) | (with_reducible refine Kd.C_drewN ?_ _) | (with_reducible refine Kd.C_drew ?_))); (case side2 => exact (Kd.R_reads' HO_5.out).2.1); (case side3 => repeat (first | exact (Kd.R_reads' HO_6.out).2.2 | (with_reducible refine Kd.C_alloc ?_ _) | (with_reducible refine Kd.C_drewN ?_ _) | (with_reducible refine Kd.C_drew ?_))); (case side4 => exact (Kd.R_reads' HO_6.out).2.1); rintro e w73 ⟨rfl, hb⟩; have n0_ := Aside0.mk (Kd.R_below (by (with_reducible repeat (first | apply Kd.R_alloc | apply Kd.R_drewN | apply Kd.R_drew)); exact HO_5.out) hb); have n1_ := Aside0.mk (Kd.R_below (by (with_reducible repeat (first | apply Kd.R_alloc | apply Kd.R_drewN | apply Kd.R_drew)); exact HO_6.out) hb); have n2_ := Aside0.mk (Kd.R_below (by (with_reducible repeat (first | apply Kd.R_alloc | apply Kd.R_drewN | apply Kd.R_drew)); exact HO_7.out) hb); have n3_ := Aside0.mk (Kd.R_below (by (with_reducible repeat (first | apply Kd.R_alloc | apply Kd.R_drewN | apply Kd.R_drew)); exact HO_8.out) hb); have n4_ := Aside0.mk (Kd.S_below (by (with_reducible repeat (first | apply Kd.S_alloc | apply Kd.S_drewN | apply Kd.S_drew)); exact HO_10.out) hb); have n5_ := Aside0.mk (Kd.S_below (by (with_reducible repeat (first | apply Kd.S_alloc | apply Kd.S_drewN | apply Kd.S_drew)); exact HO_11.out) hb); have n6_ := Aside0.mk (Kd.R_below (by (with_reducible repeat (first | apply Kd.R_alloc | apply Kd.R_drewN | apply Kd.R_drew)); exact HO_12.out) hb); have n7_ := Aside0.mk (Kd.R_below (by (with_reducible repeat (first | apply Kd.R_alloc | apply Kd.R_drewN | apply Kd.R_drew)); exact HO235.out) hb); have n8_ := Aside0.mk (below_step (by repeat (first | (with_reducible first | exact HB.out | apply below_alloc | apply pw_below_drewN | apply below_drew1) | exact HB.out)) hb); clear HO_5; clear HO_6; clear HO_7; clear HO_8; clear HO_10; clear HO_11; clear HO_12; clear HO235; clear HB; have HO_5 := n0_; have HO_6 := n1_; have HO_7 := n2_; have HO_8 := n3_; have HO_10 := n4_; have HO_11 := n5_; have HO_12 := n6_; have HO235 := n7_; have HB := n8_; clear n0_ n1_ n2_ n3_ n4_ n5_ n6_ n7_ n8_; (try clear hb); (try clear hb2); (try clear hk); (try clear hi); have p238 : 0 ≤ (0 : Int) := (by omega); have q238 : 0 < (t220.length : Int) := of_decide_eq_true (by first | (with_reducible assumption) | assumption); obtain ⟨ad238, e238, hx238_0⟩ := Kd.at_int (Kd.R_reads' HO_7.out).2.2 0 p238 q238; cases e238; have qi238 : (0 < t220.length) = True := eq_true (by omega); (try rw [show ((0 : Int)).toNat = 0 from rfl] at hx238_0); (try rw [Addr.add_zero'] at hx238_0); replace p238 := eq_true p238; replace q238 := eq_true q238; have p239 : 0 ≤ ((t217.length : Int) : Int) := of_decide_eq_true (by first | (with_reducible assumption) | assumption); have q239 : (t217.length : Int) < (t220.length : Int) := of_decide_eq_true (by first | (with_reducible assumption) | assumption); obtain ⟨ad239, e239, hx239_0⟩ := Kd.at_int (Kd.R_reads' HO_7.out).2.2 (t217.length : Int) p239 q239; obtain rfl : ad238 = ad239 := (by injection e239); (try simp only [Go.IntWalk.toNatUp] at hx239_0); replace p239 := eq_true p239; replace q239 := eq_true q239)); try go_wp2_with (first | (go_at_call 32; (with_reducible refine (hunt_Thresholds.calls k3 _ _ t214 _ _ t217 t233 _ ?side1 ?side2 ?side3 ?side4 A61.out).mono ?_); (case side1 => repeat (first | exact (Kd.R_reads' HO_5.out).2.2 | (with_reducible refine Kd.C_alloc ?_ _) | (with_reducible refine Kd.C_drewN ?_ _) | (with_reducible refine Kd.C_drew ?_))); (case side2 => exact (Kd.R_reads' HO_5.out).2.1); (case side3 => repeat (first | exact (Kd.R_reads' HO_6.out).2.2 | (with_reducible refine Kd.C_alloc ?_ _) | (with_reducible refine Kd.C_drewN ?_ _) | (with_reducible refine Kd.C_drew ?_))); (case side4 => exact (Kd.R_reads' HO_6.out).2.1); rintro e w70 ⟨v234, rfl, ho0, hb⟩; have n0_ := Aside0.mk (Kd.R_elder' (by (with_reducible repeat (first | apply Kd.R_alloc | apply Kd.R_drewN | apply Kd.R_drew)); exact HO_5.out) (Kd.R_base ho0) hb); have n1_ := Aside0.mk (Kd.R_elder' (by (with_reducible repeat (first | apply Kd.R_alloc | apply Kd.R_drewN | apply Kd.R_drew)); exact HO_6.out) (Kd.R_base ho0) hb); have n2_ := Aside0.mk (Kd.R_elder' (by (with_reducible repeat (first | apply Kd.R_alloc | apply Kd.R_drewN | apply Kd.R_drew)); exact HO_7.out) (Kd.R_base ho0) hb); have n3_ := Aside0.mk (Kd.R_below (by (with_reducible repeat (first | apply Kd.R_alloc | apply Kd.R_drewN | apply Kd.R_drew)); exact HO_8.out) hb); have n4_ := Aside0.mk (Kd.S_below (by (with_reducible repeat (first | apply Kd.S_alloc | apply Kd.S_drewN | apply Kd.S_drew)); exact HO_10.out) hb); have n5_ := Aside0.mk (Kd.S_below (by (with_reducible repeat (first | apply Kd.S_alloc | apply Kd.S_drewN | apply Kd.S_drew)); exact HO_11.out) hb); have n6_ := Aside0.mk (Kd.R_elder' (by (with_reducible repeat (first | apply Kd.R_alloc | apply Kd.R_drewN | apply Kd.R_drew)); exact HO_12.out) (Kd.R_base ho0) hb); have n7_ := Aside0.mk (Kd.R_lower (Kd.R_new' (Kd.R_new' (Kd.R_new' (Kd.R_new' ho0 (Kd.R_lt (by (with_reducible repeat (first | apply Kd.R_alloc | apply Kd.R_drewN | apply Kd.R_drew)); exact HO_5.out))) (Kd.R_lt (by (with_reducible repeat (first | apply Kd.R_alloc | apply Kd.R_drewN | apply Kd.R_drew)); exact HO_6.out))) (Kd.R_lt (by (with_reducible repeat (first | apply Kd.R_alloc | apply Kd.R_drewN | apply Kd.R_drew)); exact HO_7.out))) (Kd.R_lt (by (with_reducible repeat (first | apply Kd.R_alloc | apply Kd.R_drewN | apply Kd.R_drew)); exact HO_12.out))) (below_size (by repeat (first | (with_reducible first | exact HB.out | apply below_alloc | apply pw_below_drewN | apply below_drew1) | exact HB.out)))); have n8_ := Aside0.mk (below_step (by repeat (first | (with_reducible first | exact HB.out | apply below_alloc | apply pw_below_drewN | apply below_drew1) | exact HB.out)) hb); clear HO_5; clear HO_6; clear HO_7; clear HO_8; clear HO_10; clear HO_11; clear HO_12; clear HB; have HO_5 := n0_; have HO_6 := n1_; have HO_7 := n2_; have HO_8 := n3_; have HO_10 := n4_; have HO_11 := n5_; have HO_12 := n6_; have HO235 := n7_; have HB := n8_; clear n0_ n1_ n2_ n3_ n4_ n5_ n6_ n7_ n8_; (try clear hb); (try clear hb2); (try clear hk); (try clear hi); (try clear ho0); obtain ⟨Ao71, co71, eo71⟩ := Kd.R_slice HO235.out; subst eo71; obtain ⟨Ao72, co72, eo72⟩ := Kd.R_slice HO_12.out; subst eo72) | (go_at_call 31; (with_reducible refine (tattingref1_SameInts.calls k3 _ _ t233 _ _ x12_3 true _ ?side1 ?side2 ?side3 ?side4 A62.out).mono ?_); (case side1 => repeat (first | exact (Kd.R_reads' HO235.out).2.2 | (with_reducible refine Kd.C_alloc ?_ _) | (with_reducible refine Kd.C_drewN ?_ _) | (with_reducible refine Kd.C_drew ?_))); (case side2 => exact (Kd.R_reads' HO235.out).2.1); (case side3 => repeat (first | exact (Kd.R_reads' HO_12.out).2.2 | (with_reducible refine Kd.C_alloc ?_ _) | (with_reducible refine Kd.C_drewN ?_ _) | (with_reducible refine Kd.C_drew ?_))); (case side4 => exact (Kd.R_reads' HO_12.out).2.1); rintro e w' ⟨rfl, ⟨nd, rfl⟩⟩; (try first | exact ⟨rfl, _, World.drewN_drewN _ _ _⟩ | exact ⟨rfl, _, Eq.trans (World.drewN_drewN _ _ _) (congrArg (World.drewN _) (Nat.add_assoc _ _ _))⟩)) | (go_at_call 33; (with_reducible refine (grid_Len.calls k3 _ _ t214 _ _ t217 t237 _ ?side1 ?side2 ?side3 ?side4 A64.out).mono ?_); (case side1 => repeat (first | exact (Kd.R_reads' HO_5.out).2.2 | (with_reducible refine Kd.C_alloc ?_ _) | (with_reducible refine Kd.C_drewN ?_ _) | (with_reducible refine Kd.C_drew ?_))); (case side2 => exact (Kd.R_reads' HO_5.out).2.1); (case side3 => repeat (first | exact (Kd.R_reads' HO_6.out).2.2 | (with_reducible refine Kd.C_alloc ?_ _) | (with_reducible refine Kd.C_drewN ?_ _) | (with_reducible refine Kd.C_drew ?_))); (case side4 => exact (Kd.R_reads' HO_6.out).2.1); rintro e w73 ⟨rfl, hb⟩; have n0_ := Aside0.mk (Kd.R_below (by (with_reducible repeat (first | apply Kd.R_alloc | apply Kd.R_drewN | apply Kd.R_drew)); exact HO_5.out) hb); have n1_ := Aside0.mk (Kd.R_below (by (with_reducible repeat (first | apply Kd.R_alloc | apply Kd.R_drewN | apply Kd.R_drew)); exact HO_6.out) hb); have n2_ := Aside0.mk (Kd.R_below (by (with_reducible repeat (first | apply Kd.R_alloc | apply Kd.R_drewN | apply Kd.R_drew)); exact HO_7.out) hb); have n3_ := Aside0.mk (Kd.R_below (by (with_reducible repeat (first | apply Kd.R_alloc | apply Kd.R_drewN | apply Kd.R_drew)); exact HO_8.out) hb); have n4_ := Aside0.mk (Kd.S_below (by (with_reducible repeat (first | apply Kd.S_alloc | apply Kd.S_drewN | apply Kd.S_drew)); exact HO_10.out) hb); have n5_ := Aside0.mk (Kd.S_below (by (with_reducible repeat (first | apply Kd.S_alloc | apply Kd.S_drewN | apply Kd.S_drew)); exact HO_11.out) hb); have n6_ := Aside0.mk (Kd.R_below (by (with_reducible repeat (first | apply Kd.R_alloc | apply Kd.R_drewN | apply Kd.R_drew)); exact HO_12.out) hb); have n7_ := Aside0.mk (Kd.R_below (by (with_reducible repeat (first | apply Kd.R_alloc | apply Kd.R_drewN | apply Kd.R_drew)); exact HO235.out) hb); have n8_ := Aside0.mk (below_step (by repeat (first | (with_reducible first | exact HB.out | apply below_alloc | apply pw_below_drewN | apply below_drew1) | exact HB.out)) hb); clear HO_5; clear HO_6; clear HO_7; clear HO_8; clear HO_10; clear HO_11; clear HO_12; clear HO235; clear HB; have HO_5 := n0_; have HO_6 := n1_; have HO_7 := n2_; have HO_8 := n3_; have HO_10 := n4_; have HO_11 := n5_; have HO_12 := n6_; have HO235 := n7_; have HB := n8_; clear n0_ n1_ n2_ n3_ n4_ n5_ n6_ n7_ n8_; (try clear hb); (try clear hb2); (try clear hk); (try clear hi); have p238 : 0 ≤ (0 : Int) := (by omega); have q238 : 0 < (t220.length : Int) := of_decide_eq_true (by first | (with_reducible assumption) | assumption); obtain ⟨ad238, e238, hx238_0⟩ := Kd.at_int (Kd.R_reads' HO_7.out).2.2 0 p238 q238; cases e238; have qi238 : (0 < t220.length) = True := eq_true (by omega); (try rw [show ((0 : Int)).toNat = 0 from rfl] at hx238_0); (try rw [Addr.add_zero'] at hx238_0); replace p238 := eq_true p238; replace q238 := eq_true q238; have p239 : 0 ≤ ((t217.length : Int) : Int) := of_decide_eq_true (by first | (with_reducible assumption) | assumption); have q239 : (t217.length : Int) < (t220.length : Int) := of_decide_eq_true (by first | (with_reducible assumption) | assumption); obtain ⟨ad239, e239, hx239_0⟩ := Kd.at_int (Kd.R_reads' HO_7.out).2.2 (t217.length : Int) p239 q239; obtain rfl : ad238 = ad239 := (by injection e239); (try simp only [Go.IntWalk.toNatUp] at hx239_0); replace p239 := eq_true p239; replace q239 := eq_true q239)))
                                  go_ret
                                  exact ⟨by first | rfl | (simp [errW_none, errW_some] <;> rfl) | (simp [*, errW_none, errW_some] <;> rfl), by repeat (first | (with_reducible first | exact HB.out | apply below_alloc | apply pw_below_drewN | apply below_drew1) | exact HB.out)⟩
                                · rw [if_neg c69] at H
                                  exact absurd H (by simp)
                              · rw [if_neg c68] at H
                                exact absurd H (by simp)
                            · rw [if_neg c67] at H
                              have c67b0 : ((rd t220 0) == 0) = false := beq_eq_false_iff_ne.mpr c67
                              have c67b1 : ((rd t220 0) != 0) = true := bne_iff_ne.mpr c67
                              exact absurd (Option.some.inj H) (by rw [HRT.out]; decide)
                          · rw [if_neg c66] at H
                            exact absurd H (by simp)
                        · rw [if_neg c65] at H
                          have c65b0 : ((x12_3.length : Int) == t237) = false := beq_eq_false_iff_ne.mpr c65
                          have c65b1 : ((x12_3.length : Int) != t237) = true := bne_iff_ne.mpr c65
                          exact absurd (Option.some.inj H) (by rw [HRT.out]; decide)
                      · replace c63 := Bool.eq_false_iff.mpr c63
                        subst c63
                        have H1 : (some false) = some r := by rw [if_neg (show ¬ (false = true) by decide)] at H; exact H
                        clear H
                        have H := H1
                        clear H1
                        exact absurd (Option.some.inj H) (by rw [HRT.out]; decide)
  · replace c4 := Bool.eq_false_iff.mpr c4
    subst c4
    have H1 : (some false) = some r := by rw [if_neg (show ¬ (false = true) by decide)] at H; exact H
    clear H
    have H := H1
    clear H1
    exact absurd (Option.some.inj H) (by rw [HRT.out]; decide)
/-- THE ONE PURE STATEMENT of tattingtop_TopRows: yours. -/
def tattingtop_TopRows.Pure : Prop := ∀ (l0 : List Int) (l1 : List Int), l0.length ≤ maxLen → l0.length * 8 ≤ 140737488351232 → (∀ x ∈ l0, (Lit.int .i64 x).wf = true) → l1.length ≤ maxLen → l1.length * 8 ≤ 140737488351232 → (∀ x ∈ l1, (Lit.int .i64 x).wf = true) → ∃ k, tattingtop_TopRows.f k l0 l1 = some true
theorem tattingtop_TopRows.walk (P : tattingtop_TopRows.Pure) (a0 : Option Addr) (len0 cap0 : Nat) (z0 : List Int) (a1 : Option Addr) (len1 cap1 : Nat) (z1 : List Int) (w : World) (w0 : (a0 = none ∧ len0 = 0 ∧ cap0 = 0 ∧ z0 = []) ∨ ∃ x, a0 = some x ∧ len0 ≤ cap0 ∧ cap0 ≤ maxLen ∧ z0.length = cap0 ∧ (∀ i, i < z0.length → w.cell? (x.add i) = some (.int .i64 (z0.getD i 0))) ∧ ∀ n ∈ z0, (Lit.int .i64 n).wf = true) (y0 : len0 * 8 ≤ 140737488351232) (w1 : (a1 = none ∧ len1 = 0 ∧ cap1 = 0 ∧ z1 = []) ∨ ∃ x, a1 = some x ∧ len1 ≤ cap1 ∧ cap1 ≤ maxLen ∧ z1.length = cap1 ∧ (∀ i, i < z1.length → w.cell? (x.add i) = some (.int .i64 (z1.getD i 0))) ∧ ∀ n ∈ z1, (Lit.int .i64 n).wf = true) (y1 : len1 * 8 ≤ 140737488351232) :
    Calls Tryz.prog 7 #[.slice a0 len0 cap0, .slice a1 len1 cap1] w fun e w' => e = .returned (.bool true) ∧ Below w.heap.size w w' := by
  obtain ⟨l0, rfl, hr0, hm0, hw0, hc0⟩ := ReadsInt.ofRowC w0
  obtain ⟨l1, rfl, hr1, hm1, hw1, hc1⟩ := ReadsInt.ofRowC w1
  obtain ⟨k, h⟩ := P l0 l1 hm0 y0 hw0 hm1 y1 hw1
  refine (tattingtop_TopRows.calls k _ _ l0 _ _ l1 true w (Kd.C_of_reads (d := (0 : Int)) (h1 := fun _ => rfl) hr0) hc0 (Kd.C_of_reads (d := (0 : Int)) (h1 := fun _ => rfl) hr1) hc1 h ⟨rfl⟩).mono ?_
  rintro e w' ⟨rfl, hd⟩
  exact ⟨rfl, hd⟩
end Go.Proofs.YtjkjanegankdhaaGreat.PTopRows
