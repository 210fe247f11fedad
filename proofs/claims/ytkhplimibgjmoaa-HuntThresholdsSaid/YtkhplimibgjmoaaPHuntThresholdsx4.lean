-- Laid by wip/myprint.py: the kit's print, with contracts typed by hand for what it does not take.
import Derived.Test.YtkhplimibgjmoaaPHuntThresholdsx0
import Derived.Test.YtkhplimibgjmoaaPHuntThresholdsx3
namespace Go.Proofs.Ytkhplimibgjmoaa.PHuntThresholds
open Go.RowKit Go.Proofs.YtkhplimibgjmoaaW.PrintWords Go.Proofs.YtkhplimibgjmoaaW.PrintLast Go.Proofs.YtkhplimibgjmoaaW.PrintMore
attribute [local go_sem] max2_int min2_int max_two min_two max_three min_three max_four min_four   -- for this text's walks alone
set_option linter.unusedVariables false
set_option linter.unusedSimpArgs false

/-! ### tattingref7_Len: function 14 -/
def tattingref7_Len.f (k : Nat) (l0 : List Int) (l1 : List Int) : Option (Int) := (tattingref7_Behind.f k l0 l1).bind fun t204 => (if 0 < (t204.length : Int) then (if 0 < ((rd_L2 t204 0).length : Int) then (some (rd (rd_L2 t204 0) 0)) else (none)) else (none))
theorem tattingref7_Len.mono : ∀ a0 a1 k, LeO (tattingref7_Len.f k a0 a1) (tattingref7_Len.f (k + 1) a0 a1) := by
  intro a0 a1 k
  unfold tattingref7_Len.f
  repeat' first
      | (with_reducible exact tattingref7_Behind.mono _ _ _)
      | (with_reducible exact LeO.refl _)
      | (with_reducible exact LeO.none _)
      | (with_reducible refine LeO.ite ?_ ?_)
      | (with_reducible refine LeO.bind ?_ (fun _ => ?_))
      | exact tattingref7_Behind.mono _ _ _
      | exact LeO.none _
      | refine LeO.ite ?_ ?_
      | refine LeO.bind ?_ (fun _ => ?_)
set_option maxHeartbeats 8000000 in
set_option maxRecDepth 100000 in
theorem tattingref7_Len.calls (k : Nat) (A0 : Option Addr) (c0 : Nat) (l0 : List Int) (A1 : Option Addr) (c1 : Nat) (l1 : List Int) (r : Int) (w : World) (hr0 : Kd.C (Kd.int .i64) w A0 l0.length l0) (hc0 : l0.length ≤ c0) (hr1 : Kd.C (Kd.int .i64) w A1 l1.length l1) (hc1 : l1.length ≤ c1) (h : tattingref7_Len.f k l0 l1 = some r) :
    Calls Try.prog 14 #[.slice A0 l0.length c0, .slice A1 l1.length c1] w fun e w' => e = .returned (.int .i64 r) ∧ Below w.heap.size w w' := by
  have HR0 := Aside0.mk hr0
  have HC0 := Aside0.mk hc0
  clear hr0 hc0
  have HR1 := Aside0.mk hr1
  have HC1 := Aside0.mk hc1
  clear hr1 hc1
  have HB := Aside0.mk (Below.refl w.heap.size w)
  have H : ((tattingref7_Behind.f k l0 l1).bind fun t204 => (if 0 < (t204.length : Int) then (if 0 < ((rd_L2 t204 0).length : Int) then (some (rd (rd_L2 t204 0) 0)) else (none)) else (none))) = some r := h
  clear h
  replace H := Option.bind_eq_some_iff.mp H
  obtain ⟨t204, A30, H⟩ := H
  replace H : (if 0 < (t204.length : Int) then (if 0 < ((rd_L2 t204 0).length : Int) then (some (rd (rd_L2 t204 0) 0)) else (none)) else (none)) = some r := H
  have A3 := Aside0.mk A30
  clear A30
  by_cases c4 : 0 < (t204.length : Int)
  · rw [if_pos c4] at H
    have c4b0 : decide (0 < (t204.length : Int)) = true := decide_eq_true c4
    have c4b1 : decide (0 < t204.length) = true := decide_eq_true (by omega)
    clear c4
    by_cases c5 : 0 < ((rd_L2 t204 0).length : Int)
    · rw [if_pos c5] at H
      have c5b0 : decide (0 < ((rd_L2 t204 0).length : Int)) = true := decide_eq_true c5
      have c5b1 : decide (0 < (rd_L2 t204 0).length) = true := decide_eq_true (by omega)
      clear c5
      obtain rfl := Option.some.inj H
      go_enter Try.func14, Try.ntmps14
      go_wp2_with (first | ((with_reducible refine gate_callee (f := 23) rfl ?_); refine goesL_ (some 7) rfl rfl Try.func23 (by kernel_rfl) rfl #[.slice A0 l0.length c0, .slice A1 l1.length c1] rfl (by (try simp only [List.map_toArray, List.map_cons, List.map_nil]); first | done | rfl | (simp only [List.length_drop, List.length_take]; rfl)) ?_; (with_reducible refine (tattingref7_Behind.calls k _ _ l0 _ _ l1 t204 _ ?side1 ?side2 ?side3 ?side4 A3.out).mono ?_); (case side1 => repeat (first | exact HR0.out | (with_reducible refine Kd.C_alloc ?_ _) | (with_reducible refine Kd.C_drewN ?_ _) | (with_reducible refine Kd.C_drew ?_))); (case side2 => exact HC0.out); (case side3 => repeat (first | exact HR1.out | (with_reducible refine Kd.C_alloc ?_ _) | (with_reducible refine Kd.C_drewN ?_ _) | (with_reducible refine Kd.C_drew ?_))); (case side4 => exact HC1.out); rintro e w6 ⟨v205, rfl, ho0, hb⟩; refine ⟨_, rfl, ?_⟩; have n0_ := Aside0.mk (Kd.S_lower ho0 (below_size (by repeat (first | (with_reducible first | exact HB.out | apply below_alloc | apply pw_below_drewN | apply below_drew1) | exact HB.out)))); have n1_ := Aside0.mk (below_step (by repeat (first | (with_reducible first | exact HB.out | apply below_alloc | apply pw_below_drewN | apply below_drew1) | exact HB.out)) hb); clear HB; have HO206 := n0_; have HB := n1_; clear n0_ n1_; (try clear hb); (try clear hb2); (try clear hk); (try clear hi); (try clear ho0); obtain ⟨Ao7, co7, eo7⟩ := Kd.S_slice HO206.out; subst eo7; have p207 : 0 ≤ (0 : Int) := (by omega); have q207 : 0 < (t204.length : Int) := of_decide_eq_true (by first | (with_reducible assumption) | assumption); obtain ⟨ad207, A207_0, c207_0, e207, hx207_0, hl207_0, hi207_0⟩ := at_L2 (Kd.S_reads' HO206.out).2.2 0 p207 q207; cases e207; obtain ⟨ce207, hce207, hMe207, hcc207⟩ := Kd.S_get HO206.out [] 0 p207 (by first | exact q207 | exact of_decide_eq_true (by first | (with_reducible assumption) | assumption) | (have e_ := (Kd.S_reads' HO206.out).1; omega)); obtain ⟨ve207_0, rfl, ge207_0⟩ := hMe207; have hv207_0 := hcc207 0 _ rfl; rw [Nat.add_zero, show ((Kd.slice 3 (Kd.int .i64))).sz = 1 from rfl, Nat.mul_one] at hv207_0; replace hv207_0 := Option.some.inj (hv207_0.symm.trans hx207_0); rw [hv207_0] at ge207_0; have HL207_0 := Aside0.mk (show Kd.R (Kd.int .i64) 3 _ _ _ _ (rd_L2 t204 0) from ge207_0); clear hv207_0 ge207_0; clear hcc207 hce207; have qi207 : (0 < t204.length) = True := eq_true (by omega); (try rw [show ((0 : Int)).toNat = 0 from rfl] at hx207_0); (try rw [Addr.add_zero'] at hx207_0); have HR207_0 := Aside0.mk hi207_0; have HC207_0 := Aside0.mk hl207_0; clear hi207_0 hl207_0; replace p207 := eq_true p207; replace q207 := eq_true q207; have p208 : 0 ≤ (0 : Int) := (by omega); have q208 : 0 < ((rd_L2 t204 0).length : Int) := of_decide_eq_true (by first | (with_reducible assumption) | assumption); obtain ⟨ad208, e208, hx208_0⟩ := Kd.at_int (by repeat (first | (with_reducible exact HR207_0.out) | (with_reducible refine Kd.C_alloc ?_ _) | (with_reducible refine Kd.C_drewN ?_ _) | (with_reducible refine Kd.C_drew ?_) | exact HR207_0.out)) 0 p208 q208; cases e208; have qi208 : (0 < (rd_L2 t204 0).length) = True := eq_true (by omega); (try rw [show ((0 : Int)).toNat = 0 from rfl] at hx208_0); (try rw [Addr.add_zero'] at hx208_0); replace p208 := eq_true p208; replace q208 := eq_true q208))
      go_ret
      exact ⟨by first | rfl | (simp [errW_none, errW_some] <;> rfl) | (simp [*, errW_none, errW_some] <;> rfl), by repeat (first | (with_reducible first | exact HB.out | apply below_alloc | apply pw_below_drewN | apply below_drew1) | exact HB.out)⟩
    · rw [if_neg c5] at H
      exact absurd H (by simp)
  · rw [if_neg c4] at H
    exact absurd H (by simp)

/-! ### tattingref7_Turned: function 32 -/
def tattingref7_Turned.l0 : Nat → List Int → List Int → Int → Option (List Int)
  | 0, _, _, _ => none
  | k + 1, x0, x3, x4 => if x4 ≥ 0 then (if 0 ≤ x4 then (if x4 < (x0.length : Int) then (if x3.length < 17592186044416 then (tattingref7_Turned.l0 k x0 (x3 ++ [rd x0 x4]) (wrap64 (x4 - 1))) else (none)) else (none)) else (none)) else (some x3)
def tattingref7_Turned.f (k : Nat) (l0 : List Int) : Option (List Int) := tattingref7_Turned.l0 k l0 ([] : List Int) (wrap64 ((l0.length : Int) - 1))
theorem tattingref7_Turned.mono_l : ∀ k, (∀ y0 y1 y2, LeO (tattingref7_Turned.l0 k y0 y1 y2) (tattingref7_Turned.l0 (k + 1) y0 y1 y2))
  | 0 => fun _ _ _ r h => by simp [tattingref7_Turned.l0] at h
  | k + 1 => by
    have ih0 := tattingref7_Turned.mono_l k
    · intro y0 y1 y2
      unfold tattingref7_Turned.l0
      repeat' first
      | (with_reducible exact ih0 _ _ _)
      | (with_reducible exact LeO.refl _)
      | (with_reducible exact LeO.none _)
      | (with_reducible refine LeO.ite ?_ ?_)
      | (with_reducible refine LeO.bind ?_ (fun _ => ?_))
      | exact ih0 _ _ _
      | exact LeO.none _
      | refine LeO.ite ?_ ?_
      | refine LeO.bind ?_ (fun _ => ?_)
theorem tattingref7_Turned.mono : ∀ a0 k, LeO (tattingref7_Turned.f k a0) (tattingref7_Turned.f (k + 1) a0) := by
  intro a0 k
  have ih0 := tattingref7_Turned.mono_l k
  unfold tattingref7_Turned.f
  repeat' first
      | (with_reducible exact ih0 _ _ _)
      | (with_reducible exact LeO.refl _)
      | (with_reducible exact LeO.none _)
      | (with_reducible refine LeO.ite ?_ ?_)
      | (with_reducible refine LeO.bind ?_ (fun _ => ?_))
      | exact ih0 _ _ _
      | exact LeO.none _
      | refine LeO.ite ?_ ?_
      | refine LeO.bind ?_ (fun _ => ?_)
set_option maxHeartbeats 8000000 in
set_option maxRecDepth 100000 in
theorem tattingref7_Turned.calls (k : Nat) (A0 : Option Addr) (c0 : Nat) (l0 : List Int) (r : List Int) (w : World) (hr0 : Kd.C (Kd.int .i64) w A0 l0.length l0) (hc0 : l0.length ≤ c0) (h : tattingref7_Turned.f k l0 = some r) :
    Calls Try.prog 32 #[.slice A0 l0.length c0] w fun e w' => ∃ v0_ : Value, e = .returned (v0_) ∧ Kd.R (Kd.int .i64) 3 w' w.heap.size (fun _ => True) v0_ r ∧ Below w.heap.size w w' := by
  have HR0 := Aside0.mk hr0
  have HC0 := Aside0.mk hc0
  clear hr0 hc0
  have HB := Aside0.mk (Below.refl w.heap.size w)
  have H : (tattingref7_Turned.l0 k l0 ([] : List Int) (wrap64 ((l0.length : Int) - 1))) = some r := h
  clear h
  have H' := Aside0.mk H
  clear H
  go_enter Try.func32, Try.ntmps32
  go_wp2
  go_loopg [3, 4] k (fun kq v3 v4 w' => ∃ (x3_1 : List Int) (x4_1 : Int), v4 = .int .i64 x4_1 ∧ Aside0 (tattingref7_Turned.l0 kq l0 x3_1 x4_1 = some r) ∧ Aside0 (kq ≤ k) ∧ Aside0 (Kd.R (Kd.int .i64) 3 w' w.heap.size (fun _ => True) v3 x3_1) ∧ Aside0 (Below w.heap.size w w'))
  case atStart => exact ⟨(([] : List Int)), (wrap64 ((l0.length : Int) - 1)), (by first | rfl | (simp; done) | (simp [*]; done)), H', ⟨Nat.le_refl _⟩, ⟨by first | exact Kd.R_nil _ _ _ _ _ | exact Kd.N_nil _ _ _ _ _ | exact Kd.V_nil _ _ _ _ _ | exact Kd.Q_nil _ _ _ _ _ | exact Kd.S_nil _ _ _ _ _⟩, ⟨by repeat (first | (with_reducible first | exact HB.out | apply below_alloc | apply pw_below_drewN | apply below_drew1) | exact HB.out)⟩⟩
  case round =>
    clear H'
    obtain ⟨x3_1, x4_1, rfl, HA, HK1, HO_3, HB⟩ := hrel
    cases gk with
    | zero => exact absurd HA.out (by simp [tattingref7_Turned.l0])
    | succ k1 =>
      have H := HA.out
      clear HA
      simp only [tattingref7_Turned.l0] at H
      by_cases c2 : x4_1 ≥ 0
      · rw [if_pos c2] at H
        have c2b0 : decide (0 ≤ x4_1) = true := decide_eq_true c2
        clear c2
        by_cases c3 : 0 ≤ x4_1
        · rw [if_pos c3] at H
          have c3b0 : decide (0 ≤ x4_1) = true := decide_eq_true c3
          clear c3
          by_cases c4 : x4_1 < (l0.length : Int)
          · rw [if_pos c4] at H
            have c4b0 : decide (x4_1 < (l0.length : Int)) = true := decide_eq_true c4
            clear c4
            by_cases c5 : x3_1.length < 17592186044416
            · rw [if_pos c5] at H
              have LMc5 := Aside0.mk c5
              clear c5
              obtain ⟨y210, hy210⟩ : ∃ y_ : List Int, y_ = (x3_1 ++ [rd l0 x4_1]) := ⟨_, rfl⟩
              replace H : (tattingref7_Turned.l0 k1 l0 y210 (wrap64 (x4_1 - 1))) = some r := by first | (rw [hy210]; with_reducible exact H) | (have H2_ := (Option.bind_some _ _).symm.trans H; rw [hy210]; with_reducible exact H2_) | (have H2_ := (Option.bind_some _ _).symm.trans H; with_reducible exact H2_) | with_reducible exact H | (rw [hy210]; exact H) | exact H
              have Ny210 := Aside0.mk hy210
              clear hy210
              have H' := Aside0.mk H
              clear H
              have p209 : 0 ≤ (x4_1 : Int) := of_decide_eq_true (by first | (with_reducible assumption) | assumption)
              have q209 : x4_1 < (l0.length : Int) := of_decide_eq_true (by first | (with_reducible assumption) | assumption)
              obtain ⟨ad209, e209, hx209_0⟩ := Kd.at_int HR0.out x4_1 p209 q209
              cases e209
              replace hx209_0 := (HB.out.cell (World.block_lt_of_cell? w _ hx209_0)).trans hx209_0
              replace p209 := eq_true p209
              replace q209 := eq_true q209
              go_wp2_with (first | ((with_reducible refine gate_builtin (b := .append) (xs := #[.tmp 12, .tmp 17]) rfl ?_); at_builtin; refine Kd.R_append (Kd.int .i64) (w0 := w) w.heap.size rfl (.tmp 12) (.tmp 17) 25 3 (.int .i64 0) 8 rfl Try.underlying25 info3 rfl (by decide) (by omega) u3 x3_1 (rd l0 x4_1) [.int .i64 (rd l0 x4_1)] (fun _ => True) (fun _ => False) rfl rfl ?aP (fun _ hk => hk.elim) ?aF ?aO ?aB ?aS ?aL ?_; (case aP => exact rfl); (case aB => exact (by repeat (first | (with_reducible first | exact HB.out | apply below_alloc | apply pw_below_drewN | apply below_drew1) | exact HB.out))); (case aF => exact (fun _ _ => trivial)); (case aO => exact (by (with_reducible repeat (first | apply Kd.R_alloc | apply Kd.R_drewN | apply Kd.R_drew)); exact HO_3.out)); (case aS => exact (below_size (by repeat (first | (with_reducible first | exact HB.out | apply below_alloc | apply pw_below_drewN | apply below_drew1) | exact HB.out)))); (case aL => have := LMc5.out; omega); intro v211 w6 ho hb hg hat; rw [← Ny210.out] at ho; have n0_ := Aside0.mk (hb); have n1_ := Aside0.mk (ho); clear HB; clear HO_3; have HB := n0_; have HO212 := n1_; clear n0_ n1_; clear ho hb hg hat))
              go_roundg k1
              case measure => have := HK1.out; omega
              case rel => exact ⟨(y210), (wrap64 (x4_1 - 1)), (by first | rfl | (simp; done) | (simp [*]; done)), H', ⟨by have := HK1.out; omega⟩, ⟨by (with_reducible repeat (first | apply Kd.R_alloc | apply Kd.R_drewN | apply Kd.R_drew)); exact HO212.out⟩, ⟨by repeat (first | (with_reducible first | exact HB.out | apply below_alloc | apply pw_below_drewN | apply below_drew1) | exact HB.out)⟩⟩
            · rw [if_neg c5] at H
              exact absurd H (by simp)
          · rw [if_neg c4] at H
            exact absurd H (by simp)
        · rw [if_neg c3] at H
          exact absurd H (by simp)
      · rw [if_neg c2] at H
        have c2b0 : decide (0 ≤ x4_1) = false := decide_eq_false c2
        clear c2
        obtain rfl := Option.some.inj H
        go_wp2
        go_ret
        exact ⟨_, by first | rfl | (simp [errW_none, errW_some] <;> rfl) | (simp [*, errW_none, errW_some] <;> rfl), by (with_reducible repeat (first | apply Kd.R_alloc | apply Kd.R_drewN | apply Kd.R_drew)); exact HO_3.out, by repeat (first | (with_reducible first | exact HB.out | apply below_alloc | apply pw_below_drewN | apply below_drew1) | exact HB.out)⟩

/-! ### tattingref7_Ahead: function 29 -/
mutual
def tattingref7_Ahead.l0 : Nat → List Int → List Int → List (List Int) → List (List Int) → Int → Option ((List (List Int)))
  | 0, _, _, _, _, _ => none
  | k + 1, x0, x1, x5, x6, x7 => if x7 ≤ (x0.length : Int) then (if 0 ≤ (wrap64 ((x1.length : Int) + 1)) then (if (wrap64 ((x1.length : Int) + 1) : Int).toNat ≤ 35184372088832 then (if 0 ≤ x7 then (if x7 < (x6.length : Int) then (tattingref7_Ahead.l1 k x0 x1 x5 (x6.set (x7 : Int).toNat (List.replicate (wrap64 ((x1.length : Int) + 1) : Int).toNat 0)) x7 0) else (none)) else (none)) else (none)) else (none)) else (some x6)
def tattingref7_Ahead.l1 : Nat → List Int → List Int → List (List Int) → List (List Int) → Int → Int → Option ((List (List Int)))
  | 0, _, _, _, _, _, _ => none
  | k + 1, x0, x1, x5, x6, x7, x8 => if x8 ≤ (x1.length : Int) then (if 0 ≤ x7 then (if x7 < (x6.length : Int) then (if 0 ≤ (wrap64 ((x0.length : Int) - x7)) then (if (wrap64 ((x0.length : Int) - x7)) < (x5.length : Int) then (if 0 ≤ (wrap64 ((x1.length : Int) - x8)) then (if (wrap64 ((x1.length : Int) - x8)) < ((rd_L2 x5 (wrap64 ((x0.length : Int) - x7))).length : Int) then (if 0 ≤ x8 then (if x8 < ((rd_L2 x6 x7).length : Int) then (tattingref7_Ahead.l1 k x0 x1 x5 (x6.set (x7 : Int).toNat ((rd_L2 x6 x7).set (x8 : Int).toNat (rd (rd_L2 x5 (wrap64 ((x0.length : Int) - x7))) (wrap64 ((x1.length : Int) - x8))))) x7 (wrap64 (x8 + 1))) else (none)) else (none)) else (none)) else (none)) else (none)) else (none)) else (none)) else (none)) else (tattingref7_Ahead.l0 k x0 x1 x5 x6 (wrap64 (x7 + 1)))
end
def tattingref7_Ahead.f3 (k : Nat) (l0 : List Int) (l1 : List Int) (l2 : List (List Int)) : Option ((List (List Int))) := if 0 ≤ (wrap64 ((l0.length : Int) + 1)) then (if (wrap64 ((l0.length : Int) + 1) : Int).toNat ≤ 11728124029610 then (tattingref7_Ahead.l0 k l0 l1 l2 (List.replicate (wrap64 ((l0.length : Int) + 1) : Int).toNat []) 0) else (none)) else (none)
theorem tattingref7_Ahead.mono_l : ∀ k, (∀ y0 y1 y2 y3 y4, LeO (tattingref7_Ahead.l0 k y0 y1 y2 y3 y4) (tattingref7_Ahead.l0 (k + 1) y0 y1 y2 y3 y4)) ∧ (∀ y0 y1 y2 y3 y4 y5, LeO (tattingref7_Ahead.l1 k y0 y1 y2 y3 y4 y5) (tattingref7_Ahead.l1 (k + 1) y0 y1 y2 y3 y4 y5))
  | 0 => ⟨fun _ _ _ _ _ r h => by simp [tattingref7_Ahead.l0] at h, fun _ _ _ _ _ _ r h => by simp [tattingref7_Ahead.l1] at h⟩
  | k + 1 => by
    obtain ⟨ih0, ih1⟩ := tattingref7_Ahead.mono_l k
    refine ⟨?_, ?_⟩
    · intro y0 y1 y2 y3 y4
      unfold tattingref7_Ahead.l0
      repeat' first
      | (with_reducible exact ih0 _ _ _ _ _)
      | (with_reducible exact ih1 _ _ _ _ _ _)
      | (with_reducible exact LeO.refl _)
      | (with_reducible exact LeO.none _)
      | (with_reducible refine LeO.ite ?_ ?_)
      | (with_reducible refine LeO.bind ?_ (fun _ => ?_))
      | exact ih0 _ _ _ _ _
      | exact ih1 _ _ _ _ _ _
      | exact LeO.none _
      | refine LeO.ite ?_ ?_
      | refine LeO.bind ?_ (fun _ => ?_)
    · intro y0 y1 y2 y3 y4 y5
      unfold tattingref7_Ahead.l1
      repeat' first
      | (with_reducible exact ih0 _ _ _ _ _)
      | (with_reducible exact ih1 _ _ _ _ _ _)
      | (with_reducible exact LeO.refl _)
      | (with_reducible exact LeO.none _)
      | (with_reducible refine LeO.ite ?_ ?_)
      | (with_reducible refine LeO.bind ?_ (fun _ => ?_))
      | exact ih0 _ _ _ _ _
      | exact ih1 _ _ _ _ _ _
      | exact LeO.none _
      | refine LeO.ite ?_ ?_
      | refine LeO.bind ?_ (fun _ => ?_)
theorem tattingref7_Ahead.mono3 : ∀ a0 a1 a2 k, LeO (tattingref7_Ahead.f3 k a0 a1 a2) (tattingref7_Ahead.f3 (k + 1) a0 a1 a2) := by
  intro a0 a1 a2 k
  obtain ⟨ih0, ih1⟩ := tattingref7_Ahead.mono_l k
  unfold tattingref7_Ahead.f3
  repeat' first
      | (with_reducible exact ih0 _ _ _ _ _)
      | (with_reducible exact ih1 _ _ _ _ _ _)
      | (with_reducible exact LeO.refl _)
      | (with_reducible exact LeO.none _)
      | (with_reducible refine LeO.ite ?_ ?_)
      | (with_reducible refine LeO.bind ?_ (fun _ => ?_))
      | exact ih0 _ _ _ _ _
      | exact ih1 _ _ _ _ _ _
      | exact LeO.none _
      | refine LeO.ite ?_ ?_
      | refine LeO.bind ?_ (fun _ => ?_)
def tattingref7_Ahead.T10 : Bool × List (List Nat × List Nat) := (true, [([], []), ([], []), ([0, 1], [0, 1]), ([2], [2]), ([], []), ([], []), ([], []), ([6], [6]), ([], []), ([7, 8], [7, 8]), ([5, 9], [5, 9]), ([10], [10]), ([], []), ([12], [12]), ([], []), ([13, 14], [13, 14]), ([11, 15], [11, 15]), ([16], [16]), ([3, 4, 0, 1, 2, 3, 4, 5, 6, 7, 8, 9, 10, 11, 12, 13, 14, 15, 16, 17], [3, 4]), ([18, 17, 0, 1, 2, 3, 4, 5, 6, 7, 8, 9, 10, 11, 12, 13, 14, 15, 16, 17], [17, 18])])
def tattingref7_Ahead.B10 : List Nat := [0, 0, 3, 7, 0, 0, 0, 64, 0, 448, 992, 2016, 0, 4096, 0, 28672, 65504, 131040, 262143, 524287]
theorem tattingref7_Ahead.tab10 : rtab .any (opsOf Try.f29 10) = tattingref7_Ahead.T10 := by kernel_rfl
theorem tattingref7_Ahead.bits10 : waitsOk tattingref7_Ahead.T10.2 tattingref7_Ahead.B10 = true := by kernel_rfl
def tattingref7_Ahead.f (k : Nat) (l0 : List Int) (l1 : List Int) : Option (List (List Int)) := (tattingref7_Turned.f k l0).bind fun t0 => ((tattingref7_Turned.f k l1).bind fun t1 => ((tattingref7_Behind.f k t0 t1).bind fun t2 => (tattingref7_Ahead.f3 k l0 l1 t2)))
theorem tattingref7_Ahead.mono : ∀ a0 a1 k, LeO (tattingref7_Ahead.f k a0 a1) (tattingref7_Ahead.f (k + 1) a0 a1) := by
  intro a0 a1 k
  unfold tattingref7_Ahead.f
  exact LeO.bind (tattingref7_Turned.mono a0 k) fun _ => LeO.bind (tattingref7_Turned.mono a1 k) fun _ => LeO.bind (tattingref7_Behind.mono _ _ k) fun _ => tattingref7_Ahead.mono3 _ _ _ k
set_option maxHeartbeats 8000000 in
set_option maxRecDepth 100000 in
theorem tattingref7_Ahead.calls (k : Nat) (A0 : Option Addr) (c0 : Nat) (l0 : List Int) (A1 : Option Addr) (c1 : Nat) (l1 : List Int) (r : List (List Int)) (W : World) (hr0 : Kd.C (Kd.int .i64) W A0 l0.length l0) (hc0 : l0.length ≤ c0) (hr1 : Kd.C (Kd.int .i64) W A1 l1.length l1) (hc1 : l1.length ≤ c1) (h : tattingref7_Ahead.f k l0 l1 = some r) :
    Calls Try.prog 29 #[.slice A0 l0.length c0, .slice A1 l1.length c1] W fun e w' => ∃ v0_ : Value, e = .returned (v0_) ∧ Kd.S (Kd.slice 3 (Kd.int .i64)) 25 w' W.heap.size (fun _ => True) v0_ r ∧ Below W.heap.size W w' := by
  unfold tattingref7_Ahead.f at h
  replace h := Option.bind_eq_some_iff.mp h
  obtain ⟨t137, A30, h⟩ := h
  have A3 := Aside0.mk A30
  clear A30
  replace h := Option.bind_eq_some_iff.mp h
  obtain ⟨t140, A40, h⟩ := h
  have A4 := Aside0.mk A40
  clear A40
  replace h := Option.bind_eq_some_iff.mp h
  obtain ⟨l2, A50, h⟩ := h
  have A5 := Aside0.mk A50
  clear A50
  have HR0 := Aside0.mk hr0
  have HC0 := Aside0.mk hc0
  clear hr0 hc0
  have HR1 := Aside0.mk hr1
  have HC1 := Aside0.mk hc1
  clear hr1 hc1
  have HB := Aside0.mk (Below.refl W.heap.size W)
  have H : (if 0 ≤ (wrap64 ((l0.length : Int) + 1)) then (if (wrap64 ((l0.length : Int) + 1) : Int).toNat ≤ 11728124029610 then (tattingref7_Ahead.l0 k l0 l1 l2 (List.replicate (wrap64 ((l0.length : Int) + 1) : Int).toNat []) 0) else (none)) else (none)) = some r := h
  clear h
  obtain ⟨ji4, hji4⟩ : ∃ j_ : Int, (wrap64 ((l0.length : Int) + 1)) = j_ := ⟨_, rfl⟩
  replace H : (if 0 ≤ (ji4) then (if (ji4 : Int).toNat ≤ 11728124029610 then (tattingref7_Ahead.l0 k l0 l1 l2 (List.replicate (ji4 : Int).toNat []) 0) else (none)) else (none)) = some r := by first | (rw [hji4] at H; exact H) | (simp only [hji4] at H ⊢; exact H)
  have hji4w : (IntKind.i64.wrap ((l0.length : Int) + 1)) = ji4 := (i64_w _).trans hji4
  by_cases c5 : 0 ≤ (ji4)
  · rw [if_pos c5] at H
    have c5b0 := eq_true c5
    have c5b1 : decide (0 ≤ (ji4)) = true := decide_eq_true c5
    clear c5
    by_cases c6 : (ji4 : Int).toNat ≤ 11728124029610
    · rw [if_pos c6] at H
      have c6b0 := eq_true c6
      have c6b1 : decide ((ji4 : Int).toNat ≤ 11728124029610) = true := decide_eq_true c6
      clear c6
      obtain ⟨y213, hy213⟩ : ∃ y_ : List (List Int), y_ = (List.replicate (ji4 : Int).toNat []) := ⟨_, rfl⟩
      replace H : (tattingref7_Ahead.l0 k l0 l1 l2 y213 0) = some r := by first | (rw [hy213]; with_reducible exact H) | (have H2_ := (Option.bind_some _ _).symm.trans H; rw [hy213]; with_reducible exact H2_) | (have H2_ := (Option.bind_some _ _).symm.trans H; with_reducible exact H2_) | with_reducible exact H | (rw [hy213]; exact H) | exact H
      have Ny213 := Aside0.mk hy213
      clear hy213
      have H' := Aside0.mk H
      clear H
      go_enter Try.func29, Try.ntmps29
      go_upto_region 2 with (first | ((with_reducible refine gate_callee (f := 32) rfl ?_); refine goesL_ (some 10) rfl rfl Try.func32 (by kernel_rfl) rfl #[.slice A0 l0.length c0] rfl (by (try simp only [List.map_toArray, List.map_cons, List.map_nil]); first | done | rfl | (simp only [List.length_drop, List.length_take]; rfl)) ?_; (with_reducible refine (tattingref7_Turned.calls k _ _ l0 t137 _ ?side1 ?side2 A3.out).mono ?_); (case side1 => repeat (first | exact HR0.out | (with_reducible refine Kd.C_alloc ?_ _) | (with_reducible refine Kd.C_drewN ?_ _) | (with_reducible refine Kd.C_drew ?_))); (case side2 => exact HC0.out); rintro e w7 ⟨v138, rfl, ho0, hb⟩; refine ⟨_, rfl, ?_⟩; have n0_ := Aside0.mk (Kd.R_lower ho0 (below_size (by repeat (first | (with_reducible first | exact HB.out | apply below_alloc | apply pw_below_drewN | apply below_drew1) | exact HB.out)))); have n1_ := Aside0.mk (below_step (by repeat (first | (with_reducible first | exact HB.out | apply below_alloc | apply pw_below_drewN | apply below_drew1) | exact HB.out)) hb); clear HB; have HO139 := n0_; have HB := n1_; clear n0_ n1_; (try clear hb); (try clear hb2); (try clear hk); (try clear hi); (try clear ho0)) | ((with_reducible refine gate_callee (f := 32) rfl ?_); refine goesL_ (some 12) rfl rfl Try.func32 (by kernel_rfl) rfl #[.slice A1 l1.length c1] rfl (by (try simp only [List.map_toArray, List.map_cons, List.map_nil]); first | done | rfl | (simp only [List.length_drop, List.length_take]; rfl)) ?_; (with_reducible refine (tattingref7_Turned.calls k _ _ l1 t140 _ ?side1 ?side2 A4.out).mono ?_); (case side1 => repeat (first | exact (Kd.C_below HR1.out HB.out) | (with_reducible refine Kd.C_alloc ?_ _) | (with_reducible refine Kd.C_drewN ?_ _) | (with_reducible refine Kd.C_drew ?_))); (case side2 => exact HC1.out); rintro e w8 ⟨v141, rfl, ho0, hb⟩; refine ⟨_, rfl, ?_⟩; have n0_ := Aside0.mk (Kd.R_elder' (by (with_reducible repeat (first | apply Kd.R_alloc | apply Kd.R_drewN | apply Kd.R_drew)); exact HO139.out) (Kd.R_base ho0) hb); have n1_ := Aside0.mk (Kd.R_lower (Kd.R_new' ho0 (Kd.R_lt (by (with_reducible repeat (first | apply Kd.R_alloc | apply Kd.R_drewN | apply Kd.R_drew)); exact HO139.out))) (below_size (by repeat (first | (with_reducible first | exact HB.out | apply below_alloc | apply pw_below_drewN | apply below_drew1) | exact HB.out)))); have n2_ := Aside0.mk (below_step (by repeat (first | (with_reducible first | exact HB.out | apply below_alloc | apply pw_below_drewN | apply below_drew1) | exact HB.out)) hb); clear HO139; clear HB; have HO139 := n0_; have HO142 := n1_; have HB := n2_; clear n0_ n1_ n2_; (try clear hb); (try clear hb2); (try clear hk); (try clear hi); (try clear ho0); obtain ⟨Ao9, co9, eo9⟩ := Kd.R_slice HO139.out; subst eo9; obtain ⟨Ao10, co10, eo10⟩ := Kd.R_slice HO142.out; subst eo10) | ((with_reducible refine gate_callee (f := 23) rfl ?_); refine goesL_ (some 13) rfl rfl Try.func23 (by kernel_rfl) rfl #[.slice Ao9 t137.length co9, .slice Ao10 t140.length co10] rfl (by (try simp only [List.map_toArray, List.map_cons, List.map_nil]); first | done | rfl | (simp only [List.length_drop, List.length_take]; rfl)) ?_; (with_reducible refine (tattingref7_Behind.calls k _ _ t137 _ _ t140 l2 _ ?side1 ?side2 ?side3 ?side4 A5.out).mono ?_); (case side1 => repeat (first | exact (Kd.R_reads' HO139.out).2.2 | (with_reducible refine Kd.C_alloc ?_ _) | (with_reducible refine Kd.C_drewN ?_ _) | (with_reducible refine Kd.C_drew ?_))); (case side2 => exact (Kd.R_reads' HO139.out).2.1); (case side3 => repeat (first | exact (Kd.R_reads' HO142.out).2.2 | (with_reducible refine Kd.C_alloc ?_ _) | (with_reducible refine Kd.C_drewN ?_ _) | (with_reducible refine Kd.C_drew ?_))); (case side4 => exact (Kd.R_reads' HO142.out).2.1); rintro e w ⟨v144, rfl, ho0, hb⟩; refine ⟨_, rfl, ?_⟩; have n1_ := Aside0.mk (below_step (by repeat (first | (with_reducible first | exact HB.out | apply below_alloc | apply pw_below_drewN | apply below_drew1) | exact HB.out)) hb); clear HO139; clear HO142; clear HB; have HO145 := Aside0.mk ho0; have HB := n1_; clear n1_; (try clear hb); (try clear hb2); (try clear hk); (try clear hi); (try clear ho0); obtain ⟨A2, c2, eo12⟩ := Kd.S_slice HO145.out; subst eo12))
      have HBW := HB
      clear HB A3 A4 A5
      have HR2 := Aside0.mk (Kd.S_reads' HO145.out).2.2
      have HC2 := Aside0.mk (Kd.S_reads' HO145.out).2.1
      clear HO145
      have n0_ := Aside0.mk (Kd.C_below HR0.out HBW.out)
      have n1_ := Aside0.mk (Kd.C_below HR1.out HBW.out)
      clear HR0 HR1
      have HR0 := n0_
      have HR1 := n1_
      clear n0_ n1_
      have HB := Aside0.mk (Below.refl w.heap.size w)
      go_wp2_with (first | ((with_reducible refine gate_dst (N := 17) rfl ?_); refine Kd.S_make (Kd.slice 3 (Kd.int .i64)) _ 25 rfl (N := 17) rfl 46 _ _ rfl ji4 rfl rfl Try.underlying46 (.slice none 0 0) 24 info25 rfl (by decide) (by omega) [] (ok := fun _ => True) (okp := fun _ => True) ⟨_, rfl, Kd.R_nil _ _ _ _ _⟩ (fun _ hk => hk) trivial (of_decide_eq_true (by first | (with_reducible assumption) | assumption)) (Nat.le_trans (Nat.mul_le_mul_right _ (of_decide_eq_true (by first | (with_reducible assumption) | assumption) : ji4.toNat ≤ 11728124029610)) (by omega)) (Below.refl _ _) (Nat.le_refl _) ?_; intro v214 w7 ho8 hb hg_ hnew_; clear hg_ hnew_; (first | rw [← Ny213.out] at ho8 | (simp only [Int.reduceToNat] at ho8; rw [← Ny213.out] at ho8)); have n0_ := Aside0.mk (Kd.S_lower ho8 (below_size (by repeat (first | (with_reducible first | exact HB.out | apply below_alloc | apply pw_below_drewN | apply below_drew1) | exact HB.out)))); have n1_ := Aside0.mk (below_step (by repeat (first | (with_reducible first | exact HB.out | apply below_alloc | apply pw_below_drewN | apply below_drew1) | exact HB.out)) hb); clear HB; have HO215 := n0_; have HB := n1_; clear n0_ n1_; clear hb ho8))
      go_loopg [7] k (fun kq v7 w' => ∃ (x6_1 : List (List Int)) (x7_1 : Int), v7 = .int .i64 x7_1 ∧ Aside0 (tattingref7_Ahead.l0 kq l0 l1 l2 x6_1 x7_1 = some r) ∧ Aside0 (kq ≤ k) ∧ Aside0 (Kd.S (Kd.slice 3 (Kd.int .i64)) 25 w' w.heap.size (fun _ => True) v214 x6_1) ∧ Aside0 (Below w.heap.size w w'))
      case atStart => exact ⟨(y213), (0), (by first | rfl | (simp; done) | (simp [*]; done)), H', ⟨Nat.le_refl _⟩, ⟨by (with_reducible repeat (first | apply Kd.S_alloc | apply Kd.S_drewN | apply Kd.S_drew)); exact HO215.out⟩, ⟨by repeat (first | (with_reducible first | exact HB.out | apply below_alloc | apply pw_below_drewN | apply below_drew1) | exact HB.out)⟩⟩
      case round =>
        clear H'
        try clear c1
        try clear c2
        try clear p2
        try clear c5
        try clear c5b0
        try clear c5b1
        try clear c6
        try clear c6b0
        try clear c6b1
        try clear p6
        obtain ⟨x6_1, x7_1, rfl, HA, HK1, HO_6, HB⟩ := hrel
        cases gk with
        | zero => exact absurd HA.out (by simp [tattingref7_Ahead.l0])
        | succ k1 =>
          have H := HA.out
          clear HA
          simp only [tattingref7_Ahead.l0] at H
          by_cases c9 : x7_1 ≤ (l0.length : Int)
          · rw [if_pos c9] at H
            have c9b0 : decide (x7_1 ≤ (l0.length : Int)) = true := decide_eq_true c9
            clear c9
            obtain ⟨ji10, hji10⟩ : ∃ j_ : Int, (wrap64 ((l1.length : Int) + 1)) = j_ := ⟨_, rfl⟩
            replace H : (if 0 ≤ (ji10) then (if (ji10 : Int).toNat ≤ 35184372088832 then (if 0 ≤ x7_1 then (if x7_1 < (x6_1.length : Int) then (tattingref7_Ahead.l1 k1 l0 l1 l2 (x6_1.set (x7_1 : Int).toNat (List.replicate (ji10 : Int).toNat 0)) x7_1 0) else (none)) else (none)) else (none)) else (none)) = some r := by first | (rw [hji10] at H; exact H) | (simp only [hji10] at H ⊢; exact H)
            have hji10w : (IntKind.i64.wrap ((l1.length : Int) + 1)) = ji10 := (i64_w _).trans hji10
            by_cases c11 : 0 ≤ (ji10)
            · rw [if_pos c11] at H
              have c11b0 := eq_true c11
              have c11b1 : decide (0 ≤ (ji10)) = true := decide_eq_true c11
              clear c11
              by_cases c12 : (ji10 : Int).toNat ≤ 35184372088832
              · rw [if_pos c12] at H
                have c12b0 := eq_true c12
                have c12b1 : decide ((ji10 : Int).toNat ≤ 35184372088832) = true := decide_eq_true c12
                clear c12
                obtain ⟨y216, hy216⟩ : ∃ y_ : List Int, y_ = (List.replicate (ji10 : Int).toNat 0) := ⟨_, rfl⟩
                replace H : (if 0 ≤ x7_1 then (if x7_1 < (x6_1.length : Int) then (tattingref7_Ahead.l1 k1 l0 l1 l2 (x6_1.set (x7_1 : Int).toNat y216) x7_1 0) else (none)) else (none)) = some r := by first | (rw [hy216]; with_reducible exact H) | (have H2_ := (Option.bind_some _ _).symm.trans H; rw [hy216]; with_reducible exact H2_) | (have H2_ := (Option.bind_some _ _).symm.trans H; with_reducible exact H2_) | with_reducible exact H | (rw [hy216]; exact H) | exact H
                have Ny216 := Aside0.mk hy216
                clear hy216
                by_cases c13 : 0 ≤ x7_1
                · rw [if_pos c13] at H
                  have c13b0 : decide (0 ≤ x7_1) = true := decide_eq_true c13
                  clear c13
                  by_cases c14 : x7_1 < (x6_1.length : Int)
                  · rw [if_pos c14] at H
                    have c14b0 : decide (x7_1 < (x6_1.length : Int)) = true := decide_eq_true c14
                    clear c14
                    obtain ⟨y219, hy219⟩ : ∃ y_ : List (List Int), y_ = (x6_1.set (x7_1 : Int).toNat y216) := ⟨_, rfl⟩
                    replace H : (tattingref7_Ahead.l1 k1 l0 l1 l2 y219 x7_1 0) = some r := by first | (rw [hy219]; with_reducible exact H) | (have H2_ := (Option.bind_some _ _).symm.trans H; rw [hy219]; with_reducible exact H2_) | (have H2_ := (Option.bind_some _ _).symm.trans H; with_reducible exact H2_) | with_reducible exact H | (rw [hy219]; exact H) | exact H
                    have Ny219 := Aside0.mk hy219
                    clear hy219
                    have H' := Aside0.mk H
                    clear H
                    go_wp2_with (first | ((with_reducible refine gate_dst (N := 29) rfl ?_); refine Kd.R_make (Kd.int .i64) _ 3 rfl (N := 29) rfl 25 _ _ rfl ji10 rfl rfl Try.underlying25 (.int .i64 0) 8 info3 rfl (by decide) (by omega) 0 (ok := fun _ => True) (okp := fun _ => True) rfl (fun _ hk => hk) trivial (of_decide_eq_true (by first | (with_reducible assumption) | assumption)) (Nat.le_trans (Nat.mul_le_mul_right _ (of_decide_eq_true (by first | (with_reducible assumption) | assumption) : ji10.toNat ≤ 35184372088832)) (by omega)) (Below.refl _ _) (Nat.le_refl _) ?_; intro v217 w16 ho17 hb hg_ hnew_; clear hg_ hnew_; (first | rw [← Ny216.out] at ho17 | (simp only [Int.reduceToNat] at ho17; rw [← Ny216.out] at ho17)); have n0_ := Aside0.mk (Kd.S_elder' (by (with_reducible repeat (first | apply Kd.S_alloc | apply Kd.S_drewN | apply Kd.S_drew)); exact HO_6.out) (Kd.R_base ho17) hb); have n1_ := Aside0.mk (Kd.R_lower ho17 (below_size (by repeat (first | (with_reducible first | exact HB.out | apply below_alloc | apply pw_below_drewN | apply below_drew1) | exact HB.out)))); have n2_ := Aside0.mk (below_step (by repeat (first | (with_reducible first | exact HB.out | apply below_alloc | apply pw_below_drewN | apply below_drew1) | exact HB.out)) hb); clear HO_6; clear HB; have HO_6 := n0_; have HO218 := n1_; have HB := n2_; clear n0_ n1_ n2_; clear hb ho17; have p15 : 0 ≤ (x7_1 : Int) := of_decide_eq_true (by first | (with_reducible assumption) | assumption); have q15 : (x7_1 : Int) < ((x6_1.length : Int) : Int) := of_decide_eq_true (by first | (with_reducible assumption) | assumption); obtain ⟨go15, co15, eo15, gb15, gl15, cl15, HG15⟩ := Kd.S_form HO_6.out (by omega); (first | cases eo15 | (injection eo15 with ea_ en_ ec_; (first | subst ea_ | (injection ea_ with ea_; subst ea_)); subst ec_; clear en_)); have GB15 := Aside0.mk gb15; have GG15 := Aside0.mk HG15; clear gb15 gl15 HG15; obtain ⟨_, ce15, hcl15, hM15, hcc15, hfr15, _, _⟩ := Kd.S_elem HO_6.out [] (x7_1 : Int) p15 q15; obtain ⟨ve15_0, rfl, ge15_0⟩ := hM15; have hx15_0 := hcc15 0 _ rfl; have hf15_0 := hfr15 0; (try simp only [show ((Kd.slice 3 (Kd.int .i64))).sz = 1 from rfl, Nat.mul_one, Nat.add_zero] at hx15_0); (try simp only [show ((Kd.slice 3 (Kd.int .i64))).sz = 1 from rfl, Nat.mul_one, Nat.add_zero] at hf15_0); (try clear hcl15); (try clear hcc15); (try clear hfr15); (try clear hM15); replace p15 := eq_true p15; replace q15 := eq_true q15; have n_ := Aside0.mk (Kd.S_mono (ok' := (fun k_ => some k_ ≠ (v217 : Value).ownBlock)) HO_6.out (fun k_ hk => hk.2)); clear HO_6; have HO_6 := n_; clear n_; have HX18 := Aside0.mk (show Kd.S (Kd.slice 3 (Kd.int .i64)) 25 w16 w.heap.size (fun k_ => ((fun _ => True)) k_ ∧ ¬ ((fun k_ => some k_ = (v217 : Value).ownBlock)) k_) (.slice (some ⟨go15, 0, none⟩) x6_1.length co15) x6_1 from (by (with_reducible repeat (first | apply Kd.S_alloc | apply Kd.S_drewN | apply Kd.S_drew)); exact Kd.S_mono HO_6.out (fun k_ hk => ⟨trivial, fun e_ => hk e_⟩))); obtain ⟨oki18, ce18, hcl18, hM18, hcc18, hfr18, hoki18, hH18⟩ := Kd.S_elem HX18.out [] (x7_1 : Int) (of_decide_eq_true (by first | (with_reducible assumption) | assumption)) (by have h_ : (x7_1 : Int) < ((x6_1.length : Int) : Int) := of_decide_eq_true (by first | (with_reducible assumption) | assumption); first | exact h_ | (have e_ := (Kd.S_reads' HO_6.out).1; omega) | simpa using h_); obtain ⟨ve18_0, rfl, ge18_0⟩ := hM18; have HP18 := Kd.S_seg hH18 (of_decide_eq_true (by first | (with_reducible assumption) | assumption)) (by have h_ : (x7_1 : Int) < ((x6_1.length : Int) : Int) := of_decide_eq_true (by first | (with_reducible assumption) | assumption); first | exact h_ | (have e_ := (Kd.S_reads' HO_6.out).1; omega) | simpa using h_) (seg := [v217]) (j := 0) (show 1 ≤ 1 from by decide) (x' := y216) (Kd.M_row (Kd.R_mono (Kd.R_tight rfl (Kd.R_mono (ok' := fun k_ => ((fun _ => True)) k_ ∧ k_ ≠ go15) (Kd.R_apart' (HO218.out) (Kd.S_typed HO_6.out) (by decide)) (fun k_ hk => ⟨trivial, fun e_ => (hk.2) (by rw [e_]; rfl)⟩))) (fun _ h_ => Or.inr (h_)))) (fun _ hk => hk) (fun k_ hk_ => ((Kd.R_mono (ok' := fun k_ => ((fun _ => True)) k_ ∧ k_ ≠ go15) (Kd.R_apart' (HO218.out) (Kd.S_typed HO_6.out) (by decide)) (fun k_ hk => ⟨trivial, fun e_ => (hk.2) (by rw [e_]; rfl)⟩))).1 k_ hk_.symm); have hx18_0 := hcc18 0 _ rfl; (try simp only [show ((Kd.slice 3 (Kd.int .i64))).sz = 1 from rfl, Nat.mul_one, Nat.add_zero] at hx18_0); have hf18_0 := hfr18 0; (try simp only [show ((Kd.slice 3 (Kd.int .i64))).sz = 1 from rfl, Nat.mul_one, Nat.add_zero] at hf18_0); (try clear hcl18); (try clear hcc18); (try clear hfr18); (try clear hM18); (try clear hoki18); (try clear hH18); (try simp only [show ((Kd.slice 3 (Kd.int .i64))).sz = 1 from rfl, Nat.mul_one, Nat.add_zero] at HP18); obtain ⟨Ao99, co99, eo99⟩ := Kd.R_slice HO218.out; subst eo99) | ((with_reducible refine gate_store (t := 25) (p := 30) rfl ?_); refine store_event (t := 25) (p := 30) (v := ?vo_w19) (w1 := (w16.setCell ⟨go15, (x7_1 : Int).toNat, none⟩ (.slice Ao99 y216.length co99))) ?hg ?ho ?hn ?hr ?_; (case ho => rfl); (case hg => rfl); (case hn => rfl); (case hr => first | (go_simp; done) | (go_simp; rfl)); intro w19 hw; have hg : w16.grownBy w19 (some go15) := (by rw [hw]; exact HP18.2); have hp_ : Kd.S (Kd.slice 3 (Kd.int .i64)) 25 w19 w.heap.size (fun _ => True) (.slice (some ⟨go15, 0, none⟩) x6_1.length co15) y219 := (by rw [hw, Ny219.out]; exact HP18.1); clear HP18; have n0_ := Aside0.mk (hp_); have n1_ := Aside0.mk ((by rw [hw]; exact below_set (HB.out) GB15.out : Below w.heap.size w w19)); clear HO_6; clear HB; clear HO218; have HO_6 := n0_; have HB := n1_; clear n0_ n1_; clear hg hw hp_))
                    go_loopg [8] k1 (fun kq v8 w' => ∃ (x6_2 : List (List Int)) (x8_2 : Int), v8 = .int .i64 x8_2 ∧ Aside0 (tattingref7_Ahead.l1 kq l0 l1 l2 x6_2 x7_1 x8_2 = some r) ∧ Aside0 (kq ≤ k1) ∧ Aside0 (Kd.S (Kd.slice 3 (Kd.int .i64)) 25 w' w.heap.size (fun _ => True) (.slice (some ⟨go15, 0, none⟩) x6_1.length co15) x6_2) ∧ Aside0 (Below w.heap.size w w'))
                    case atStart => exact ⟨(y219), (0), (by first | rfl | (simp; done) | (simp [*]; done)), H', ⟨Nat.le_refl _⟩, ⟨by (with_reducible repeat (first | apply Kd.S_alloc | apply Kd.S_drewN | apply Kd.S_drew)); exact HO_6.out⟩, ⟨by repeat (first | (with_reducible first | exact HB.out | apply below_alloc | apply pw_below_drewN | apply below_drew1) | exact HB.out)⟩⟩
                    case round =>
                      clear H'
                      try clear c1
                      try clear p1
                      try clear q1
                      try clear hx1
                      try clear c2
                      try clear p2
                      try clear c5
                      try clear c5b0
                      try clear c5b1
                      try clear c6
                      try clear c6b0
                      try clear c6b1
                      try clear p6
                      try clear c9
                      try clear c9b0
                      try clear c11
                      try clear c11b0
                      try clear c11b1
                      try clear c12
                      try clear c12b0
                      try clear c12b1
                      try clear c13
                      try clear c13b0
                      try clear c14
                      try clear c14b0
                      try clear c15
                      try clear p15
                      try clear q15
                      try clear hx15
                      try clear hf15
                      try clear c18
                      try clear hx18
                      try clear hf18
                      try clear hx15_0
                      try clear hx18_0
                      try clear p15
                      try clear p2
                      try clear p6
                      try clear q15
                      obtain ⟨x6_2, x8_2, rfl, HA, HK2, HO_6, HB⟩ := hrel
                      have hl6_2 := (Kd.S_reads' HO_6.out).1
                      rw [hl6_2] at HO_6
                      (try simp only [hl6_2])
                      cases gk with
                      | zero => exact absurd HA.out (by simp [tattingref7_Ahead.l1])
                      | succ k2 =>
                        have H := HA.out
                        clear HA
                        simp only [tattingref7_Ahead.l1] at H
                        by_cases c20 : x8_2 ≤ (l1.length : Int)
                        · rw [if_pos c20] at H
                          have c20b0 : decide (x8_2 ≤ (l1.length : Int)) = true := decide_eq_true c20
                          clear c20
                          by_cases c21 : 0 ≤ x7_1
                          · rw [if_pos c21] at H
                            have c21b0 : decide (0 ≤ x7_1) = true := decide_eq_true c21
                            clear c21
                            by_cases c22 : x7_1 < (x6_2.length : Int)
                            · rw [if_pos c22] at H
                              have c22b0 : decide (x7_1 < (x6_2.length : Int)) = true := decide_eq_true c22
                              clear c22
                              obtain ⟨ji23, hji23⟩ : ∃ j_ : Int, (wrap64 ((l0.length : Int) - x7_1)) = j_ := ⟨_, rfl⟩
                              replace H : (if 0 ≤ (ji23) then (if (ji23) < (l2.length : Int) then (if 0 ≤ (wrap64 ((l1.length : Int) - x8_2)) then (if (wrap64 ((l1.length : Int) - x8_2)) < ((rd_L2 l2 (ji23)).length : Int) then (if 0 ≤ x8_2 then (if x8_2 < ((rd_L2 x6_2 x7_1).length : Int) then (tattingref7_Ahead.l1 k2 l0 l1 l2 (x6_2.set (x7_1 : Int).toNat ((rd_L2 x6_2 x7_1).set (x8_2 : Int).toNat (rd (rd_L2 l2 (ji23)) (wrap64 ((l1.length : Int) - x8_2))))) x7_1 (wrap64 (x8_2 + 1))) else (none)) else (none)) else (none)) else (none)) else (none)) else (none)) = some r := by first | (rw [hji23] at H; exact H) | (simp only [hji23] at H ⊢; exact H)
                              have hji23w : (IntKind.i64.wrap ((l0.length : Int) - x7_1)) = ji23 := (i64_w _).trans hji23
                              by_cases c24 : 0 ≤ (ji23)
                              · rw [if_pos c24] at H
                                have c24b0 : decide (0 ≤ (ji23)) = true := decide_eq_true c24
                                clear c24
                                by_cases c25 : (ji23) < (l2.length : Int)
                                · rw [if_pos c25] at H
                                  have c25b0 : decide ((ji23) < (l2.length : Int)) = true := decide_eq_true c25
                                  clear c25
                                  obtain ⟨ji26, hji26⟩ : ∃ j_ : Int, (wrap64 ((l1.length : Int) - x8_2)) = j_ := ⟨_, rfl⟩
                                  replace H : (if 0 ≤ (ji26) then (if (ji26) < ((rd_L2 l2 (ji23)).length : Int) then (if 0 ≤ x8_2 then (if x8_2 < ((rd_L2 x6_2 x7_1).length : Int) then (tattingref7_Ahead.l1 k2 l0 l1 l2 (x6_2.set (x7_1 : Int).toNat ((rd_L2 x6_2 x7_1).set (x8_2 : Int).toNat (rd (rd_L2 l2 (ji23)) (ji26)))) x7_1 (wrap64 (x8_2 + 1))) else (none)) else (none)) else (none)) else (none)) = some r := by first | (rw [hji26] at H; exact H) | (simp only [hji26] at H ⊢; exact H)
                                  have hji26w : (IntKind.i64.wrap ((l1.length : Int) - x8_2)) = ji26 := (i64_w _).trans hji26
                                  by_cases c27 : 0 ≤ (ji26)
                                  · rw [if_pos c27] at H
                                    have c27b0 : decide (0 ≤ (ji26)) = true := decide_eq_true c27
                                    clear c27
                                    by_cases c28 : (ji26) < ((rd_L2 l2 (ji23)).length : Int)
                                    · rw [if_pos c28] at H
                                      have c28b0 : decide ((ji26) < ((rd_L2 l2 (ji23)).length : Int)) = true := decide_eq_true c28
                                      clear c28
                                      by_cases c29 : 0 ≤ x8_2
                                      · rw [if_pos c29] at H
                                        have c29b0 : decide (0 ≤ x8_2) = true := decide_eq_true c29
                                        clear c29
                                        by_cases c30 : x8_2 < ((rd_L2 x6_2 x7_1).length : Int)
                                        · rw [if_pos c30] at H
                                          have c30b0 : decide (x8_2 < ((rd_L2 x6_2 x7_1).length : Int)) = true := decide_eq_true c30
                                          clear c30
                                          obtain ⟨y223, hy223⟩ : ∃ y_ : List Int, y_ = ((rd_L2 x6_2 x7_1).set (x8_2 : Int).toNat (rd (rd_L2 l2 (ji23)) (ji26))) := ⟨_, rfl⟩
                                          replace H : (tattingref7_Ahead.l1 k2 l0 l1 l2 (x6_2.set (x7_1 : Int).toNat y223) x7_1 (wrap64 (x8_2 + 1))) = some r := by first | (rw [hy223]; with_reducible exact H) | (have H2_ := (Option.bind_some _ _).symm.trans H; rw [hy223]; with_reducible exact H2_) | (have H2_ := (Option.bind_some _ _).symm.trans H; with_reducible exact H2_) | with_reducible exact H | (rw [hy223]; exact H) | exact H
                                          have Ny223 := Aside0.mk hy223
                                          clear hy223
                                          obtain ⟨y225, hy225⟩ : ∃ y_ : List (List Int), y_ = (x6_2.set (x7_1 : Int).toNat y223) := ⟨_, rfl⟩
                                          replace H : (tattingref7_Ahead.l1 k2 l0 l1 l2 y225 x7_1 (wrap64 (x8_2 + 1))) = some r := by first | (rw [hy225]; with_reducible exact H) | (have H2_ := (Option.bind_some _ _).symm.trans H; rw [hy225]; with_reducible exact H2_) | (have H2_ := (Option.bind_some _ _).symm.trans H; with_reducible exact H2_) | with_reducible exact H | (rw [hy225]; exact H) | exact H
                                          have Ny225 := Aside0.mk hy225
                                          clear hy225
                                          have H' := Aside0.mk H
                                          clear H
                                          try go_wp2
                                          have n0_ := Aside0.mk (Kd.S_drew HO_6.out)
                                          have n1_ := Aside0.mk (below_drew1 HB.out)
                                          clear HO_6
                                          clear HB
                                          have HO_6 := n0_
                                          have HB := n1_
                                          clear n0_ n1_
                                          have p220 : 0 ≤ (x7_1 : Int) := of_decide_eq_true (by first | (with_reducible assumption) | assumption)
                                          have q220 : x7_1 < (x6_2.length : Int) := of_decide_eq_true (by first | (with_reducible assumption) | assumption)
                                          obtain ⟨ad220, A220_0, c220_0, e220, hx220_0, hl220_0, hi220_0⟩ := at_L2 (Kd.S_reads' HO_6.out).2.2 x7_1 p220 q220
                                          obtain rfl : (⟨go15, 0, none⟩ : Addr) = ad220 := (by injection e220)
                                          obtain ⟨ce220, hce220, hMe220, hcc220⟩ := Kd.S_get HO_6.out [] x7_1 p220 (by first | exact q220 | exact of_decide_eq_true (by first | (with_reducible assumption) | assumption) | (have e_ := (Kd.S_reads' HO_6.out).1; omega))
                                          obtain ⟨ve220_0, rfl, ge220_0⟩ := hMe220
                                          have hv220_0 := hcc220 0 _ rfl
                                          rw [Nat.add_zero, show ((Kd.slice 3 (Kd.int .i64))).sz = 1 from rfl, Nat.mul_one] at hv220_0
                                          replace hv220_0 := Option.some.inj (hv220_0.symm.trans hx220_0)
                                          rw [hv220_0] at ge220_0
                                          have HL220_0 := Aside0.mk (show Kd.R (Kd.int .i64) 3 _ _ _ _ (rd_L2 x6_2 x7_1) from ge220_0)
                                          clear hv220_0 ge220_0
                                          have HX220_0 := Aside0.mk hx220_0
                                          clear hcc220 hce220
                                          (first | simp only [add_plain] at hx220_0 | simp only [add_at] at hx220_0 | simp only [Addr.add, Nat.zero_add] at hx220_0 | skip)
                                          have HR220_0 := Aside0.mk hi220_0
                                          have HC220_0 := Aside0.mk hl220_0
                                          clear hi220_0 hl220_0
                                          replace p220 := eq_true p220
                                          replace q220 := eq_true q220
                                          have p221 : 0 ≤ ((ji23) : Int) := of_decide_eq_true (by first | (with_reducible assumption) | assumption)
                                          have q221 : (ji23) < (l2.length : Int) := of_decide_eq_true (by first | (with_reducible assumption) | assumption)
                                          obtain ⟨ad221, A221_0, c221_0, e221, hx221_0, hl221_0, hi221_0⟩ := at_L2 HR2.out (ji23) p221 q221
                                          have hw221_0 := hx221_0
                                          cases e221
                                          replace hx221_0 := (HB.out.cell (World.block_lt_of_cell? w _ hx221_0)).trans hx221_0
                                          have HR221_0 := Aside0.mk hi221_0
                                          have HC221_0 := Aside0.mk hl221_0
                                          clear hi221_0 hl221_0
                                          replace p221 := eq_true p221
                                          replace q221 := eq_true q221
                                          have p222 : 0 ≤ ((ji26) : Int) := of_decide_eq_true (by first | (with_reducible assumption) | assumption)
                                          have q222 : (ji26) < ((rd_L2 l2 (ji23)).length : Int) := of_decide_eq_true (by first | (with_reducible assumption) | assumption)
                                          obtain ⟨ad222, e222, hx222_0⟩ := Kd.at_int HR221_0.out (ji26) p222 q222
                                          have hw222_0 := hx222_0
                                          cases e222
                                          replace hx222_0 := (HB.out.cell (World.block_lt_of_cell? w _ hx222_0)).trans hx222_0
                                          replace p222 := eq_true p222
                                          replace q222 := eq_true q222
                                          have p31 : 0 ≤ (x8_2 : Int) := of_decide_eq_true (by first | (with_reducible assumption) | assumption)
                                          have q31 : (x8_2 : Int) < (((rd_L2 x6_2 x7_1).length : Int) : Int) := of_decide_eq_true (by first | (with_reducible assumption) | assumption)
                                          obtain ⟨go31, co31, eo31, gb31, gl31, cl31, HG31⟩ := Kd.R_form HL220_0.out (by omega)
                                          (first | cases eo31 | (injection eo31 with ea_ en_ ec_; (first | subst ea_ | (injection ea_ with ea_; subst ea_)); subst ec_; clear en_))
                                          have GB31 := Aside0.mk gb31
                                          have GG31 := Aside0.mk HG31
                                          clear gb31 gl31 HG31
                                          obtain ⟨hx31_0, hf31_0⟩ := Kd.R_celln 0 HL220_0.out (x8_2 : Int) p31 q31
                                          replace p31 := eq_true p31
                                          replace q31 := eq_true q31
                                          have hq33 : (x7_1 : Int) < (x6_2.length : Int) := (by have h_ : (x7_1 : Int) < ((x6_2.length : Int) : Int) := of_decide_eq_true (by first | (with_reducible assumption) | assumption); first | exact h_ | (have e_ := (Kd.S_reads' HO_6.out).1; omega) | simpa only [List.length_set, List.length_set] using h_)
                                          obtain ⟨oki33, ce33, hcl33, hM33, hcc33, hok33, hbk33⟩ := Kd.S_borrow HO_6.out [] (x7_1 : Int) (of_decide_eq_true (by first | (with_reducible assumption) | assumption)) hq33
                                          obtain ⟨ve33_0, rfl, ge33_0⟩ := hM33
                                          have hv33 := hcc33 0 _ rfl
                                          rw [Nat.add_zero, show ((Kd.slice 3 (Kd.int .i64))).sz = 1 from rfl, Nat.mul_one] at hv33
                                          replace hv33 := Option.some.inj (hv33.symm.trans HX220_0.out)
                                          subst hv33
                                          (try clear hcc33); (try clear hcl33)
                                          replace ge33_0 := (show Kd.R (Kd.int .i64) 3 _ _ _ _ (rd_L2 x6_2 x7_1) from ge33_0)
                                          have HP33 := Kd.R_putg ge33_0 (x8_2 : Int) (rd (rd_L2 l2 (ji23)) (ji26))
                                          rw [← Ny223.out] at HP33
                                          have HS33 := hbk33 HP33.2 (fun k_ e_ => by injection e_ with e_; subst e_; exact ge33_0.1 _ rfl) (x' := y223) (Kd.M_row HP33.1)
                                          rw [← Ny225.out] at HS33
                                          have HQ33 := Aside0.mk HS33
                                          clear HP33 HS33 hbk33 hok33
                                          refine start_ (n := 20) (S := fun w' => w'.cell? ⟨go15, (x7_1).toNat, none⟩ = some (.slice (some ⟨go31, 0, none⟩) (rd_L2 x6_2 x7_1).length c220_0) ∧ w'.cell? (ad221.add ((ji23)).toNat) = some (.slice (some ad222) (rd_L2 l2 (ji23)).length c221_0) ∧ w'.cell? (ad222.add ((ji26)).toNat) = some (.int .i64 (rd (rd_L2 l2 (ji23)) (ji26)))) (ds := [19]) #[false, false, false, false, false, false, false, false, false, false, false, false, false, false, false, false, false, false, false, false] (by kernel_rfl) rfl rfl ⟨hx220_0, ((HB.out.cell (World.block_lt_of_cell? w _ hw221_0)).trans hw221_0), ((HB.out.cell (World.block_lt_of_cell? w _ hw222_0)).trans hw222_0)⟩ (fun hHeld => ?_); refine with_tabW tattingref7_Ahead.tab10 tattingref7_Ahead.bits10 (fun HT_ HW_ => ?_)
                                          generalize wr.drew = w32 at HO_6 HB GG31 HL220_0 HQ33 HR220_0 HR221_0 HX220_0 hf31_0 hx220_0 hx221_0 hx222_0 hx31_0 hHeld ⊢
                                          refine pure_ (i := 0) (N := some 37) (v := ?_) (a' := ?_) #[true, false, false, false, false, false, false, false, false, false, false, false, false, false, false, false, false, false, false, false] rfl rfl (any_of HT_.out (by kernel_rfl)) (fun _ _ _ h => h) (Or.inl ⟨by rfl, ?_⟩) ?_ ?_
                                          rotate_left
                                          · intro w'
                                            go_simp
                                            with_reducible rfl
                                          rotate_left
                                          · simp only [Act.put, List.setIfInBounds_toArray, List.set_cons_zero, List.set_cons_succ, i64_w, i32_w]
                                            rfl
                                          refine pure_ (i := 1) (N := some 38) (v := ?_) (a' := ?_) #[true, true, false, false, false, false, false, false, false, false, false, false, false, false, false, false, false, false, false, false] rfl rfl (any_of HT_.out (by kernel_rfl)) (fun _ _ _ h => h) (Or.inl ⟨by rfl, ?_⟩) ?_ ?_
                                          rotate_left
                                          · intro w'
                                            go_simp
                                            with_reducible rfl
                                          rotate_left
                                          · simp only [Act.put, List.setIfInBounds_toArray, List.set_cons_zero, List.set_cons_succ, i64_w, i32_w]
                                            rfl
                                          refine pure_ (i := 2) (N := some 39) (v := ?_) (a' := ?_) #[true, true, true, false, false, false, false, false, false, false, false, false, false, false, false, false, false, false, false, false] rfl rfl (any_of HT_.out (by kernel_rfl)) (fun _ _ _ h => h) (Or.inl ⟨by rfl, ?_⟩) ?_ ?_
                                          rotate_left
                                          · intro w'
                                            go_simp
                                            with_reducible rfl
                                          rotate_left
                                          · simp only [Act.put, List.setIfInBounds_toArray, List.set_cons_zero, List.set_cons_succ, i64_w, i32_w]
                                            rfl
                                          refine pure_ (i := 4) (N := some 41) (v := ?_) (a' := ?_) #[true, true, true, false, true, false, false, false, false, false, false, false, false, false, false, false, false, false, false, false] rfl rfl (any_of HT_.out (by kernel_rfl)) (fun _ _ _ h => h) (Or.inl ⟨by rfl, ?_⟩) ?_ ?_
                                          rotate_left
                                          · intro w'
                                            go_simp
                                            with_reducible rfl
                                          rotate_left
                                          · simp only [Act.put, List.setIfInBounds_toArray, List.set_cons_zero, List.set_cons_succ, i64_w, i32_w]
                                            rfl
                                          refine pure_ (i := 5) (N := some 42) (v := ?_) (a' := ?_) #[true, true, true, false, true, true, false, false, false, false, false, false, false, false, false, false, false, false, false, false] rfl rfl (any_of HT_.out (by kernel_rfl)) (fun _ _ _ h => h) (Or.inl ⟨by rfl, ?_⟩) ?_ ?_
                                          rotate_left
                                          · intro w'
                                            go_simp
                                            with_reducible rfl
                                          rotate_left
                                          · simp only [Act.put, List.setIfInBounds_toArray, List.set_cons_zero, List.set_cons_succ, i64_w, i32_w]
                                            rfl
                                          refine pure_ (i := 6) (N := some 43) (v := ?_) (a' := ?_) #[true, true, true, false, true, true, true, false, false, false, false, false, false, false, false, false, false, false, false, false] rfl rfl (any_of HT_.out (by kernel_rfl)) (fun _ _ _ h => h) (Or.inl ⟨by rfl, ?_⟩) ?_ ?_
                                          rotate_left
                                          · intro w'
                                            go_simp
                                            with_reducible rfl
                                          rotate_left
                                          · simp only [Act.put, List.setIfInBounds_toArray, List.set_cons_zero, List.set_cons_succ, i64_w, i32_w]
                                            rfl
                                          refine pure_ (i := 7) (N := some 44) (v := ?_) (a' := ?_) #[true, true, true, false, true, true, true, true, false, false, false, false, false, false, false, false, false, false, false, false] rfl rfl (any_of HT_.out (by kernel_rfl)) (fun _ _ _ h => h) (Or.inl ⟨by rfl, ?_⟩) ?_ ?_
                                          rotate_left
                                          · intro w'
                                            go_simp
                                            with_reducible rfl
                                          rotate_left
                                          · simp only [Act.put, List.setIfInBounds_toArray, List.set_cons_zero, List.set_cons_succ, i64_w, i32_w]
                                            rfl
                                          refine pure_ (i := 8) (N := some 45) (v := ?_) (a' := ?_) #[true, true, true, false, true, true, true, true, true, false, false, false, false, false, false, false, false, false, false, false] rfl rfl (any_of HT_.out (by kernel_rfl)) (fun _ _ _ h => h) (Or.inl ⟨by rfl, ?_⟩) ?_ ?_
                                          rotate_left
                                          · intro w'
                                            go_simp
                                            with_reducible rfl
                                          rotate_left
                                          · simp only [Act.put, List.setIfInBounds_toArray, List.set_cons_zero, List.set_cons_succ, i64_w, i32_w]
                                            rfl
                                          refine pure_ (i := 9) (N := some 46) (v := ?_) (a' := ?_) #[true, true, true, false, true, true, true, true, true, true, false, false, false, false, false, false, false, false, false, false] rfl rfl (any_of HT_.out (by kernel_rfl)) (fun _ _ _ h => h) (Or.inl ⟨by rfl, ?_⟩) ?_ ?_
                                          rotate_left
                                          · intro w'
                                            go_simp
                                            with_reducible rfl
                                          rotate_left
                                          · simp only [Act.put, List.setIfInBounds_toArray, List.set_cons_zero, List.set_cons_succ, i64_w, i32_w]
                                            rfl
                                          refine pure_ (i := 10) (N := some 47) (v := ?_) (a' := ?_) #[true, true, true, false, true, true, true, true, true, true, true, false, false, false, false, false, false, false, false, false] rfl rfl (any_of HT_.out (by kernel_rfl)) (fun _ _ _ h => h) (Or.inl ⟨by rfl, ?_⟩) ?_ ?_
                                          rotate_left
                                          · intro w'
                                            go_simp
                                            with_reducible rfl
                                          rotate_left
                                          · simp only [Act.put, List.setIfInBounds_toArray, List.set_cons_zero, List.set_cons_succ, i64_w, i32_w]
                                            rfl
                                          refine pure_ (i := 12) (N := some 49) (v := ?_) (a' := ?_) #[true, true, true, false, true, true, true, true, true, true, true, false, true, false, false, false, false, false, false, false] rfl rfl (any_of HT_.out (by kernel_rfl)) (fun _ _ _ h => h) (Or.inl ⟨by rfl, ?_⟩) ?_ ?_
                                          rotate_left
                                          · intro w'
                                            go_simp
                                            with_reducible rfl
                                          rotate_left
                                          · simp only [Act.put, List.setIfInBounds_toArray, List.set_cons_zero, List.set_cons_succ, i64_w, i32_w]
                                            rfl
                                          refine pure_ (i := 13) (N := some 50) (v := ?_) (a' := ?_) #[true, true, true, false, true, true, true, true, true, true, true, false, true, true, false, false, false, false, false, false] rfl rfl (any_of HT_.out (by kernel_rfl)) (fun _ _ _ h => h) (Or.inl ⟨by rfl, ?_⟩) ?_ ?_
                                          rotate_left
                                          · intro w'
                                            go_simp
                                            with_reducible rfl
                                          rotate_left
                                          · simp only [Act.put, List.setIfInBounds_toArray, List.set_cons_zero, List.set_cons_succ, i64_w, i32_w]
                                            rfl
                                          refine pure_ (i := 14) (N := some 51) (v := ?_) (a' := ?_) #[true, true, true, false, true, true, true, true, true, true, true, false, true, true, true, false, false, false, false, false] rfl rfl (any_of HT_.out (by kernel_rfl)) (fun _ _ _ h => h) (Or.inl ⟨by rfl, ?_⟩) ?_ ?_
                                          rotate_left
                                          · intro w'
                                            go_simp
                                            with_reducible rfl
                                          rotate_left
                                          · simp only [Act.put, List.setIfInBounds_toArray, List.set_cons_zero, List.set_cons_succ, i64_w, i32_w]
                                            rfl
                                          refine pure_ (i := 15) (N := some 52) (v := ?_) (a' := ?_) #[true, true, true, false, true, true, true, true, true, true, true, false, true, true, true, true, false, false, false, false] rfl rfl (any_of HT_.out (by kernel_rfl)) (fun _ _ _ h => h) (Or.inl ⟨by rfl, ?_⟩) ?_ ?_
                                          rotate_left
                                          · intro w'
                                            go_simp
                                            with_reducible rfl
                                          rotate_left
                                          · simp only [Act.put, List.setIfInBounds_toArray, List.set_cons_zero, List.set_cons_succ, i64_w, i32_w]
                                            rfl
                                          refine take_ (i := 3) (N := some 40) (v := ?_) (a' := ?_) #[true, true, true, true, true, true, true, true, true, true, true, false, true, true, true, true, false, false, false, false] rfl rfl (take_ofW HT_.out HW_.out (by kernel_rfl)) (fun _ _ _ h => h) (Or.inl ⟨by rfl, ?_⟩) hHeld ?_ ?_
                                          rotate_left
                                          · rintro w' ⟨s0, s1, s2⟩
                                            go_simp
                                            with_reducible rfl
                                          rotate_left
                                          · simp only [Act.put, List.setIfInBounds_toArray, List.set_cons_zero, List.set_cons_succ, i64_w, i32_w]
                                            rfl
                                          refine take_ (i := 11) (N := some 48) (v := ?_) (a' := ?_) #[true, true, true, true, true, true, true, true, true, true, true, true, true, true, true, true, false, false, false, false] rfl rfl (take_ofW HT_.out HW_.out (by kernel_rfl)) (fun _ _ _ h => h) (Or.inl ⟨by rfl, ?_⟩) hHeld ?_ ?_
                                          rotate_left
                                          · rintro w' ⟨s0, s1, s2⟩
                                            go_simp
                                            with_reducible rfl
                                          rotate_left
                                          · simp only [Act.put, List.setIfInBounds_toArray, List.set_cons_zero, List.set_cons_succ, i64_w, i32_w]
                                            rfl
                                          refine pure_ (i := 16) (N := some 53) (v := ?_) (a' := ?_) #[true, true, true, true, true, true, true, true, true, true, true, true, true, true, true, true, true, false, false, false] rfl rfl (any_of HT_.out (by kernel_rfl)) (fun _ _ _ h => h) (Or.inl ⟨by rfl, ?_⟩) ?_ ?_
                                          rotate_left
                                          · intro w'
                                            go_simp
                                            with_reducible rfl
                                          rotate_left
                                          · simp only [Act.put, List.setIfInBounds_toArray, List.set_cons_zero, List.set_cons_succ, i64_w, i32_w]
                                            rfl
                                          refine take_ (i := 17) (N := some 54) (v := ?_) (a' := ?_) #[true, true, true, true, true, true, true, true, true, true, true, true, true, true, true, true, true, true, false, false] rfl rfl (take_ofW HT_.out HW_.out (by kernel_rfl)) (fun _ _ _ h => h) (Or.inl ⟨by rfl, ?_⟩) hHeld ?_ ?_
                                          rotate_left
                                          · rintro w' ⟨s0, s1, s2⟩
                                            go_simp
                                            with_reducible rfl
                                          rotate_left
                                          · simp only [Act.put, List.setIfInBounds_toArray, List.set_cons_zero, List.set_cons_succ, i64_w, i32_w]
                                            rfl
                                          refine pure_ (i := 18) (N := some 55) (v := ?_) (a' := ?_) #[true, true, true, true, true, true, true, true, true, true, true, true, true, true, true, true, true, true, true, false] rfl rfl (any_of HT_.out (by kernel_rfl)) (fun _ _ _ h => h) (Or.inl ⟨by rfl, ?_⟩) ?_ ?_
                                          rotate_left
                                          · intro w'
                                            go_simp
                                            with_reducible rfl
                                          rotate_left
                                          · simp only [Act.put, List.setIfInBounds_toArray, List.set_cons_zero, List.set_cons_succ, i64_w, i32_w]
                                            rfl
                                          refine last_ (i := 19) (N := none) #[true, true, true, true, true, true, true, true, true, true, true, true, true, true, true, true, true, true, true, true] rfl rfl (one_of HT_.out (by kernel_rfl)) (by decide) (fun K hK => ?_)
                                          refine skip_ (w1 := ?_) (by rfl) rfl ?_ ?_
                                          rotate_left
                                          · go_simp
                                            rfl
                                          refine hK.out _ _ ?_
                                          clear hK K
                                          refine done_ (done_of HT_.out (by kernel_rfl)) ?_
                                          try go_wp2
                                          (try simp only [← hl6_2])
                                          go_roundg k2
                                          case measure => have := HK1.out; have := HK2.out; omega
                                          case rel => exact ⟨(y225), (wrap64 (x8_2 + 1)), (by first | rfl | (simp; done) | (simp [*]; done)), H', ⟨by have := HK1.out; have := HK2.out; omega⟩, ⟨by (try simp only [hl6_2]); (with_reducible repeat (first | apply Kd.S_alloc | apply Kd.S_drewN | apply Kd.S_drew)); exact HQ33.out⟩, ⟨by repeat (first | (with_reducible first | exact HB.out | apply below_alloc | apply pw_below_drewN | apply below_drew1 | refine below_set ?_ GB31.out) | exact HB.out)⟩⟩
                                        · rw [if_neg c30] at H
                                          exact absurd H (by simp)
                                      · rw [if_neg c29] at H
                                        exact absurd H (by simp)
                                    · rw [if_neg c28] at H
                                      exact absurd H (by simp)
                                  · rw [if_neg c27] at H
                                    exact absurd H (by simp)
                                · rw [if_neg c25] at H
                                  exact absurd H (by simp)
                              · rw [if_neg c24] at H
                                exact absurd H (by simp)
                            · rw [if_neg c22] at H
                              exact absurd H (by simp)
                          · rw [if_neg c21] at H
                            exact absurd H (by simp)
                        · rw [if_neg c20] at H
                          have c20b0 : decide (x8_2 ≤ (l1.length : Int)) = false := decide_eq_false c20
                          clear c20
                          have H' := Aside0.mk H
                          clear H
                          go_wp2
                          (try simp only [← hl6_2])
                          go_roundg k2
                          case measure => have := HK1.out; have := HK2.out; omega
                          case rel => exact ⟨(x6_2), (wrap64 (x7_1 + 1)), (by first | rfl | (simp; done) | (simp [*]; done)), H', ⟨by have := HK1.out; have := HK2.out; omega⟩, ⟨by (try simp only [hl6_2]); (with_reducible repeat (first | apply Kd.S_alloc | apply Kd.S_drewN | apply Kd.S_drew)); exact HO_6.out⟩, ⟨by repeat (first | (with_reducible first | exact HB.out | apply below_alloc | apply pw_below_drewN | apply below_drew1) | exact HB.out)⟩⟩
                  · rw [if_neg c14] at H
                    exact absurd H (by simp)
                · rw [if_neg c13] at H
                  exact absurd H (by simp)
              · rw [if_neg c12] at H
                exact absurd H (by simp)
            · rw [if_neg c11] at H
              exact absurd H (by simp)
          · rw [if_neg c9] at H
            have c9b0 : decide (x7_1 ≤ (l0.length : Int)) = false := decide_eq_false c9
            clear c9
            obtain rfl := Option.some.inj H
            go_wp2
            go_ret
            exact ⟨_, by first | rfl | (simp [errW_none, errW_some] <;> rfl) | (simp only [← hji4]; first | rfl | (simp [errW_none, errW_some] <;> rfl)) | (simp [*, errW_none, errW_some] <;> rfl), Kd.S_lower (by (with_reducible repeat (first | apply Kd.S_alloc | apply Kd.S_drewN | apply Kd.S_drew)); exact HO_6.out) (below_size HBW.out), below_step HBW.out (by repeat (first | (with_reducible first | exact HB.out | apply below_alloc | apply pw_below_drewN | apply below_drew1) | exact HB.out))⟩
    · rw [if_neg c6] at H
      exact absurd H (by simp)
  · rw [if_neg c5] at H
    exact absurd H (by simp)

/-! ### tattingref7_Front: function 24 -/
def tattingref7_Front.f (k : Nat) (l0 : List Int) (l1 : List Int) : Option (List Int) := (tattingref7_Ahead.f k l0 l1).bind fun t226 => (if 0 ≤ (l0.length : Int) then (if (l0.length : Int) < (t226.length : Int) then (some (rd_L2 t226 (l0.length : Int))) else (none)) else (none))
theorem tattingref7_Front.mono : ∀ a0 a1 k, LeO (tattingref7_Front.f k a0 a1) (tattingref7_Front.f (k + 1) a0 a1) := by
  intro a0 a1 k
  unfold tattingref7_Front.f
  repeat' first
      | (with_reducible exact tattingref7_Ahead.mono _ _ _)
      | (with_reducible exact LeO.refl _)
      | (with_reducible exact LeO.none _)
      | (with_reducible refine LeO.ite ?_ ?_)
      | (with_reducible refine LeO.bind ?_ (fun _ => ?_))
      | exact tattingref7_Ahead.mono _ _ _
      | exact LeO.none _
      | refine LeO.ite ?_ ?_
      | refine LeO.bind ?_ (fun _ => ?_)
set_option maxHeartbeats 8000000 in
set_option maxRecDepth 100000 in
theorem tattingref7_Front.calls (k : Nat) (A0 : Option Addr) (c0 : Nat) (l0 : List Int) (A1 : Option Addr) (c1 : Nat) (l1 : List Int) (r : List Int) (w : World) (hr0 : Kd.C (Kd.int .i64) w A0 l0.length l0) (hc0 : l0.length ≤ c0) (hr1 : Kd.C (Kd.int .i64) w A1 l1.length l1) (hc1 : l1.length ≤ c1) (h : tattingref7_Front.f k l0 l1 = some r) :
    Calls Try.prog 24 #[.slice A0 l0.length c0, .slice A1 l1.length c1] w fun e w' => ∃ v0_ : Value, e = .returned (v0_) ∧ Kd.R (Kd.int .i64) 3 w' w.heap.size (fun _ => True) v0_ r ∧ Below w.heap.size w w' := by
  have HR0 := Aside0.mk hr0
  have HC0 := Aside0.mk hc0
  clear hr0 hc0
  have HR1 := Aside0.mk hr1
  have HC1 := Aside0.mk hc1
  clear hr1 hc1
  have HB := Aside0.mk (Below.refl w.heap.size w)
  have H : ((tattingref7_Ahead.f k l0 l1).bind fun t226 => (if 0 ≤ (l0.length : Int) then (if (l0.length : Int) < (t226.length : Int) then (some (rd_L2 t226 (l0.length : Int))) else (none)) else (none))) = some r := h
  clear h
  replace H := Option.bind_eq_some_iff.mp H
  obtain ⟨t226, A30, H⟩ := H
  replace H : (if 0 ≤ (l0.length : Int) then (if (l0.length : Int) < (t226.length : Int) then (some (rd_L2 t226 (l0.length : Int))) else (none)) else (none)) = some r := H
  have A3 := Aside0.mk A30
  clear A30
  by_cases c4 : 0 ≤ (l0.length : Int)
  · rw [if_pos c4] at H
    have c4b0 : decide (0 ≤ (l0.length : Int)) = true := decide_eq_true c4
    have c4b1 : decide (0 ≤ l0.length) = true := decide_eq_true (by omega)
    clear c4
    by_cases c5 : (l0.length : Int) < (t226.length : Int)
    · rw [if_pos c5] at H
      have c5b0 : decide ((l0.length : Int) < (t226.length : Int)) = true := decide_eq_true c5
      have c5b1 : decide (l0.length < t226.length) = true := decide_eq_true (Int.ofNat_lt.mp c5)
      clear c5
      obtain rfl := Option.some.inj H
      go_enter Try.func24, Try.ntmps24
      go_wp2_with (first | ((with_reducible refine gate_callee (f := 29) rfl ?_); refine goesL_ (some 7) rfl rfl Try.func29 (by kernel_rfl) rfl #[.slice A0 l0.length c0, .slice A1 l1.length c1] rfl (by (try simp only [List.map_toArray, List.map_cons, List.map_nil]); first | done | rfl | (simp only [List.length_drop, List.length_take]; rfl)) ?_; (with_reducible refine (tattingref7_Ahead.calls k _ _ l0 _ _ l1 t226 _ ?side1 ?side2 ?side3 ?side4 A3.out).mono ?_); (case side1 => repeat (first | exact HR0.out | (with_reducible refine Kd.C_alloc ?_ _) | (with_reducible refine Kd.C_drewN ?_ _) | (with_reducible refine Kd.C_drew ?_))); (case side2 => exact HC0.out); (case side3 => repeat (first | exact HR1.out | (with_reducible refine Kd.C_alloc ?_ _) | (with_reducible refine Kd.C_drewN ?_ _) | (with_reducible refine Kd.C_drew ?_))); (case side4 => exact HC1.out); rintro e w6 ⟨v227, rfl, ho0, hb⟩; refine ⟨_, rfl, ?_⟩; have n0_ := Aside0.mk (Kd.S_lower ho0 (below_size (by repeat (first | (with_reducible first | exact HB.out | apply below_alloc | apply pw_below_drewN | apply below_drew1) | exact HB.out)))); have n1_ := Aside0.mk (below_step (by repeat (first | (with_reducible first | exact HB.out | apply below_alloc | apply pw_below_drewN | apply below_drew1) | exact HB.out)) hb); clear HB; have HO228 := n0_; have HB := n1_; clear n0_ n1_; (try clear hb); (try clear hb2); (try clear hk); (try clear hi); (try clear ho0); obtain ⟨Ao7, co7, eo7⟩ := Kd.S_slice HO228.out; subst eo7; have p229 : 0 ≤ ((l0.length : Int) : Int) := of_decide_eq_true (by first | (with_reducible assumption) | assumption); have q229 : (l0.length : Int) < (t226.length : Int) := of_decide_eq_true (by first | (with_reducible assumption) | assumption); obtain ⟨ad229, A229_0, c229_0, e229, hx229_0, hl229_0, hi229_0⟩ := at_L2 (Kd.S_reads' HO228.out).2.2 (l0.length : Int) p229 q229; cases e229; obtain ⟨ce229, hce229, hMe229, hcc229⟩ := Kd.S_get HO228.out [] (l0.length : Int) p229 (by first | exact q229 | exact of_decide_eq_true (by first | (with_reducible assumption) | assumption) | (have e_ := (Kd.S_reads' HO228.out).1; omega)); obtain ⟨ve229_0, rfl, ge229_0⟩ := hMe229; have hv229_0 := hcc229 0 _ rfl; rw [Nat.add_zero, show ((Kd.slice 3 (Kd.int .i64))).sz = 1 from rfl, Nat.mul_one] at hv229_0; replace hv229_0 := Option.some.inj (hv229_0.symm.trans hx229_0); rw [hv229_0] at ge229_0; have HL229_0 := Aside0.mk (show Kd.R (Kd.int .i64) 3 _ _ _ _ (rd_L2 t226 (l0.length : Int)) from ge229_0); clear hv229_0 ge229_0; clear hcc229 hce229; have HR229_0 := Aside0.mk hi229_0; have HC229_0 := Aside0.mk hl229_0; clear hi229_0 hl229_0; (try simp only [Go.IntWalk.toNatUp] at hx229_0); replace p229 := eq_true p229; replace q229 := eq_true q229))
      go_ret
      exact ⟨_, by first | rfl | (simp [errW_none, errW_some] <;> rfl) | (simp [*, errW_none, errW_some] <;> rfl), by (with_reducible repeat (first | apply Kd.R_alloc | apply Kd.R_drewN | apply Kd.R_drew)); exact Kd.R_mono HL229_0.out (fun _ hk => trivial), by repeat (first | (with_reducible first | exact HB.out | apply below_alloc | apply pw_below_drewN | apply below_drew1) | exact HB.out)⟩
    · rw [if_neg c5] at H
      exact absurd H (by simp)
  · rw [if_neg c4] at H
    exact absurd H (by simp)

end Go.Proofs.Ytkhplimibgjmoaa.PHuntThresholds
