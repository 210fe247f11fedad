-- Laid by wip/myprint.py: the kit's print, with contracts typed by hand for what it does not take.
import Derived.Test.YtgholknbaanjoaaPThreshLessx0
import Derived.Test.YtgholknbaanjoaaPThreshLessx1
namespace Go.Proofs.Ytgholknbaanjoaa.PThreshLess
open Go.RowKit Go.Proofs.YtgholknbaanjoaaW.PrintWords Go.Proofs.YtgholknbaanjoaaW.PrintLast Go.Proofs.YtgholknbaanjoaaW.PrintMore
attribute [local go_sem] max2_int min2_int max_two min_two max_three min_three max_four min_four   -- for this text's walks alone
set_option linter.unusedVariables false
set_option linter.unusedSimpArgs false

/-! ### tattingref15_Find: function 15 -/
def tattingref15_Find.l0 : Nat → List Int → Int → Int → Int → Option (Int)
  | 0, _, _, _, _ => none
  | k + 1, x0, x1, x5, x6 => if x6 < (x0.length : Int) then (if 0 ≤ x6 then (if (rd x0 x6) < x1 then (tattingref15_Find.l0 k x0 x1 (wrap64 (x5 + 1)) (wrap64 (x6 + 1))) else (tattingref15_Find.l0 k x0 x1 x5 (wrap64 (x6 + 1)))) else (none)) else (some x5)
def tattingref15_Find.f (k : Nat) (l0 : List Int) (a1 : Int) : Option (Int) := tattingref15_Find.l0 k l0 a1 0 0
theorem tattingref15_Find.mono_l : ∀ k, (∀ y0 y1 y2 y3, LeO (tattingref15_Find.l0 k y0 y1 y2 y3) (tattingref15_Find.l0 (k + 1) y0 y1 y2 y3))
  | 0 => fun _ _ _ _ r h => by simp [tattingref15_Find.l0] at h
  | k + 1 => by
    have ih0 := tattingref15_Find.mono_l k
    · intro y0 y1 y2 y3
      unfold tattingref15_Find.l0
      repeat' first
      | (with_reducible exact ih0 _ _ _ _)
      | (with_reducible exact LeO.refl _)
      | (with_reducible exact LeO.none _)
      | (with_reducible refine LeO.ite ?_ ?_)
      | (with_reducible refine LeO.bind ?_ (fun _ => ?_))
      | exact ih0 _ _ _ _
      | exact LeO.none _
      | refine LeO.ite ?_ ?_
      | refine LeO.bind ?_ (fun _ => ?_)
theorem tattingref15_Find.mono : ∀ a0 a1 k, LeO (tattingref15_Find.f k a0 a1) (tattingref15_Find.f (k + 1) a0 a1) := by
  intro a0 a1 k
  have ih0 := tattingref15_Find.mono_l k
  unfold tattingref15_Find.f
  repeat' first
      | (with_reducible exact ih0 _ _ _ _)
      | (with_reducible exact LeO.refl _)
      | (with_reducible exact LeO.none _)
      | (with_reducible refine LeO.ite ?_ ?_)
      | (with_reducible refine LeO.bind ?_ (fun _ => ?_))
      | exact ih0 _ _ _ _
      | exact LeO.none _
      | refine LeO.ite ?_ ?_
      | refine LeO.bind ?_ (fun _ => ?_)
set_option maxHeartbeats 8000000 in
set_option maxRecDepth 100000 in
theorem tattingref15_Find.calls (k : Nat) (A0 : Option Addr) (c0 : Nat) (l0 : List Int) (a1 : Int) (r : Int) (w : World) (hr0 : Kd.C (Kd.int .i64) w A0 l0.length l0) (hc0 : l0.length ≤ c0) (h : tattingref15_Find.f k l0 a1 = some r) :
    Calls Try.prog 15 #[.slice A0 l0.length c0, .int .i64 a1] w fun e w' => e = .returned (.int .i64 r) ∧ Drawn0 w w' := by
  have HR0 := Aside0.mk hr0
  have HC0 := Aside0.mk hc0
  clear hr0 hc0
  have H : (tattingref15_Find.l0 k l0 a1 0 0) = some r := h
  clear h
  have H' := Aside0.mk H
  clear H
  go_enter Try.func15, Try.ntmps15
  go_wp2
  go_loopg [5, 6] k (fun kq v5 v6 w' => ∃ (x5_1 : Int) (x6_1 : Int), v5 = .int .i64 x5_1 ∧ v6 = .int .i64 x6_1 ∧ Aside0 (tattingref15_Find.l0 kq l0 a1 x5_1 x6_1 = some r) ∧ Aside0 (kq ≤ k) ∧ Drawn0 w w')
  case atStart => exact ⟨(0), (0), (by first | rfl | (simp; done) | (simp [*]; done)), (by first | rfl | (simp; done) | (simp [*]; done)), H', ⟨Nat.le_refl _⟩, by repeat (first | exact Drawn0.refl _ | apply Drawn0.step)⟩
  case round =>
    clear H'
    try clear c1
    try clear p2
    obtain ⟨x5_1, x6_1, rfl, rfl, HA, HK1, ⟨m1, rfl⟩⟩ := hrel
    cases gk with
    | zero => exact absurd HA.out (by simp [tattingref15_Find.l0])
    | succ k1 =>
      have H := HA.out
      clear HA
      simp only [tattingref15_Find.l0] at H
      by_cases c3 : x6_1 < (l0.length : Int)
      · rw [if_pos c3] at H
        have c3b0 : decide (x6_1 < (l0.length : Int)) = true := decide_eq_true c3
        clear c3
        by_cases c4 : 0 ≤ x6_1
        · rw [if_pos c4] at H
          have c4b0 : decide (0 ≤ x6_1) = true := decide_eq_true c4
          clear c4
          by_cases c5 : (rd l0 x6_1) < a1
          · rw [if_pos c5] at H
            have c5b0 : decide ((rd l0 x6_1) < a1) = true := decide_eq_true c5
            clear c5
            have H' := Aside0.mk H
            clear H
            have p162 : 0 ≤ (x6_1 : Int) := of_decide_eq_true (by first | (with_reducible assumption) | assumption)
            have q162 : x6_1 < (l0.length : Int) := of_decide_eq_true (by first | (with_reducible assumption) | assumption)
            obtain ⟨ad162, e162, hx162_0⟩ := Kd.at_int HR0.out x6_1 p162 q162
            cases e162
            replace p162 := eq_true p162
            replace q162 := eq_true q162
            go_wp2
            go_roundg k1
            case measure => have := HK1.out; omega
            case rel => exact ⟨(wrap64 (x5_1 + 1)), (wrap64 (x6_1 + 1)), (by first | rfl | (simp; done) | (simp [*]; done)), (by first | rfl | (simp; done) | (simp [*]; done)), H', ⟨by have := HK1.out; omega⟩, by repeat (first | exact Drawn0.refl _ | apply Drawn0.step)⟩
          · rw [if_neg c5] at H
            have c5b0 : decide ((rd l0 x6_1) < a1) = false := decide_eq_false c5
            clear c5
            have H' := Aside0.mk H
            clear H
            have p162 : 0 ≤ (x6_1 : Int) := of_decide_eq_true (by first | (with_reducible assumption) | assumption)
            have q162 : x6_1 < (l0.length : Int) := of_decide_eq_true (by first | (with_reducible assumption) | assumption)
            obtain ⟨ad162, e162, hx162_0⟩ := Kd.at_int HR0.out x6_1 p162 q162
            cases e162
            replace p162 := eq_true p162
            replace q162 := eq_true q162
            go_wp2
            go_roundg k1
            case measure => have := HK1.out; omega
            case rel => exact ⟨(x5_1), (wrap64 (x6_1 + 1)), (by first | rfl | (simp; done) | (simp [*]; done)), (by first | rfl | (simp; done) | (simp [*]; done)), H', ⟨by have := HK1.out; omega⟩, by repeat (first | exact Drawn0.refl _ | apply Drawn0.step)⟩
        · rw [if_neg c4] at H
          exact absurd H (by simp)
      · rw [if_neg c3] at H
        have c3b0 : decide (x6_1 < (l0.length : Int)) = false := decide_eq_false c3
        clear c3
        obtain rfl := Option.some.inj H
        go_wp2
        go_ret
        exact ⟨by first | rfl | (simp; done) | (simp [*]; done), by repeat (first | exact Drawn0.refl _ | apply Drawn0.step)⟩

/-! ### tattinglaw15_rising: function 13 -/
def tattinglaw15_rising.ins (l0 : List Int) (l3 : List Int) (a4 : Int) (a5 : Int) : Option (List Int) := (some (([] : List Int) : List Int)).bind fun y163 => (if 0 ≤ a5 then (if a5 ≤ (l3.length : Int) then (if y163.length + (l3.take (a5 : Int).toNat).length < 17592186044416 then ((some (y163 ++ (l3.take (a5 : Int).toNat) : List Int)).bind fun y167 => (if 0 ≤ a4 then (if a4 < (l0.length : Int) then ((some (([rd l0 a4] : List Int) : List Int)).bind fun y171 => (if y167.length + y171.length < 17592186044416 then ((some (y167 ++ y171 : List Int)).bind fun y174 => (if y174.length + (l3.drop (a5 : Int).toNat).length < 17592186044416 then (some (y174 ++ (l3.drop (a5 : Int).toNat))) else (none))) else (none))) else (none)) else (none))) else (none)) else (none)) else (none))
def tattinglaw15_rising.T7 : Bool × List (List Nat × List Nat) := (true, [([], []), ([], []), ([], []), ([1, 2], [1, 2]), ([0, 3], [0, 3]), ([], []), ([], []), ([5, 6], [5, 6]), ([7], [7]), ([8], [8]), ([4, 9, 4], [4, 9]), ([], []), ([], []), ([11, 12], [11, 12]), ([10, 13, 10], [10, 13]), ([14, 14, 0, 1, 2, 3, 4, 5, 6, 7, 8, 9, 10, 11, 12, 13, 14], [1, 11, 14])])
def tattinglaw15_rising.B7 : List Nat := [0, 0, 0, 6, 15, 0, 0, 96, 224, 480, 1023, 0, 0, 6144, 16383, 32767]
theorem tattinglaw15_rising.tab7 : rtab .any (opsOf Try.f13 7) = tattinglaw15_rising.T7 := by kernel_rfl
theorem tattinglaw15_rising.bits7 : waitsOk tattinglaw15_rising.T7.2 tattinglaw15_rising.B7 = true := by kernel_rfl
def tattinglaw15_rising.l0 : Nat → List Int → List Int → Int → Option (List Int)
  | 0, _, _, _ => none
  | k + 1, x0, x3, x4 => if x4 < (x0.length : Int) then (if 0 ≤ x4 then ((tattingref15_Find.f k x3 (rd x0 x4)).bind fun t164 => (if t164 = (x3.length : Int) then ((tattinglaw15_rising.ins x0 x3 x4 t164).bind fun t165 => (tattinglaw15_rising.l0 k x0 t165 (wrap64 (x4 + 1)))) else (if 0 ≤ t164 then (if t164 < (x3.length : Int) then (if (rd x3 t164) = (rd x0 x4) then (tattinglaw15_rising.l0 k x0 x3 (wrap64 (x4 + 1))) else ((tattinglaw15_rising.ins x0 x3 x4 t164).bind fun t170 => (tattinglaw15_rising.l0 k x0 t170 (wrap64 (x4 + 1))))) else (none)) else (none)))) else (none)) else (some x3)
def tattinglaw15_rising.f (k : Nat) (l0 : List Int) : Option (List Int) := tattinglaw15_rising.l0 k l0 ([] : List Int) 0
theorem tattinglaw15_rising.mono_l : ∀ k, (∀ y0 y1 y2, LeO (tattinglaw15_rising.l0 k y0 y1 y2) (tattinglaw15_rising.l0 (k + 1) y0 y1 y2))
  | 0 => fun _ _ _ r h => by simp [tattinglaw15_rising.l0] at h
  | k + 1 => by
    have ih0 := tattinglaw15_rising.mono_l k
    · intro y0 y1 y2
      unfold tattinglaw15_rising.l0
      repeat' first
      | (with_reducible exact ih0 _ _ _)
      | (with_reducible exact tattingref15_Find.mono _ _ _)
      | (with_reducible exact LeO.refl _)
      | (with_reducible exact LeO.none _)
      | (with_reducible refine LeO.ite ?_ ?_)
      | (with_reducible refine LeO.bind ?_ (fun _ => ?_))
      | exact ih0 _ _ _
      | exact tattingref15_Find.mono _ _ _
      | exact LeO.none _
      | refine LeO.ite ?_ ?_
      | refine LeO.bind ?_ (fun _ => ?_)
theorem tattinglaw15_rising.mono : ∀ a0 k, LeO (tattinglaw15_rising.f k a0) (tattinglaw15_rising.f (k + 1) a0) := by
  intro a0 k
  have ih0 := tattinglaw15_rising.mono_l k
  unfold tattinglaw15_rising.f
  repeat' first
      | (with_reducible exact ih0 _ _ _)
      | (with_reducible exact tattingref15_Find.mono _ _ _)
      | (with_reducible exact LeO.refl _)
      | (with_reducible exact LeO.none _)
      | (with_reducible refine LeO.ite ?_ ?_)
      | (with_reducible refine LeO.bind ?_ (fun _ => ?_))
      | exact ih0 _ _ _
      | exact tattingref15_Find.mono _ _ _
      | exact LeO.none _
      | refine LeO.ite ?_ ?_
      | refine LeO.bind ?_ (fun _ => ?_)
set_option maxHeartbeats 8000000 in
set_option maxRecDepth 100000 in
theorem tattinglaw15_rising.calls (k : Nat) (A0 : Option Addr) (c0 : Nat) (l0 : List Int) (r : List Int) (w : World) (hr0 : Kd.C (Kd.int .i64) w A0 l0.length l0) (hc0 : l0.length ≤ c0) (h : tattinglaw15_rising.f k l0 = some r) :
    Calls Try.prog 13 #[.slice A0 l0.length c0] w fun e w' => ∃ v0_ : Value, e = .returned (v0_) ∧ Kd.R (Kd.int .i64) 3 w' w.heap.size (fun _ => True) v0_ r ∧ Below w.heap.size w w' := by
  have HR0 := Aside0.mk hr0
  have HC0 := Aside0.mk hc0
  clear hr0 hc0
  have HB := Aside0.mk (Below.refl w.heap.size w)
  have H : (tattinglaw15_rising.l0 k l0 ([] : List Int) 0) = some r := h
  clear h
  have H' := Aside0.mk H
  clear H
  go_enter Try.func13, Try.ntmps13
  go_wp2
  repeat (go_quiet (fail); try go_wp2)
  go_loopg [3, 4] k (fun kq v3 v4 w' => ∃ (x3_1 : List Int) (x4_1 : Int), v4 = .int .i64 x4_1 ∧ Aside0 (tattinglaw15_rising.l0 kq l0 x3_1 x4_1 = some r) ∧ Aside0 (kq ≤ k) ∧ Aside0 (Kd.R (Kd.int .i64) 3 w' w.heap.size (fun _ => True) v3 x3_1) ∧ Aside0 (Below w.heap.size w w'))
  case atStart => exact ⟨(([] : List Int)), (0), (by first | rfl | (simp; done) | (simp [*]; done)), H', ⟨Nat.le_refl _⟩, ⟨by first | exact Kd.R_nil _ _ _ _ _ | exact Kd.N_nil _ _ _ _ _ | exact Kd.V_nil _ _ _ _ _ | exact Kd.Q_nil _ _ _ _ _ | exact Kd.S_nil _ _ _ _ _⟩, ⟨by repeat (first | (with_reducible first | exact HB.out | apply below_alloc | apply pw_below_drewN | apply below_drew1) | exact HB.out)⟩⟩
  case round =>
    clear H'
    try clear c1
    obtain ⟨x3_1, x4_1, rfl, HA, HK1, HO_3, HB⟩ := hrel
    cases gk with
    | zero => exact absurd HA.out (by simp [tattinglaw15_rising.l0])
    | succ k1 =>
      have H := HA.out
      clear HA
      simp only [tattinglaw15_rising.l0] at H
      by_cases c2 : x4_1 < (l0.length : Int)
      · rw [if_pos c2] at H
        have c2b0 : decide (x4_1 < (l0.length : Int)) = true := decide_eq_true c2
        clear c2
        by_cases c3 : 0 ≤ x4_1
        · rw [if_pos c3] at H
          have c3b0 : decide (0 ≤ x4_1) = true := decide_eq_true c3
          clear c3
          replace H := Option.bind_eq_some_iff.mp H
          obtain ⟨t164, A40, H⟩ := H
          replace H : (if t164 = (x3_1.length : Int) then ((tattinglaw15_rising.ins l0 x3_1 x4_1 t164).bind fun t165 => (tattinglaw15_rising.l0 k1 l0 t165 (wrap64 (x4_1 + 1)))) else (if 0 ≤ t164 then (if t164 < (x3_1.length : Int) then (if (rd x3_1 t164) = (rd l0 x4_1) then (tattinglaw15_rising.l0 k1 l0 x3_1 (wrap64 (x4_1 + 1))) else ((tattinglaw15_rising.ins l0 x3_1 x4_1 t164).bind fun t170 => (tattinglaw15_rising.l0 k1 l0 t170 (wrap64 (x4_1 + 1))))) else (none)) else (none))) = some r := H
          have A4 := Aside0.mk A40
          clear A40
          by_cases c5 : t164 = (x3_1.length : Int)
          · rw [if_pos c5] at H
            have c5b0 : (t164 == (x3_1.length : Int)) = true := beq_iff_eq.mpr c5
            have c5b1 : (t164 != (x3_1.length : Int)) = false := bne_eq_false_iff_eq.mpr c5
            clear c5
            replace H := Option.bind_eq_some_iff.mp H
            obtain ⟨t165, A60, H⟩ := H
            replace H : (tattinglaw15_rising.l0 k1 l0 t165 (wrap64 (x4_1 + 1))) = some r := H
            have A6 := Aside0.mk A60
            clear A60
            have H' := Aside0.mk H
            clear H
            have p163 : 0 ≤ (x4_1 : Int) := of_decide_eq_true (by first | (with_reducible assumption) | assumption)
            have q163 : x4_1 < (l0.length : Int) := of_decide_eq_true (by first | (with_reducible assumption) | assumption)
            obtain ⟨ad163, e163, hx163_0⟩ := Kd.at_int HR0.out x4_1 p163 q163
            cases e163
            replace hx163_0 := (HB.out.cell (World.block_lt_of_cell? w _ hx163_0)).trans hx163_0
            replace p163 := eq_true p163
            replace q163 := eq_true q163
            obtain ⟨Ao7, co7, eo7⟩ := Kd.R_slice HO_3.out
            subst eo7
            go_wp2_with (first | (go_at_call 15; (with_reducible refine (tattingref15_Find.calls k1 _ _ x3_1 (rd l0 x4_1) t164 _ ?side1 ?side2 A4.out).mono ?_); (case side1 => repeat (first | exact (Kd.R_reads' HO_3.out).2.2 | (with_reducible refine Kd.C_alloc ?_ _) | (with_reducible refine Kd.C_drewN ?_ _) | (with_reducible refine Kd.C_drew ?_))); (case side2 => exact (Kd.R_reads' HO_3.out).2.1); rintro e w' ⟨rfl, ⟨nd, rfl⟩⟩; (try first | exact ⟨rfl, _, World.drewN_drewN _ _ _⟩ | exact ⟨rfl, _, Eq.trans (World.drewN_drewN _ _ _) (congrArg (World.drewN _) (Nat.add_assoc _ _ _))⟩)))
            repeat (go_quiet (first | (go_at_call 15; (with_reducible refine (tattingref15_Find.calls k1 _ _ x3_1 (rd l0 x4_1) t164 _ ?side1 ?side2 A4.out).mono ?_); (case side1 => repeat (first | exact (Kd.R_reads' HO_3.out).2.2 | (with_reducible refine Kd.C_alloc ?_ _) | (with_reducible refine Kd.C_drewN ?_ _) | (with_reducible refine Kd.C_drew ?_))); (case side2 => exact (Kd.R_reads' HO_3.out).2.1); rintro e w' ⟨rfl, ⟨nd, rfl⟩⟩; (try first | exact ⟨rfl, _, World.drewN_drewN _ _ _⟩ | exact ⟨rfl, _, Eq.trans (World.drewN_drewN _ _ _) (congrArg (World.drewN _) (Nat.add_assoc _ _ _))⟩))); try go_wp2_with (first | (go_at_call 15; (with_reducible refine (tattingref15_Find.calls k1 _ _ x3_1 (rd l0 x4_1) t164 _ ?side1 ?side2 A4.out).mono ?_); (case side1 => repeat (first | exact (Kd.R_reads' HO_3.out).2.2 | (with_reducible refine Kd.C_alloc ?_ _) | (with_reducible refine Kd.C_drewN ?_ _) | (with_reducible refine Kd.C_drew ?_))); (case side2 => exact (Kd.R_reads' HO_3.out).2.1); rintro e w' ⟨rfl, ⟨nd, rfl⟩⟩; (try first | exact ⟨rfl, _, World.drewN_drewN _ _ _⟩ | exact ⟨rfl, _, Eq.trans (World.drewN_drewN _ _ _) (congrArg (World.drewN _) (Nat.add_assoc _ _ _))⟩))))
            (try clear hx163_0)
            have HRo := Aside0.mk (Kd.R_drewN (Kd.R_drewN HO_3.out nd) nq)
            have HBo := Aside0.mk (pw_below_drewN (pw_below_drewN HB.out nd) nq)
            clear HO_3 HB
            generalize (wr.drewN nd).drewN nq = wI at HRo HBo ⊢
            have HR3 := Aside0.mk (Kd.R_reads' HRo.out).2.2
            have HC3 := Aside0.mk (Kd.R_reads' HRo.out).2.1
            have HRl := Aside0.mk (Kd.C_below HR0.out HBo.out)
            have HB := Aside0.mk (Below.refl wI.heap.size wI)
            have H : ((some (([] : List Int) : List Int)).bind fun y163 => (if 0 ≤ t164 then (if t164 ≤ (x3_1.length : Int) then (if y163.length + (x3_1.take (t164 : Int).toNat).length < 17592186044416 then ((some (y163 ++ (x3_1.take (t164 : Int).toNat) : List Int)).bind fun y167 => (if 0 ≤ x4_1 then (if x4_1 < (l0.length : Int) then ((some (([rd l0 x4_1] : List Int) : List Int)).bind fun y171 => (if y167.length + y171.length < 17592186044416 then ((some (y167 ++ y171 : List Int)).bind fun y174 => (if y174.length + (x3_1.drop (t164 : Int).toNat).length < 17592186044416 then (some (y174 ++ (x3_1.drop (t164 : Int).toNat))) else (none))) else (none))) else (none)) else (none))) else (none)) else (none)) else (none))) = some t165 := A6.out
            obtain ⟨y163, hy163⟩ : ∃ y_ : List Int, y_ = (([] : List Int)) := ⟨_, rfl⟩
            replace H : (if 0 ≤ t164 then (if t164 ≤ (x3_1.length : Int) then (if y163.length + (x3_1.take (t164 : Int).toNat).length < 17592186044416 then ((some (y163 ++ (x3_1.take (t164 : Int).toNat) : List Int)).bind fun y167 => (if 0 ≤ x4_1 then (if x4_1 < (l0.length : Int) then ((some (([rd l0 x4_1] : List Int) : List Int)).bind fun y171 => (if y167.length + y171.length < 17592186044416 then ((some (y167 ++ y171 : List Int)).bind fun y174 => (if y174.length + (x3_1.drop (t164 : Int).toNat).length < 17592186044416 then (some (y174 ++ (x3_1.drop (t164 : Int).toNat))) else (none))) else (none))) else (none)) else (none))) else (none)) else (none)) else (none)) = some t165 := by first | (rw [hy163]; with_reducible exact H) | (have H2_ := (Option.bind_some _ _).symm.trans H; rw [hy163]; with_reducible exact H2_) | (have H2_ := (Option.bind_some _ _).symm.trans H; with_reducible exact H2_) | with_reducible exact H | (rw [hy163]; exact H) | exact H
            have Ny163 := Aside0.mk hy163
            clear hy163
            by_cases c7 : 0 ≤ t164
            · rw [if_pos c7] at H
              have c7b0 := eq_true c7
              have c7b1 : decide (0 ≤ t164) = true := decide_eq_true c7
              clear c7
              by_cases c8 : t164 ≤ (x3_1.length : Int)
              · rw [if_pos c8] at H
                have c8b0 := eq_true c8
                have c8b1 : decide (t164 ≤ (x3_1.length : Int)) = true := decide_eq_true c8
                clear c8
                by_cases c9 : y163.length + (x3_1.take (t164 : Int).toNat).length < 17592186044416
                · rw [if_pos c9] at H
                  have LMc9 := Aside0.mk c9
                  clear c9
                  obtain ⟨y167, hy167⟩ : ∃ y_ : List Int, y_ = (y163 ++ (x3_1.take (t164 : Int).toNat)) := ⟨_, rfl⟩
                  replace H : (if 0 ≤ x4_1 then (if x4_1 < (l0.length : Int) then ((some (([rd l0 x4_1] : List Int) : List Int)).bind fun y171 => (if y167.length + y171.length < 17592186044416 then ((some (y167 ++ y171 : List Int)).bind fun y174 => (if y174.length + (x3_1.drop (t164 : Int).toNat).length < 17592186044416 then (some (y174 ++ (x3_1.drop (t164 : Int).toNat))) else (none))) else (none))) else (none)) else (none)) = some t165 := by first | (rw [hy167]; with_reducible exact H) | (have H2_ := (Option.bind_some _ _).symm.trans H; rw [hy167]; with_reducible exact H2_) | (have H2_ := (Option.bind_some _ _).symm.trans H; with_reducible exact H2_) | with_reducible exact H | (rw [hy167]; exact H) | exact H
                  have Ny167 := Aside0.mk hy167
                  clear hy167
                  by_cases c10 : 0 ≤ x4_1
                  · rw [if_pos c10] at H
                    have c10b0 : decide (0 ≤ x4_1) = true := decide_eq_true c10
                    clear c10
                    by_cases c11 : x4_1 < (l0.length : Int)
                    · rw [if_pos c11] at H
                      have c11b0 : decide (x4_1 < (l0.length : Int)) = true := decide_eq_true c11
                      clear c11
                      obtain ⟨y171, hy171⟩ : ∃ y_ : List Int, y_ = (([rd l0 x4_1] : List Int)) := ⟨_, rfl⟩
                      replace H : (if y167.length + y171.length < 17592186044416 then ((some (y167 ++ y171 : List Int)).bind fun y174 => (if y174.length + (x3_1.drop (t164 : Int).toNat).length < 17592186044416 then (some (y174 ++ (x3_1.drop (t164 : Int).toNat))) else (none))) else (none)) = some t165 := by first | (rw [hy171]; with_reducible exact H) | (have H2_ := (Option.bind_some _ _).symm.trans H; rw [hy171]; with_reducible exact H2_) | (have H2_ := (Option.bind_some _ _).symm.trans H; with_reducible exact H2_) | with_reducible exact H | (rw [hy171]; exact H) | exact H
                      have Ny171 := Aside0.mk hy171
                      clear hy171
                      by_cases c12 : y167.length + y171.length < 17592186044416
                      · rw [if_pos c12] at H
                        have LMc12 := Aside0.mk c12
                        clear c12
                        obtain ⟨y174, hy174⟩ : ∃ y_ : List Int, y_ = (y167 ++ y171) := ⟨_, rfl⟩
                        replace H : (if y174.length + (x3_1.drop (t164 : Int).toNat).length < 17592186044416 then (some (y174 ++ (x3_1.drop (t164 : Int).toNat))) else (none)) = some t165 := by first | (rw [hy174]; with_reducible exact H) | (have H2_ := (Option.bind_some _ _).symm.trans H; rw [hy174]; with_reducible exact H2_) | (have H2_ := (Option.bind_some _ _).symm.trans H; with_reducible exact H2_) | with_reducible exact H | (rw [hy174]; exact H) | exact H
                        have Ny174 := Aside0.mk hy174
                        clear hy174
                        have c13b0 := eq_true (of_decide_eq_true (by first | (with_reducible assumption) | assumption) : 0 ≤ t164)
                        have c14b0 := eq_true (of_decide_eq_true (by first | (with_reducible assumption) | assumption) : t164 ≤ (x3_1.length : Int))
                        by_cases c15 : y174.length + (x3_1.drop (t164 : Int).toNat).length < 17592186044416
                        · rw [if_pos c15] at H
                          have LMc15 := Aside0.mk c15
                          clear c15
                          obtain ⟨y178, hy178⟩ : ∃ y_ : List Int, y_ = (y174 ++ (x3_1.drop (t164 : Int).toNat)) := ⟨_, rfl⟩
                          replace H : (some y178) = some t165 := by first | (rw [hy178]; with_reducible exact H) | (have H2_ := (Option.bind_some _ _).symm.trans H; rw [hy178]; with_reducible exact H2_) | (have H2_ := (Option.bind_some _ _).symm.trans H; with_reducible exact H2_) | with_reducible exact H | (rw [hy178]; exact H) | exact H
                          have Ny178 := Aside0.mk hy178
                          clear hy178
                          obtain rfl := Option.some.inj H
                          have n0_ := Aside0.mk (below_drew1 HB.out)
                          clear HB
                          have HB := n0_
                          clear n0_
                          obtain ⟨i017, hi017, _, hsz17, _⟩ := info_parts info3
                          obtain ⟨hcut17, hA17, hC17⟩ := print_take_of (P := Try.prog) (Value.int .i64) 0 22 3 .i64 Try.underlying22 hi017 hsz17 Ao7 co7 x3_1 t164 (of_decide_eq_true (by first | (with_reducible assumption) | assumption)) (of_decide_eq_true (by first | (with_reducible assumption) | assumption)) HC3.out
                          have HR166 := Aside0.mk (Kd.C_of_reads (h1 := fun _ => rfl) (hA17 _ (Kd.reads_of_C HR3.out)))
                          have HC166 := Aside0.mk hC17
                          clear hA17 hC17 hi017 hsz17
                          have p170 : 0 ≤ (x4_1 : Int) := of_decide_eq_true (by first | (with_reducible assumption) | assumption)
                          have q170 : x4_1 < (l0.length : Int) := of_decide_eq_true (by first | (with_reducible assumption) | assumption)
                          obtain ⟨ad170, e170, hx170_0⟩ := Kd.at_int HRl.out x4_1 p170 q170
                          have hw170_0 := hx170_0
                          injection e170 with e_; subst e_
                          replace hx170_0 := (HB.out.cell (World.block_lt_of_cell? wI _ hx170_0)).trans hx170_0
                          replace p170 := eq_true p170
                          replace q170 := eq_true q170
                          obtain ⟨i018, hi018, _, hsz18, _⟩ := info_parts info3
                          obtain ⟨A18, hcut18, hA18, hC18⟩ := print_drop_of (P := Try.prog) (Value.int .i64) 0 22 3 .i64 Try.underlying22 hi018 hsz18 Ao7 co7 x3_1 t164 (of_decide_eq_true (by first | (with_reducible assumption) | assumption)) (of_decide_eq_true (by first | (with_reducible assumption) | assumption)) HC3.out
                          have HR177 := Aside0.mk (Kd.C_of_reads (h1 := fun _ => rfl) (hA18 _ (Kd.reads_of_C HR3.out)))
                          have HC177 := Aside0.mk hC18
                          clear hA18 hC18 hi018 hsz18
                          refine start_ (n := 16) (S := fun w' => w'.cell? (ad163.add (x4_1).toNat) = some (.int .i64 (rd l0 x4_1))) (ds := []) #[false, false, false, false, false, false, false, false, false, false, false, false, false, false, false, false] (by kernel_rfl) rfl rfl (((HB.out.cell (World.block_lt_of_cell? wI _ hw170_0)).trans hw170_0)) (fun hHeld => ?_); refine with_tabW tattinglaw15_rising.tab7 tattinglaw15_rising.bits7 (fun HT_ HW_ => ?_)
                          generalize wI.drew = w16 at HB HR166 HR177 hx170_0 hHeld ⊢
                          refine pure_ (i := 1) (N := some 34) (v := ?_) (a' := ?_) #[false, true, false, false, false, false, false, false, false, false, false, false, false, false, false, false] rfl rfl (any_of HT_.out (by kernel_rfl)) (fun _ _ _ h => h) (Or.inl ⟨by rfl, ?_⟩) ?_ ?_
                          rotate_left
                          · intro w'
                            go_simp
                            with_reducible rfl
                          rotate_left
                          · simp only [Act.put, List.setIfInBounds_toArray, List.set_cons_zero, List.set_cons_succ, i64_w, i32_w]
                            rfl
                          refine pure_ (i := 2) (N := some 35) (v := ?_) (a' := ?_) #[false, true, true, false, false, false, false, false, false, false, false, false, false, false, false, false] rfl rfl (any_of HT_.out (by kernel_rfl)) (fun _ _ _ h => h) (Or.inl ⟨by rfl, ?_⟩) ?_ ?_
                          rotate_left
                          · intro w'
                            go_simp
                            with_reducible rfl
                          rotate_left
                          · simp only [Act.put, List.setIfInBounds_toArray, List.set_cons_zero, List.set_cons_succ, i64_w, i32_w]
                            rfl
                          refine pure_ (i := 3) (N := some 36) (v := ?_) (a' := ?_) #[false, true, true, true, false, false, false, false, false, false, false, false, false, false, false, false] rfl rfl (any_of HT_.out (by kernel_rfl)) (fun _ _ _ h => h) (Or.inl ⟨by rfl, ?_⟩) ?_ ?_
                          rotate_left
                          · intro w'
                            go_simp
                            with_reducible rfl
                          rotate_left
                          · simp only [Act.put, List.setIfInBounds_toArray, List.set_cons_zero, List.set_cons_succ, i64_w, i32_w]
                            rfl
                          refine pure_ (i := 5) (N := some 38) (v := ?_) (a' := ?_) #[false, true, true, true, false, true, false, false, false, false, false, false, false, false, false, false] rfl rfl (any_of HT_.out (by kernel_rfl)) (fun _ _ _ h => h) (Or.inl ⟨by rfl, ?_⟩) ?_ ?_
                          rotate_left
                          · intro w'
                            go_simp
                            with_reducible rfl
                          rotate_left
                          · simp only [Act.put, List.setIfInBounds_toArray, List.set_cons_zero, List.set_cons_succ, i64_w, i32_w]
                            rfl
                          refine pure_ (i := 6) (N := some 39) (v := ?_) (a' := ?_) #[false, true, true, true, false, true, true, false, false, false, false, false, false, false, false, false] rfl rfl (any_of HT_.out (by kernel_rfl)) (fun _ _ _ h => h) (Or.inl ⟨by rfl, ?_⟩) ?_ ?_
                          rotate_left
                          · intro w'
                            go_simp
                            with_reducible rfl
                          rotate_left
                          · simp only [Act.put, List.setIfInBounds_toArray, List.set_cons_zero, List.set_cons_succ, i64_w, i32_w]
                            rfl
                          refine pure_ (i := 7) (N := some 40) (v := ?_) (a' := ?_) #[false, true, true, true, false, true, true, true, false, false, false, false, false, false, false, false] rfl rfl (any_of HT_.out (by kernel_rfl)) (fun _ _ _ h => h) (Or.inl ⟨by rfl, ?_⟩) ?_ ?_
                          rotate_left
                          · intro w'
                            go_simp
                            with_reducible rfl
                          rotate_left
                          · simp only [Act.put, List.setIfInBounds_toArray, List.set_cons_zero, List.set_cons_succ, i64_w, i32_w]
                            rfl
                          refine pure_ (i := 11) (N := some 44) (v := ?_) (a' := ?_) #[false, true, true, true, false, true, true, true, false, false, false, true, false, false, false, false] rfl rfl (any_of HT_.out (by kernel_rfl)) (fun _ _ _ h => h) (Or.inl ⟨by rfl, ?_⟩) ?_ ?_
                          rotate_left
                          · intro w'
                            go_simp
                            with_reducible rfl
                          rotate_left
                          · simp only [Act.put, List.setIfInBounds_toArray, List.set_cons_zero, List.set_cons_succ, i64_w, i32_w]
                            rfl
                          refine pure_ (i := 12) (N := some 45) (v := ?_) (a' := ?_) #[false, true, true, true, false, true, true, true, false, false, false, true, true, false, false, false] rfl rfl (any_of HT_.out (by kernel_rfl)) (fun _ _ _ h => h) (Or.inl ⟨by rfl, ?_⟩) ?_ ?_
                          rotate_left
                          · intro w'
                            go_simp
                            with_reducible rfl
                          rotate_left
                          · simp only [Act.put, List.setIfInBounds_toArray, List.set_cons_zero, List.set_cons_succ, i64_w, i32_w]
                            rfl
                          refine pure_ (i := 13) (N := some 46) (v := ?_) (a' := ?_) #[false, true, true, true, false, true, true, true, false, false, false, true, true, true, false, false] rfl rfl (any_of HT_.out (by kernel_rfl)) (fun _ _ _ h => h) (Or.inl ⟨by rfl, ?_⟩) ?_ ?_
                          rotate_left
                          · intro w'
                            go_simp
                            with_reducible rfl
                          rotate_left
                          · simp only [Act.put, List.setIfInBounds_toArray, List.set_cons_zero, List.set_cons_succ, i64_w, i32_w]
                            rfl
                          refine take_ (i := 8) (N := some 41) (v := ?_) (a' := ?_) #[false, true, true, true, false, true, true, true, true, false, false, true, true, true, false, false] rfl rfl (take_ofW HT_.out HW_.out (by kernel_rfl)) (fun _ _ _ h => h) (Or.inl ⟨by rfl, ?_⟩) hHeld ?_ ?_
                          rotate_left
                          · intro w' s0
                            go_simp
                            with_reducible rfl
                          rotate_left
                          · simp only [Act.put, List.setIfInBounds_toArray, List.set_cons_zero, List.set_cons_succ, i64_w, i32_w]
                            rfl
                          refine join_ (σ := Value × Value × Value) 3 #[true, true, true, true, true, true, true, true, true, true, false, true, true, true, false, false] (fun s_ => [(33, s_.1), (37, s_.2.1), (42, s_.2.2)]) (fun s_ w' => (w'.cell? (ad163.add (x4_1).toNat) = some (.int .i64 (rd l0 x4_1))) ∧ (Kd.R (Kd.int .i64) 3 w' wI.heap.size (fun k_ => some k_ ≠ (s_.2.2 : Value).ownBlock) s_.2.1 y167) ∧ (Kd.R (Kd.int .i64) 3 w' wI.heap.size (fun k_ => some k_ ≠ (s_.2.1 : Value).ownBlock) s_.2.2 y171) ∧ (Below wI.heap.size wI w')) ?_ ?_
                          rotate_left
                          · intro hCont
                            refine two_ (i := 0) (j := 9) (Ni := some 33) (Nj := some 42) #[true, true, true, true, false, true, true, true, true, false, false, true, true, true, false, false] #[false, true, true, true, false, true, true, true, true, true, false, true, true, true, false, false] rfl rfl rfl rfl (two_of HT_.out (by kernel_rfl)) (by decide) (by decide) (fun K hK => ?_) (fun K hK => ?_)
                            · skip
                              refine Kd.R_lit_step (Kd.int .i64) _ 3 ?hg (N := 33) ?hd (xs := ([] : List Int)) (inner := []) (ok := fun _ => True) (okp := fun _ => True) ?hr ?hp (fun _ hk => hk) trivial (Below.refl _ _) (Nat.le_refl _) (by simp) ?_; (case hd => rfl); (case hg => rfl); (case hr => first | (go_simp; done) | (go_simp; rfl)); (case hp => exact (Reps.none _ _))
                              intro v164 w19 ho20 hb hg_ hnew_
                              clear hg_ hnew_
                              (first | rw [← Ny163.out] at ho20 | (simp only [Int.reduceToNat] at ho20; rw [← Ny163.out] at ho20))
                              have n0_ := Aside0.mk (Kd.R_lower ho20 (below_size (by repeat (first | (with_reducible first | exact HB.out | apply below_alloc | apply pw_below_drewN | apply below_drew1) | exact HB.out))))
                              have n1_ := Aside0.mk (below_step (by repeat (first | (with_reducible first | exact HB.out | apply below_alloc | apply pw_below_drewN | apply below_drew1) | exact HB.out)) hb)
                              clear HB
                              have HO165 := n0_
                              have HB := n1_
                              clear n0_ n1_
                              clear hb ho20
                              refine hK.out _ _ (((HB.out.cell (World.block_lt_of_cell? wI _ hw170_0)).trans hw170_0)) (fun hHeld => ?_)
                              clear hK K
                              refine norm_ (a' := ?_) ?_ ?_
                              rotate_left
                              · show Act.put _ (some 33) _ = _
                                simp only [Act.put, List.setIfInBounds_toArray, List.set_cons_zero, List.set_cons_succ, i64_w, i32_w]
                                rfl
                              refine two_ (i := 4) (j := 9) (Ni := some 37) (Nj := some 42) #[true, true, true, true, true, true, true, true, true, false, false, true, true, true, false, false] #[true, true, true, true, false, true, true, true, true, true, false, true, true, true, false, false] rfl rfl rfl rfl (two_of HT_.out (by kernel_rfl)) (by decide) (by decide) (fun K hK => ?_) (fun K hK => ?_)
                              · skip
                                refine Kd.R_append_rows_step (Kd.int .i64) (w0 := wI) wI.heap.size (by rfl) (.tmp 33) (.tmp 36) 22 3 (.int .i64 0) 8 rfl Try.underlying22 info3 rfl (by decide) (by omega) v164 y163 (x3_1.take (t164 : Int).toNat) _ _ _ (fun _ => True) (fun _ => False) rfl rfl ?aO ?aR (fun _ _ h => h) (fun _ h => h.elim) ?aF ?aB ?aS ?aL ?_
                                (case aR => have hl_ : (x3_1.take (t164 : Int).toNat).length = t164.toNat := (by rw [List.length_take]; have h_ : (t164 : Int) ≤ (x3_1.length : Int) := of_decide_eq_true (by first | (with_reducible assumption) | assumption); omega); have hc_ := Kd.C_below HR166.out HB.out; rw [hl_] at hc_; exact hc_)
                                (case aB => exact (by repeat (first | (with_reducible first | exact HB.out | apply below_alloc | apply pw_below_drewN | apply below_drew1) | exact HB.out)))
                                (case aF => exact (fun _ _ => trivial))
                                (case aO => exact (by (with_reducible repeat (first | apply Kd.R_alloc | apply Kd.R_drewN | apply Kd.R_drew)); exact HO165.out))
                                (case aS => exact (below_size (by repeat (first | (with_reducible first | exact HB.out | apply below_alloc | apply pw_below_drewN | apply below_drew1) | exact HB.out))))
                                (case aL => have := LMc9.out; have hlx_ := (show (x3_1.take (t164 : Int).toNat).length = t164.toNat from (by rw [List.length_take]; have h_ : (t164 : Int) ≤ (x3_1.length : Int) := of_decide_eq_true (by first | (with_reducible assumption) | assumption); omega)); omega)
                                intro v168 w21 ho hb hg hat
                                rw [← Ny167.out] at ho
                                have n0_ := Aside0.mk (hb)
                                have n1_ := Aside0.mk (ho)
                                clear HB
                                clear HO165
                                have HB := n0_
                                have HO169 := n1_
                                clear n0_ n1_
                                clear ho hb hg hat
                                refine hK.out _ _ (((HB.out.cell (World.block_lt_of_cell? wI _ hw170_0)).trans hw170_0)) (fun hHeld => ?_)
                                clear hK K
                                refine norm_ (a' := ?_) ?_ ?_
                                rotate_left
                                · show Act.put _ (some 37) _ = _
                                  simp only [Act.put, List.setIfInBounds_toArray, List.set_cons_zero, List.set_cons_succ, i64_w, i32_w]
                                  rfl
                                refine one_ (i := 9) (N := some 42) #[true, true, true, true, true, true, true, true, true, true, false, true, true, true, false, false] rfl rfl (one_of HT_.out (by kernel_rfl)) (by decide) (fun K hK => ?_)
                                refine Kd.R_lit_step (Kd.int .i64) _ 3 ?hg (N := 42) ?hd (xs := ([rd l0 x4_1] : List Int)) (inner := [.int .i64 (rd l0 x4_1)]) (ok := fun _ => True) (okp := fun _ => True) ?hr ?hp (fun _ hk => hk) trivial (Below.refl _ _) (Nat.le_refl _) (by simp) ?_; (case hd => rfl); (case hg => rfl); (case hr => first | (go_simp; done) | (go_simp; rfl)); (case hp => exact (Reps.one (show Kd.M (Kd.int .i64) _ _ _ (rd l0 x4_1) [.int .i64 (rd l0 x4_1)] from rfl) (Reps.none _ _)))
                                intro v172 w22 ho23 hb hg_ hnew_
                                clear hg_ hnew_
                                (first | rw [← Ny171.out] at ho23 | (simp only [Int.reduceToNat] at ho23; rw [← Ny171.out] at ho23))
                                have n0_ := Aside0.mk (Kd.R_elder' (by (with_reducible repeat (first | apply Kd.R_alloc | apply Kd.R_drewN | apply Kd.R_drew)); exact HO169.out) (Kd.R_base ho23) hb)
                                have n1_ := Aside0.mk (Kd.R_lower (Kd.R_new' ho23 (Kd.R_lt (by (with_reducible repeat (first | apply Kd.R_alloc | apply Kd.R_drewN | apply Kd.R_drew)); exact HO169.out))) (below_size (by repeat (first | (with_reducible first | exact HB.out | apply below_alloc | apply pw_below_drewN | apply below_drew1) | exact HB.out))))
                                have n2_ := Aside0.mk (below_step (by repeat (first | (with_reducible first | exact HB.out | apply below_alloc | apply pw_below_drewN | apply below_drew1) | exact HB.out)) hb)
                                clear HO169
                                clear HB
                                have HO169 := n0_
                                have HO173 := n1_
                                have HB := n2_
                                clear n0_ n1_ n2_
                                clear hb ho23
                                refine hK.out _ _ (((HB.out.cell (World.block_lt_of_cell? wI _ hw170_0)).trans hw170_0)) (fun hHeld => ?_)
                                clear hK K
                                refine norm_ (a' := ?_) ?_ ?_
                                rotate_left
                                · show Act.put _ (some 42) _ = _
                                  simp only [Act.put, List.setIfInBounds_toArray, List.set_cons_zero, List.set_cons_succ, i64_w, i32_w]
                                  rfl
                                exact norm_ (by simp only [putAll, Act.put, List.setIfInBounds_toArray, List.set_cons_zero, List.set_cons_succ]) (hCont (v164, v168, v172) _ ⟨hHeld, (by (with_reducible repeat (first | apply Kd.R_alloc | apply Kd.R_drewN | apply Kd.R_drew)); exact Kd.R_mono HO169.out (fun _ hk => hk.2)), (by (with_reducible repeat (first | apply Kd.R_alloc | apply Kd.R_drewN | apply Kd.R_drew)); exact Kd.R_mono HO173.out (fun _ hk => hk.2)), (by repeat (first | (with_reducible first | exact HB.out | apply below_alloc | apply pw_below_drewN | apply below_drew1) | exact HB.out))⟩)
                              · skip
                                refine Kd.R_lit_step (Kd.int .i64) _ 3 ?hg (N := 42) ?hd (xs := ([rd l0 x4_1] : List Int)) (inner := [.int .i64 (rd l0 x4_1)]) (ok := fun _ => True) (okp := fun _ => True) ?hr ?hp (fun _ hk => hk) trivial (Below.refl _ _) (Nat.le_refl _) (by simp) ?_; (case hd => rfl); (case hg => rfl); (case hr => first | (go_simp; done) | (go_simp; rfl)); (case hp => exact (Reps.one (show Kd.M (Kd.int .i64) _ _ _ (rd l0 x4_1) [.int .i64 (rd l0 x4_1)] from rfl) (Reps.none _ _)))
                                intro v172 w21 ho22 hb hg_ hnew_
                                clear hg_ hnew_
                                (first | rw [← Ny171.out] at ho22 | (simp only [Int.reduceToNat] at ho22; rw [← Ny171.out] at ho22))
                                have n0_ := Aside0.mk (Kd.R_elder' (by (with_reducible repeat (first | apply Kd.R_alloc | apply Kd.R_drewN | apply Kd.R_drew)); exact HO165.out) (Kd.R_base ho22) hb)
                                have n1_ := Aside0.mk (Kd.R_lower (Kd.R_new' ho22 (Kd.R_lt (by (with_reducible repeat (first | apply Kd.R_alloc | apply Kd.R_drewN | apply Kd.R_drew)); exact HO165.out))) (below_size (by repeat (first | (with_reducible first | exact HB.out | apply below_alloc | apply pw_below_drewN | apply below_drew1) | exact HB.out))))
                                have n2_ := Aside0.mk (below_step (by repeat (first | (with_reducible first | exact HB.out | apply below_alloc | apply pw_below_drewN | apply below_drew1) | exact HB.out)) hb)
                                clear HO165
                                clear HB
                                have HO165 := n0_
                                have HO173 := n1_
                                have HB := n2_
                                clear n0_ n1_ n2_
                                clear hb ho22
                                refine hK.out _ _ (((HB.out.cell (World.block_lt_of_cell? wI _ hw170_0)).trans hw170_0)) (fun hHeld => ?_)
                                clear hK K
                                refine norm_ (a' := ?_) ?_ ?_
                                rotate_left
                                · show Act.put _ (some 42) _ = _
                                  simp only [Act.put, List.setIfInBounds_toArray, List.set_cons_zero, List.set_cons_succ, i64_w, i32_w]
                                  rfl
                                refine one_ (i := 4) (N := some 37) #[true, true, true, true, true, true, true, true, true, true, false, true, true, true, false, false] rfl rfl (one_of HT_.out (by kernel_rfl)) (by decide) (fun K hK => ?_)
                                refine Kd.R_append_rows_step (Kd.int .i64) (w0 := wI) wI.heap.size (by rfl) (.tmp 33) (.tmp 36) 22 3 (.int .i64 0) 8 rfl Try.underlying22 info3 rfl (by decide) (by omega) v164 y163 (x3_1.take (t164 : Int).toNat) _ _ _ (fun k_ => some k_ ≠ (v172 : Value).ownBlock) (fun _ => False) rfl rfl ?aO ?aR (fun _ _ h => h) (fun _ h => h.elim) ?aF ?aB ?aS ?aL ?_
                                (case aR => have hl_ : (x3_1.take (t164 : Int).toNat).length = t164.toNat := (by rw [List.length_take]; have h_ : (t164 : Int) ≤ (x3_1.length : Int) := of_decide_eq_true (by first | (with_reducible assumption) | assumption); omega); have hc_ := Kd.C_below HR166.out HB.out; rw [hl_] at hc_; exact hc_)
                                (case aB => exact (by repeat (first | (with_reducible first | exact HB.out | apply below_alloc | apply pw_below_drewN | apply below_drew1) | exact HB.out)))
                                (case aF => exact (fun k_ hk => Kd.fresh' (Kd.R_lt (by (with_reducible repeat (first | apply Kd.R_alloc | apply Kd.R_drewN | apply Kd.R_drew)); exact HO173.out)) k_ hk))
                                (case aO => exact (by (with_reducible repeat (first | apply Kd.R_alloc | apply Kd.R_drewN | apply Kd.R_drew)); exact Kd.R_mono HO165.out (fun _ hk => hk.2)))
                                (case aS => exact (below_size (by repeat (first | (with_reducible first | exact HB.out | apply below_alloc | apply pw_below_drewN | apply below_drew1) | exact HB.out))))
                                (case aL => have := LMc9.out; have hlx_ := (show (x3_1.take (t164 : Int).toNat).length = t164.toNat from (by rw [List.length_take]; have h_ : (t164 : Int) ≤ (x3_1.length : Int) := of_decide_eq_true (by first | (with_reducible assumption) | assumption); omega)); omega)
                                intro v168 w23 ho hb hg hat
                                rw [← Ny167.out] at ho
                                have n0_ := Aside0.mk (Kd.R_after (ok := (fun _ => True)) (by (with_reducible repeat (first | apply Kd.R_alloc | apply Kd.R_drewN | apply Kd.R_drew)); exact HO173.out) hg hat)
                                have n1_ := Aside0.mk (hb)
                                have n2_ := Aside0.mk (ho)
                                clear HO173
                                clear HB
                                clear HO165
                                have HO173 := n0_
                                have HB := n1_
                                have HO169 := n2_
                                clear n0_ n1_ n2_
                                clear ho hb hg hat
                                refine hK.out _ _ (((HB.out.cell (World.block_lt_of_cell? wI _ hw170_0)).trans hw170_0)) (fun hHeld => ?_)
                                clear hK K
                                refine norm_ (a' := ?_) ?_ ?_
                                rotate_left
                                · show Act.put _ (some 37) _ = _
                                  simp only [Act.put, List.setIfInBounds_toArray, List.set_cons_zero, List.set_cons_succ, i64_w, i32_w]
                                  rfl
                                exact norm_ (by simp only [putAll, Act.put, List.setIfInBounds_toArray, List.set_cons_zero, List.set_cons_succ]) (hCont (v164, v168, v172) _ ⟨hHeld, (by (with_reducible repeat (first | apply Kd.R_alloc | apply Kd.R_drewN | apply Kd.R_drew)); exact HO169.out), (by (with_reducible repeat (first | apply Kd.R_alloc | apply Kd.R_drewN | apply Kd.R_drew)); exact Kd.R_mono HO173.out (fun _ hk => hk.2)), (by repeat (first | (with_reducible first | exact HB.out | apply below_alloc | apply pw_below_drewN | apply below_drew1) | exact HB.out))⟩)
                            · skip
                              refine Kd.R_lit_step (Kd.int .i64) _ 3 ?hg (N := 42) ?hd (xs := ([rd l0 x4_1] : List Int)) (inner := [.int .i64 (rd l0 x4_1)]) (ok := fun _ => True) (okp := fun _ => True) ?hr ?hp (fun _ hk => hk) trivial (Below.refl _ _) (Nat.le_refl _) (by simp) ?_; (case hd => rfl); (case hg => rfl); (case hr => first | (go_simp; done) | (go_simp; rfl)); (case hp => exact (Reps.one (show Kd.M (Kd.int .i64) _ _ _ (rd l0 x4_1) [.int .i64 (rd l0 x4_1)] from rfl) (Reps.none _ _)))
                              intro v172 w19 ho20 hb hg_ hnew_
                              clear hg_ hnew_
                              (first | rw [← Ny171.out] at ho20 | (simp only [Int.reduceToNat] at ho20; rw [← Ny171.out] at ho20))
                              have n0_ := Aside0.mk (Kd.R_lower ho20 (below_size (by repeat (first | (with_reducible first | exact HB.out | apply below_alloc | apply pw_below_drewN | apply below_drew1) | exact HB.out))))
                              have n1_ := Aside0.mk (below_step (by repeat (first | (with_reducible first | exact HB.out | apply below_alloc | apply pw_below_drewN | apply below_drew1) | exact HB.out)) hb)
                              clear HB
                              have HO173 := n0_
                              have HB := n1_
                              clear n0_ n1_
                              clear hb ho20
                              refine hK.out _ _ (((HB.out.cell (World.block_lt_of_cell? wI _ hw170_0)).trans hw170_0)) (fun hHeld => ?_)
                              clear hK K
                              refine norm_ (a' := ?_) ?_ ?_
                              rotate_left
                              · show Act.put _ (some 42) _ = _
                                simp only [Act.put, List.setIfInBounds_toArray, List.set_cons_zero, List.set_cons_succ, i64_w, i32_w]
                                rfl
                              refine one_ (i := 0) (N := some 33) #[true, true, true, true, false, true, true, true, true, true, false, true, true, true, false, false] rfl rfl (one_of HT_.out (by kernel_rfl)) (by decide) (fun K hK => ?_)
                              refine Kd.R_lit_step (Kd.int .i64) _ 3 ?hg (N := 33) ?hd (xs := ([] : List Int)) (inner := []) (ok := fun _ => True) (okp := fun _ => True) ?hr ?hp (fun _ hk => hk) trivial (Below.refl _ _) (Nat.le_refl _) (by simp) ?_; (case hd => rfl); (case hg => rfl); (case hr => first | (go_simp; done) | (go_simp; rfl)); (case hp => exact (Reps.none _ _))
                              intro v164 w21 ho22 hb hg_ hnew_
                              clear hg_ hnew_
                              (first | rw [← Ny163.out] at ho22 | (simp only [Int.reduceToNat] at ho22; rw [← Ny163.out] at ho22))
                              have n0_ := Aside0.mk (Kd.R_elder' (by (with_reducible repeat (first | apply Kd.R_alloc | apply Kd.R_drewN | apply Kd.R_drew)); exact HO173.out) (Kd.R_base ho22) hb)
                              have n1_ := Aside0.mk (Kd.R_lower (Kd.R_new' ho22 (Kd.R_lt (by (with_reducible repeat (first | apply Kd.R_alloc | apply Kd.R_drewN | apply Kd.R_drew)); exact HO173.out))) (below_size (by repeat (first | (with_reducible first | exact HB.out | apply below_alloc | apply pw_below_drewN | apply below_drew1) | exact HB.out))))
                              have n2_ := Aside0.mk (below_step (by repeat (first | (with_reducible first | exact HB.out | apply below_alloc | apply pw_below_drewN | apply below_drew1) | exact HB.out)) hb)
                              clear HO173
                              clear HB
                              have HO173 := n0_
                              have HO165 := n1_
                              have HB := n2_
                              clear n0_ n1_ n2_
                              clear hb ho22
                              refine hK.out _ _ (((HB.out.cell (World.block_lt_of_cell? wI _ hw170_0)).trans hw170_0)) (fun hHeld => ?_)
                              clear hK K
                              refine norm_ (a' := ?_) ?_ ?_
                              rotate_left
                              · show Act.put _ (some 33) _ = _
                                simp only [Act.put, List.setIfInBounds_toArray, List.set_cons_zero, List.set_cons_succ, i64_w, i32_w]
                                rfl
                              refine one_ (i := 4) (N := some 37) #[true, true, true, true, true, true, true, true, true, true, false, true, true, true, false, false] rfl rfl (one_of HT_.out (by kernel_rfl)) (by decide) (fun K hK => ?_)
                              refine Kd.R_append_rows_step (Kd.int .i64) (w0 := wI) wI.heap.size (by rfl) (.tmp 33) (.tmp 36) 22 3 (.int .i64 0) 8 rfl Try.underlying22 info3 rfl (by decide) (by omega) v164 y163 (x3_1.take (t164 : Int).toNat) _ _ _ (fun k_ => some k_ ≠ (v172 : Value).ownBlock) (fun _ => False) rfl rfl ?aO ?aR (fun _ _ h => h) (fun _ h => h.elim) ?aF ?aB ?aS ?aL ?_
                              (case aR => have hl_ : (x3_1.take (t164 : Int).toNat).length = t164.toNat := (by rw [List.length_take]; have h_ : (t164 : Int) ≤ (x3_1.length : Int) := of_decide_eq_true (by first | (with_reducible assumption) | assumption); omega); have hc_ := Kd.C_below HR166.out HB.out; rw [hl_] at hc_; exact hc_)
                              (case aB => exact (by repeat (first | (with_reducible first | exact HB.out | apply below_alloc | apply pw_below_drewN | apply below_drew1) | exact HB.out)))
                              (case aF => exact (fun k_ hk => Kd.fresh' (Kd.R_lt (by (with_reducible repeat (first | apply Kd.R_alloc | apply Kd.R_drewN | apply Kd.R_drew)); exact HO173.out)) k_ hk))
                              (case aO => exact (by (with_reducible repeat (first | apply Kd.R_alloc | apply Kd.R_drewN | apply Kd.R_drew)); exact Kd.R_mono HO165.out (fun _ hk => hk.2)))
                              (case aS => exact (below_size (by repeat (first | (with_reducible first | exact HB.out | apply below_alloc | apply pw_below_drewN | apply below_drew1) | exact HB.out))))
                              (case aL => have := LMc9.out; have hlx_ := (show (x3_1.take (t164 : Int).toNat).length = t164.toNat from (by rw [List.length_take]; have h_ : (t164 : Int) ≤ (x3_1.length : Int) := of_decide_eq_true (by first | (with_reducible assumption) | assumption); omega)); omega)
                              intro v168 w23 ho hb hg hat
                              rw [← Ny167.out] at ho
                              have n0_ := Aside0.mk (Kd.R_after (ok := (fun _ => True)) (by (with_reducible repeat (first | apply Kd.R_alloc | apply Kd.R_drewN | apply Kd.R_drew)); exact HO173.out) hg hat)
                              have n1_ := Aside0.mk (hb)
                              have n2_ := Aside0.mk (ho)
                              clear HO173
                              clear HB
                              clear HO165
                              have HO173 := n0_
                              have HB := n1_
                              have HO169 := n2_
                              clear n0_ n1_ n2_
                              clear ho hb hg hat
                              refine hK.out _ _ (((HB.out.cell (World.block_lt_of_cell? wI _ hw170_0)).trans hw170_0)) (fun hHeld => ?_)
                              clear hK K
                              refine norm_ (a' := ?_) ?_ ?_
                              rotate_left
                              · show Act.put _ (some 37) _ = _
                                simp only [Act.put, List.setIfInBounds_toArray, List.set_cons_zero, List.set_cons_succ, i64_w, i32_w]
                                rfl
                              exact norm_ (by simp only [putAll, Act.put, List.setIfInBounds_toArray, List.set_cons_zero, List.set_cons_succ]) (hCont (v164, v168, v172) _ ⟨hHeld, (by (with_reducible repeat (first | apply Kd.R_alloc | apply Kd.R_drewN | apply Kd.R_drew)); exact HO169.out), (by (with_reducible repeat (first | apply Kd.R_alloc | apply Kd.R_drewN | apply Kd.R_drew)); exact Kd.R_mono HO173.out (fun _ hk => hk.2)), (by repeat (first | (with_reducible first | exact HB.out | apply below_alloc | apply pw_below_drewN | apply below_drew1) | exact HB.out))⟩)
                          rintro ⟨v164, v168, v172⟩ w24 ⟨hS_, h0_, h1_, h2_⟩
                          have n0_ : Aside0 (Kd.R (Kd.int .i64) 3 w24 wI.heap.size (fun k_ => some k_ ≠ (v172 : Value).ownBlock) v168 y167) := ⟨h0_⟩
                          have n1_ : Aside0 (Kd.R (Kd.int .i64) 3 w24 wI.heap.size (fun k_ => some k_ ≠ (v168 : Value).ownBlock) v172 y171) := ⟨h1_⟩
                          have n2_ : Aside0 (Below wI.heap.size wI w24) := ⟨h2_⟩
                          clear HB
                          clear h0_ h1_ h2_
                          have HO169 := n0_
                          have HO173 := n1_
                          have HB := n2_
                          clear n0_ n1_ n2_
                          have hHeld : w24.cell? (ad163.add (x4_1).toNat) = some (.int .i64 (rd l0 x4_1)) := hS_
                          obtain ⟨Ao26, co26, eo26⟩ := Kd.R_slice HO173.out
                          (first | subst eo26 | (injection eo26 with f1_ f2_ f3_; have f4_ := f1_.symm; have f5_ := f3_.symm; clear f1_ f2_ f3_; subst f4_; subst f5_))
                          refine norm_ (a' := ?_) ?_ ?_
                          rotate_left
                          · simp only [putAll, Act.put, List.setIfInBounds_toArray, List.set_cons_zero, List.set_cons_succ]
                            rfl
                          refine one_ (i := 10) (N := some 43) #[true, true, true, true, true, true, true, true, true, true, true, true, true, true, false, false] rfl rfl (one_of HT_.out (by kernel_rfl)) (by decide) (fun K hK => ?_)
                          refine Kd.R_append_rows_step (Kd.int .i64) (w0 := wI) wI.heap.size (by rfl) (.tmp 37) (.tmp 42) 22 3 (.int .i64 0) 8 rfl Try.underlying22 info3 rfl (by decide) (by omega) v168 y167 y171 _ _ _ (fun k_ => some k_ ≠ (.slice Ao26 y171.length co26 : Value).ownBlock) (fun _ => False) rfl rfl ?aO ?aR (fun _ _ h => h) (fun _ h => h.elim) ?aF ?aB ?aS ?aL ?_
                          (case aR => repeat (first | exact (Kd.R_reads' HO173.out).2.2 | (with_reducible refine Kd.C_alloc ?_ _) | (with_reducible refine Kd.C_drewN ?_ _) | (with_reducible refine Kd.C_drew ?_)))
                          (case aB => exact (by repeat (first | (with_reducible first | exact HB.out | apply below_alloc | apply pw_below_drewN | apply below_drew1) | exact HB.out)))
                          (case aF => exact (fun k_ hk => Kd.fresh' (Kd.R_lt (by (with_reducible repeat (first | apply Kd.R_alloc | apply Kd.R_drewN | apply Kd.R_drew)); exact HO173.out)) k_ hk))
                          (case aO => exact (by (with_reducible repeat (first | apply Kd.R_alloc | apply Kd.R_drewN | apply Kd.R_drew)); exact HO169.out))
                          (case aS => exact (below_size (by repeat (first | (with_reducible first | exact HB.out | apply below_alloc | apply pw_below_drewN | apply below_drew1) | exact HB.out))))
                          (case aL => have := LMc12.out; omega)
                          intro v175 w25 ho hb hg hat
                          rw [← Ny174.out] at ho
                          have n0_ := Aside0.mk (Kd.R_after (ok := (fun _ => True)) (by (with_reducible repeat (first | apply Kd.R_alloc | apply Kd.R_drewN | apply Kd.R_drew)); exact Kd.R_mono HO173.out (fun _ hk => ⟨trivial, hk⟩)) hg hat)
                          have n1_ := Aside0.mk (hb)
                          have n2_ := Aside0.mk (ho)
                          clear HO173
                          clear HB
                          clear HO169
                          have HO173 := n0_
                          have HB := n1_
                          have HO176 := n2_
                          clear n0_ n1_ n2_
                          clear ho hb hg hat
                          refine hK.out _ _ (((HB.out.cell (World.block_lt_of_cell? wI _ hw170_0)).trans hw170_0)) (fun hHeld => ?_)
                          clear hK K
                          refine norm_ (a' := ?_) ?_ ?_
                          rotate_left
                          · show Act.put _ (some 43) _ = _
                            simp only [Act.put, List.setIfInBounds_toArray, List.set_cons_zero, List.set_cons_succ, i64_w, i32_w]
                            rfl
                          refine one_ (i := 14) (N := some 47) #[true, true, true, true, true, true, true, true, true, true, true, true, true, true, true, false] rfl rfl (one_of HT_.out (by kernel_rfl)) (by decide) (fun K hK => ?_)
                          refine Kd.R_append_rows_step (Kd.int .i64) (w0 := wI) wI.heap.size (by rfl) (.tmp 43) (.tmp 46) 22 3 (.int .i64 0) 8 rfl Try.underlying22 info3 rfl (by decide) (by omega) v175 y174 (x3_1.drop (t164 : Int).toNat) _ _ _ (fun k_ => some k_ ≠ (.slice Ao26 y171.length co26 : Value).ownBlock) (fun _ => False) rfl rfl ?aO ?aR (fun _ _ h => h) (fun _ h => h.elim) ?aF ?aB ?aS ?aL ?_
                          (case aR => have hl_ : (x3_1.drop (t164 : Int).toNat).length = (x3_1.length - t164.toNat) := List.length_drop; have hc_ := Kd.C_below HR177.out HB.out; rw [hl_] at hc_; exact hc_)
                          (case aB => exact (by repeat (first | (with_reducible first | exact HB.out | apply below_alloc | apply pw_below_drewN | apply below_drew1) | exact HB.out)))
                          (case aF => exact (fun k_ hk => Kd.fresh' (Kd.R_lt (by (with_reducible repeat (first | apply Kd.R_alloc | apply Kd.R_drewN | apply Kd.R_drew)); exact HO173.out)) k_ hk))
                          (case aO => exact (by (with_reducible repeat (first | apply Kd.R_alloc | apply Kd.R_drewN | apply Kd.R_drew)); exact HO176.out))
                          (case aS => exact (below_size (by repeat (first | (with_reducible first | exact HB.out | apply below_alloc | apply pw_below_drewN | apply below_drew1) | exact HB.out))))
                          (case aL => have := LMc15.out; have hlx_ := (show (x3_1.drop (t164 : Int).toNat).length = (x3_1.length - t164.toNat) from List.length_drop); omega)
                          intro v179 w27 ho hb hg hat
                          rw [← Ny178.out] at ho
                          have n0_ := Aside0.mk (Kd.R_after (ok := (fun _ => True)) (by (with_reducible repeat (first | apply Kd.R_alloc | apply Kd.R_drewN | apply Kd.R_drew)); exact HO173.out) hg hat)
                          have n1_ := Aside0.mk (hb)
                          have n2_ := Aside0.mk (ho)
                          clear HO173
                          clear HB
                          clear HO176
                          have HO173 := n0_
                          have HB := n1_
                          have HO180 := n2_
                          clear n0_ n1_ n2_
                          clear ho hb hg hat
                          refine hK.out _ _ (((HB.out.cell (World.block_lt_of_cell? wI _ hw170_0)).trans hw170_0)) (fun hHeld => ?_)
                          clear hK K
                          refine norm_ (a' := ?_) ?_ ?_
                          rotate_left
                          · show Act.put _ (some 47) _ = _
                            simp only [Act.put, List.setIfInBounds_toArray, List.set_cons_zero, List.set_cons_succ, i64_w, i32_w]
                            rfl
                          refine pure_ (i := 15) (N := some 3) (v := ?_) (a' := ?_) #[true, true, true, true, true, true, true, true, true, true, true, true, true, true, true, true] rfl rfl (any_of HT_.out (by kernel_rfl)) (fun _ _ _ h => h) (Or.inl ⟨by rfl, ?_⟩) ?_ ?_
                          rotate_left
                          · intro w'
                            go_simp
                            with_reducible rfl
                          rotate_left
                          · simp only [Act.put, List.setIfInBounds_toArray, List.set_cons_zero, List.set_cons_succ, i64_w, i32_w]
                            rfl
                          refine done_ (done_of HT_.out (by kernel_rfl)) ?_
                          have n0_ := Aside0.mk (Kd.R_lower (Kd.R_mono HO180.out (fun _ _ => trivial)) (below_size HBo.out))
                          have n1_ := Aside0.mk (below_step HBo.out HB.out)
                          clear HB HO180
                          have HB := n1_
                          have HO167 := n0_
                          clear n0_ n1_
                          try go_wp2
                          repeat (go_quiet (fail); try go_wp2)
                          go_roundg k1
                          case measure => have := HK1.out; omega
                          case rel => exact ⟨(y178), (wrap64 (x4_1 + 1)), (by first | rfl | (simp; done) | (simp [*]; done)), H', ⟨by have := HK1.out; omega⟩, ⟨by (with_reducible repeat (first | apply Kd.R_alloc | apply Kd.R_drewN | apply Kd.R_drew)); exact Kd.R_mono HO167.out (fun _ hk => trivial)⟩, ⟨by repeat (first | (with_reducible first | exact HB.out | apply below_alloc | apply pw_below_drewN | apply below_drew1) | exact HB.out)⟩⟩
                        · rw [if_neg c15] at H
                          exact absurd H (by simp)
                      · rw [if_neg c12] at H
                        exact absurd H (by simp)
                    · rw [if_neg c11] at H
                      exact absurd H (by simp)
                  · rw [if_neg c10] at H
                    exact absurd H (by simp)
                · rw [if_neg c9] at H
                  exact absurd H (by simp)
              · rw [if_neg c8] at H
                exact absurd H (by simp)
            · rw [if_neg c7] at H
              exact absurd H (by simp)
          · rw [if_neg c5] at H
            have c5b0 : (t164 == (x3_1.length : Int)) = false := beq_eq_false_iff_ne.mpr c5
            have c5b1 : (t164 != (x3_1.length : Int)) = true := bne_iff_ne.mpr c5
            by_cases c9 : 0 ≤ t164
            · rw [if_pos c9] at H
              have c9b0 : decide (0 ≤ t164) = true := decide_eq_true c9
              clear c9
              by_cases c10 : t164 < (x3_1.length : Int)
              · rw [if_pos c10] at H
                have c10b0 : decide (t164 < (x3_1.length : Int)) = true := decide_eq_true c10
                clear c10
                by_cases c11 : (rd x3_1 t164) = (rd l0 x4_1)
                · rw [if_pos c11] at H
                  have c11b0 : ((rd x3_1 t164) == (rd l0 x4_1)) = true := beq_iff_eq.mpr c11
                  have c11b1 : ((rd x3_1 t164) != (rd l0 x4_1)) = false := bne_eq_false_iff_eq.mpr c11
                  clear c11
                  have H' := Aside0.mk H
                  clear H
                  have p163 : 0 ≤ (x4_1 : Int) := of_decide_eq_true (by first | (with_reducible assumption) | assumption)
                  have q163 : x4_1 < (l0.length : Int) := of_decide_eq_true (by first | (with_reducible assumption) | assumption)
                  obtain ⟨ad163, e163, hx163_0⟩ := Kd.at_int HR0.out x4_1 p163 q163
                  cases e163
                  replace hx163_0 := (HB.out.cell (World.block_lt_of_cell? w _ hx163_0)).trans hx163_0
                  replace p163 := eq_true p163
                  replace q163 := eq_true q163
                  obtain ⟨Ao12, co12, eo12⟩ := Kd.R_slice HO_3.out
                  subst eo12
                  go_wp2_with (first | (go_at_call 15; (with_reducible refine (tattingref15_Find.calls k1 _ _ x3_1 (rd l0 x4_1) t164 _ ?side1 ?side2 A4.out).mono ?_); (case side1 => repeat (first | exact (Kd.R_reads' HO_3.out).2.2 | (with_reducible refine Kd.C_alloc ?_ _) | (with_reducible refine Kd.C_drewN ?_ _) | (with_reducible refine Kd.C_drew ?_))); (case side2 => exact (Kd.R_reads' HO_3.out).2.1); rintro e w' ⟨rfl, ⟨nd, rfl⟩⟩; (try first | exact ⟨rfl, _, World.drewN_drewN _ _ _⟩ | exact ⟨rfl, _, Eq.trans (World.drewN_drewN _ _ _) (congrArg (World.drewN _) (Nat.add_assoc _ _ _))⟩); have p168 : 0 ≤ (t164 : Int) := of_decide_eq_true (by first | (with_reducible assumption) | assumption); have q168 : t164 < (x3_1.length : Int) := of_decide_eq_true (by first | (with_reducible assumption) | assumption); obtain ⟨ad168, e168, hx168_0⟩ := Kd.at_int (Kd.R_reads' HO_3.out).2.2 t164 p168 q168; cases e168; replace p168 := eq_true p168; replace q168 := eq_true q168; have p169 : 0 ≤ (x4_1 : Int) := of_decide_eq_true (by first | (with_reducible assumption) | assumption); have q169 : x4_1 < (l0.length : Int) := of_decide_eq_true (by first | (with_reducible assumption) | assumption); obtain ⟨ad169, e169, hx169_0⟩ := Kd.at_int HR0.out x4_1 p169 q169; obtain rfl : ad163 = ad169 := (by injection e169); replace hx169_0 := (HB.out.cell (World.block_lt_of_cell? w _ hx169_0)).trans hx169_0; replace p169 := eq_true p169; replace q169 := eq_true q169))
                  repeat (go_quiet (first | (go_at_call 15; (with_reducible refine (tattingref15_Find.calls k1 _ _ x3_1 (rd l0 x4_1) t164 _ ?side1 ?side2 A4.out).mono ?_); (case side1 => repeat (first | exact (Kd.R_reads' HO_3.out).2.2 | (with_reducible refine Kd.C_alloc ?_ _) | (with_reducible refine Kd.C_drewN ?_ _) | (with_reducible refine Kd.C_drew ?_))); (case side2 => exact (Kd.R_reads' HO_3.out).2.1); rintro e w' ⟨rfl, ⟨nd, rfl⟩⟩; (try first | exact ⟨rfl, _, World.drewN_drewN _ _ _⟩ | exact ⟨rfl, _, Eq.trans (World.drewN_drewN _ _ _) (congrArg (World.drewN _) (Nat.add_assoc _ _ _))⟩); have p168 : 0 ≤ (t164 : Int) := of_decide_eq_true (by first | (with_reducible assumption) | assumption); have q168 : t164 < (x3_1.length : Int) := of_decide_eq_true (by first | (with_reducible assumption) | assumption); obtain ⟨ad168, e168, hx168_0⟩ := Kd.at_int (Kd.R_reads' HO_3.out).2.2 t164 p168 q168; cases e168; replace p168 := eq_true p168; replace q168 := eq_true q168; have p169 : 0 ≤ (x4_1 : Int) := of_decide_eq_true (by first | (with_reducible assumption) | assumption); have q169 : x4_1 < (l0.length : Int) := of_decide_eq_true (by first | (with_reducible assumption) | assumption); obtain ⟨ad169, e169, hx169_0⟩ := Kd.at_int HR0.out x4_1 p169 q169; obtain rfl : ad163 = ad169 := (by injection e169); replace hx169_0 := (HB.out.cell (World.block_lt_of_cell? w _ hx169_0)).trans hx169_0; replace p169 := eq_true p169; replace q169 := eq_true q169)); try go_wp2_with (first | (go_at_call 15; (with_reducible refine (tattingref15_Find.calls k1 _ _ x3_1 (rd l0 x4_1) t164 _ ?side1 ?side2 A4.out).mono ?_); (case side1 => repeat (first | exact (Kd.R_reads' HO_3.out).2.2 | (with_reducible refine Kd.C_alloc ?_ _) | (with_reducible refine Kd.C_drewN ?_ _) | (with_reducible refine Kd.C_drew ?_))); (case side2 => exact (Kd.R_reads' HO_3.out).2.1); rintro e w' ⟨rfl, ⟨nd, rfl⟩⟩; (try first | exact ⟨rfl, _, World.drewN_drewN _ _ _⟩ | exact ⟨rfl, _, Eq.trans (World.drewN_drewN _ _ _) (congrArg (World.drewN _) (Nat.add_assoc _ _ _))⟩); have p168 : 0 ≤ (t164 : Int) := of_decide_eq_true (by first | (with_reducible assumption) | assumption); have q168 : t164 < (x3_1.length : Int) := of_decide_eq_true (by first | (with_reducible assumption) | assumption); obtain ⟨ad168, e168, hx168_0⟩ := Kd.at_int (Kd.R_reads' HO_3.out).2.2 t164 p168 q168; cases e168; replace p168 := eq_true p168; replace q168 := eq_true q168; have p169 : 0 ≤ (x4_1 : Int) := of_decide_eq_true (by first | (with_reducible assumption) | assumption); have q169 : x4_1 < (l0.length : Int) := of_decide_eq_true (by first | (with_reducible assumption) | assumption); obtain ⟨ad169, e169, hx169_0⟩ := Kd.at_int HR0.out x4_1 p169 q169; obtain rfl : ad163 = ad169 := (by injection e169); replace hx169_0 := (HB.out.cell (World.block_lt_of_cell? w _ hx169_0)).trans hx169_0; replace p169 := eq_true p169; replace q169 := eq_true q169)))
                  go_roundg k1
                  case measure => have := HK1.out; omega
                  case rel => exact ⟨(x3_1), (wrap64 (x4_1 + 1)), (by first | rfl | (simp; done) | (simp [*]; done)), H', ⟨by have := HK1.out; omega⟩, ⟨by (with_reducible repeat (first | apply Kd.R_alloc | apply Kd.R_drewN | apply Kd.R_drew)); exact HO_3.out⟩, ⟨by repeat (first | (with_reducible first | exact HB.out | apply below_alloc | apply pw_below_drewN | apply below_drew1) | exact HB.out)⟩⟩
                · rw [if_neg c11] at H
                  have c11b0 : ((rd x3_1 t164) == (rd l0 x4_1)) = false := beq_eq_false_iff_ne.mpr c11
                  have c11b1 : ((rd x3_1 t164) != (rd l0 x4_1)) = true := bne_iff_ne.mpr c11
                  replace H := Option.bind_eq_some_iff.mp H
                  obtain ⟨t170, A130, H⟩ := H
                  replace H : (tattinglaw15_rising.l0 k1 l0 t170 (wrap64 (x4_1 + 1))) = some r := H
                  have A13 := Aside0.mk A130
                  clear A130
                  have H' := Aside0.mk H
                  clear H
                  have p163 : 0 ≤ (x4_1 : Int) := of_decide_eq_true (by first | (with_reducible assumption) | assumption)
                  have q163 : x4_1 < (l0.length : Int) := of_decide_eq_true (by first | (with_reducible assumption) | assumption)
                  obtain ⟨ad163, e163, hx163_0⟩ := Kd.at_int HR0.out x4_1 p163 q163
                  cases e163
                  replace hx163_0 := (HB.out.cell (World.block_lt_of_cell? w _ hx163_0)).trans hx163_0
                  replace p163 := eq_true p163
                  replace q163 := eq_true q163
                  obtain ⟨Ao14, co14, eo14⟩ := Kd.R_slice HO_3.out
                  subst eo14
                  go_wp2_with (first | (go_at_call 15; (with_reducible refine (tattingref15_Find.calls k1 _ _ x3_1 (rd l0 x4_1) t164 _ ?side1 ?side2 A4.out).mono ?_); (case side1 => repeat (first | exact (Kd.R_reads' HO_3.out).2.2 | (with_reducible refine Kd.C_alloc ?_ _) | (with_reducible refine Kd.C_drewN ?_ _) | (with_reducible refine Kd.C_drew ?_))); (case side2 => exact (Kd.R_reads' HO_3.out).2.1); rintro e w' ⟨rfl, ⟨nd, rfl⟩⟩; (try first | exact ⟨rfl, _, World.drewN_drewN _ _ _⟩ | exact ⟨rfl, _, Eq.trans (World.drewN_drewN _ _ _) (congrArg (World.drewN _) (Nat.add_assoc _ _ _))⟩); have p168 : 0 ≤ (t164 : Int) := of_decide_eq_true (by first | (with_reducible assumption) | assumption); have q168 : t164 < (x3_1.length : Int) := of_decide_eq_true (by first | (with_reducible assumption) | assumption); obtain ⟨ad168, e168, hx168_0⟩ := Kd.at_int (Kd.R_reads' HO_3.out).2.2 t164 p168 q168; cases e168; replace p168 := eq_true p168; replace q168 := eq_true q168; have p169 : 0 ≤ (x4_1 : Int) := of_decide_eq_true (by first | (with_reducible assumption) | assumption); have q169 : x4_1 < (l0.length : Int) := of_decide_eq_true (by first | (with_reducible assumption) | assumption); obtain ⟨ad169, e169, hx169_0⟩ := Kd.at_int HR0.out x4_1 p169 q169; obtain rfl : ad163 = ad169 := (by injection e169); replace hx169_0 := (HB.out.cell (World.block_lt_of_cell? w _ hx169_0)).trans hx169_0; replace p169 := eq_true p169; replace q169 := eq_true q169))
                  repeat (go_quiet (first | (go_at_call 15; (with_reducible refine (tattingref15_Find.calls k1 _ _ x3_1 (rd l0 x4_1) t164 _ ?side1 ?side2 A4.out).mono ?_); (case side1 => repeat (first | exact (Kd.R_reads' HO_3.out).2.2 | (with_reducible refine Kd.C_alloc ?_ _) | (with_reducible refine Kd.C_drewN ?_ _) | (with_reducible refine Kd.C_drew ?_))); (case side2 => exact (Kd.R_reads' HO_3.out).2.1); rintro e w' ⟨rfl, ⟨nd, rfl⟩⟩; (try first | exact ⟨rfl, _, World.drewN_drewN _ _ _⟩ | exact ⟨rfl, _, Eq.trans (World.drewN_drewN _ _ _) (congrArg (World.drewN _) (Nat.add_assoc _ _ _))⟩); have p168 : 0 ≤ (t164 : Int) := of_decide_eq_true (by first | (with_reducible assumption) | assumption); have q168 : t164 < (x3_1.length : Int) := of_decide_eq_true (by first | (with_reducible assumption) | assumption); obtain ⟨ad168, e168, hx168_0⟩ := Kd.at_int (Kd.R_reads' HO_3.out).2.2 t164 p168 q168; cases e168; replace p168 := eq_true p168; replace q168 := eq_true q168; have p169 : 0 ≤ (x4_1 : Int) := of_decide_eq_true (by first | (with_reducible assumption) | assumption); have q169 : x4_1 < (l0.length : Int) := of_decide_eq_true (by first | (with_reducible assumption) | assumption); obtain ⟨ad169, e169, hx169_0⟩ := Kd.at_int HR0.out x4_1 p169 q169; obtain rfl : ad163 = ad169 := (by injection e169); replace hx169_0 := (HB.out.cell (World.block_lt_of_cell? w _ hx169_0)).trans hx169_0; replace p169 := eq_true p169; replace q169 := eq_true q169)); try go_wp2_with (first | (go_at_call 15; (with_reducible refine (tattingref15_Find.calls k1 _ _ x3_1 (rd l0 x4_1) t164 _ ?side1 ?side2 A4.out).mono ?_); (case side1 => repeat (first | exact (Kd.R_reads' HO_3.out).2.2 | (with_reducible refine Kd.C_alloc ?_ _) | (with_reducible refine Kd.C_drewN ?_ _) | (with_reducible refine Kd.C_drew ?_))); (case side2 => exact (Kd.R_reads' HO_3.out).2.1); rintro e w' ⟨rfl, ⟨nd, rfl⟩⟩; (try first | exact ⟨rfl, _, World.drewN_drewN _ _ _⟩ | exact ⟨rfl, _, Eq.trans (World.drewN_drewN _ _ _) (congrArg (World.drewN _) (Nat.add_assoc _ _ _))⟩); have p168 : 0 ≤ (t164 : Int) := of_decide_eq_true (by first | (with_reducible assumption) | assumption); have q168 : t164 < (x3_1.length : Int) := of_decide_eq_true (by first | (with_reducible assumption) | assumption); obtain ⟨ad168, e168, hx168_0⟩ := Kd.at_int (Kd.R_reads' HO_3.out).2.2 t164 p168 q168; cases e168; replace p168 := eq_true p168; replace q168 := eq_true q168; have p169 : 0 ≤ (x4_1 : Int) := of_decide_eq_true (by first | (with_reducible assumption) | assumption); have q169 : x4_1 < (l0.length : Int) := of_decide_eq_true (by first | (with_reducible assumption) | assumption); obtain ⟨ad169, e169, hx169_0⟩ := Kd.at_int HR0.out x4_1 p169 q169; obtain rfl : ad163 = ad169 := (by injection e169); replace hx169_0 := (HB.out.cell (World.block_lt_of_cell? w _ hx169_0)).trans hx169_0; replace p169 := eq_true p169; replace q169 := eq_true q169)))
                  (try clear hx163_0)
                  (try clear hx168_0)
                  (try clear hx169_0)
                  have HRo := Aside0.mk (Kd.R_drewN (Kd.R_drewN HO_3.out nd) nq)
                  have HBo := Aside0.mk (pw_below_drewN (pw_below_drewN HB.out nd) nq)
                  clear HO_3 HB
                  generalize (wr.drewN nd).drewN nq = wI at HRo HBo ⊢
                  have HR3 := Aside0.mk (Kd.R_reads' HRo.out).2.2
                  have HC3 := Aside0.mk (Kd.R_reads' HRo.out).2.1
                  have HRl := Aside0.mk (Kd.C_below HR0.out HBo.out)
                  have HB := Aside0.mk (Below.refl wI.heap.size wI)
                  have H : ((some (([] : List Int) : List Int)).bind fun y163 => (if 0 ≤ t164 then (if t164 ≤ (x3_1.length : Int) then (if y163.length + (x3_1.take (t164 : Int).toNat).length < 17592186044416 then ((some (y163 ++ (x3_1.take (t164 : Int).toNat) : List Int)).bind fun y167 => (if 0 ≤ x4_1 then (if x4_1 < (l0.length : Int) then ((some (([rd l0 x4_1] : List Int) : List Int)).bind fun y171 => (if y167.length + y171.length < 17592186044416 then ((some (y167 ++ y171 : List Int)).bind fun y174 => (if y174.length + (x3_1.drop (t164 : Int).toNat).length < 17592186044416 then (some (y174 ++ (x3_1.drop (t164 : Int).toNat))) else (none))) else (none))) else (none)) else (none))) else (none)) else (none)) else (none))) = some t170 := A13.out
                  obtain ⟨y163, hy163⟩ : ∃ y_ : List Int, y_ = (([] : List Int)) := ⟨_, rfl⟩
                  replace H : (if 0 ≤ t164 then (if t164 ≤ (x3_1.length : Int) then (if y163.length + (x3_1.take (t164 : Int).toNat).length < 17592186044416 then ((some (y163 ++ (x3_1.take (t164 : Int).toNat) : List Int)).bind fun y167 => (if 0 ≤ x4_1 then (if x4_1 < (l0.length : Int) then ((some (([rd l0 x4_1] : List Int) : List Int)).bind fun y171 => (if y167.length + y171.length < 17592186044416 then ((some (y167 ++ y171 : List Int)).bind fun y174 => (if y174.length + (x3_1.drop (t164 : Int).toNat).length < 17592186044416 then (some (y174 ++ (x3_1.drop (t164 : Int).toNat))) else (none))) else (none))) else (none)) else (none))) else (none)) else (none)) else (none)) = some t170 := by first | (rw [hy163]; with_reducible exact H) | (have H2_ := (Option.bind_some _ _).symm.trans H; rw [hy163]; with_reducible exact H2_) | (have H2_ := (Option.bind_some _ _).symm.trans H; with_reducible exact H2_) | with_reducible exact H | (rw [hy163]; exact H) | exact H
                  have Ny163 := Aside0.mk hy163
                  clear hy163
                  by_cases c7 : 0 ≤ t164
                  · rw [if_pos c7] at H
                    have c7b0 := eq_true c7
                    have c7b1 : decide (0 ≤ t164) = true := decide_eq_true c7
                    clear c7
                    by_cases c8 : t164 ≤ (x3_1.length : Int)
                    · rw [if_pos c8] at H
                      have c8b0 := eq_true c8
                      have c8b1 : decide (t164 ≤ (x3_1.length : Int)) = true := decide_eq_true c8
                      clear c8
                      by_cases c9 : y163.length + (x3_1.take (t164 : Int).toNat).length < 17592186044416
                      · rw [if_pos c9] at H
                        have LMc9 := Aside0.mk c9
                        clear c9
                        obtain ⟨y167, hy167⟩ : ∃ y_ : List Int, y_ = (y163 ++ (x3_1.take (t164 : Int).toNat)) := ⟨_, rfl⟩
                        replace H : (if 0 ≤ x4_1 then (if x4_1 < (l0.length : Int) then ((some (([rd l0 x4_1] : List Int) : List Int)).bind fun y171 => (if y167.length + y171.length < 17592186044416 then ((some (y167 ++ y171 : List Int)).bind fun y174 => (if y174.length + (x3_1.drop (t164 : Int).toNat).length < 17592186044416 then (some (y174 ++ (x3_1.drop (t164 : Int).toNat))) else (none))) else (none))) else (none)) else (none)) = some t170 := by first | (rw [hy167]; with_reducible exact H) | (have H2_ := (Option.bind_some _ _).symm.trans H; rw [hy167]; with_reducible exact H2_) | (have H2_ := (Option.bind_some _ _).symm.trans H; with_reducible exact H2_) | with_reducible exact H | (rw [hy167]; exact H) | exact H
                        have Ny167 := Aside0.mk hy167
                        clear hy167
                        by_cases c10 : 0 ≤ x4_1
                        · rw [if_pos c10] at H
                          have c10b0 : decide (0 ≤ x4_1) = true := decide_eq_true c10
                          clear c10
                          by_cases c11 : x4_1 < (l0.length : Int)
                          · rw [if_pos c11] at H
                            have c11b0 : decide (x4_1 < (l0.length : Int)) = true := decide_eq_true c11
                            clear c11
                            obtain ⟨y171, hy171⟩ : ∃ y_ : List Int, y_ = (([rd l0 x4_1] : List Int)) := ⟨_, rfl⟩
                            replace H : (if y167.length + y171.length < 17592186044416 then ((some (y167 ++ y171 : List Int)).bind fun y174 => (if y174.length + (x3_1.drop (t164 : Int).toNat).length < 17592186044416 then (some (y174 ++ (x3_1.drop (t164 : Int).toNat))) else (none))) else (none)) = some t170 := by first | (rw [hy171]; with_reducible exact H) | (have H2_ := (Option.bind_some _ _).symm.trans H; rw [hy171]; with_reducible exact H2_) | (have H2_ := (Option.bind_some _ _).symm.trans H; with_reducible exact H2_) | with_reducible exact H | (rw [hy171]; exact H) | exact H
                            have Ny171 := Aside0.mk hy171
                            clear hy171
                            by_cases c12 : y167.length + y171.length < 17592186044416
                            · rw [if_pos c12] at H
                              have LMc12 := Aside0.mk c12
                              clear c12
                              obtain ⟨y174, hy174⟩ : ∃ y_ : List Int, y_ = (y167 ++ y171) := ⟨_, rfl⟩
                              replace H : (if y174.length + (x3_1.drop (t164 : Int).toNat).length < 17592186044416 then (some (y174 ++ (x3_1.drop (t164 : Int).toNat))) else (none)) = some t170 := by first | (rw [hy174]; with_reducible exact H) | (have H2_ := (Option.bind_some _ _).symm.trans H; rw [hy174]; with_reducible exact H2_) | (have H2_ := (Option.bind_some _ _).symm.trans H; with_reducible exact H2_) | with_reducible exact H | (rw [hy174]; exact H) | exact H
                              have Ny174 := Aside0.mk hy174
                              clear hy174
                              have c13b0 := eq_true (of_decide_eq_true (by first | (with_reducible assumption) | assumption) : 0 ≤ t164)
                              have c14b0 := eq_true (of_decide_eq_true (by first | (with_reducible assumption) | assumption) : t164 ≤ (x3_1.length : Int))
                              by_cases c15 : y174.length + (x3_1.drop (t164 : Int).toNat).length < 17592186044416
                              · rw [if_pos c15] at H
                                have LMc15 := Aside0.mk c15
                                clear c15
                                obtain ⟨y178, hy178⟩ : ∃ y_ : List Int, y_ = (y174 ++ (x3_1.drop (t164 : Int).toNat)) := ⟨_, rfl⟩
                                replace H : (some y178) = some t170 := by first | (rw [hy178]; with_reducible exact H) | (have H2_ := (Option.bind_some _ _).symm.trans H; rw [hy178]; with_reducible exact H2_) | (have H2_ := (Option.bind_some _ _).symm.trans H; with_reducible exact H2_) | with_reducible exact H | (rw [hy178]; exact H) | exact H
                                have Ny178 := Aside0.mk hy178
                                clear hy178
                                obtain rfl := Option.some.inj H
                                have n0_ := Aside0.mk (below_drew1 HB.out)
                                clear HB
                                have HB := n0_
                                clear n0_
                                obtain ⟨i017, hi017, _, hsz17, _⟩ := info_parts info3
                                obtain ⟨hcut17, hA17, hC17⟩ := print_take_of (P := Try.prog) (Value.int .i64) 0 22 3 .i64 Try.underlying22 hi017 hsz17 (some ad168) co14 x3_1 t164 (of_decide_eq_true (by first | (with_reducible assumption) | assumption)) (of_decide_eq_true (by first | (with_reducible assumption) | assumption)) HC3.out
                                have HR166 := Aside0.mk (Kd.C_of_reads (h1 := fun _ => rfl) (hA17 _ (Kd.reads_of_C HR3.out)))
                                have HC166 := Aside0.mk hC17
                                clear hA17 hC17 hi017 hsz17
                                have p170 : 0 ≤ (x4_1 : Int) := of_decide_eq_true (by first | (with_reducible assumption) | assumption)
                                have q170 : x4_1 < (l0.length : Int) := of_decide_eq_true (by first | (with_reducible assumption) | assumption)
                                obtain ⟨ad170, e170, hx170_0⟩ := Kd.at_int HRl.out x4_1 p170 q170
                                have hw170_0 := hx170_0
                                injection e170 with e_; subst e_
                                replace hx170_0 := (HB.out.cell (World.block_lt_of_cell? wI _ hx170_0)).trans hx170_0
                                replace p170 := eq_true p170
                                replace q170 := eq_true q170
                                obtain ⟨i018, hi018, _, hsz18, _⟩ := info_parts info3
                                obtain ⟨A18, hcut18, hA18, hC18⟩ := print_drop_of (P := Try.prog) (Value.int .i64) 0 22 3 .i64 Try.underlying22 hi018 hsz18 (some ad168) co14 x3_1 t164 (of_decide_eq_true (by first | (with_reducible assumption) | assumption)) (of_decide_eq_true (by first | (with_reducible assumption) | assumption)) HC3.out
                                have HR177 := Aside0.mk (Kd.C_of_reads (h1 := fun _ => rfl) (hA18 _ (Kd.reads_of_C HR3.out)))
                                have HC177 := Aside0.mk hC18
                                clear hA18 hC18 hi018 hsz18
                                refine start_ (n := 16) (S := fun w' => w'.cell? (ad163.add (x4_1).toNat) = some (.int .i64 (rd l0 x4_1))) (ds := []) #[false, false, false, false, false, false, false, false, false, false, false, false, false, false, false, false] (by kernel_rfl) rfl rfl (((HB.out.cell (World.block_lt_of_cell? wI _ hw170_0)).trans hw170_0)) (fun hHeld => ?_); refine with_tabW tattinglaw15_rising.tab7 tattinglaw15_rising.bits7 (fun HT_ HW_ => ?_)
                                generalize wI.drew = w16 at HB HR166 HR177 hx170_0 hHeld ⊢
                                refine pure_ (i := 1) (N := some 34) (v := ?_) (a' := ?_) #[false, true, false, false, false, false, false, false, false, false, false, false, false, false, false, false] rfl rfl (any_of HT_.out (by kernel_rfl)) (fun _ _ _ h => h) (Or.inl ⟨by rfl, ?_⟩) ?_ ?_
                                rotate_left
                                · intro w'
                                  go_simp
                                  with_reducible rfl
                                rotate_left
                                · simp only [Act.put, List.setIfInBounds_toArray, List.set_cons_zero, List.set_cons_succ, i64_w, i32_w]
                                  rfl
                                refine pure_ (i := 2) (N := some 35) (v := ?_) (a' := ?_) #[false, true, true, false, false, false, false, false, false, false, false, false, false, false, false, false] rfl rfl (any_of HT_.out (by kernel_rfl)) (fun _ _ _ h => h) (Or.inl ⟨by rfl, ?_⟩) ?_ ?_
                                rotate_left
                                · intro w'
                                  go_simp
                                  with_reducible rfl
                                rotate_left
                                · simp only [Act.put, List.setIfInBounds_toArray, List.set_cons_zero, List.set_cons_succ, i64_w, i32_w]
                                  rfl
                                refine pure_ (i := 3) (N := some 36) (v := ?_) (a' := ?_) #[false, true, true, true, false, false, false, false, false, false, false, false, false, false, false, false] rfl rfl (any_of HT_.out (by kernel_rfl)) (fun _ _ _ h => h) (Or.inl ⟨by rfl, ?_⟩) ?_ ?_
                                rotate_left
                                · intro w'
                                  go_simp
                                  with_reducible rfl
                                rotate_left
                                · simp only [Act.put, List.setIfInBounds_toArray, List.set_cons_zero, List.set_cons_succ, i64_w, i32_w]
                                  rfl
                                refine pure_ (i := 5) (N := some 38) (v := ?_) (a' := ?_) #[false, true, true, true, false, true, false, false, false, false, false, false, false, false, false, false] rfl rfl (any_of HT_.out (by kernel_rfl)) (fun _ _ _ h => h) (Or.inl ⟨by rfl, ?_⟩) ?_ ?_
                                rotate_left
                                · intro w'
                                  go_simp
                                  with_reducible rfl
                                rotate_left
                                · simp only [Act.put, List.setIfInBounds_toArray, List.set_cons_zero, List.set_cons_succ, i64_w, i32_w]
                                  rfl
                                refine pure_ (i := 6) (N := some 39) (v := ?_) (a' := ?_) #[false, true, true, true, false, true, true, false, false, false, false, false, false, false, false, false] rfl rfl (any_of HT_.out (by kernel_rfl)) (fun _ _ _ h => h) (Or.inl ⟨by rfl, ?_⟩) ?_ ?_
                                rotate_left
                                · intro w'
                                  go_simp
                                  with_reducible rfl
                                rotate_left
                                · simp only [Act.put, List.setIfInBounds_toArray, List.set_cons_zero, List.set_cons_succ, i64_w, i32_w]
                                  rfl
                                refine pure_ (i := 7) (N := some 40) (v := ?_) (a' := ?_) #[false, true, true, true, false, true, true, true, false, false, false, false, false, false, false, false] rfl rfl (any_of HT_.out (by kernel_rfl)) (fun _ _ _ h => h) (Or.inl ⟨by rfl, ?_⟩) ?_ ?_
                                rotate_left
                                · intro w'
                                  go_simp
                                  with_reducible rfl
                                rotate_left
                                · simp only [Act.put, List.setIfInBounds_toArray, List.set_cons_zero, List.set_cons_succ, i64_w, i32_w]
                                  rfl
                                refine pure_ (i := 11) (N := some 44) (v := ?_) (a' := ?_) #[false, true, true, true, false, true, true, true, false, false, false, true, false, false, false, false] rfl rfl (any_of HT_.out (by kernel_rfl)) (fun _ _ _ h => h) (Or.inl ⟨by rfl, ?_⟩) ?_ ?_
                                rotate_left
                                · intro w'
                                  go_simp
                                  with_reducible rfl
                                rotate_left
                                · simp only [Act.put, List.setIfInBounds_toArray, List.set_cons_zero, List.set_cons_succ, i64_w, i32_w]
                                  rfl
                                refine pure_ (i := 12) (N := some 45) (v := ?_) (a' := ?_) #[false, true, true, true, false, true, true, true, false, false, false, true, true, false, false, false] rfl rfl (any_of HT_.out (by kernel_rfl)) (fun _ _ _ h => h) (Or.inl ⟨by rfl, ?_⟩) ?_ ?_
                                rotate_left
                                · intro w'
                                  go_simp
                                  with_reducible rfl
                                rotate_left
                                · simp only [Act.put, List.setIfInBounds_toArray, List.set_cons_zero, List.set_cons_succ, i64_w, i32_w]
                                  rfl
                                refine pure_ (i := 13) (N := some 46) (v := ?_) (a' := ?_) #[false, true, true, true, false, true, true, true, false, false, false, true, true, true, false, false] rfl rfl (any_of HT_.out (by kernel_rfl)) (fun _ _ _ h => h) (Or.inl ⟨by rfl, ?_⟩) ?_ ?_
                                rotate_left
                                · intro w'
                                  go_simp
                                  with_reducible rfl
                                rotate_left
                                · simp only [Act.put, List.setIfInBounds_toArray, List.set_cons_zero, List.set_cons_succ, i64_w, i32_w]
                                  rfl
                                refine take_ (i := 8) (N := some 41) (v := ?_) (a' := ?_) #[false, true, true, true, false, true, true, true, true, false, false, true, true, true, false, false] rfl rfl (take_ofW HT_.out HW_.out (by kernel_rfl)) (fun _ _ _ h => h) (Or.inl ⟨by rfl, ?_⟩) hHeld ?_ ?_
                                rotate_left
                                · intro w' s0
                                  go_simp
                                  with_reducible rfl
                                rotate_left
                                · simp only [Act.put, List.setIfInBounds_toArray, List.set_cons_zero, List.set_cons_succ, i64_w, i32_w]
                                  rfl
                                refine join_ (σ := Value × Value × Value) 3 #[true, true, true, true, true, true, true, true, true, true, false, true, true, true, false, false] (fun s_ => [(33, s_.1), (37, s_.2.1), (42, s_.2.2)]) (fun s_ w' => (w'.cell? (ad163.add (x4_1).toNat) = some (.int .i64 (rd l0 x4_1))) ∧ (Kd.R (Kd.int .i64) 3 w' wI.heap.size (fun k_ => some k_ ≠ (s_.2.2 : Value).ownBlock) s_.2.1 y167) ∧ (Kd.R (Kd.int .i64) 3 w' wI.heap.size (fun k_ => some k_ ≠ (s_.2.1 : Value).ownBlock) s_.2.2 y171) ∧ (Below wI.heap.size wI w')) ?_ ?_
                                rotate_left
                                · intro hCont
                                  refine two_ (i := 0) (j := 9) (Ni := some 33) (Nj := some 42) #[true, true, true, true, false, true, true, true, true, false, false, true, true, true, false, false] #[false, true, true, true, false, true, true, true, true, true, false, true, true, true, false, false] rfl rfl rfl rfl (two_of HT_.out (by kernel_rfl)) (by decide) (by decide) (fun K hK => ?_) (fun K hK => ?_)
                                  · skip
                                    refine Kd.R_lit_step (Kd.int .i64) _ 3 ?hg (N := 33) ?hd (xs := ([] : List Int)) (inner := []) (ok := fun _ => True) (okp := fun _ => True) ?hr ?hp (fun _ hk => hk) trivial (Below.refl _ _) (Nat.le_refl _) (by simp) ?_; (case hd => rfl); (case hg => rfl); (case hr => first | (go_simp; done) | (go_simp; rfl)); (case hp => exact (Reps.none _ _))
                                    intro v164 w19 ho20 hb hg_ hnew_
                                    clear hg_ hnew_
                                    (first | rw [← Ny163.out] at ho20 | (simp only [Int.reduceToNat] at ho20; rw [← Ny163.out] at ho20))
                                    have n0_ := Aside0.mk (Kd.R_lower ho20 (below_size (by repeat (first | (with_reducible first | exact HB.out | apply below_alloc | apply pw_below_drewN | apply below_drew1) | exact HB.out))))
                                    have n1_ := Aside0.mk (below_step (by repeat (first | (with_reducible first | exact HB.out | apply below_alloc | apply pw_below_drewN | apply below_drew1) | exact HB.out)) hb)
                                    clear HB
                                    have HO165 := n0_
                                    have HB := n1_
                                    clear n0_ n1_
                                    clear hb ho20
                                    refine hK.out _ _ (((HB.out.cell (World.block_lt_of_cell? wI _ hw170_0)).trans hw170_0)) (fun hHeld => ?_)
                                    clear hK K
                                    refine norm_ (a' := ?_) ?_ ?_
                                    rotate_left
                                    · show Act.put _ (some 33) _ = _
                                      simp only [Act.put, List.setIfInBounds_toArray, List.set_cons_zero, List.set_cons_succ, i64_w, i32_w]
                                      rfl
                                    refine two_ (i := 4) (j := 9) (Ni := some 37) (Nj := some 42) #[true, true, true, true, true, true, true, true, true, false, false, true, true, true, false, false] #[true, true, true, true, false, true, true, true, true, true, false, true, true, true, false, false] rfl rfl rfl rfl (two_of HT_.out (by kernel_rfl)) (by decide) (by decide) (fun K hK => ?_) (fun K hK => ?_)
                                    · skip
                                      refine Kd.R_append_rows_step (Kd.int .i64) (w0 := wI) wI.heap.size (by rfl) (.tmp 33) (.tmp 36) 22 3 (.int .i64 0) 8 rfl Try.underlying22 info3 rfl (by decide) (by omega) v164 y163 (x3_1.take (t164 : Int).toNat) _ _ _ (fun _ => True) (fun _ => False) rfl rfl ?aO ?aR (fun _ _ h => h) (fun _ h => h.elim) ?aF ?aB ?aS ?aL ?_
                                      (case aR => have hl_ : (x3_1.take (t164 : Int).toNat).length = t164.toNat := (by rw [List.length_take]; have h_ : (t164 : Int) ≤ (x3_1.length : Int) := of_decide_eq_true (by first | (with_reducible assumption) | assumption); omega); have hc_ := Kd.C_below HR166.out HB.out; rw [hl_] at hc_; exact hc_)
                                      (case aB => exact (by repeat (first | (with_reducible first | exact HB.out | apply below_alloc | apply pw_below_drewN | apply below_drew1) | exact HB.out)))
                                      (case aF => exact (fun _ _ => trivial))
                                      (case aO => exact (by (with_reducible repeat (first | apply Kd.R_alloc | apply Kd.R_drewN | apply Kd.R_drew)); exact HO165.out))
                                      (case aS => exact (below_size (by repeat (first | (with_reducible first | exact HB.out | apply below_alloc | apply pw_below_drewN | apply below_drew1) | exact HB.out))))
                                      (case aL => have := LMc9.out; have hlx_ := (show (x3_1.take (t164 : Int).toNat).length = t164.toNat from (by rw [List.length_take]; have h_ : (t164 : Int) ≤ (x3_1.length : Int) := of_decide_eq_true (by first | (with_reducible assumption) | assumption); omega)); omega)
                                      intro v168 w21 ho hb hg hat
                                      rw [← Ny167.out] at ho
                                      have n0_ := Aside0.mk (hb)
                                      have n1_ := Aside0.mk (ho)
                                      clear HB
                                      clear HO165
                                      have HB := n0_
                                      have HO169 := n1_
                                      clear n0_ n1_
                                      clear ho hb hg hat
                                      refine hK.out _ _ (((HB.out.cell (World.block_lt_of_cell? wI _ hw170_0)).trans hw170_0)) (fun hHeld => ?_)
                                      clear hK K
                                      refine norm_ (a' := ?_) ?_ ?_
                                      rotate_left
                                      · show Act.put _ (some 37) _ = _
                                        simp only [Act.put, List.setIfInBounds_toArray, List.set_cons_zero, List.set_cons_succ, i64_w, i32_w]
                                        rfl
                                      refine one_ (i := 9) (N := some 42) #[true, true, true, true, true, true, true, true, true, true, false, true, true, true, false, false] rfl rfl (one_of HT_.out (by kernel_rfl)) (by decide) (fun K hK => ?_)
                                      refine Kd.R_lit_step (Kd.int .i64) _ 3 ?hg (N := 42) ?hd (xs := ([rd l0 x4_1] : List Int)) (inner := [.int .i64 (rd l0 x4_1)]) (ok := fun _ => True) (okp := fun _ => True) ?hr ?hp (fun _ hk => hk) trivial (Below.refl _ _) (Nat.le_refl _) (by simp) ?_; (case hd => rfl); (case hg => rfl); (case hr => first | (go_simp; done) | (go_simp; rfl)); (case hp => exact (Reps.one (show Kd.M (Kd.int .i64) _ _ _ (rd l0 x4_1) [.int .i64 (rd l0 x4_1)] from rfl) (Reps.none _ _)))
                                      intro v172 w22 ho23 hb hg_ hnew_
                                      clear hg_ hnew_
                                      (first | rw [← Ny171.out] at ho23 | (simp only [Int.reduceToNat] at ho23; rw [← Ny171.out] at ho23))
                                      have n0_ := Aside0.mk (Kd.R_elder' (by (with_reducible repeat (first | apply Kd.R_alloc | apply Kd.R_drewN | apply Kd.R_drew)); exact HO169.out) (Kd.R_base ho23) hb)
                                      have n1_ := Aside0.mk (Kd.R_lower (Kd.R_new' ho23 (Kd.R_lt (by (with_reducible repeat (first | apply Kd.R_alloc | apply Kd.R_drewN | apply Kd.R_drew)); exact HO169.out))) (below_size (by repeat (first | (with_reducible first | exact HB.out | apply below_alloc | apply pw_below_drewN | apply below_drew1) | exact HB.out))))
                                      have n2_ := Aside0.mk (below_step (by repeat (first | (with_reducible first | exact HB.out | apply below_alloc | apply pw_below_drewN | apply below_drew1) | exact HB.out)) hb)
                                      clear HO169
                                      clear HB
                                      have HO169 := n0_
                                      have HO173 := n1_
                                      have HB := n2_
                                      clear n0_ n1_ n2_
                                      clear hb ho23
                                      refine hK.out _ _ (((HB.out.cell (World.block_lt_of_cell? wI _ hw170_0)).trans hw170_0)) (fun hHeld => ?_)
                                      clear hK K
                                      refine norm_ (a' := ?_) ?_ ?_
                                      rotate_left
                                      · show Act.put _ (some 42) _ = _
                                        simp only [Act.put, List.setIfInBounds_toArray, List.set_cons_zero, List.set_cons_succ, i64_w, i32_w]
                                        rfl
                                      exact norm_ (by simp only [putAll, Act.put, List.setIfInBounds_toArray, List.set_cons_zero, List.set_cons_succ]) (hCont (v164, v168, v172) _ ⟨hHeld, (by (with_reducible repeat (first | apply Kd.R_alloc | apply Kd.R_drewN | apply Kd.R_drew)); exact Kd.R_mono HO169.out (fun _ hk => hk.2)), (by (with_reducible repeat (first | apply Kd.R_alloc | apply Kd.R_drewN | apply Kd.R_drew)); exact Kd.R_mono HO173.out (fun _ hk => hk.2)), (by repeat (first | (with_reducible first | exact HB.out | apply below_alloc | apply pw_below_drewN | apply below_drew1) | exact HB.out))⟩)
                                    · skip
                                      refine Kd.R_lit_step (Kd.int .i64) _ 3 ?hg (N := 42) ?hd (xs := ([rd l0 x4_1] : List Int)) (inner := [.int .i64 (rd l0 x4_1)]) (ok := fun _ => True) (okp := fun _ => True) ?hr ?hp (fun _ hk => hk) trivial (Below.refl _ _) (Nat.le_refl _) (by simp) ?_; (case hd => rfl); (case hg => rfl); (case hr => first | (go_simp; done) | (go_simp; rfl)); (case hp => exact (Reps.one (show Kd.M (Kd.int .i64) _ _ _ (rd l0 x4_1) [.int .i64 (rd l0 x4_1)] from rfl) (Reps.none _ _)))
                                      intro v172 w21 ho22 hb hg_ hnew_
                                      clear hg_ hnew_
                                      (first | rw [← Ny171.out] at ho22 | (simp only [Int.reduceToNat] at ho22; rw [← Ny171.out] at ho22))
                                      have n0_ := Aside0.mk (Kd.R_elder' (by (with_reducible repeat (first | apply Kd.R_alloc | apply Kd.R_drewN | apply Kd.R_drew)); exact HO165.out) (Kd.R_base ho22) hb)
                                      have n1_ := Aside0.mk (Kd.R_lower (Kd.R_new' ho22 (Kd.R_lt (by (with_reducible repeat (first | apply Kd.R_alloc | apply Kd.R_drewN | apply Kd.R_drew)); exact HO165.out))) (below_size (by repeat (first | (with_reducible first | exact HB.out | apply below_alloc | apply pw_below_drewN | apply below_drew1) | exact HB.out))))
                                      have n2_ := Aside0.mk (below_step (by repeat (first | (with_reducible first | exact HB.out | apply below_alloc | apply pw_below_drewN | apply below_drew1) | exact HB.out)) hb)
                                      clear HO165
                                      clear HB
                                      have HO165 := n0_
                                      have HO173 := n1_
                                      have HB := n2_
                                      clear n0_ n1_ n2_
                                      clear hb ho22
                                      refine hK.out _ _ (((HB.out.cell (World.block_lt_of_cell? wI _ hw170_0)).trans hw170_0)) (fun hHeld => ?_)
                                      clear hK K
                                      refine norm_ (a' := ?_) ?_ ?_
                                      rotate_left
                                      · show Act.put _ (some 42) _ = _
                                        simp only [Act.put, List.setIfInBounds_toArray, List.set_cons_zero, List.set_cons_succ, i64_w, i32_w]
                                        rfl
                                      refine one_ (i := 4) (N := some 37) #[true, true, true, true, true, true, true, true, true, true, false, true, true, true, false, false] rfl rfl (one_of HT_.out (by kernel_rfl)) (by decide) (fun K hK => ?_)
                                      refine Kd.R_append_rows_step (Kd.int .i64) (w0 := wI) wI.heap.size (by rfl) (.tmp 33) (.tmp 36) 22 3 (.int .i64 0) 8 rfl Try.underlying22 info3 rfl (by decide) (by omega) v164 y163 (x3_1.take (t164 : Int).toNat) _ _ _ (fun k_ => some k_ ≠ (v172 : Value).ownBlock) (fun _ => False) rfl rfl ?aO ?aR (fun _ _ h => h) (fun _ h => h.elim) ?aF ?aB ?aS ?aL ?_
                                      (case aR => have hl_ : (x3_1.take (t164 : Int).toNat).length = t164.toNat := (by rw [List.length_take]; have h_ : (t164 : Int) ≤ (x3_1.length : Int) := of_decide_eq_true (by first | (with_reducible assumption) | assumption); omega); have hc_ := Kd.C_below HR166.out HB.out; rw [hl_] at hc_; exact hc_)
                                      (case aB => exact (by repeat (first | (with_reducible first | exact HB.out | apply below_alloc | apply pw_below_drewN | apply below_drew1) | exact HB.out)))
                                      (case aF => exact (fun k_ hk => Kd.fresh' (Kd.R_lt (by (with_reducible repeat (first | apply Kd.R_alloc | apply Kd.R_drewN | apply Kd.R_drew)); exact HO173.out)) k_ hk))
                                      (case aO => exact (by (with_reducible repeat (first | apply Kd.R_alloc | apply Kd.R_drewN | apply Kd.R_drew)); exact Kd.R_mono HO165.out (fun _ hk => hk.2)))
                                      (case aS => exact (below_size (by repeat (first | (with_reducible first | exact HB.out | apply below_alloc | apply pw_below_drewN | apply below_drew1) | exact HB.out))))
                                      (case aL => have := LMc9.out; have hlx_ := (show (x3_1.take (t164 : Int).toNat).length = t164.toNat from (by rw [List.length_take]; have h_ : (t164 : Int) ≤ (x3_1.length : Int) := of_decide_eq_true (by first | (with_reducible assumption) | assumption); omega)); omega)
                                      intro v168 w23 ho hb hg hat
                                      rw [← Ny167.out] at ho
                                      have n0_ := Aside0.mk (Kd.R_after (ok := (fun _ => True)) (by (with_reducible repeat (first | apply Kd.R_alloc | apply Kd.R_drewN | apply Kd.R_drew)); exact HO173.out) hg hat)
                                      have n1_ := Aside0.mk (hb)
                                      have n2_ := Aside0.mk (ho)
                                      clear HO173
                                      clear HB
                                      clear HO165
                                      have HO173 := n0_
                                      have HB := n1_
                                      have HO169 := n2_
                                      clear n0_ n1_ n2_
                                      clear ho hb hg hat
                                      refine hK.out _ _ (((HB.out.cell (World.block_lt_of_cell? wI _ hw170_0)).trans hw170_0)) (fun hHeld => ?_)
                                      clear hK K
                                      refine norm_ (a' := ?_) ?_ ?_
                                      rotate_left
                                      · show Act.put _ (some 37) _ = _
                                        simp only [Act.put, List.setIfInBounds_toArray, List.set_cons_zero, List.set_cons_succ, i64_w, i32_w]
                                        rfl
                                      exact norm_ (by simp only [putAll, Act.put, List.setIfInBounds_toArray, List.set_cons_zero, List.set_cons_succ]) (hCont (v164, v168, v172) _ ⟨hHeld, (by (with_reducible repeat (first | apply Kd.R_alloc | apply Kd.R_drewN | apply Kd.R_drew)); exact HO169.out), (by (with_reducible repeat (first | apply Kd.R_alloc | apply Kd.R_drewN | apply Kd.R_drew)); exact Kd.R_mono HO173.out (fun _ hk => hk.2)), (by repeat (first | (with_reducible first | exact HB.out | apply below_alloc | apply pw_below_drewN | apply below_drew1) | exact HB.out))⟩)
                                  · skip
                                    refine Kd.R_lit_step (Kd.int .i64) _ 3 ?hg (N := 42) ?hd (xs := ([rd l0 x4_1] : List Int)) (inner := [.int .i64 (rd l0 x4_1)]) (ok := fun _ => True) (okp := fun _ => True) ?hr ?hp (fun _ hk => hk) trivial (Below.refl _ _) (Nat.le_refl _) (by simp) ?_; (case hd => rfl); (case hg => rfl); (case hr => first | (go_simp; done) | (go_simp; rfl)); (case hp => exact (Reps.one (show Kd.M (Kd.int .i64) _ _ _ (rd l0 x4_1) [.int .i64 (rd l0 x4_1)] from rfl) (Reps.none _ _)))
                                    intro v172 w19 ho20 hb hg_ hnew_
                                    clear hg_ hnew_
                                    (first | rw [← Ny171.out] at ho20 | (simp only [Int.reduceToNat] at ho20; rw [← Ny171.out] at ho20))
                                    have n0_ := Aside0.mk (Kd.R_lower ho20 (below_size (by repeat (first | (with_reducible first | exact HB.out | apply below_alloc | apply pw_below_drewN | apply below_drew1) | exact HB.out))))
                                    have n1_ := Aside0.mk (below_step (by repeat (first | (with_reducible first | exact HB.out | apply below_alloc | apply pw_below_drewN | apply below_drew1) | exact HB.out)) hb)
                                    clear HB
                                    have HO173 := n0_
                                    have HB := n1_
                                    clear n0_ n1_
                                    clear hb ho20
                                    refine hK.out _ _ (((HB.out.cell (World.block_lt_of_cell? wI _ hw170_0)).trans hw170_0)) (fun hHeld => ?_)
                                    clear hK K
                                    refine norm_ (a' := ?_) ?_ ?_
                                    rotate_left
                                    · show Act.put _ (some 42) _ = _
                                      simp only [Act.put, List.setIfInBounds_toArray, List.set_cons_zero, List.set_cons_succ, i64_w, i32_w]
                                      rfl
                                    refine one_ (i := 0) (N := some 33) #[true, true, true, true, false, true, true, true, true, true, false, true, true, true, false, false] rfl rfl (one_of HT_.out (by kernel_rfl)) (by decide) (fun K hK => ?_)
                                    refine Kd.R_lit_step (Kd.int .i64) _ 3 ?hg (N := 33) ?hd (xs := ([] : List Int)) (inner := []) (ok := fun _ => True) (okp := fun _ => True) ?hr ?hp (fun _ hk => hk) trivial (Below.refl _ _) (Nat.le_refl _) (by simp) ?_; (case hd => rfl); (case hg => rfl); (case hr => first | (go_simp; done) | (go_simp; rfl)); (case hp => exact (Reps.none _ _))
                                    intro v164 w21 ho22 hb hg_ hnew_
                                    clear hg_ hnew_
                                    (first | rw [← Ny163.out] at ho22 | (simp only [Int.reduceToNat] at ho22; rw [← Ny163.out] at ho22))
                                    have n0_ := Aside0.mk (Kd.R_elder' (by (with_reducible repeat (first | apply Kd.R_alloc | apply Kd.R_drewN | apply Kd.R_drew)); exact HO173.out) (Kd.R_base ho22) hb)
                                    have n1_ := Aside0.mk (Kd.R_lower (Kd.R_new' ho22 (Kd.R_lt (by (with_reducible repeat (first | apply Kd.R_alloc | apply Kd.R_drewN | apply Kd.R_drew)); exact HO173.out))) (below_size (by repeat (first | (with_reducible first | exact HB.out | apply below_alloc | apply pw_below_drewN | apply below_drew1) | exact HB.out))))
                                    have n2_ := Aside0.mk (below_step (by repeat (first | (with_reducible first | exact HB.out | apply below_alloc | apply pw_below_drewN | apply below_drew1) | exact HB.out)) hb)
                                    clear HO173
                                    clear HB
                                    have HO173 := n0_
                                    have HO165 := n1_
                                    have HB := n2_
                                    clear n0_ n1_ n2_
                                    clear hb ho22
                                    refine hK.out _ _ (((HB.out.cell (World.block_lt_of_cell? wI _ hw170_0)).trans hw170_0)) (fun hHeld => ?_)
                                    clear hK K
                                    refine norm_ (a' := ?_) ?_ ?_
                                    rotate_left
                                    · show Act.put _ (some 33) _ = _
                                      simp only [Act.put, List.setIfInBounds_toArray, List.set_cons_zero, List.set_cons_succ, i64_w, i32_w]
                                      rfl
                                    refine one_ (i := 4) (N := some 37) #[true, true, true, true, true, true, true, true, true, true, false, true, true, true, false, false] rfl rfl (one_of HT_.out (by kernel_rfl)) (by decide) (fun K hK => ?_)
                                    refine Kd.R_append_rows_step (Kd.int .i64) (w0 := wI) wI.heap.size (by rfl) (.tmp 33) (.tmp 36) 22 3 (.int .i64 0) 8 rfl Try.underlying22 info3 rfl (by decide) (by omega) v164 y163 (x3_1.take (t164 : Int).toNat) _ _ _ (fun k_ => some k_ ≠ (v172 : Value).ownBlock) (fun _ => False) rfl rfl ?aO ?aR (fun _ _ h => h) (fun _ h => h.elim) ?aF ?aB ?aS ?aL ?_
                                    (case aR => have hl_ : (x3_1.take (t164 : Int).toNat).length = t164.toNat := (by rw [List.length_take]; have h_ : (t164 : Int) ≤ (x3_1.length : Int) := of_decide_eq_true (by first | (with_reducible assumption) | assumption); omega); have hc_ := Kd.C_below HR166.out HB.out; rw [hl_] at hc_; exact hc_)
                                    (case aB => exact (by repeat (first | (with_reducible first | exact HB.out | apply below_alloc | apply pw_below_drewN | apply below_drew1) | exact HB.out)))
                                    (case aF => exact (fun k_ hk => Kd.fresh' (Kd.R_lt (by (with_reducible repeat (first | apply Kd.R_alloc | apply Kd.R_drewN | apply Kd.R_drew)); exact HO173.out)) k_ hk))
                                    (case aO => exact (by (with_reducible repeat (first | apply Kd.R_alloc | apply Kd.R_drewN | apply Kd.R_drew)); exact Kd.R_mono HO165.out (fun _ hk => hk.2)))
                                    (case aS => exact (below_size (by repeat (first | (with_reducible first | exact HB.out | apply below_alloc | apply pw_below_drewN | apply below_drew1) | exact HB.out))))
                                    (case aL => have := LMc9.out; have hlx_ := (show (x3_1.take (t164 : Int).toNat).length = t164.toNat from (by rw [List.length_take]; have h_ : (t164 : Int) ≤ (x3_1.length : Int) := of_decide_eq_true (by first | (with_reducible assumption) | assumption); omega)); omega)
                                    intro v168 w23 ho hb hg hat
                                    rw [← Ny167.out] at ho
                                    have n0_ := Aside0.mk (Kd.R_after (ok := (fun _ => True)) (by (with_reducible repeat (first | apply Kd.R_alloc | apply Kd.R_drewN | apply Kd.R_drew)); exact HO173.out) hg hat)
                                    have n1_ := Aside0.mk (hb)
                                    have n2_ := Aside0.mk (ho)
                                    clear HO173
                                    clear HB
                                    clear HO165
                                    have HO173 := n0_
                                    have HB := n1_
                                    have HO169 := n2_
                                    clear n0_ n1_ n2_
                                    clear ho hb hg hat
                                    refine hK.out _ _ (((HB.out.cell (World.block_lt_of_cell? wI _ hw170_0)).trans hw170_0)) (fun hHeld => ?_)
                                    clear hK K
                                    refine norm_ (a' := ?_) ?_ ?_
                                    rotate_left
                                    · show Act.put _ (some 37) _ = _
                                      simp only [Act.put, List.setIfInBounds_toArray, List.set_cons_zero, List.set_cons_succ, i64_w, i32_w]
                                      rfl
                                    exact norm_ (by simp only [putAll, Act.put, List.setIfInBounds_toArray, List.set_cons_zero, List.set_cons_succ]) (hCont (v164, v168, v172) _ ⟨hHeld, (by (with_reducible repeat (first | apply Kd.R_alloc | apply Kd.R_drewN | apply Kd.R_drew)); exact HO169.out), (by (with_reducible repeat (first | apply Kd.R_alloc | apply Kd.R_drewN | apply Kd.R_drew)); exact Kd.R_mono HO173.out (fun _ hk => hk.2)), (by repeat (first | (with_reducible first | exact HB.out | apply below_alloc | apply pw_below_drewN | apply below_drew1) | exact HB.out))⟩)
                                rintro ⟨v164, v168, v172⟩ w24 ⟨hS_, h0_, h1_, h2_⟩
                                have n0_ : Aside0 (Kd.R (Kd.int .i64) 3 w24 wI.heap.size (fun k_ => some k_ ≠ (v172 : Value).ownBlock) v168 y167) := ⟨h0_⟩
                                have n1_ : Aside0 (Kd.R (Kd.int .i64) 3 w24 wI.heap.size (fun k_ => some k_ ≠ (v168 : Value).ownBlock) v172 y171) := ⟨h1_⟩
                                have n2_ : Aside0 (Below wI.heap.size wI w24) := ⟨h2_⟩
                                clear HB
                                clear h0_ h1_ h2_
                                have HO169 := n0_
                                have HO173 := n1_
                                have HB := n2_
                                clear n0_ n1_ n2_
                                have hHeld : w24.cell? (ad163.add (x4_1).toNat) = some (.int .i64 (rd l0 x4_1)) := hS_
                                obtain ⟨Ao26, co26, eo26⟩ := Kd.R_slice HO173.out
                                (first | subst eo26 | (injection eo26 with f1_ f2_ f3_; have f4_ := f1_.symm; have f5_ := f3_.symm; clear f1_ f2_ f3_; subst f4_; subst f5_))
                                refine norm_ (a' := ?_) ?_ ?_
                                rotate_left
                                · simp only [putAll, Act.put, List.setIfInBounds_toArray, List.set_cons_zero, List.set_cons_succ]
                                  rfl
                                refine one_ (i := 10) (N := some 43) #[true, true, true, true, true, true, true, true, true, true, true, true, true, true, false, false] rfl rfl (one_of HT_.out (by kernel_rfl)) (by decide) (fun K hK => ?_)
                                refine Kd.R_append_rows_step (Kd.int .i64) (w0 := wI) wI.heap.size (by rfl) (.tmp 37) (.tmp 42) 22 3 (.int .i64 0) 8 rfl Try.underlying22 info3 rfl (by decide) (by omega) v168 y167 y171 _ _ _ (fun k_ => some k_ ≠ (.slice Ao26 y171.length co26 : Value).ownBlock) (fun _ => False) rfl rfl ?aO ?aR (fun _ _ h => h) (fun _ h => h.elim) ?aF ?aB ?aS ?aL ?_
                                (case aR => repeat (first | exact (Kd.R_reads' HO173.out).2.2 | (with_reducible refine Kd.C_alloc ?_ _) | (with_reducible refine Kd.C_drewN ?_ _) | (with_reducible refine Kd.C_drew ?_)))
                                (case aB => exact (by repeat (first | (with_reducible first | exact HB.out | apply below_alloc | apply pw_below_drewN | apply below_drew1) | exact HB.out)))
                                (case aF => exact (fun k_ hk => Kd.fresh' (Kd.R_lt (by (with_reducible repeat (first | apply Kd.R_alloc | apply Kd.R_drewN | apply Kd.R_drew)); exact HO173.out)) k_ hk))
                                (case aO => exact (by (with_reducible repeat (first | apply Kd.R_alloc | apply Kd.R_drewN | apply Kd.R_drew)); exact HO169.out))
                                (case aS => exact (below_size (by repeat (first | (with_reducible first | exact HB.out | apply below_alloc | apply pw_below_drewN | apply below_drew1) | exact HB.out))))
                                (case aL => have := LMc12.out; omega)
                                intro v175 w25 ho hb hg hat
                                rw [← Ny174.out] at ho
                                have n0_ := Aside0.mk (Kd.R_after (ok := (fun _ => True)) (by (with_reducible repeat (first | apply Kd.R_alloc | apply Kd.R_drewN | apply Kd.R_drew)); exact Kd.R_mono HO173.out (fun _ hk => ⟨trivial, hk⟩)) hg hat)
                                have n1_ := Aside0.mk (hb)
                                have n2_ := Aside0.mk (ho)
                                clear HO173
                                clear HB
                                clear HO169
                                have HO173 := n0_
                                have HB := n1_
                                have HO176 := n2_
                                clear n0_ n1_ n2_
                                clear ho hb hg hat
                                refine hK.out _ _ (((HB.out.cell (World.block_lt_of_cell? wI _ hw170_0)).trans hw170_0)) (fun hHeld => ?_)
                                clear hK K
                                refine norm_ (a' := ?_) ?_ ?_
                                rotate_left
                                · show Act.put _ (some 43) _ = _
                                  simp only [Act.put, List.setIfInBounds_toArray, List.set_cons_zero, List.set_cons_succ, i64_w, i32_w]
                                  rfl
                                refine one_ (i := 14) (N := some 47) #[true, true, true, true, true, true, true, true, true, true, true, true, true, true, true, false] rfl rfl (one_of HT_.out (by kernel_rfl)) (by decide) (fun K hK => ?_)
                                refine Kd.R_append_rows_step (Kd.int .i64) (w0 := wI) wI.heap.size (by rfl) (.tmp 43) (.tmp 46) 22 3 (.int .i64 0) 8 rfl Try.underlying22 info3 rfl (by decide) (by omega) v175 y174 (x3_1.drop (t164 : Int).toNat) _ _ _ (fun k_ => some k_ ≠ (.slice Ao26 y171.length co26 : Value).ownBlock) (fun _ => False) rfl rfl ?aO ?aR (fun _ _ h => h) (fun _ h => h.elim) ?aF ?aB ?aS ?aL ?_
                                (case aR => have hl_ : (x3_1.drop (t164 : Int).toNat).length = (x3_1.length - t164.toNat) := List.length_drop; have hc_ := Kd.C_below HR177.out HB.out; rw [hl_] at hc_; exact hc_)
                                (case aB => exact (by repeat (first | (with_reducible first | exact HB.out | apply below_alloc | apply pw_below_drewN | apply below_drew1) | exact HB.out)))
                                (case aF => exact (fun k_ hk => Kd.fresh' (Kd.R_lt (by (with_reducible repeat (first | apply Kd.R_alloc | apply Kd.R_drewN | apply Kd.R_drew)); exact HO173.out)) k_ hk))
                                (case aO => exact (by (with_reducible repeat (first | apply Kd.R_alloc | apply Kd.R_drewN | apply Kd.R_drew)); exact HO176.out))
                                (case aS => exact (below_size (by repeat (first | (with_reducible first | exact HB.out | apply below_alloc | apply pw_below_drewN | apply below_drew1) | exact HB.out))))
                                (case aL => have := LMc15.out; have hlx_ := (show (x3_1.drop (t164 : Int).toNat).length = (x3_1.length - t164.toNat) from List.length_drop); omega)
                                intro v179 w27 ho hb hg hat
                                rw [← Ny178.out] at ho
                                have n0_ := Aside0.mk (Kd.R_after (ok := (fun _ => True)) (by (with_reducible repeat (first | apply Kd.R_alloc | apply Kd.R_drewN | apply Kd.R_drew)); exact HO173.out) hg hat)
                                have n1_ := Aside0.mk (hb)
                                have n2_ := Aside0.mk (ho)
                                clear HO173
                                clear HB
                                clear HO176
                                have HO173 := n0_
                                have HB := n1_
                                have HO180 := n2_
                                clear n0_ n1_ n2_
                                clear ho hb hg hat
                                refine hK.out _ _ (((HB.out.cell (World.block_lt_of_cell? wI _ hw170_0)).trans hw170_0)) (fun hHeld => ?_)
                                clear hK K
                                refine norm_ (a' := ?_) ?_ ?_
                                rotate_left
                                · show Act.put _ (some 47) _ = _
                                  simp only [Act.put, List.setIfInBounds_toArray, List.set_cons_zero, List.set_cons_succ, i64_w, i32_w]
                                  rfl
                                refine pure_ (i := 15) (N := some 3) (v := ?_) (a' := ?_) #[true, true, true, true, true, true, true, true, true, true, true, true, true, true, true, true] rfl rfl (any_of HT_.out (by kernel_rfl)) (fun _ _ _ h => h) (Or.inl ⟨by rfl, ?_⟩) ?_ ?_
                                rotate_left
                                · intro w'
                                  go_simp
                                  with_reducible rfl
                                rotate_left
                                · simp only [Act.put, List.setIfInBounds_toArray, List.set_cons_zero, List.set_cons_succ, i64_w, i32_w]
                                  rfl
                                refine done_ (done_of HT_.out (by kernel_rfl)) ?_
                                have n0_ := Aside0.mk (Kd.R_lower (Kd.R_mono HO180.out (fun _ _ => trivial)) (below_size HBo.out))
                                have n1_ := Aside0.mk (below_step HBo.out HB.out)
                                clear HB HO180
                                have HB := n1_
                                have HO172 := n0_
                                clear n0_ n1_
                                try go_wp2
                                repeat (go_quiet (fail); try go_wp2)
                                go_roundg k1
                                case measure => have := HK1.out; omega
                                case rel => exact ⟨(y178), (wrap64 (x4_1 + 1)), (by first | rfl | (simp; done) | (simp [*]; done)), H', ⟨by have := HK1.out; omega⟩, ⟨by (with_reducible repeat (first | apply Kd.R_alloc | apply Kd.R_drewN | apply Kd.R_drew)); exact Kd.R_mono HO172.out (fun _ hk => trivial)⟩, ⟨by repeat (first | (with_reducible first | exact HB.out | apply below_alloc | apply pw_below_drewN | apply below_drew1) | exact HB.out)⟩⟩
                              · rw [if_neg c15] at H
                                exact absurd H (by simp)
                            · rw [if_neg c12] at H
                              exact absurd H (by simp)
                          · rw [if_neg c11] at H
                            exact absurd H (by simp)
                        · rw [if_neg c10] at H
                          exact absurd H (by simp)
                      · rw [if_neg c9] at H
                        exact absurd H (by simp)
                    · rw [if_neg c8] at H
                      exact absurd H (by simp)
                  · rw [if_neg c7] at H
                    exact absurd H (by simp)
              · rw [if_neg c10] at H
                exact absurd H (by simp)
            · rw [if_neg c9] at H
              exact absurd H (by simp)
        · rw [if_neg c3] at H
          exact absurd H (by simp)
      · rw [if_neg c2] at H
        have c2b0 : decide (x4_1 < (l0.length : Int)) = false := decide_eq_false c2
        clear c2
        obtain rfl := Option.some.inj H
        go_wp2
        repeat (go_quiet (fail); try go_wp2)
        go_ret
        exact ⟨_, by first | rfl | (simp [errW_none, errW_some] <;> rfl) | (simp [*, errW_none, errW_some] <;> rfl), by (with_reducible repeat (first | apply Kd.R_alloc | apply Kd.R_drewN | apply Kd.R_drew)); exact HO_3.out, by repeat (first | (with_reducible first | exact HB.out | apply below_alloc | apply pw_below_drewN | apply below_drew1) | exact HB.out)⟩

/-! ### tattinglaw15_ThreshLess: function 7 -/
mutual
def tattinglaw15_ThreshLess.j0 : Nat → List Int → List Int → Int → Bool → Option (Bool)
  | 0, _, _, _, _ => none
  | k + 1, x5, x6, x7, x71 => if x71 = true then (some false) else (tattinglaw15_ThreshLess.l0 k x5 x6 x7 0)
def tattinglaw15_ThreshLess.l0 : Nat → List Int → List Int → Int → Int → Option (Bool)
  | 0, _, _, _, _ => none
  | k + 1, x5, x6, x7, x10 => if x10 < (x5.length : Int) then (if 0 ≤ x10 then (if x10 < (x6.length : Int) then (if (rd x6 x10) > (rd x5 x10) then (some false) else (if x10 = x7 then (tattinglaw15_ThreshLess.l0 k x5 x6 x7 (wrap64 (x10 + 1))) else (if (rd x6 x10) = (rd x5 x10) then (tattinglaw15_ThreshLess.l0 k x5 x6 x7 (wrap64 (x10 + 1))) else (some false)))) else (none)) else (none)) else (some true)
end
def tattinglaw15_ThreshLess.f (k : Nat) (l0 : List Int) (a1 : Int) : Option (Bool) := (tattinglaw15_awake.f k).bind fun t173 => (if t173 = true then (if (l0.length : Int) > 40 then (some true) else ((tattinglaw15_rising.f k l0).bind fun t174 => ((thresh_Put.f k t174 a1).bind fun bt177 => ((thresh_Put.f k bt177.1 a1).bind fun bt181 => (if (bt177.1.length : Int) < (t174.length : Int) then (tattinglaw15_ThreshLess.j0 k t174 bt177.1 bt177.2 true) else (if (bt177.1.length : Int) > (wrap64 ((t174.length : Int) + 1)) then (tattinglaw15_ThreshLess.j0 k t174 bt177.1 bt177.2 true) else (if bt177.2 = bt181.2 then ((tattingref1_SameInts.f k bt177.1 bt181.1).bind fun t185 => (if t185 = true then (if bt177.2 < 0 then (tattinglaw15_ThreshLess.j0 k t174 bt177.1 bt177.2 true) else (if bt177.2 ≥ (bt177.1.length : Int) then (tattinglaw15_ThreshLess.j0 k t174 bt177.1 bt177.2 true) else (if 0 ≤ bt177.2 then (if bt177.2 < (bt177.1.length : Int) then (tattinglaw15_ThreshLess.j0 k t174 bt177.1 bt177.2 ((rd bt177.1 bt177.2) != a1)) else (none)) else (none)))) else (tattinglaw15_ThreshLess.j0 k t174 bt177.1 bt177.2 true))) else (tattinglaw15_ThreshLess.j0 k t174 bt177.1 bt177.2 true)))))))) else (some false))
theorem tattinglaw15_ThreshLess.mono_l : ∀ k, (∀ y0 y1 y2 y3, LeO (tattinglaw15_ThreshLess.j0 k y0 y1 y2 y3) (tattinglaw15_ThreshLess.j0 (k + 1) y0 y1 y2 y3)) ∧ (∀ y0 y1 y2 y3, LeO (tattinglaw15_ThreshLess.l0 k y0 y1 y2 y3) (tattinglaw15_ThreshLess.l0 (k + 1) y0 y1 y2 y3))
  | 0 => ⟨fun _ _ _ _ r h => by simp [tattinglaw15_ThreshLess.j0] at h, fun _ _ _ _ r h => by simp [tattinglaw15_ThreshLess.l0] at h⟩
  | k + 1 => by
    obtain ⟨ih0, ih1⟩ := tattinglaw15_ThreshLess.mono_l k
    refine ⟨?_, ?_⟩
    · intro y0 y1 y2 y3
      unfold tattinglaw15_ThreshLess.j0
      repeat' first
      | (with_reducible exact ih0 _ _ _ _)
      | (with_reducible exact ih1 _ _ _ _)
      | (with_reducible exact tattinglaw15_awake.mono _)
      | (with_reducible exact tattinglaw15_rising.mono _ _)
      | (with_reducible exact tattingref1_SameInts.mono _ _ _)
      | (with_reducible exact thresh_Put.mono _ _ _)
      | (with_reducible exact LeO.refl _)
      | (with_reducible exact LeO.none _)
      | (with_reducible refine LeO.ite ?_ ?_)
      | (with_reducible refine LeO.bind ?_ (fun _ => ?_))
      | exact ih0 _ _ _ _
      | exact ih1 _ _ _ _
      | exact tattinglaw15_awake.mono _
      | exact tattinglaw15_rising.mono _ _
      | exact tattingref1_SameInts.mono _ _ _
      | exact thresh_Put.mono _ _ _
      | exact LeO.none _
      | refine LeO.ite ?_ ?_
      | refine LeO.bind ?_ (fun _ => ?_)
    · intro y0 y1 y2 y3
      unfold tattinglaw15_ThreshLess.l0
      repeat' first
      | (with_reducible exact ih0 _ _ _ _)
      | (with_reducible exact ih1 _ _ _ _)
      | (with_reducible exact tattinglaw15_awake.mono _)
      | (with_reducible exact tattinglaw15_rising.mono _ _)
      | (with_reducible exact tattingref1_SameInts.mono _ _ _)
      | (with_reducible exact thresh_Put.mono _ _ _)
      | (with_reducible exact LeO.refl _)
      | (with_reducible exact LeO.none _)
      | (with_reducible refine LeO.ite ?_ ?_)
      | (with_reducible refine LeO.bind ?_ (fun _ => ?_))
      | exact ih0 _ _ _ _
      | exact ih1 _ _ _ _
      | exact tattinglaw15_awake.mono _
      | exact tattinglaw15_rising.mono _ _
      | exact tattingref1_SameInts.mono _ _ _
      | exact thresh_Put.mono _ _ _
      | exact LeO.none _
      | refine LeO.ite ?_ ?_
      | refine LeO.bind ?_ (fun _ => ?_)
theorem tattinglaw15_ThreshLess.mono : ∀ a0 a1 k, LeO (tattinglaw15_ThreshLess.f k a0 a1) (tattinglaw15_ThreshLess.f (k + 1) a0 a1) := by
  intro a0 a1 k
  obtain ⟨ih0, ih1⟩ := tattinglaw15_ThreshLess.mono_l k
  unfold tattinglaw15_ThreshLess.f
  repeat' first
      | (with_reducible exact ih0 _ _ _ _)
      | (with_reducible exact ih1 _ _ _ _)
      | (with_reducible exact tattinglaw15_awake.mono _)
      | (with_reducible exact tattinglaw15_rising.mono _ _)
      | (with_reducible exact tattingref1_SameInts.mono _ _ _)
      | (with_reducible exact thresh_Put.mono _ _ _)
      | (with_reducible exact LeO.refl _)
      | (with_reducible exact LeO.none _)
      | (with_reducible refine LeO.ite ?_ ?_)
      | (with_reducible refine LeO.bind ?_ (fun _ => ?_))
      | exact ih0 _ _ _ _
      | exact ih1 _ _ _ _
      | exact tattinglaw15_awake.mono _
      | exact tattinglaw15_rising.mono _ _
      | exact tattingref1_SameInts.mono _ _ _
      | exact thresh_Put.mono _ _ _
      | exact LeO.none _
      | refine LeO.ite ?_ ?_
      | refine LeO.bind ?_ (fun _ => ?_)
set_option maxHeartbeats 8000000 in
set_option maxRecDepth 100000 in
theorem tattinglaw15_ThreshLess.calls (k : Nat) (A0 : Option Addr) (c0 : Nat) (l0 : List Int) (a1 : Int) (r : Bool) (w : World) (hr0 : Kd.C (Kd.int .i64) w A0 l0.length l0) (hc0 : l0.length ≤ c0) (h : tattinglaw15_ThreshLess.f k l0 a1 = some r) (HRT : Aside0 (r = true)) :
    Calls Try.prog 7 #[.slice A0 l0.length c0, .int .i64 a1] w fun e w' => e = .returned (.bool r) ∧ Below w.heap.size w w' := by
  have HR0 := Aside0.mk hr0
  have HC0 := Aside0.mk hc0
  clear hr0 hc0
  have HB := Aside0.mk (Below.refl w.heap.size w)
  have H : ((tattinglaw15_awake.f k).bind fun t173 => (if t173 = true then (if (l0.length : Int) > 40 then (some true) else ((tattinglaw15_rising.f k l0).bind fun t174 => ((thresh_Put.f k t174 a1).bind fun bt177 => ((thresh_Put.f k bt177.1 a1).bind fun bt181 => (if (bt177.1.length : Int) < (t174.length : Int) then (tattinglaw15_ThreshLess.j0 k t174 bt177.1 bt177.2 true) else (if (bt177.1.length : Int) > (wrap64 ((t174.length : Int) + 1)) then (tattinglaw15_ThreshLess.j0 k t174 bt177.1 bt177.2 true) else (if bt177.2 = bt181.2 then ((tattingref1_SameInts.f k bt177.1 bt181.1).bind fun t185 => (if t185 = true then (if bt177.2 < 0 then (tattinglaw15_ThreshLess.j0 k t174 bt177.1 bt177.2 true) else (if bt177.2 ≥ (bt177.1.length : Int) then (tattinglaw15_ThreshLess.j0 k t174 bt177.1 bt177.2 true) else (if 0 ≤ bt177.2 then (if bt177.2 < (bt177.1.length : Int) then (tattinglaw15_ThreshLess.j0 k t174 bt177.1 bt177.2 ((rd bt177.1 bt177.2) != a1)) else (none)) else (none)))) else (tattinglaw15_ThreshLess.j0 k t174 bt177.1 bt177.2 true))) else (tattinglaw15_ThreshLess.j0 k t174 bt177.1 bt177.2 true)))))))) else (some false))) = some r := h
  clear h
  replace H := Option.bind_eq_some_iff.mp H
  obtain ⟨t173, A30, H⟩ := H
  replace H : (if t173 = true then (if (l0.length : Int) > 40 then (some true) else ((tattinglaw15_rising.f k l0).bind fun t174 => ((thresh_Put.f k t174 a1).bind fun bt177 => ((thresh_Put.f k bt177.1 a1).bind fun bt181 => (if (bt177.1.length : Int) < (t174.length : Int) then (tattinglaw15_ThreshLess.j0 k t174 bt177.1 bt177.2 true) else (if (bt177.1.length : Int) > (wrap64 ((t174.length : Int) + 1)) then (tattinglaw15_ThreshLess.j0 k t174 bt177.1 bt177.2 true) else (if bt177.2 = bt181.2 then ((tattingref1_SameInts.f k bt177.1 bt181.1).bind fun t185 => (if t185 = true then (if bt177.2 < 0 then (tattinglaw15_ThreshLess.j0 k t174 bt177.1 bt177.2 true) else (if bt177.2 ≥ (bt177.1.length : Int) then (tattinglaw15_ThreshLess.j0 k t174 bt177.1 bt177.2 true) else (if 0 ≤ bt177.2 then (if bt177.2 < (bt177.1.length : Int) then (tattinglaw15_ThreshLess.j0 k t174 bt177.1 bt177.2 ((rd bt177.1 bt177.2) != a1)) else (none)) else (none)))) else (tattinglaw15_ThreshLess.j0 k t174 bt177.1 bt177.2 true))) else (tattinglaw15_ThreshLess.j0 k t174 bt177.1 bt177.2 true)))))))) else (some false)) = some r := H
  have A3 := Aside0.mk A30
  clear A30
  by_cases c4 : t173 = true
  · subst c4
    have H1 : (if (l0.length : Int) > 40 then (some true) else ((tattinglaw15_rising.f k l0).bind fun t174 => ((thresh_Put.f k t174 a1).bind fun bt177 => ((thresh_Put.f k bt177.1 a1).bind fun bt181 => (if (bt177.1.length : Int) < (t174.length : Int) then (tattinglaw15_ThreshLess.j0 k t174 bt177.1 bt177.2 true) else (if (bt177.1.length : Int) > (wrap64 ((t174.length : Int) + 1)) then (tattinglaw15_ThreshLess.j0 k t174 bt177.1 bt177.2 true) else (if bt177.2 = bt181.2 then ((tattingref1_SameInts.f k bt177.1 bt181.1).bind fun t185 => (if t185 = true then (if bt177.2 < 0 then (tattinglaw15_ThreshLess.j0 k t174 bt177.1 bt177.2 true) else (if bt177.2 ≥ (bt177.1.length : Int) then (tattinglaw15_ThreshLess.j0 k t174 bt177.1 bt177.2 true) else (if 0 ≤ bt177.2 then (if bt177.2 < (bt177.1.length : Int) then (tattinglaw15_ThreshLess.j0 k t174 bt177.1 bt177.2 ((rd bt177.1 bt177.2) != a1)) else (none)) else (none)))) else (tattinglaw15_ThreshLess.j0 k t174 bt177.1 bt177.2 true))) else (tattinglaw15_ThreshLess.j0 k t174 bt177.1 bt177.2 true)))))))) = some r := by rw [if_pos rfl] at H; exact H
    clear H
    have H := H1
    clear H1
    by_cases c5 : (l0.length : Int) > 40
    · rw [if_pos c5] at H
      have c5b0 : decide (40 < (l0.length : Int)) = true := decide_eq_true c5
      have c5b1 : decide (40 < l0.length) = true := decide_eq_true (by omega)
      clear c5
      obtain rfl := Option.some.inj H
      go_enter Try.func7, Try.ntmps7
      go_wp2_with (first | (go_at_call 9; (with_reducible refine (tattinglaw15_awake.calls k  true _ A3.out).mono ?_); rintro e w6 ⟨rfl, hb⟩; have n0_ := Aside0.mk (below_step (by repeat (first | (with_reducible first | exact HB.out | apply below_alloc | apply pw_below_drewN | apply below_drew1) | exact HB.out)) hb); clear HB; have HB := n0_; clear n0_; (try clear hb); (try clear hb2); (try clear hk); (try clear hi)))
      repeat (go_quiet (first | (go_at_call 9; (with_reducible refine (tattinglaw15_awake.calls k  true _ A3.out).mono ?_); rintro e w6 ⟨rfl, hb⟩; have n0_ := Aside0.mk (below_step (by repeat (first | (with_reducible first | exact HB.out | apply below_alloc | apply pw_below_drewN | apply below_drew1) | exact HB.out)) hb); clear HB; have HB := n0_; clear n0_; (try clear hb); (try clear hb2); (try clear hk); (try clear hi))); try go_wp2_with (first | (go_at_call 9; (with_reducible refine (tattinglaw15_awake.calls k  true _ A3.out).mono ?_); rintro e w6 ⟨rfl, hb⟩; have n0_ := Aside0.mk (below_step (by repeat (first | (with_reducible first | exact HB.out | apply below_alloc | apply pw_below_drewN | apply below_drew1) | exact HB.out)) hb); clear HB; have HB := n0_; clear n0_; (try clear hb); (try clear hb2); (try clear hk); (try clear hi))))
      go_ret
      exact ⟨by first | rfl | (simp [errW_none, errW_some] <;> rfl) | (simp [*, errW_none, errW_some] <;> rfl), by repeat (first | (with_reducible first | exact HB.out | apply below_alloc | apply pw_below_drewN | apply below_drew1) | exact HB.out)⟩
    · rw [if_neg c5] at H
      have c5b0 : decide (40 < (l0.length : Int)) = false := decide_eq_false c5
      have c5b1 : decide (40 < l0.length) = false := decide_eq_false (by omega)
      clear c5
      replace H := Option.bind_eq_some_iff.mp H
      obtain ⟨t174, A70, H⟩ := H
      replace H : ((thresh_Put.f k t174 a1).bind fun bt177 => ((thresh_Put.f k bt177.1 a1).bind fun bt181 => (if (bt177.1.length : Int) < (t174.length : Int) then (tattinglaw15_ThreshLess.j0 k t174 bt177.1 bt177.2 true) else (if (bt177.1.length : Int) > (wrap64 ((t174.length : Int) + 1)) then (tattinglaw15_ThreshLess.j0 k t174 bt177.1 bt177.2 true) else (if bt177.2 = bt181.2 then ((tattingref1_SameInts.f k bt177.1 bt181.1).bind fun t185 => (if t185 = true then (if bt177.2 < 0 then (tattinglaw15_ThreshLess.j0 k t174 bt177.1 bt177.2 true) else (if bt177.2 ≥ (bt177.1.length : Int) then (tattinglaw15_ThreshLess.j0 k t174 bt177.1 bt177.2 true) else (if 0 ≤ bt177.2 then (if bt177.2 < (bt177.1.length : Int) then (tattinglaw15_ThreshLess.j0 k t174 bt177.1 bt177.2 ((rd bt177.1 bt177.2) != a1)) else (none)) else (none)))) else (tattinglaw15_ThreshLess.j0 k t174 bt177.1 bt177.2 true))) else (tattinglaw15_ThreshLess.j0 k t174 bt177.1 bt177.2 true)))))) = some r := H
      have A7 := Aside0.mk A70
      clear A70
      replace H := Option.bind_eq_some_iff.mp H
      obtain ⟨⟨t177, t178⟩, A80, H⟩ := H
      replace H : ((thresh_Put.f k t177 a1).bind fun bt181 => (if (t177.length : Int) < (t174.length : Int) then (tattinglaw15_ThreshLess.j0 k t174 t177 t178 true) else (if (t177.length : Int) > (wrap64 ((t174.length : Int) + 1)) then (tattinglaw15_ThreshLess.j0 k t174 t177 t178 true) else (if t178 = bt181.2 then ((tattingref1_SameInts.f k t177 bt181.1).bind fun t185 => (if t185 = true then (if t178 < 0 then (tattinglaw15_ThreshLess.j0 k t174 t177 t178 true) else (if t178 ≥ (t177.length : Int) then (tattinglaw15_ThreshLess.j0 k t174 t177 t178 true) else (if 0 ≤ t178 then (if t178 < (t177.length : Int) then (tattinglaw15_ThreshLess.j0 k t174 t177 t178 ((rd t177 t178) != a1)) else (none)) else (none)))) else (tattinglaw15_ThreshLess.j0 k t174 t177 t178 true))) else (tattinglaw15_ThreshLess.j0 k t174 t177 t178 true))))) = some r := H
      have A8 := Aside0.mk A80
      clear A80
      replace H := Option.bind_eq_some_iff.mp H
      obtain ⟨⟨t181, t182⟩, A90, H⟩ := H
      replace H : (if (t177.length : Int) < (t174.length : Int) then (tattinglaw15_ThreshLess.j0 k t174 t177 t178 true) else (if (t177.length : Int) > (wrap64 ((t174.length : Int) + 1)) then (tattinglaw15_ThreshLess.j0 k t174 t177 t178 true) else (if t178 = t182 then ((tattingref1_SameInts.f k t177 t181).bind fun t185 => (if t185 = true then (if t178 < 0 then (tattinglaw15_ThreshLess.j0 k t174 t177 t178 true) else (if t178 ≥ (t177.length : Int) then (tattinglaw15_ThreshLess.j0 k t174 t177 t178 true) else (if 0 ≤ t178 then (if t178 < (t177.length : Int) then (tattinglaw15_ThreshLess.j0 k t174 t177 t178 ((rd t177 t178) != a1)) else (none)) else (none)))) else (tattinglaw15_ThreshLess.j0 k t174 t177 t178 true))) else (tattinglaw15_ThreshLess.j0 k t174 t177 t178 true)))) = some r := H
      have A9 := Aside0.mk A90
      clear A90
      have HC10 := Aside0.mk H
      clear H
      go_enter Try.func7, Try.ntmps7
      go_upto_region 8 with (first | (go_at_call 9; (with_reducible refine (tattinglaw15_awake.calls k  true _ A3.out).mono ?_); rintro e w11 ⟨rfl, hb⟩; have n0_ := Aside0.mk (below_step (by repeat (first | (with_reducible first | exact HB.out | apply below_alloc | apply pw_below_drewN | apply below_drew1) | exact HB.out)) hb); clear HB; have HB := n0_; clear n0_; (try clear hb); (try clear hb2); (try clear hk); (try clear hi)) | (go_at_call 13; (with_reducible refine (tattinglaw15_rising.calls k _ _ l0 t174 _ ?side1 ?side2 A7.out).mono ?_); (case side1 => repeat (first | exact (Kd.C_below HR0.out HB.out) | (with_reducible refine Kd.C_alloc ?_ _) | (with_reducible refine Kd.C_drewN ?_ _) | (with_reducible refine Kd.C_drew ?_))); (case side2 => exact HC0.out); rintro e w12 ⟨v175, rfl, ho0, hb⟩; have n0_ := Aside0.mk (Kd.R_lower ho0 (below_size (by repeat (first | (with_reducible first | exact HB.out | apply below_alloc | apply pw_below_drewN | apply below_drew1) | exact HB.out)))); have n1_ := Aside0.mk (below_step (by repeat (first | (with_reducible first | exact HB.out | apply below_alloc | apply pw_below_drewN | apply below_drew1) | exact HB.out)) hb); clear HB; have HO176 := n0_; have HB := n1_; clear n0_ n1_; (try clear hb); (try clear hb2); (try clear hk); (try clear hi); (try clear ho0); obtain ⟨Ao13, co13, eo13⟩ := Kd.R_slice HO176.out; subst eo13) | (go_at_call 8; (with_reducible refine (thresh_Put.calls k _ _ t174 a1 t177 t178 _ ?side1 ?side2 A8.out).mono ?_); (case side1 => repeat (first | exact (Kd.R_reads' HO176.out).2.2 | (with_reducible refine Kd.C_alloc ?_ _) | (with_reducible refine Kd.C_drewN ?_ _) | (with_reducible refine Kd.C_drew ?_))); (case side2 => exact (Kd.R_reads' HO176.out).2.1); rintro e w14 ⟨v179, rfl, ho0, hb⟩; have n0_ := Aside0.mk (Kd.R_elder' (by (with_reducible repeat (first | apply Kd.R_alloc | apply Kd.R_drewN | apply Kd.R_drew)); exact HO176.out) (Kd.R_base ho0) hb); have n1_ := Aside0.mk (Kd.R_lower (Kd.R_new' ho0 (Kd.R_lt (by (with_reducible repeat (first | apply Kd.R_alloc | apply Kd.R_drewN | apply Kd.R_drew)); exact HO176.out))) (below_size (by repeat (first | (with_reducible first | exact HB.out | apply below_alloc | apply pw_below_drewN | apply below_drew1) | exact HB.out)))); have n2_ := Aside0.mk (below_step (by repeat (first | (with_reducible first | exact HB.out | apply below_alloc | apply pw_below_drewN | apply below_drew1) | exact HB.out)) hb); clear HO176; clear HB; have HO176 := n0_; have HO180 := n1_; have HB := n2_; clear n0_ n1_ n2_; (try clear hb); (try clear hb2); (try clear hk); (try clear hi); (try clear ho0); obtain ⟨Ao15, co15, eo15⟩ := Kd.R_slice HO180.out; subst eo15) | (go_at_call 8; (with_reducible refine (thresh_Put.calls k _ _ t177 a1 t181 t182 _ ?side1 ?side2 A9.out).mono ?_); (case side1 => repeat (first | exact (Kd.R_reads' HO180.out).2.2 | (with_reducible refine Kd.C_alloc ?_ _) | (with_reducible refine Kd.C_drewN ?_ _) | (with_reducible refine Kd.C_drew ?_))); (case side2 => exact (Kd.R_reads' HO180.out).2.1); rintro e w16 ⟨v183, rfl, ho0, hb⟩; have n0_ := Aside0.mk (Kd.R_elder' (by (with_reducible repeat (first | apply Kd.R_alloc | apply Kd.R_drewN | apply Kd.R_drew)); exact HO176.out) (Kd.R_base ho0) hb); have n1_ := Aside0.mk (Kd.R_elder' (by (with_reducible repeat (first | apply Kd.R_alloc | apply Kd.R_drewN | apply Kd.R_drew)); exact HO180.out) (Kd.R_base ho0) hb); have n2_ := Aside0.mk (Kd.R_lower (Kd.R_new' (Kd.R_new' ho0 (Kd.R_lt (by (with_reducible repeat (first | apply Kd.R_alloc | apply Kd.R_drewN | apply Kd.R_drew)); exact HO176.out))) (Kd.R_lt (by (with_reducible repeat (first | apply Kd.R_alloc | apply Kd.R_drewN | apply Kd.R_drew)); exact HO180.out))) (below_size (by repeat (first | (with_reducible first | exact HB.out | apply below_alloc | apply pw_below_drewN | apply below_drew1) | exact HB.out)))); have n3_ := Aside0.mk (below_step (by repeat (first | (with_reducible first | exact HB.out | apply below_alloc | apply pw_below_drewN | apply below_drew1) | exact HB.out)) hb); clear HO176; clear HO180; clear HB; have HO176 := n0_; have HO180 := n1_; have HO184 := n2_; have HB := n3_; clear n0_ n1_ n2_ n3_; (try clear hb); (try clear hb2); (try clear hk); (try clear hi); (try clear ho0)))
      repeat (go_quiet (first | (go_at_call 9; (with_reducible refine (tattinglaw15_awake.calls k  true _ A3.out).mono ?_); rintro e w11 ⟨rfl, hb⟩; have n0_ := Aside0.mk (below_step (by repeat (first | (with_reducible first | exact HB.out | apply below_alloc | apply pw_below_drewN | apply below_drew1) | exact HB.out)) hb); clear HB; have HB := n0_; clear n0_; (try clear hb); (try clear hb2); (try clear hk); (try clear hi)) | (go_at_call 13; (with_reducible refine (tattinglaw15_rising.calls k _ _ l0 t174 _ ?side1 ?side2 A7.out).mono ?_); (case side1 => repeat (first | exact (Kd.C_below HR0.out HB.out) | (with_reducible refine Kd.C_alloc ?_ _) | (with_reducible refine Kd.C_drewN ?_ _) | (with_reducible refine Kd.C_drew ?_))); (case side2 => exact HC0.out); rintro e w12 ⟨v175, rfl, ho0, hb⟩; have n0_ := Aside0.mk (Kd.R_lower ho0 (below_size (by repeat (first | (with_reducible first | exact HB.out | apply below_alloc | apply pw_below_drewN | apply below_drew1) | exact HB.out)))); have n1_ := Aside0.mk (below_step (by repeat (first | (with_reducible first | exact HB.out | apply below_alloc | apply pw_below_drewN | apply below_drew1) | exact HB.out)) hb); clear HB; have HO176 := n0_; have HB := n1_; clear n0_ n1_; (try clear hb); (try clear hb2); (try clear hk); (try clear hi); (try clear ho0); obtain ⟨Ao13, co13, eo13⟩ := Kd.R_slice HO176.out; subst eo13) | (go_at_call 8; (with_reducible refine (thresh_Put.calls k _ _ t174 a1 t177 t178 _ ?side1 ?side2 A8.out).mono ?_); (case side1 => repeat (first | exact (Kd.R_reads' HO176.out).2.2 | (with_reducible refine Kd.C_alloc ?_ _) | (with_reducible refine Kd.C_drewN ?_ _) | (with_reducible refine Kd.C_drew ?_))); (case side2 => exact (Kd.R_reads' HO176.out).2.1); rintro e w14 ⟨v179, rfl, ho0, hb⟩; have n0_ := Aside0.mk (Kd.R_elder' (by (with_reducible repeat (first | apply Kd.R_alloc | apply Kd.R_drewN | apply Kd.R_drew)); exact HO176.out) (Kd.R_base ho0) hb); have n1_ := Aside0.mk (Kd.R_lower (Kd.R_new' ho0 (Kd.R_lt (by (with_reducible repeat (first | apply Kd.R_alloc | apply Kd.R_drewN | apply Kd.R_drew)); exact HO176.out))) (below_size (by repeat (first | (with_reducible first | exact HB.out | apply below_alloc | apply pw_below_drewN | apply below_drew1) | exact HB.out)))); have n2_ := Aside0.mk (below_step (by repeat (first | (with_reducible first | exact HB.out | apply below_alloc | apply pw_below_drewN | apply below_drew1) | exact HB.out)) hb); clear HO176; clear HB; have HO176 := n0_; have HO180 := n1_; have HB := n2_; clear n0_ n1_ n2_; (try clear hb); (try clear hb2); (try clear hk); (try clear hi); (try clear ho0); obtain ⟨Ao15, co15, eo15⟩ := Kd.R_slice HO180.out; subst eo15) | (go_at_call 8; (with_reducible refine (thresh_Put.calls k _ _ t177 a1 t181 t182 _ ?side1 ?side2 A9.out).mono ?_); (case side1 => repeat (first | exact (Kd.R_reads' HO180.out).2.2 | (with_reducible refine Kd.C_alloc ?_ _) | (with_reducible refine Kd.C_drewN ?_ _) | (with_reducible refine Kd.C_drew ?_))); (case side2 => exact (Kd.R_reads' HO180.out).2.1); rintro e w16 ⟨v183, rfl, ho0, hb⟩; have n0_ := Aside0.mk (Kd.R_elder' (by (with_reducible repeat (first | apply Kd.R_alloc | apply Kd.R_drewN | apply Kd.R_drew)); exact HO176.out) (Kd.R_base ho0) hb); have n1_ := Aside0.mk (Kd.R_elder' (by (with_reducible repeat (first | apply Kd.R_alloc | apply Kd.R_drewN | apply Kd.R_drew)); exact HO180.out) (Kd.R_base ho0) hb); have n2_ := Aside0.mk (Kd.R_lower (Kd.R_new' (Kd.R_new' ho0 (Kd.R_lt (by (with_reducible repeat (first | apply Kd.R_alloc | apply Kd.R_drewN | apply Kd.R_drew)); exact HO176.out))) (Kd.R_lt (by (with_reducible repeat (first | apply Kd.R_alloc | apply Kd.R_drewN | apply Kd.R_drew)); exact HO180.out))) (below_size (by repeat (first | (with_reducible first | exact HB.out | apply below_alloc | apply pw_below_drewN | apply below_drew1) | exact HB.out)))); have n3_ := Aside0.mk (below_step (by repeat (first | (with_reducible first | exact HB.out | apply below_alloc | apply pw_below_drewN | apply below_drew1) | exact HB.out)) hb); clear HO176; clear HO180; clear HB; have HO176 := n0_; have HO180 := n1_; have HO184 := n2_; have HB := n3_; clear n0_ n1_ n2_ n3_; (try clear hb); (try clear hb2); (try clear hk); (try clear hi); (try clear ho0))); go_upto_region 8 with (first | (go_at_call 9; (with_reducible refine (tattinglaw15_awake.calls k  true _ A3.out).mono ?_); rintro e w11 ⟨rfl, hb⟩; have n0_ := Aside0.mk (below_step (by repeat (first | (with_reducible first | exact HB.out | apply below_alloc | apply pw_below_drewN | apply below_drew1) | exact HB.out)) hb); clear HB; have HB := n0_; clear n0_; (try clear hb); (try clear hb2); (try clear hk); (try clear hi)) | (go_at_call 13; (with_reducible refine (tattinglaw15_rising.calls k _ _ l0 t174 _ ?side1 ?side2 A7.out).mono ?_); (case side1 => repeat (first | exact (Kd.C_below HR0.out HB.out) | (with_reducible refine Kd.C_alloc ?_ _) | (with_reducible refine Kd.C_drewN ?_ _) | (with_reducible refine Kd.C_drew ?_))); (case side2 => exact HC0.out); rintro e w12 ⟨v175, rfl, ho0, hb⟩; have n0_ := Aside0.mk (Kd.R_lower ho0 (below_size (by repeat (first | (with_reducible first | exact HB.out | apply below_alloc | apply pw_below_drewN | apply below_drew1) | exact HB.out)))); have n1_ := Aside0.mk (below_step (by repeat (first | (with_reducible first | exact HB.out | apply below_alloc | apply pw_below_drewN | apply below_drew1) | exact HB.out)) hb); clear HB; have HO176 := n0_; have HB := n1_; clear n0_ n1_; (try clear hb); (try clear hb2); (try clear hk); (try clear hi); (try clear ho0); obtain ⟨Ao13, co13, eo13⟩ := Kd.R_slice HO176.out; subst eo13) | (go_at_call 8; (with_reducible refine (thresh_Put.calls k _ _ t174 a1 t177 t178 _ ?side1 ?side2 A8.out).mono ?_); (case side1 => repeat (first | exact (Kd.R_reads' HO176.out).2.2 | (with_reducible refine Kd.C_alloc ?_ _) | (with_reducible refine Kd.C_drewN ?_ _) | (with_reducible refine Kd.C_drew ?_))); (case side2 => exact (Kd.R_reads' HO176.out).2.1); rintro e w14 ⟨v179, rfl, ho0, hb⟩; have n0_ := Aside0.mk (Kd.R_elder' (by (with_reducible repeat (first | apply Kd.R_alloc | apply Kd.R_drewN | apply Kd.R_drew)); exact HO176.out) (Kd.R_base ho0) hb); have n1_ := Aside0.mk (Kd.R_lower (Kd.R_new' ho0 (Kd.R_lt (by (with_reducible repeat (first | apply Kd.R_alloc | apply Kd.R_drewN | apply Kd.R_drew)); exact HO176.out))) (below_size (by repeat (first | (with_reducible first | exact HB.out | apply below_alloc | apply pw_below_drewN | apply below_drew1) | exact HB.out)))); have n2_ := Aside0.mk (below_step (by repeat (first | (with_reducible first | exact HB.out | apply below_alloc | apply pw_below_drewN | apply below_drew1) | exact HB.out)) hb); clear HO176; clear HB; have HO176 := n0_; have HO180 := n1_; have HB := n2_; clear n0_ n1_ n2_; (try clear hb); (try clear hb2); (try clear hk); (try clear hi); (try clear ho0); obtain ⟨Ao15, co15, eo15⟩ := Kd.R_slice HO180.out; subst eo15) | (go_at_call 8; (with_reducible refine (thresh_Put.calls k _ _ t177 a1 t181 t182 _ ?side1 ?side2 A9.out).mono ?_); (case side1 => repeat (first | exact (Kd.R_reads' HO180.out).2.2 | (with_reducible refine Kd.C_alloc ?_ _) | (with_reducible refine Kd.C_drewN ?_ _) | (with_reducible refine Kd.C_drew ?_))); (case side2 => exact (Kd.R_reads' HO180.out).2.1); rintro e w16 ⟨v183, rfl, ho0, hb⟩; have n0_ := Aside0.mk (Kd.R_elder' (by (with_reducible repeat (first | apply Kd.R_alloc | apply Kd.R_drewN | apply Kd.R_drew)); exact HO176.out) (Kd.R_base ho0) hb); have n1_ := Aside0.mk (Kd.R_elder' (by (with_reducible repeat (first | apply Kd.R_alloc | apply Kd.R_drewN | apply Kd.R_drew)); exact HO180.out) (Kd.R_base ho0) hb); have n2_ := Aside0.mk (Kd.R_lower (Kd.R_new' (Kd.R_new' ho0 (Kd.R_lt (by (with_reducible repeat (first | apply Kd.R_alloc | apply Kd.R_drewN | apply Kd.R_drew)); exact HO176.out))) (Kd.R_lt (by (with_reducible repeat (first | apply Kd.R_alloc | apply Kd.R_drewN | apply Kd.R_drew)); exact HO180.out))) (below_size (by repeat (first | (with_reducible first | exact HB.out | apply below_alloc | apply pw_below_drewN | apply below_drew1) | exact HB.out)))); have n3_ := Aside0.mk (below_step (by repeat (first | (with_reducible first | exact HB.out | apply below_alloc | apply pw_below_drewN | apply below_drew1) | exact HB.out)) hb); clear HO176; clear HO180; clear HB; have HO176 := n0_; have HO180 := n1_; have HO184 := n2_; have HB := n3_; clear n0_ n1_ n2_ n3_; (try clear hb); (try clear hb2); (try clear hk); (try clear hi); (try clear ho0))))
      (try simp only [Act.put, List.setIfInBounds_toArray, List.set_cons_zero, List.set_cons_succ])
      go_cut [71] (fun v71 wc => ∃ (kq : Nat) (x71_9 : Bool), v71 = .bool x71_9 ∧ Aside0 (tattinglaw15_ThreshLess.j0 kq t174 t177 t178 x71_9 = some r) ∧ Aside0 (kq ≤ k) ∧ Aside0 (Kd.R (Kd.int .i64) 3 wc w.heap.size (fun k_ => some k_ ≠ ((.slice Ao15 t177.length co15) : Value).ownBlock) (.slice Ao13 t174.length co13) t174) ∧ Aside0 (Kd.R (Kd.int .i64) 3 wc w.heap.size (fun k_ => some k_ ≠ ((.slice Ao13 t174.length co13) : Value).ownBlock) (.slice Ao15 t177.length co15) t177) ∧ Aside0 (Below w.heap.size w wc))
      case first =>
        have H := HC10.out
        clear HC10
        by_cases c17 : (t177.length : Int) < (t174.length : Int)
        · rw [if_pos c17] at H
          have c17b0 : decide ((t177.length : Int) < (t174.length : Int)) = true := decide_eq_true c17
          have c17b1 : decide (t177.length < t174.length) = true := decide_eq_true (Int.ofNat_lt.mp c17)
          clear c17
          (first | rw [c17b0] | (simp only [i64_w, i32_w]; rw [c17b0]) | skip)
          have H' := Aside0.mk H
          clear H
          go_wp2
          repeat (go_quiet (fail); try go_wp2)
          go_meet
          case rel => exact ⟨_, (true), (by first | rfl | (simp; done) | (simp [*]; done)), H', ⟨by first | omega | exact Nat.le_refl _⟩, ⟨by (with_reducible repeat (first | apply Kd.R_alloc | apply Kd.R_drewN | apply Kd.R_drew)); exact Kd.R_mono HO176.out (fun _ hk => hk.1.2)⟩, ⟨by (with_reducible repeat (first | apply Kd.R_alloc | apply Kd.R_drewN | apply Kd.R_drew)); exact Kd.R_mono HO180.out (fun _ hk => hk.1.2)⟩, ⟨by repeat (first | (with_reducible first | exact HB.out | apply below_alloc | apply pw_below_drewN | apply below_drew1) | exact HB.out)⟩⟩
        · rw [if_neg c17] at H
          have c17b0 : decide ((t177.length : Int) < (t174.length : Int)) = false := decide_eq_false c17
          have c17b1 : decide (t177.length < t174.length) = false := decide_eq_false (fun h => c17 (Int.ofNat_lt.mpr h))
          clear c17
          (first | rw [c17b0] | (simp only [i64_w, i32_w]; rw [c17b0]) | skip)
          by_cases c18 : (t177.length : Int) > (wrap64 ((t174.length : Int) + 1))
          · rw [if_pos c18] at H
            have c18b0 : decide ((wrap64 ((t174.length : Int) + 1)) < (t177.length : Int)) = true := decide_eq_true c18
            clear c18
            have H' := Aside0.mk H
            clear H
            go_wp2
            repeat (go_quiet (fail); try go_wp2)
            go_meet
            case rel => exact ⟨_, (true), (by first | rfl | (simp; done) | (simp [*]; done)), H', ⟨by first | omega | exact Nat.le_refl _⟩, ⟨by (with_reducible repeat (first | apply Kd.R_alloc | apply Kd.R_drewN | apply Kd.R_drew)); exact Kd.R_mono HO176.out (fun _ hk => hk.1.2)⟩, ⟨by (with_reducible repeat (first | apply Kd.R_alloc | apply Kd.R_drewN | apply Kd.R_drew)); exact Kd.R_mono HO180.out (fun _ hk => hk.1.2)⟩, ⟨by repeat (first | (with_reducible first | exact HB.out | apply below_alloc | apply pw_below_drewN | apply below_drew1) | exact HB.out)⟩⟩
          · rw [if_neg c18] at H
            have c18b0 : decide ((wrap64 ((t174.length : Int) + 1)) < (t177.length : Int)) = false := decide_eq_false c18
            clear c18
            by_cases c19 : t178 = t182
            · rw [if_pos c19] at H
              have c19b0 : (t178 == t182) = true := beq_iff_eq.mpr c19
              have c19b1 : (t178 != t182) = false := bne_eq_false_iff_eq.mpr c19
              clear c19
              replace H := Option.bind_eq_some_iff.mp H
              obtain ⟨t185, A200, H⟩ := H
              replace H : (if t185 = true then (if t178 < 0 then (tattinglaw15_ThreshLess.j0 k t174 t177 t178 true) else (if t178 ≥ (t177.length : Int) then (tattinglaw15_ThreshLess.j0 k t174 t177 t178 true) else (if 0 ≤ t178 then (if t178 < (t177.length : Int) then (tattinglaw15_ThreshLess.j0 k t174 t177 t178 ((rd t177 t178) != a1)) else (none)) else (none)))) else (tattinglaw15_ThreshLess.j0 k t174 t177 t178 true)) = some r := H
              have A20 := Aside0.mk A200
              clear A200
              by_cases c21 : t185 = true
              · subst c21
                have H1 : (if t178 < 0 then (tattinglaw15_ThreshLess.j0 k t174 t177 t178 true) else (if t178 ≥ (t177.length : Int) then (tattinglaw15_ThreshLess.j0 k t174 t177 t178 true) else (if 0 ≤ t178 then (if t178 < (t177.length : Int) then (tattinglaw15_ThreshLess.j0 k t174 t177 t178 ((rd t177 t178) != a1)) else (none)) else (none)))) = some r := by rw [if_pos rfl] at H; exact H
                clear H
                have H := H1
                clear H1
                by_cases c22 : t178 < 0
                · rw [if_pos c22] at H
                  have c22b0 : decide (t178 < 0) = true := decide_eq_true c22
                  clear c22
                  have H' := Aside0.mk H
                  clear H
                  obtain ⟨Ao23, co23, eo23⟩ := Kd.R_slice HO184.out
                  subst eo23
                  go_wp2_with (first | (go_at_call 10; (with_reducible refine (tattingref1_SameInts.calls k _ _ t177 _ _ t181 true _ ?side1 ?side2 ?side3 ?side4 A20.out).mono ?_); (case side1 => repeat (first | exact (Kd.R_reads' HO180.out).2.2 | (with_reducible refine Kd.C_alloc ?_ _) | (with_reducible refine Kd.C_drewN ?_ _) | (with_reducible refine Kd.C_drew ?_))); (case side2 => exact (Kd.R_reads' HO180.out).2.1); (case side3 => repeat (first | exact (Kd.R_reads' HO184.out).2.2 | (with_reducible refine Kd.C_alloc ?_ _) | (with_reducible refine Kd.C_drewN ?_ _) | (with_reducible refine Kd.C_drew ?_))); (case side4 => exact (Kd.R_reads' HO184.out).2.1); rintro e w' ⟨rfl, ⟨nd, rfl⟩⟩; (try first | exact ⟨rfl, _, World.drewN_drewN _ _ _⟩ | exact ⟨rfl, _, Eq.trans (World.drewN_drewN _ _ _) (congrArg (World.drewN _) (Nat.add_assoc _ _ _))⟩)))
                  repeat (go_quiet (first | (go_at_call 10; (with_reducible refine (tattingref1_SameInts.calls k _ _ t177 _ _ t181 true _ ?side1 ?side2 ?side3 ?side4 A20.out).mono ?_); (case side1 => repeat (first | exact (Kd.R_reads' HO180.out).2.2 | (with_reducible refine Kd.C_alloc ?_ _) | (with_reducible refine Kd.C_drewN ?_ _) | (with_reducible refine Kd.C_drew ?_))); (case side2 => exact (Kd.R_reads' HO180.out).2.1); (case side3 => repeat (first | exact (Kd.R_reads' HO184.out).2.2 | (with_reducible refine Kd.C_alloc ?_ _) | (with_reducible refine Kd.C_drewN ?_ _) | (with_reducible refine Kd.C_drew ?_))); (case side4 => exact (Kd.R_reads' HO184.out).2.1); rintro e w' ⟨rfl, ⟨nd, rfl⟩⟩; (try first | exact ⟨rfl, _, World.drewN_drewN _ _ _⟩ | exact ⟨rfl, _, Eq.trans (World.drewN_drewN _ _ _) (congrArg (World.drewN _) (Nat.add_assoc _ _ _))⟩))); try go_wp2_with (first | (go_at_call 10; (with_reducible refine (tattingref1_SameInts.calls k _ _ t177 _ _ t181 true _ ?side1 ?side2 ?side3 ?side4 A20.out).mono ?_); (case side1 => repeat (first | exact (Kd.R_reads' HO180.out).2.2 | (with_reducible refine Kd.C_alloc ?_ _) | (with_reducible refine Kd.C_drewN ?_ _) | (with_reducible refine Kd.C_drew ?_))); (case side2 => exact (Kd.R_reads' HO180.out).2.1); (case side3 => repeat (first | exact (Kd.R_reads' HO184.out).2.2 | (with_reducible refine Kd.C_alloc ?_ _) | (with_reducible refine Kd.C_drewN ?_ _) | (with_reducible refine Kd.C_drew ?_))); (case side4 => exact (Kd.R_reads' HO184.out).2.1); rintro e w' ⟨rfl, ⟨nd, rfl⟩⟩; (try first | exact ⟨rfl, _, World.drewN_drewN _ _ _⟩ | exact ⟨rfl, _, Eq.trans (World.drewN_drewN _ _ _) (congrArg (World.drewN _) (Nat.add_assoc _ _ _))⟩))))
                  go_meet
                  case rel => exact ⟨_, (true), (by first | rfl | (simp; done) | (simp [*]; done)), H', ⟨by first | omega | exact Nat.le_refl _⟩, ⟨by (with_reducible repeat (first | apply Kd.R_alloc | apply Kd.R_drewN | apply Kd.R_drew)); exact Kd.R_mono HO176.out (fun _ hk => hk.1.2)⟩, ⟨by (with_reducible repeat (first | apply Kd.R_alloc | apply Kd.R_drewN | apply Kd.R_drew)); exact Kd.R_mono HO180.out (fun _ hk => hk.1.2)⟩, ⟨by repeat (first | (with_reducible first | exact HB.out | apply below_alloc | apply pw_below_drewN | apply below_drew1) | exact HB.out)⟩⟩
                · rw [if_neg c22] at H
                  have c22b0 : decide (t178 < 0) = false := decide_eq_false c22
                  clear c22
                  by_cases c24 : t178 ≥ (t177.length : Int)
                  · rw [if_pos c24] at H
                    have c24b0 : decide ((t177.length : Int) ≤ t178) = true := decide_eq_true c24
                    clear c24
                    have H' := Aside0.mk H
                    clear H
                    obtain ⟨Ao25, co25, eo25⟩ := Kd.R_slice HO184.out
                    subst eo25
                    go_wp2_with (first | (go_at_call 10; (with_reducible refine (tattingref1_SameInts.calls k _ _ t177 _ _ t181 true _ ?side1 ?side2 ?side3 ?side4 A20.out).mono ?_); (case side1 => repeat (first | exact (Kd.R_reads' HO180.out).2.2 | (with_reducible refine Kd.C_alloc ?_ _) | (with_reducible refine Kd.C_drewN ?_ _) | (with_reducible refine Kd.C_drew ?_))); (case side2 => exact (Kd.R_reads' HO180.out).2.1); (case side3 => repeat (first | exact (Kd.R_reads' HO184.out).2.2 | (with_reducible refine Kd.C_alloc ?_ _) | (with_reducible refine Kd.C_drewN ?_ _) | (with_reducible refine Kd.C_drew ?_))); (case side4 => exact (Kd.R_reads' HO184.out).2.1); rintro e w' ⟨rfl, ⟨nd, rfl⟩⟩; (try first | exact ⟨rfl, _, World.drewN_drewN _ _ _⟩ | exact ⟨rfl, _, Eq.trans (World.drewN_drewN _ _ _) (congrArg (World.drewN _) (Nat.add_assoc _ _ _))⟩)))
                    repeat (go_quiet (first | (go_at_call 10; (with_reducible refine (tattingref1_SameInts.calls k _ _ t177 _ _ t181 true _ ?side1 ?side2 ?side3 ?side4 A20.out).mono ?_); (case side1 => repeat (first | exact (Kd.R_reads' HO180.out).2.2 | (with_reducible refine Kd.C_alloc ?_ _) | (with_reducible refine Kd.C_drewN ?_ _) | (with_reducible refine Kd.C_drew ?_))); (case side2 => exact (Kd.R_reads' HO180.out).2.1); (case side3 => repeat (first | exact (Kd.R_reads' HO184.out).2.2 | (with_reducible refine Kd.C_alloc ?_ _) | (with_reducible refine Kd.C_drewN ?_ _) | (with_reducible refine Kd.C_drew ?_))); (case side4 => exact (Kd.R_reads' HO184.out).2.1); rintro e w' ⟨rfl, ⟨nd, rfl⟩⟩; (try first | exact ⟨rfl, _, World.drewN_drewN _ _ _⟩ | exact ⟨rfl, _, Eq.trans (World.drewN_drewN _ _ _) (congrArg (World.drewN _) (Nat.add_assoc _ _ _))⟩))); try go_wp2_with (first | (go_at_call 10; (with_reducible refine (tattingref1_SameInts.calls k _ _ t177 _ _ t181 true _ ?side1 ?side2 ?side3 ?side4 A20.out).mono ?_); (case side1 => repeat (first | exact (Kd.R_reads' HO180.out).2.2 | (with_reducible refine Kd.C_alloc ?_ _) | (with_reducible refine Kd.C_drewN ?_ _) | (with_reducible refine Kd.C_drew ?_))); (case side2 => exact (Kd.R_reads' HO180.out).2.1); (case side3 => repeat (first | exact (Kd.R_reads' HO184.out).2.2 | (with_reducible refine Kd.C_alloc ?_ _) | (with_reducible refine Kd.C_drewN ?_ _) | (with_reducible refine Kd.C_drew ?_))); (case side4 => exact (Kd.R_reads' HO184.out).2.1); rintro e w' ⟨rfl, ⟨nd, rfl⟩⟩; (try first | exact ⟨rfl, _, World.drewN_drewN _ _ _⟩ | exact ⟨rfl, _, Eq.trans (World.drewN_drewN _ _ _) (congrArg (World.drewN _) (Nat.add_assoc _ _ _))⟩))))
                    go_meet
                    case rel => exact ⟨_, (true), (by first | rfl | (simp; done) | (simp [*]; done)), H', ⟨by first | omega | exact Nat.le_refl _⟩, ⟨by (with_reducible repeat (first | apply Kd.R_alloc | apply Kd.R_drewN | apply Kd.R_drew)); exact Kd.R_mono HO176.out (fun _ hk => hk.1.2)⟩, ⟨by (with_reducible repeat (first | apply Kd.R_alloc | apply Kd.R_drewN | apply Kd.R_drew)); exact Kd.R_mono HO180.out (fun _ hk => hk.1.2)⟩, ⟨by repeat (first | (with_reducible first | exact HB.out | apply below_alloc | apply pw_below_drewN | apply below_drew1) | exact HB.out)⟩⟩
                  · rw [if_neg c24] at H
                    have c24b0 : decide ((t177.length : Int) ≤ t178) = false := decide_eq_false c24
                    clear c24
                    by_cases c26 : 0 ≤ t178
                    · rw [if_pos c26] at H
                      have c26b0 : decide (0 ≤ t178) = true := decide_eq_true c26
                      clear c26
                      by_cases c27 : t178 < (t177.length : Int)
                      · rw [if_pos c27] at H
                        have c27b0 : decide (t178 < (t177.length : Int)) = true := decide_eq_true c27
                        clear c27
                        have H' := Aside0.mk H
                        clear H
                        obtain ⟨Ao28, co28, eo28⟩ := Kd.R_slice HO184.out
                        subst eo28
                        go_wp2_with (first | (go_at_call 10; (with_reducible refine (tattingref1_SameInts.calls k _ _ t177 _ _ t181 true _ ?side1 ?side2 ?side3 ?side4 A20.out).mono ?_); (case side1 => repeat (first | exact (Kd.R_reads' HO180.out).2.2 | (with_reducible refine Kd.C_alloc ?_ _) | (with_reducible refine Kd.C_drewN ?_ _) | (with_reducible refine Kd.C_drew ?_))); (case side2 => exact (Kd.R_reads' HO180.out).2.1); (case side3 => repeat (first | exact (Kd.R_reads' HO184.out).2.2 | (with_reducible refine Kd.C_alloc ?_ _) | (with_reducible refine Kd.C_drewN ?_ _) | (with_reducible refine Kd.C_drew ?_))); (case side4 => exact (Kd.R_reads' HO184.out).2.1); rintro e w' ⟨rfl, ⟨nd, rfl⟩⟩; (try first | exact ⟨rfl, _, World.drewN_drewN _ _ _⟩ | exact ⟨rfl, _, Eq.trans (World.drewN_drewN _ _ _) (congrArg (World.drewN _) (Nat.add_assoc _ _ _))⟩); have p186 : 0 ≤ (t178 : Int) := of_decide_eq_true (by first | (with_reducible assumption) | assumption); have q186 : t178 < (t177.length : Int) := of_decide_eq_true (by first | (with_reducible assumption) | assumption); obtain ⟨ad186, e186, hx186_0⟩ := Kd.at_int (Kd.R_reads' HO180.out).2.2 t178 p186 q186; cases e186; replace p186 := eq_true p186; replace q186 := eq_true q186))
                        repeat (go_quiet (first | (go_at_call 10; (with_reducible refine (tattingref1_SameInts.calls k _ _ t177 _ _ t181 true _ ?side1 ?side2 ?side3 ?side4 A20.out).mono ?_); (case side1 => repeat (first | exact (Kd.R_reads' HO180.out).2.2 | (with_reducible refine Kd.C_alloc ?_ _) | (with_reducible refine Kd.C_drewN ?_ _) | (with_reducible refine Kd.C_drew ?_))); (case side2 => exact (Kd.R_reads' HO180.out).2.1); (case side3 => repeat (first | exact (Kd.R_reads' HO184.out).2.2 | (with_reducible refine Kd.C_alloc ?_ _) | (with_reducible refine Kd.C_drewN ?_ _) | (with_reducible refine Kd.C_drew ?_))); (case side4 => exact (Kd.R_reads' HO184.out).2.1); rintro e w' ⟨rfl, ⟨nd, rfl⟩⟩; (try first | exact ⟨rfl, _, World.drewN_drewN _ _ _⟩ | exact ⟨rfl, _, Eq.trans (World.drewN_drewN _ _ _) (congrArg (World.drewN _) (Nat.add_assoc _ _ _))⟩); have p186 : 0 ≤ (t178 : Int) := of_decide_eq_true (by first | (with_reducible assumption) | assumption); have q186 : t178 < (t177.length : Int) := of_decide_eq_true (by first | (with_reducible assumption) | assumption); obtain ⟨ad186, e186, hx186_0⟩ := Kd.at_int (Kd.R_reads' HO180.out).2.2 t178 p186 q186; cases e186; replace p186 := eq_true p186; replace q186 := eq_true q186)); try go_wp2_with (first | (go_at_call 10; (with_reducible refine (tattingref1_SameInts.calls k _ _ t177 _ _ t181 true _ ?side1 ?side2 ?side3 ?side4 A20.out).mono ?_); (case side1 => repeat (first | exact (Kd.R_reads' HO180.out).2.2 | (with_reducible refine Kd.C_alloc ?_ _) | (with_reducible refine Kd.C_drewN ?_ _) | (with_reducible refine Kd.C_drew ?_))); (case side2 => exact (Kd.R_reads' HO180.out).2.1); (case side3 => repeat (first | exact (Kd.R_reads' HO184.out).2.2 | (with_reducible refine Kd.C_alloc ?_ _) | (with_reducible refine Kd.C_drewN ?_ _) | (with_reducible refine Kd.C_drew ?_))); (case side4 => exact (Kd.R_reads' HO184.out).2.1); rintro e w' ⟨rfl, ⟨nd, rfl⟩⟩; (try first | exact ⟨rfl, _, World.drewN_drewN _ _ _⟩ | exact ⟨rfl, _, Eq.trans (World.drewN_drewN _ _ _) (congrArg (World.drewN _) (Nat.add_assoc _ _ _))⟩); have p186 : 0 ≤ (t178 : Int) := of_decide_eq_true (by first | (with_reducible assumption) | assumption); have q186 : t178 < (t177.length : Int) := of_decide_eq_true (by first | (with_reducible assumption) | assumption); obtain ⟨ad186, e186, hx186_0⟩ := Kd.at_int (Kd.R_reads' HO180.out).2.2 t178 p186 q186; cases e186; replace p186 := eq_true p186; replace q186 := eq_true q186)))
                        go_meet
                        case rel => exact ⟨_, (((rd t177 t178) != a1)), (by first | rfl | (simp; done) | (simp [*]; done)), H', ⟨by first | omega | exact Nat.le_refl _⟩, ⟨by (with_reducible repeat (first | apply Kd.R_alloc | apply Kd.R_drewN | apply Kd.R_drew)); exact Kd.R_mono HO176.out (fun _ hk => hk.1.2)⟩, ⟨by (with_reducible repeat (first | apply Kd.R_alloc | apply Kd.R_drewN | apply Kd.R_drew)); exact Kd.R_mono HO180.out (fun _ hk => hk.1.2)⟩, ⟨by repeat (first | (with_reducible first | exact HB.out | apply below_alloc | apply pw_below_drewN | apply below_drew1) | exact HB.out)⟩⟩
                      · rw [if_neg c27] at H
                        exact absurd H (by simp)
                    · rw [if_neg c26] at H
                      exact absurd H (by simp)
              · replace c21 := Bool.eq_false_iff.mpr c21
                subst c21
                have H1 : (tattinglaw15_ThreshLess.j0 k t174 t177 t178 true) = some r := by rw [if_neg (show ¬ (false = true) by decide)] at H; exact H
                clear H
                have H := H1
                clear H1
                have H' := Aside0.mk H
                clear H
                obtain ⟨Ao29, co29, eo29⟩ := Kd.R_slice HO184.out
                subst eo29
                go_wp2_with (first | (go_at_call 10; (with_reducible refine (tattingref1_SameInts.calls k _ _ t177 _ _ t181 false _ ?side1 ?side2 ?side3 ?side4 A20.out).mono ?_); (case side1 => repeat (first | exact (Kd.R_reads' HO180.out).2.2 | (with_reducible refine Kd.C_alloc ?_ _) | (with_reducible refine Kd.C_drewN ?_ _) | (with_reducible refine Kd.C_drew ?_))); (case side2 => exact (Kd.R_reads' HO180.out).2.1); (case side3 => repeat (first | exact (Kd.R_reads' HO184.out).2.2 | (with_reducible refine Kd.C_alloc ?_ _) | (with_reducible refine Kd.C_drewN ?_ _) | (with_reducible refine Kd.C_drew ?_))); (case side4 => exact (Kd.R_reads' HO184.out).2.1); rintro e w' ⟨rfl, ⟨nd, rfl⟩⟩; (try first | exact ⟨rfl, _, World.drewN_drewN _ _ _⟩ | exact ⟨rfl, _, Eq.trans (World.drewN_drewN _ _ _) (congrArg (World.drewN _) (Nat.add_assoc _ _ _))⟩)))
                repeat (go_quiet (first | (go_at_call 10; (with_reducible refine (tattingref1_SameInts.calls k _ _ t177 _ _ t181 false _ ?side1 ?side2 ?side3 ?side4 A20.out).mono ?_); (case side1 => repeat (first | exact (Kd.R_reads' HO180.out).2.2 | (with_reducible refine Kd.C_alloc ?_ _) | (with_reducible refine Kd.C_drewN ?_ _) | (with_reducible refine Kd.C_drew ?_))); (case side2 => exact (Kd.R_reads' HO180.out).2.1); (case side3 => repeat (first | exact (Kd.R_reads' HO184.out).2.2 | (with_reducible refine Kd.C_alloc ?_ _) | (with_reducible refine Kd.C_drewN ?_ _) | (with_reducible refine Kd.C_drew ?_))); (case side4 => exact (Kd.R_reads' HO184.out).2.1); rintro e w' ⟨rfl, ⟨nd, rfl⟩⟩; (try first | exact ⟨rfl, _, World.drewN_drewN _ _ _⟩ | exact ⟨rfl, _, Eq.trans (World.drewN_drewN _ _ _) (congrArg (World.drewN _) (Nat.add_assoc _ _ _))⟩))); try go_wp2_with (first | (go_at_call 10; (with_reducible refine (tattingref1_SameInts.calls k _ _ t177 _ _ t181 false _ ?side1 ?side2 ?side3 ?side4 A20.out).mono ?_); (case side1 => repeat (first | exact (Kd.R_reads' HO180.out).2.2 | (with_reducible refine Kd.C_alloc ?_ _) | (with_reducible refine Kd.C_drewN ?_ _) | (with_reducible refine Kd.C_drew ?_))); (case side2 => exact (Kd.R_reads' HO180.out).2.1); (case side3 => repeat (first | exact (Kd.R_reads' HO184.out).2.2 | (with_reducible refine Kd.C_alloc ?_ _) | (with_reducible refine Kd.C_drewN ?_ _) | (with_reducible refine Kd.C_drew ?_))); (case side4 => exact (Kd.R_reads' HO184.out).2.1); rintro e w' ⟨rfl, ⟨nd, rfl⟩⟩; (try first | exact ⟨rfl, _, World.drewN_drewN _ _ _⟩ | exact ⟨rfl, _, Eq.trans (World.drewN_drewN _ _ _) (congrArg (World.drewN _) (Nat.add_assoc _ _ _))⟩))))
                go_meet
                case rel => exact ⟨_, (true), (by first | rfl | (simp; done) | (simp [*]; done)), H', ⟨by first | omega | exact Nat.le_refl _⟩, ⟨by (with_reducible repeat (first | apply Kd.R_alloc | apply Kd.R_drewN | apply Kd.R_drew)); exact Kd.R_mono HO176.out (fun _ hk => hk.1.2)⟩, ⟨by (with_reducible repeat (first | apply Kd.R_alloc | apply Kd.R_drewN | apply Kd.R_drew)); exact Kd.R_mono HO180.out (fun _ hk => hk.1.2)⟩, ⟨by repeat (first | (with_reducible first | exact HB.out | apply below_alloc | apply pw_below_drewN | apply below_drew1) | exact HB.out)⟩⟩
            · rw [if_neg c19] at H
              have c19b0 : (t178 == t182) = false := beq_eq_false_iff_ne.mpr c19
              have c19b1 : (t178 != t182) = true := bne_iff_ne.mpr c19
              have H' := Aside0.mk H
              clear H
              go_wp2
              repeat (go_quiet (fail); try go_wp2)
              go_meet
              case rel => exact ⟨_, (true), (by first | rfl | (simp; done) | (simp [*]; done)), H', ⟨by first | omega | exact Nat.le_refl _⟩, ⟨by (with_reducible repeat (first | apply Kd.R_alloc | apply Kd.R_drewN | apply Kd.R_drew)); exact Kd.R_mono HO176.out (fun _ hk => hk.1.2)⟩, ⟨by (with_reducible repeat (first | apply Kd.R_alloc | apply Kd.R_drewN | apply Kd.R_drew)); exact Kd.R_mono HO180.out (fun _ hk => hk.1.2)⟩, ⟨by repeat (first | (with_reducible first | exact HB.out | apply below_alloc | apply pw_below_drewN | apply below_drew1) | exact HB.out)⟩⟩
      case rest =>
        clear HC10
        try clear c1
        try clear p1
        try clear q1
        try clear hx1
        try clear c2
        try clear p2
        try clear c4
        try clear c5
        try clear c5b0
        try clear c5b1
        try clear p6
        try clear c7
        try clear c17
        try clear c17b0
        try clear c17b1
        try clear c18
        try clear c18b0
        try clear p18
        try clear q18
        try clear hx18
        try clear c19
        try clear c19b0
        try clear c19b1
        try clear c21
        try clear c22
        try clear c22b0
        try clear c24
        try clear c24b0
        try clear c26
        try clear c26b0
        try clear c27
        try clear c27b0
        try clear hx186_0
        try clear p186
        try clear q186
        obtain ⟨kq, x71_9, rfl, HA, HJ9, HO_5, HO_6, HB⟩ := hcut
        cases kq with
        | zero => exact absurd HA.out (by simp [tattinglaw15_ThreshLess.j0])
        | succ kj9 =>
          have H := HA.out
          clear HA
          simp only [tattinglaw15_ThreshLess.j0] at H
          by_cases c30 : x71_9 = true
          · subst c30
            have H1 : (some false) = some r := by rw [if_pos rfl] at H; exact H
            clear H
            have H := H1
            clear H1
            exact absurd (Option.some.inj H) (by rw [HRT.out]; decide)
          · replace c30 := Bool.eq_false_iff.mpr c30
            subst c30
            have H1 : (tattinglaw15_ThreshLess.l0 kj9 t174 t177 t178 0) = some r := by rw [if_neg (show ¬ (false = true) by decide)] at H; exact H
            clear H
            have H := H1
            clear H1
            have H' := Aside0.mk H
            clear H
            go_wp2
            repeat (go_quiet (fail); try go_wp2)
            go_loopg [10] kj9 (fun kq v10 w' => ∃ (x10_2 : Int), v10 = .int .i64 x10_2 ∧ Aside0 (tattinglaw15_ThreshLess.l0 kq t174 t177 t178 x10_2 = some r) ∧ Aside0 (kq ≤ kj9) ∧ Aside0 (Kd.R (Kd.int .i64) 3 w' w.heap.size (fun k_ => some k_ ≠ ((.slice Ao15 t177.length co15) : Value).ownBlock) (.slice Ao13 t174.length co13) t174) ∧ Aside0 (Kd.R (Kd.int .i64) 3 w' w.heap.size (fun k_ => some k_ ≠ ((.slice Ao13 t174.length co13) : Value).ownBlock) (.slice Ao15 t177.length co15) t177) ∧ Aside0 (Below w.heap.size w w'))
            case atStart => exact ⟨(0), (by first | rfl | (simp; done) | (simp [*]; done)), H', ⟨Nat.le_refl _⟩, ⟨by (with_reducible repeat (first | apply Kd.R_alloc | apply Kd.R_drewN | apply Kd.R_drew)); exact HO_5.out⟩, ⟨by (with_reducible repeat (first | apply Kd.R_alloc | apply Kd.R_drewN | apply Kd.R_drew)); exact HO_6.out⟩, ⟨by repeat (first | (with_reducible first | exact HB.out | apply below_alloc | apply pw_below_drewN | apply below_drew1) | exact HB.out)⟩⟩
            case round =>
              clear H'
              try clear c1
              try clear p1
              try clear q1
              try clear hx1
              try clear c2
              try clear p2
              try clear c3
              try clear c4
              try clear c5
              try clear c5b0
              try clear c5b1
              try clear p6
              try clear c7
              try clear c17
              try clear c17b0
              try clear c17b1
              try clear c18
              try clear c18b0
              try clear p18
              try clear q18
              try clear hx18
              try clear c19
              try clear c19b0
              try clear c19b1
              try clear c21
              try clear c22
              try clear c22b0
              try clear c24
              try clear c24b0
              try clear c26
              try clear c26b0
              try clear c27
              try clear c27b0
              try clear c30
              try clear hx186_0
              try clear p1
              try clear p18
              try clear p186
              try clear p2
              try clear p6
              try clear q1
              try clear q18
              try clear q186
              obtain ⟨x10_2, rfl, HA, HK2, HO_5, HO_6, HB⟩ := hrel
              cases gk with
              | zero => exact absurd HA.out (by simp [tattinglaw15_ThreshLess.l0])
              | succ k2 =>
                have H := HA.out
                clear HA
                simp only [tattinglaw15_ThreshLess.l0] at H
                by_cases c31 : x10_2 < (t174.length : Int)
                · rw [if_pos c31] at H
                  have c31b0 : decide (x10_2 < (t174.length : Int)) = true := decide_eq_true c31
                  clear c31
                  by_cases c32 : 0 ≤ x10_2
                  · rw [if_pos c32] at H
                    have c32b0 : decide (0 ≤ x10_2) = true := decide_eq_true c32
                    clear c32
                    by_cases c33 : x10_2 < (t177.length : Int)
                    · rw [if_pos c33] at H
                      have c33b0 : decide (x10_2 < (t177.length : Int)) = true := decide_eq_true c33
                      clear c33
                      by_cases c34 : (rd t177 x10_2) > (rd t174 x10_2)
                      · rw [if_pos c34] at H
                        have c34b0 : decide ((rd t174 x10_2) < (rd t177 x10_2)) = true := decide_eq_true c34
                        clear c34
                        exact absurd (Option.some.inj H) (by rw [HRT.out]; decide)
                      · rw [if_neg c34] at H
                        have c34b0 : decide ((rd t174 x10_2) < (rd t177 x10_2)) = false := decide_eq_false c34
                        clear c34
                        by_cases c35 : x10_2 = t178
                        · rw [if_pos c35] at H
                          have c35b0 : (x10_2 == t178) = true := beq_iff_eq.mpr c35
                          have c35b1 : (x10_2 != t178) = false := bne_eq_false_iff_eq.mpr c35
                          clear c35
                          have H' := Aside0.mk H
                          clear H
                          have p187 : 0 ≤ (x10_2 : Int) := of_decide_eq_true (by first | (with_reducible assumption) | assumption)
                          have q187 : x10_2 < (t177.length : Int) := of_decide_eq_true (by first | (with_reducible assumption) | assumption)
                          obtain ⟨ad187, e187, hx187_0⟩ := Kd.at_int (Kd.R_reads' HO_6.out).2.2 x10_2 p187 q187
                          cases e187
                          replace p187 := eq_true p187
                          replace q187 := eq_true q187
                          have p188 : 0 ≤ (x10_2 : Int) := of_decide_eq_true (by first | (with_reducible assumption) | assumption)
                          have q188 : x10_2 < (t174.length : Int) := of_decide_eq_true (by first | (with_reducible assumption) | assumption)
                          obtain ⟨ad188, e188, hx188_0⟩ := Kd.at_int (Kd.R_reads' HO_5.out).2.2 x10_2 p188 q188
                          cases e188
                          replace p188 := eq_true p188
                          replace q188 := eq_true q188
                          go_wp2
                          repeat (go_quiet (fail); try go_wp2)
                          go_roundg k2
                          case measure => have := HJ9.out; have := HK2.out; omega
                          case rel => exact ⟨(wrap64 (x10_2 + 1)), (by first | rfl | (simp; done) | (simp [*]; done)), H', ⟨by have := HJ9.out; have := HK2.out; omega⟩, ⟨by (with_reducible repeat (first | apply Kd.R_alloc | apply Kd.R_drewN | apply Kd.R_drew)); exact HO_5.out⟩, ⟨by (with_reducible repeat (first | apply Kd.R_alloc | apply Kd.R_drewN | apply Kd.R_drew)); exact HO_6.out⟩, ⟨by repeat (first | (with_reducible first | exact HB.out | apply below_alloc | apply pw_below_drewN | apply below_drew1) | exact HB.out)⟩⟩
                        · rw [if_neg c35] at H
                          have c35b0 : (x10_2 == t178) = false := beq_eq_false_iff_ne.mpr c35
                          have c35b1 : (x10_2 != t178) = true := bne_iff_ne.mpr c35
                          by_cases c36 : (rd t177 x10_2) = (rd t174 x10_2)
                          · rw [if_pos c36] at H
                            have c36b0 : ((rd t177 x10_2) == (rd t174 x10_2)) = true := beq_iff_eq.mpr c36
                            have c36b1 : ((rd t177 x10_2) != (rd t174 x10_2)) = false := bne_eq_false_iff_eq.mpr c36
                            clear c36
                            have H' := Aside0.mk H
                            clear H
                            have p187 : 0 ≤ (x10_2 : Int) := of_decide_eq_true (by first | (with_reducible assumption) | assumption)
                            have q187 : x10_2 < (t177.length : Int) := of_decide_eq_true (by first | (with_reducible assumption) | assumption)
                            obtain ⟨ad187, e187, hx187_0⟩ := Kd.at_int (Kd.R_reads' HO_6.out).2.2 x10_2 p187 q187
                            cases e187
                            replace p187 := eq_true p187
                            replace q187 := eq_true q187
                            have p188 : 0 ≤ (x10_2 : Int) := of_decide_eq_true (by first | (with_reducible assumption) | assumption)
                            have q188 : x10_2 < (t174.length : Int) := of_decide_eq_true (by first | (with_reducible assumption) | assumption)
                            obtain ⟨ad188, e188, hx188_0⟩ := Kd.at_int (Kd.R_reads' HO_5.out).2.2 x10_2 p188 q188
                            cases e188
                            replace p188 := eq_true p188
                            replace q188 := eq_true q188
                            have p189 : 0 ≤ (x10_2 : Int) := of_decide_eq_true (by first | (with_reducible assumption) | assumption)
                            have q189 : x10_2 < (t177.length : Int) := of_decide_eq_true (by first | (with_reducible assumption) | assumption)
                            obtain ⟨ad189, e189, hx189_0⟩ := Kd.at_int (Kd.R_reads' HO_6.out).2.2 x10_2 p189 q189
                            obtain rfl : ad187 = ad189 := (by injection e189)
                            replace p189 := eq_true p189
                            replace q189 := eq_true q189
                            have p190 : 0 ≤ (x10_2 : Int) := of_decide_eq_true (by first | (with_reducible assumption) | assumption)
                            have q190 : x10_2 < (t174.length : Int) := of_decide_eq_true (by first | (with_reducible assumption) | assumption)
                            obtain ⟨ad190, e190, hx190_0⟩ := Kd.at_int (Kd.R_reads' HO_5.out).2.2 x10_2 p190 q190
                            obtain rfl : ad188 = ad190 := (by injection e190)
                            replace p190 := eq_true p190
                            replace q190 := eq_true q190
                            go_wp2
                            repeat (go_quiet (fail); try go_wp2)
                            go_roundg k2
                            case measure => have := HJ9.out; have := HK2.out; omega
                            case rel => exact ⟨(wrap64 (x10_2 + 1)), (by first | rfl | (simp; done) | (simp [*]; done)), H', ⟨by have := HJ9.out; have := HK2.out; omega⟩, ⟨by (with_reducible repeat (first | apply Kd.R_alloc | apply Kd.R_drewN | apply Kd.R_drew)); exact HO_5.out⟩, ⟨by (with_reducible repeat (first | apply Kd.R_alloc | apply Kd.R_drewN | apply Kd.R_drew)); exact HO_6.out⟩, ⟨by repeat (first | (with_reducible first | exact HB.out | apply below_alloc | apply pw_below_drewN | apply below_drew1) | exact HB.out)⟩⟩
                          · rw [if_neg c36] at H
                            have c36b0 : ((rd t177 x10_2) == (rd t174 x10_2)) = false := beq_eq_false_iff_ne.mpr c36
                            have c36b1 : ((rd t177 x10_2) != (rd t174 x10_2)) = true := bne_iff_ne.mpr c36
                            exact absurd (Option.some.inj H) (by rw [HRT.out]; decide)
                    · rw [if_neg c33] at H
                      exact absurd H (by simp)
                  · rw [if_neg c32] at H
                    exact absurd H (by simp)
                · rw [if_neg c31] at H
                  have c31b0 : decide (x10_2 < (t174.length : Int)) = false := decide_eq_false c31
                  clear c31
                  obtain rfl := Option.some.inj H
                  go_wp2
                  repeat (go_quiet (fail); try go_wp2)
                  go_ret
                  exact ⟨by first | rfl | (simp [errW_none, errW_some] <;> rfl) | (simp [*, errW_none, errW_some] <;> rfl), by repeat (first | (with_reducible first | exact HB.out | apply below_alloc | apply pw_below_drewN | apply below_drew1) | exact HB.out)⟩
  · replace c4 := Bool.eq_false_iff.mpr c4
    subst c4
    have H1 : (some false) = some r := by rw [if_neg (show ¬ (false = true) by decide)] at H; exact H
    clear H
    have H := H1
    clear H1
    exact absurd (Option.some.inj H) (by rw [HRT.out]; decide)

/-- THE ONE PURE STATEMENT of tattinglaw15_ThreshLess: yours. -/
def tattinglaw15_ThreshLess.Pure : Prop := ∀ (l0 : List Int) (a1 : Int), l0.length ≤ maxLen → l0.length * 8 ≤ 140737488351232 → (∀ x ∈ l0, (Lit.int .i64 x).wf = true) → (Lit.int .i64 a1).wf = true → ∃ k, tattinglaw15_ThreshLess.f k l0 a1 = some true
theorem tattinglaw15_ThreshLess.walk (P : tattinglaw15_ThreshLess.Pure) (a0 : Option Addr) (len0 cap0 : Nat) (z0 : List Int) (a1 : Int) (w : World) (w0 : (a0 = none ∧ len0 = 0 ∧ cap0 = 0 ∧ z0 = []) ∨ ∃ x, a0 = some x ∧ len0 ≤ cap0 ∧ cap0 ≤ maxLen ∧ z0.length = cap0 ∧ (∀ i, i < z0.length → w.cell? (x.add i) = some (.int .i64 (z0.getD i 0))) ∧ ∀ n ∈ z0, (Lit.int .i64 n).wf = true) (y0 : len0 * 8 ≤ 140737488351232) (w1 : (Lit.int .i64 a1).wf = true) :
    Calls Try.prog 7 #[.slice a0 len0 cap0, .int .i64 a1] w fun e w' => e = .returned (.bool true) ∧ Below w.heap.size w w' := by
  obtain ⟨l0, rfl, hr0, hm0, hw0, hc0⟩ := ReadsInt.ofRowC w0
  obtain ⟨k, h⟩ := P l0 a1 hm0 y0 hw0 w1
  refine (tattinglaw15_ThreshLess.calls k _ _ l0 a1 true w (Kd.C_of_reads (d := (0 : Int)) (h1 := fun _ => rfl) hr0) hc0 h ⟨rfl⟩).mono ?_
  rintro e w' ⟨rfl, hd⟩
  exact ⟨rfl, hd⟩

end Go.Proofs.Ytgholknbaanjoaa.PThreshLess
