/- Words of the printer, those that are used. -/
import Derived.Test.YtjkjanegankdhaaGreatZPTopRowsx0
import Derived.Test.YtjkjanegankdhaaGreatZPTopRowsx1
import Derived.Test.YtjkjanegankdhaaGreatZPTopRowsx2
import Derived.Maps.OwnRows
import Derived.Maps.GroupsBeside
import Derived.Maps.OwnSet
import Derived.Maps.Views
import Derived.Test.YtjkjanegankdhaaGreatZHAwc
import Derived.Test.YtjkjanegankdhaaGreatZHBits
namespace Go.Proofs.YtjkjanegankdhaaGreat.PTopRows
open Go.RowKit Go.Proofs.YtjkjanegankdhaaGreatW.PrintWords Go.Proofs.YtjkjanegankdhaaGreatW.PrintLast Go.Proofs.YtjkjanegankdhaaGreatW.PrintMore
attribute [local go_sem] max2_int min2_int max_two min_two max_three min_three max_four min_four   -- for this text's walks alone
set_option linter.unusedVariables false
set_option linter.unusedSimpArgs false
/-! ### slices_BinarySearch_int_int: function 150 -/
def slices_BinarySearch_int_int.l0 : Nat → List Int → Int → Int → Int → Int → Option (Int × Bool)
  | 0, _, _, _, _, _ => none
  | k + 1, x0, x1, x6, x7, x8 => if x7 < x8 then (if 0 ≤ (wrap64 ((IntKind.u64.wrap (wrap64 (x7 + x8))) / 2)) then (if (wrap64 ((IntKind.u64.wrap (wrap64 (x7 + x8))) / 2)) < (x0.length : Int) then ((cmp_Less_int.f (rd x0 (wrap64 ((IntKind.u64.wrap (wrap64 (x7 + x8))) / 2))) x1).bind fun t151 => (if t151 = true then (slices_BinarySearch_int_int.l0 k x0 x1 x6 (wrap64 ((wrap64 ((IntKind.u64.wrap (wrap64 (x7 + x8))) / 2)) + 1)) x8) else (slices_BinarySearch_int_int.l0 k x0 x1 x6 x7 (wrap64 ((IntKind.u64.wrap (wrap64 (x7 + x8))) / 2))))) else (none)) else (none)) else (if x7 < x6 then (if 0 ≤ x7 then (if x7 < (x0.length : Int) then (if (rd x0 x7) = x1 then (some (x7, true)) else ((slices_isNaN_int.f (rd x0 x7)).bind fun t154 => (if t154 = true then ((slices_isNaN_int.f x1).bind fun t155 => (some (x7, t155))) else (some (x7, false))))) else (none)) else (none)) else (some (x7, false)))
def slices_BinarySearch_int_int.f (k : Nat) (l0 : List Int) (a1 : Int) : Option (Int × Bool) := slices_BinarySearch_int_int.l0 k l0 a1 (l0.length : Int) 0 (l0.length : Int)
theorem slices_BinarySearch_int_int.mono_l : ∀ k, (∀ y0 y1 y2 y3 y4, LeO (slices_BinarySearch_int_int.l0 k y0 y1 y2 y3 y4) (slices_BinarySearch_int_int.l0 (k + 1) y0 y1 y2 y3 y4))
  | 0 => fun _ _ _ _ _ r h => by simp [slices_BinarySearch_int_int.l0] at h
  | k + 1 => by
    have ih0 := slices_BinarySearch_int_int.mono_l k
    · intro y0 y1 y2 y3 y4
      unfold slices_BinarySearch_int_int.l0
      repeat' first
      | (with_reducible exact ih0 _ _ _ _ _)
      | (with_reducible exact LeO.refl _)
      | (with_reducible exact LeO.none _)
      | (with_reducible refine LeO.ite ?_ ?_)
      | (with_reducible refine LeO.bind ?_ (fun _ => ?_))
      | exact ih0 _ _ _ _ _
      | exact LeO.none _
      | refine LeO.ite ?_ ?_
      | refine LeO.bind ?_ (fun _ => ?_)
theorem slices_BinarySearch_int_int.mono : ∀ a0 a1 k, LeO (slices_BinarySearch_int_int.f k a0 a1) (slices_BinarySearch_int_int.f (k + 1) a0 a1) := by
  intro a0 a1 k
  have ih0 := slices_BinarySearch_int_int.mono_l k
  unfold slices_BinarySearch_int_int.f
  repeat' first
      | (with_reducible exact ih0 _ _ _ _ _)
      | (with_reducible exact LeO.refl _)
      | (with_reducible exact LeO.none _)
      | (with_reducible refine LeO.ite ?_ ?_)
      | (with_reducible refine LeO.bind ?_ (fun _ => ?_))
      | exact ih0 _ _ _ _ _
      | exact LeO.none _
      | refine LeO.ite ?_ ?_
      | refine LeO.bind ?_ (fun _ => ?_)
set_option maxHeartbeats 8000000 in
set_option maxRecDepth 100000 in
theorem slices_BinarySearch_int_int.calls (k : Nat) (A0 : Option Addr) (c0 : Nat) (l0 : List Int) (a1 : Int) (r1 : Int) (r2 : Bool) (w : World) (hr0 : Kd.C (Kd.int .i64) w A0 l0.length l0) (hc0 : l0.length ≤ c0) (h : slices_BinarySearch_int_int.f k l0 a1 = some (r1, r2)) :
    Calls Tryz.prog 150 #[.slice A0 l0.length c0, .int .i64 a1] w fun e w' => e = .returned (.tuple #[.int .i64 r1, .bool r2]) ∧ Drawn0 w w' := by
  have HR0 := Aside0.mk hr0
  have HC0 := Aside0.mk hc0
  clear hr0 hc0
  have H : (slices_BinarySearch_int_int.l0 k l0 a1 (l0.length : Int) 0 (l0.length : Int)) = some (r1, r2) := h
  clear h
  have H' := Aside0.mk H
  clear H
  go_enter Tryz.func150, Tryz.ntmps150
  go_wp2
  go_loopg [7, 8] k (fun kq v7 v8 w' => ∃ (x7_1 : Int) (x8_1 : Int), v7 = .int .i64 x7_1 ∧ v8 = .int .i64 x8_1 ∧ Aside0 (slices_BinarySearch_int_int.l0 kq l0 a1 (l0.length : Int) x7_1 x8_1 = some (r1, r2)) ∧ Aside0 (kq ≤ k) ∧ Drawn0 w w')
  case atStart => exact ⟨(0), ((l0.length : Int)), (by first | rfl | (simp; done) | (simp [*]; done)), (by first | rfl | (simp; done) | (simp [*]; done)), H', ⟨Nat.le_refl _⟩, by repeat (first | exact Drawn0.refl _ | apply Drawn0.step)⟩
  case round =>
    clear H'
    try clear c1
    try clear p2
    obtain ⟨x7_1, x8_1, rfl, rfl, HA, HK1, ⟨m1, rfl⟩⟩ := hrel
    cases gk with
    | zero => exact absurd HA.out (by simp [slices_BinarySearch_int_int.l0])
    | succ k1 =>
      have H := HA.out
      clear HA
      simp only [slices_BinarySearch_int_int.l0] at H
      by_cases c3 : x7_1 < x8_1
      · rw [if_pos c3] at H
        have c3b0 : decide (x7_1 < x8_1) = true := decide_eq_true c3
        clear c3
        obtain ⟨ji4, hji4⟩ : ∃ j_ : Int, (wrap64 ((IntKind.u64.wrap (wrap64 (x7_1 + x8_1))) / 2)) = j_ := ⟨_, rfl⟩
        replace H : (if 0 ≤ (ji4) then (if (ji4) < (l0.length : Int) then ((cmp_Less_int.f (rd l0 (ji4)) a1).bind fun t151 => (if t151 = true then (slices_BinarySearch_int_int.l0 k1 l0 a1 (l0.length : Int) (wrap64 ((ji4) + 1)) x8_1) else (slices_BinarySearch_int_int.l0 k1 l0 a1 (l0.length : Int) x7_1 ji4))) else (none)) else (none)) = some (r1, r2) := by first | (rw [hji4] at H; exact H) | (simp only [hji4] at H ⊢; exact H)
        have hji4w : (IntKind.i64.wrap ((IntKind.u64.wrap (wrap64 (x7_1 + x8_1))) / 2)) = ji4 := (i64_w _).trans hji4
        by_cases c5 : 0 ≤ (ji4)
        · rw [if_pos c5] at H
          have c5b0 : decide (0 ≤ (ji4)) = true := decide_eq_true c5
          clear c5
          by_cases c6 : (ji4) < (l0.length : Int)
          · rw [if_pos c6] at H
            have c6b0 : decide ((ji4) < (l0.length : Int)) = true := decide_eq_true c6
            clear c6
            replace H := Option.bind_eq_some_iff.mp H
            obtain ⟨t151, A70, H⟩ := H
            replace H : (if t151 = true then (slices_BinarySearch_int_int.l0 k1 l0 a1 (l0.length : Int) (wrap64 ((ji4) + 1)) x8_1) else (slices_BinarySearch_int_int.l0 k1 l0 a1 (l0.length : Int) x7_1 ji4)) = some (r1, r2) := H
            have A7 := Aside0.mk A70
            clear A70
            by_cases c8 : t151 = true
            · subst c8
              have H1 : (slices_BinarySearch_int_int.l0 k1 l0 a1 (l0.length : Int) (wrap64 ((ji4) + 1)) x8_1) = some (r1, r2) := by rw [if_pos rfl] at H; exact H
              clear H
              have H := H1
              clear H1
              have H' := Aside0.mk H
              clear H
              have p150 : 0 ≤ ((ji4) : Int) := of_decide_eq_true (by first | (with_reducible assumption) | assumption)
              have q150 : (ji4) < (l0.length : Int) := of_decide_eq_true (by first | (with_reducible assumption) | assumption)
              obtain ⟨ad150, e150, hx150_0⟩ := Kd.at_int HR0.out (ji4) p150 q150
              cases e150
              replace p150 := eq_true p150
              replace q150 := eq_true q150
              go_wp2_with (first | ((with_reducible refine gate_callee (f := 177) rfl ?_); refine goesL_ (some 27) rfl rfl Tryz.func177 (by kernel_rfl) rfl #[.int .i64 (rd l0 (ji4)), .int .i64 a1] rfl (by (try simp only [List.map_toArray, List.map_cons, List.map_nil]); first | done | (simp only [hji4]; rfl) | rfl | (simp only [List.length_drop, List.length_take]; rfl)) ?_; (with_reducible refine (cmp_Less_int.calls (rd l0 (ji4)) a1 true _ A7.out).mono ?_); rintro e w' ⟨rfl, ⟨nd, rfl⟩⟩; refine ⟨_, rfl, ?_⟩))
              go_roundg k1
              case measure => have := HK1.out; omega
              case rel => exact ⟨(wrap64 ((ji4) + 1)), (x8_1), (by first | rfl | (simp; done) | (simp only [← hji4] <;> (first | rfl | simp)) | (simp [*]; done)), (by first | rfl | (simp; done) | (simp [*]; done)), H', ⟨by have := HK1.out; omega⟩, by repeat (first | exact Drawn0.refl _ | apply Drawn0.step)⟩
            · replace c8 := Bool.eq_false_iff.mpr c8
              subst c8
              have H1 : (slices_BinarySearch_int_int.l0 k1 l0 a1 (l0.length : Int) x7_1 ji4) = some (r1, r2) := by rw [if_neg (show ¬ (false = true) by decide)] at H; exact H
              clear H
              have H := H1
              clear H1
              have H' := Aside0.mk H
              clear H
              have p150 : 0 ≤ ((ji4) : Int) := of_decide_eq_true (by first | (with_reducible assumption) | assumption)
              have q150 : (ji4) < (l0.length : Int) := of_decide_eq_true (by first | (with_reducible assumption) | assumption)
              obtain ⟨ad150, e150, hx150_0⟩ := Kd.at_int HR0.out (ji4) p150 q150
              cases e150
              replace p150 := eq_true p150
              replace q150 := eq_true q150
              go_wp2_with (first | ((with_reducible refine gate_callee (f := 177) rfl ?_); refine goesL_ (some 27) rfl rfl Tryz.func177 (by kernel_rfl) rfl #[.int .i64 (rd l0 (ji4)), .int .i64 a1] rfl (by (try simp only [List.map_toArray, List.map_cons, List.map_nil]); first | done | (simp only [hji4]; rfl) | rfl | (simp only [List.length_drop, List.length_take]; rfl)) ?_; (with_reducible refine (cmp_Less_int.calls (rd l0 (ji4)) a1 false _ A7.out).mono ?_); rintro e w' ⟨rfl, ⟨nd, rfl⟩⟩; refine ⟨_, rfl, ?_⟩))
              go_roundg k1
              case measure => have := HK1.out; omega
              case rel => exact ⟨(x7_1), (ji4), (by first | rfl | (simp; done) | (simp [*]; done)), (by first | rfl | (simp; done) | (simp only [← hji4] <;> (first | rfl | simp)) | (simp [*]; done)), H', ⟨by have := HK1.out; omega⟩, by repeat (first | exact Drawn0.refl _ | apply Drawn0.step)⟩
          · rw [if_neg c6] at H
            exact absurd H (by simp)
        · rw [if_neg c5] at H
          exact absurd H (by simp)
      · rw [if_neg c3] at H
        have c3b0 : decide (x7_1 < x8_1) = false := decide_eq_false c3
        clear c3
        by_cases c9 : x7_1 < (l0.length : Int)
        · rw [if_pos c9] at H
          have c9b0 : decide (x7_1 < (l0.length : Int)) = true := decide_eq_true c9
          clear c9
          by_cases c10 : 0 ≤ x7_1
          · rw [if_pos c10] at H
            have c10b0 : decide (0 ≤ x7_1) = true := decide_eq_true c10
            clear c10
            by_cases c11 : x7_1 < (l0.length : Int)
            · rw [if_pos c11] at H
              have c11b0 : decide (x7_1 < (l0.length : Int)) = true := decide_eq_true c11
              clear c11
              by_cases c12 : (rd l0 x7_1) = a1
              · rw [if_pos c12] at H
                have c12b0 : ((rd l0 x7_1) == a1) = true := beq_iff_eq.mpr c12
                have c12b1 : ((rd l0 x7_1) != a1) = false := bne_eq_false_iff_eq.mpr c12
                clear c12
                simp only [Option.some.injEq, Prod.mk.injEq] at H
                obtain ⟨rfl, rfl⟩ := H
                have p152 : 0 ≤ (x7_1 : Int) := of_decide_eq_true (by first | (with_reducible assumption) | assumption)
                have q152 : x7_1 < (l0.length : Int) := of_decide_eq_true (by first | (with_reducible assumption) | assumption)
                obtain ⟨ad152, e152, hx152_0⟩ := Kd.at_int HR0.out x7_1 p152 q152
                cases e152
                replace p152 := eq_true p152
                replace q152 := eq_true q152
                go_wp2
                go_ret2
                exact ⟨by first | rfl | (simp; done) | (simp [*]; done), by repeat (first | exact Drawn0.refl _ | apply Drawn0.step)⟩
              · rw [if_neg c12] at H
                have c12b0 : ((rd l0 x7_1) == a1) = false := beq_eq_false_iff_ne.mpr c12
                have c12b1 : ((rd l0 x7_1) != a1) = true := bne_iff_ne.mpr c12
                replace H := Option.bind_eq_some_iff.mp H
                obtain ⟨t154, A130, H⟩ := H
                replace H : (if t154 = true then ((slices_isNaN_int.f a1).bind fun t155 => (some (x7_1, t155))) else (some (x7_1, false))) = some (r1, r2) := H
                have A13 := Aside0.mk A130
                clear A130
                by_cases c14 : t154 = true
                · subst c14
                  have H1 : ((slices_isNaN_int.f a1).bind fun t155 => (some (x7_1, t155))) = some (r1, r2) := by rw [if_pos rfl] at H; exact H
                  clear H
                  have H := H1
                  clear H1
                  replace H := Option.bind_eq_some_iff.mp H
                  obtain ⟨t155, A150, H⟩ := H
                  replace H : (some (x7_1, t155)) = some (r1, r2) := H
                  have A15 := Aside0.mk A150
                  clear A150
                  simp only [Option.some.injEq, Prod.mk.injEq] at H
                  obtain ⟨rfl, rfl⟩ := H
                  have p152 : 0 ≤ (x7_1 : Int) := of_decide_eq_true (by first | (with_reducible assumption) | assumption)
                  have q152 : x7_1 < (l0.length : Int) := of_decide_eq_true (by first | (with_reducible assumption) | assumption)
                  obtain ⟨ad152, e152, hx152_0⟩ := Kd.at_int HR0.out x7_1 p152 q152
                  cases e152
                  replace p152 := eq_true p152
                  replace q152 := eq_true q152
                  have p153 : 0 ≤ (x7_1 : Int) := of_decide_eq_true (by first | (with_reducible assumption) | assumption)
                  have q153 : x7_1 < (l0.length : Int) := of_decide_eq_true (by first | (with_reducible assumption) | assumption)
                  obtain ⟨ad153, e153, hx153_0⟩ := Kd.at_int HR0.out x7_1 p153 q153
                  obtain rfl : ad152 = ad153 := (by injection e153)
                  replace p153 := eq_true p153
                  replace q153 := eq_true q153
                  go_wp2_with (first | (go_at_call 178; (with_reducible refine (slices_isNaN_int.calls (rd l0 x7_1) true _ A13.out).mono ?_); rintro e w' ⟨rfl, ⟨nd, rfl⟩⟩) | (go_at_call 178; (with_reducible refine (slices_isNaN_int.calls a1 t155 _ A15.out).mono ?_); rintro e w' ⟨rfl, ⟨nd, rfl⟩⟩))
                  go_ret2
                  exact ⟨by first | rfl | (simp; done) | (simp [*]; done), by repeat (first | exact Drawn0.refl _ | apply Drawn0.step)⟩
                · replace c14 := Bool.eq_false_iff.mpr c14
                  subst c14
                  have H1 : (some (x7_1, false)) = some (r1, r2) := by rw [if_neg (show ¬ (false = true) by decide)] at H; exact H
                  clear H
                  have H := H1
                  clear H1
                  simp only [Option.some.injEq, Prod.mk.injEq] at H
                  obtain ⟨rfl, rfl⟩ := H
                  have p152 : 0 ≤ (x7_1 : Int) := of_decide_eq_true (by first | (with_reducible assumption) | assumption)
                  have q152 : x7_1 < (l0.length : Int) := of_decide_eq_true (by first | (with_reducible assumption) | assumption)
                  obtain ⟨ad152, e152, hx152_0⟩ := Kd.at_int HR0.out x7_1 p152 q152
                  cases e152
                  replace p152 := eq_true p152
                  replace q152 := eq_true q152
                  have p153 : 0 ≤ (x7_1 : Int) := of_decide_eq_true (by first | (with_reducible assumption) | assumption)
                  have q153 : x7_1 < (l0.length : Int) := of_decide_eq_true (by first | (with_reducible assumption) | assumption)
                  obtain ⟨ad153, e153, hx153_0⟩ := Kd.at_int HR0.out x7_1 p153 q153
                  obtain rfl : ad152 = ad153 := (by injection e153)
                  replace p153 := eq_true p153
                  replace q153 := eq_true q153
                  go_wp2_with (first | (go_at_call 178; (with_reducible refine (slices_isNaN_int.calls (rd l0 x7_1) false _ A13.out).mono ?_); rintro e w' ⟨rfl, ⟨nd, rfl⟩⟩))
                  go_ret2
                  exact ⟨by first | rfl | (simp; done) | (simp [*]; done), by repeat (first | exact Drawn0.refl _ | apply Drawn0.step)⟩
            · rw [if_neg c11] at H
              exact absurd H (by simp)
          · rw [if_neg c10] at H
            exact absurd H (by simp)
        · rw [if_neg c9] at H
          have c9b0 : decide (x7_1 < (l0.length : Int)) = false := decide_eq_false c9
          clear c9
          simp only [Option.some.injEq, Prod.mk.injEq] at H
          obtain ⟨rfl, rfl⟩ := H
          go_wp2
          go_ret2
          exact ⟨by first | rfl | (simp; done) | (simp [*]; done), by repeat (first | exact Drawn0.refl _ | apply Drawn0.step)⟩
/-! ### thresh_Find: function 95 -/
def thresh_Find.f (k : Nat) (l0 : List Int) (a1 : Int) : Option (Int) := (slices_BinarySearch_int_int.f k l0 a1).bind fun bt156 => (some bt156.1)
theorem thresh_Find.mono : ∀ a0 a1 k, LeO (thresh_Find.f k a0 a1) (thresh_Find.f (k + 1) a0 a1) := by
  intro a0 a1 k
  unfold thresh_Find.f
  repeat' first
      | (with_reducible exact slices_BinarySearch_int_int.mono _ _ _)
      | (with_reducible exact LeO.refl _)
      | (with_reducible exact LeO.none _)
      | (with_reducible refine LeO.ite ?_ ?_)
      | (with_reducible refine LeO.bind ?_ (fun _ => ?_))
      | exact slices_BinarySearch_int_int.mono _ _ _
      | exact LeO.none _
      | refine LeO.ite ?_ ?_
      | refine LeO.bind ?_ (fun _ => ?_)
set_option maxHeartbeats 8000000 in
set_option maxRecDepth 100000 in
theorem thresh_Find.calls (k : Nat) (A0 : Option Addr) (c0 : Nat) (l0 : List Int) (a1 : Int) (r : Int) (w : World) (hr0 : Kd.C (Kd.int .i64) w A0 l0.length l0) (hc0 : l0.length ≤ c0) (h : thresh_Find.f k l0 a1 = some r) :
    Calls Tryz.prog 95 #[.slice A0 l0.length c0, .int .i64 a1] w fun e w' => e = .returned (.int .i64 r) ∧ Drawn0 w w' := by
  have HR0 := Aside0.mk hr0
  have HC0 := Aside0.mk hc0
  clear hr0 hc0
  have H : ((slices_BinarySearch_int_int.f k l0 a1).bind fun bt156 => (some bt156.1)) = some r := h
  clear h
  replace H := Option.bind_eq_some_iff.mp H
  obtain ⟨⟨t156, t157⟩, A30, H⟩ := H
  replace H : (some t156) = some r := H
  have A3 := Aside0.mk A30
  clear A30
  obtain rfl := Option.some.inj H
  go_enter Tryz.func95, Tryz.ntmps95
  go_wp2_with (first | ((with_reducible refine gate_callee (f := 150) rfl ?_); refine goesL_ (some 10) rfl rfl Tryz.func150 (by kernel_rfl) rfl #[.slice A0 l0.length c0, .int .i64 a1] rfl (by (try simp only [List.map_toArray, List.map_cons, List.map_nil]); first | done | rfl | (simp only [List.length_drop, List.length_take]; rfl)) ?_; (with_reducible refine (slices_BinarySearch_int_int.calls k _ _ l0 a1 t156 t157 _ ?side1 ?side2 A3.out).mono ?_); (case side1 => repeat (first | exact HR0.out | (with_reducible refine Kd.C_alloc ?_ _) | (with_reducible refine Kd.C_drewN ?_ _) | (with_reducible refine Kd.C_drew ?_))); (case side2 => exact HC0.out); rintro e w' ⟨rfl, ⟨nd, rfl⟩⟩; refine ⟨_, rfl, ?_⟩))
  go_ret
  exact ⟨by first | rfl | (simp; done) | (simp [*]; done), by repeat (first | exact Drawn0.refl _ | apply Drawn0.step)⟩
/-! ### hunt_Hits: function 96 -/
/-- The places of a number in a list, from some place on. -/
def Plc.pos (s : Int) : List Int → Nat → List Int
  | [], _ => []
  | x :: xs, i => if x = s then (i : Int) :: Plc.pos s xs (i + 1) else Plc.pos s xs (i + 1)
theorem Plc.pos_snoc (s y : Int) : ∀ (l : List Int) (i : Nat), Plc.pos s (l ++ [y]) i = Plc.pos s l i ++ (if y = s then [((i + l.length : Nat) : Int)] else [])
  | [], i => by simp only [List.nil_append, Plc.pos]; split <;> simp
  | x :: xs, i => by
    rw [List.cons_append, Plc.pos, Plc.pos, Plc.pos_snoc s y xs (i + 1)]
    have e : i + 1 + xs.length = i + (x :: xs).length := by rw [List.length_cons]; omega
    rw [e]
    by_cases c : x = s
    · rw [if_pos c, if_pos c, List.cons_append]
    · rw [if_neg c, if_neg c]
/-- What a map of slices has at a number. -/
def Plc.At (D : DataW Unit) (x : Int) (ps : List Int) : Prop := (D.atKey (.int .i64 x) .nil = .nil ∧ ps = []) ∨ D.atKey (.int .i64 x) .nil = .slice (ChangeShapes.lits .i64 ps) []
theorem Plc.lits_inj {a b : List Int} (h : ChangeShapes.lits (H := Unit) .i64 a = ChangeShapes.lits .i64 b) : a = b := by
  unfold ChangeShapes.lits at h
  exact (List.map_inj_right (fun x y e => by injection e with e; injection e)).1 h
theorem Plc.At.same {w : World} {base : Nat} {D : DataW Unit} {x : Int} {v : Value} {zs ps : List Int} (h : Plc.At D x ps) (hat : D.atKey (.int .i64 x) .nil = rowDatum .i64 v zs) (ho : w.ownsInts base 3 .i64 v zs) : zs = ps := by
  rcases ho.datum (H := Unit) with ⟨h1, h2⟩ | h1 <;> rw [h1] at hat <;> rcases h with ⟨h3, h4⟩ | h3 <;> rw [h3] at hat
  · rw [h2, h4]
  · exact absurd hat (by simp)
  · exact absurd hat (by simp)
  · injection hat with hat; exact (Plc.lits_inj hat).symm
/-- Block b is the map of a list's places. -/
def Plc (W : World) (b n : Nat) (l : List Int) : Prop := ∃ D : DataW Unit, W.ownsGroups Tryz.prog 3 (b + 1) 3 .i64 b n D ∧ ∀ x, (Lit.int .i64 x).wf = true → Plc.At D x (Plc.pos x l 0)
theorem Plc.law : Maps.Keyed Tryz.prog 3 := Maps.int_keyed Tryz.underlying3
theorem Plc.key {x : Int} (h : (Lit.int .i64 x).wf = true) : keyOf Tryz.prog 3 (.int .i64 x) = some (.int .i64 x) := Maps.keyOf_int_mk Tryz.underlying3 h
theorem Plc.zero (w : World) : (zeroValue 22).run Tryz.prog w = .ok (.slice none 0 0) w := by kernel_rfl
theorem Plc.isMap {W : World} {b n : Nat} {D : DataW Unit} (h : W.ownsGroups Tryz.prog 3 (b + 1) 3 .i64 b n D) : Maps.IsMap D := by
  obtain ⟨es, clock, _, _, _, rfl, _⟩ := h
  exact ⟨_, rfl⟩
theorem Plc.step {W W1 W2 : World} {b n : Nat} {l : List Int} {D : DataW Unit} {x : Int} {v v' : Value} {zs : List Int} (hw : (Lit.int .i64 x).wf = true) (hD : Maps.IsMap D)
    (hs : ∀ y, (Lit.int .i64 y).wf = true → Plc.At D y (Plc.pos y l 0)) (hat : D.atKey (.int .i64 x) .nil = rowDatum .i64 v zs) (ho : W.ownsInts (b + 1) 3 .i64 v zs)
    (ho' : W1.ownsInts (b + 1) 3 .i64 v' (zs ++ [(l.length : Int)])) (h : W2.ownsGroups Tryz.prog 3 (b + 1) 3 .i64 b (n + 1) (D.put (.int .i64 x) (rowDatum .i64 v' (zs ++ [(l.length : Int)])))) : Plc W2 b (n + 1) (l ++ [x]) := by
  have e := (hs x hw).same hat ho
  subst e
  refine ⟨_, h, fun y hy => ?_⟩
  rw [Plc.pos_snoc]
  by_cases q : y = x
  · subst q
    rw [if_pos rfl, Nat.zero_add]
    refine Or.inr ?_
    rw [Maps.atKey_put_same hD (show WideAt.IsKeyLit (.int .i64 y) from trivial), ho'.datum_pos (by simp)]
  · rw [if_neg (fun e => q e.symm), List.append_nil]
    have e := Maps.atKey_put_other (D := D) (k := .int .i64 x) (k' := .int .i64 y) (by intro e; injection e with _ e; exact q e) (rowDatum .i64 v' (Plc.pos x l 0 ++ [(l.length : Int)])) .nil
    unfold Plc.At
    rw [e]
    exact hs y hy
theorem Plc.reads {W : World} {base : Nat} {v : Value} {zs : List Int} (h : W.ownsInts base 3 .i64 v zs) : ∃ A c, v = .slice A zs.length c ∧ Kd.C (Kd.int .i64) W A zs.length zs ∧ zs.length ≤ c := by
  have h1 := h.1
  obtain ⟨A, c, e, hr⟩ := own_reads (k := .i64) h1
  refine ⟨A, c, e, Kd.C_of_reads (d := (0 : Int)) (h1 := fun _ => rfl) hr, ?_⟩
  rcases h1.2 with ⟨e0, h0⟩ | ⟨g, cap, cur, e1, _, _, hn, _⟩
  · rw [h0]; exact Nat.zero_le _
  · rw [e] at e1; injection e1 with _ _ e2; rw [e2]; exact hn
theorem Plc.below {W W' : World} {b n : Nat} {l : List Int} (h : Plc W b n l) (hb : Below W.heap.size W W') : Plc W' b n l := by
  obtain ⟨D, h1, h2⟩ := h
  exact ⟨D, h1.kept (grown_of_below hb none) (by simp) (fun _ _ _ x _ => by cases x.val.ownBlock <;> simp), h2⟩
theorem Plc.all_at {l : List Int} (h : ∀ x ∈ l, (Lit.int .i64 x).wf = true) (k : Nat) (hk : k < l.length) : (Lit.int .i64 (rd l (k : Int))).wf = true := by
  have e : rd l (k : Int) = l[k] := by unfold rd; simp [hk]
  rw [e]; exact h _ (List.getElem_mem hk)
theorem Plc.drop_at (l : List Int) (k : Nat) (hk : k < l.length) : l.drop k = rd l (k : Int) :: l.drop (k + 1) := by
  have e : rd l (k : Int) = l[k] := by unfold rd; simp [hk]
  rw [e, List.drop_eq_getElem_cons hk]
theorem Plc.take_at (l : List Int) (k : Nat) (hk : k < l.length) : l.take (k + 1) = l.take k ++ [rd l (k : Int)] := by
  have e : rd l (k : Int) = l[k] := by unfold rd; simp [hk]
  rw [e, List.take_succ_eq_append_getElem hk]
set_option maxHeartbeats 8000000 in
set_option maxRecDepth 100000 in
/-- hunt.places: the call's own map of the list's places. -/
theorem places_calls (A0 : Option Addr) (c0 : Nat) (l0 : List Int) (w : World) (hr0 : Kd.C (Kd.int .i64) w A0 l0.length l0) (hc0 : l0.length ≤ c0) (hl : l0.length ≤ 1000000) (hw0 : ∀ x ∈ l0, (Lit.int .i64 x).wf = true) :
    Calls Tryz.prog 74 #[.slice A0 l0.length c0] w fun e w' => e = .returned (.map (some w.heap.size)) ∧ Plc w' w.heap.size l0.length l0 ∧ Below w.heap.size w w' := by
  have HR0 := Aside0.mk hr0
  clear hr0
  have hmm := @run_makeMap Tryz.prog
  obtain ⟨i0, hi, hz0, hz1, hz2⟩ := info_parts info3
  go_enter Tryz.func74, Tryz.ntmps74
  go_wp2
  go_loopw [9] (fun i wr => ∃ k : Nat, k ≤ l0.length ∧ i = .int .i64 k ∧ Aside0 (Plc wr w.heap.size k (l0.take k)) ∧ Below w.heap.size w wr ∧ w.heap.size + 1 ≤ wr.heap.size) (fun i _ => l0.length - (intOf i).toNat)
  case atStart => exact ⟨0, Nat.zero_le _, rfl, ⟨⟨.map [], World.ownsGroups_made _ _ _ _ _, fun x _ => Or.inl ⟨rfl, rfl⟩⟩⟩, (Below.refl _ _).alloc (Nat.le_refl _) _, by simp⟩
  case round =>
    obtain ⟨k, hk, rfl, HC, hnx, hws⟩ := hrel
    by_cases hlt : k < l0.length
    · obtain ⟨D, hown, hs⟩ := HC.out
      have hw := Plc.all_at hw0 k hlt
      obtain ⟨ad, ea, hx⟩ := Kd.at_int HR0.out (k : Int) (by omega) (by omega)
      cases ea
      replace hx := (hnx.cell (World.block_lt_of_cell? w _ hx)).trans hx
      rw [Int.toNat_natCast] at hx
      obtain ⟨x, ex⟩ : ∃ x, x = rd l0 (k : Int) := ⟨_, rfl⟩
      rw [← ex] at hx hw
      have EX := Aside0.mk ex
      have hkey := Plc.key hw
      have HS' := Aside0.mk hs
      clear ex hs HC
      have tok := True.intro
      go_wp2_with (first
        | (at_lookup; refine wpList_lookup_groups _ rfl _ _ 105 rfl 3 22 3 .i64 Plc.law Tryz.underlying105 (Plc.zero _) (w.heap.size + 1) w.heap.size k D rfl hown (by unfold maxLen; omega) _ _ rfl hkey ?_; intro v zs hat hoi hzl hback)
        | (at_builtin; refine wpList_append_own_at _ rfl _ _ 22 rfl (w.heap.size + 1) 3 i0 (.int .i64 0) 1 8 Tryz.underlying22 hi hz0 hz1 hz2 rfl (by decide) _ _ _ rfl (hoi.1.alloc _) ⟨wr.heap.size, 0, none⟩ 1 1 [.int .i64 k] rfl rfl (cell_one_new _ _ _) (ints_oneCell .i64 [(k : Int)]) (by unfold maxLen; omega) (by omega) (by simp; omega) ?_; intro v' w1 hown' hgrow hnil hloc)
        | (at_mapUpdate; refine wpList_mapUpdate_back _ rfl _ _ _ 105 rfl hback rfl rfl rfl ((World.grownBy_alloc _ _ _).trans hgrow) (hoi.appended hown' (WalkArith.wf_i64 (by omega))) (by simp; omega) (hloc.imp id (fun h => ⟨_, h, by simp⟩)) ?_; intro w2 hown2 hgrow2))
      have hall := (World.grownBy_alloc wr _ _).trans hgrow
      have et := Plc.take_at l0 k hlt
      rw [← EX.out] at et
      have ho' := hoi.appended hown' (WalkArith.wf_i64 (by omega))
      have hkl : ((l0.take k).length : Int) = (k : Int) := by rw [List.length_take]; omega
      have N1 := Plc.step (W := wr) (W1 := w1) (W2 := w2) (b := w.heap.size) (n := k) (l := l0.take k) (v := v) (v' := v') (zs := zs) hw (Plc.isMap hown) HS'.out hat hoi (by rw [hkl]; exact ho') (by rw [hkl]; exact hown2)
      rw [← et] at N1
      have M1 := Aside0.mk N1
      have M2 := hnx.groups hoi hall hgrow2 hnx.size (Nat.le_succ _) (Nat.le_refl _)
      have M3 := Nat.le_trans hws (Nat.le_trans hall.size hgrow2.size)
      clear N1 hown hown' ho' hown2 hgrow2 hall hgrow hback hoi hat hloc hnil hkey hx HS'
      go_roundw
      case rel => exact ⟨k + 1, by omega, by go_num, M1, M2, M3⟩
      case measure => simp [intOf]; omega
    · have ek : k = l0.length := by omega
      subst ek
      have HC' := HC.out
      rw [List.take_length] at HC'
      clear hlt hk HC
      go_wp2
      go_ret
      exact ⟨rfl, HC', hnx⟩
/-- How many places of two lists are alike. -/
def hunt_Hits.many (a b : List Int) : Int := a.foldl (fun s x => s + ((Plc.pos x b 0).length : Int)) 0
def hunt_Hits.ok (x : Int) : Bool := (Lit.int .i64 x).wf
def hunt_Hits.f (l0 : List Int) (l1 : List Int) : Option Int := if l0.length ≤ 1000000 ∧ l1.length ≤ 1000000 ∧ l0.all hunt_Hits.ok = true ∧ l1.all hunt_Hits.ok = true then some (hunt_Hits.many l0 l1) else none
/-! ### tattingtop_awake: function 9 -/
def tattingtop_awake.f : Option Bool := some true
theorem tattingtop_awake.calls  (r : Bool) (w : World) (h : tattingtop_awake.f  = some r) :
    Calls Tryz.prog 9 #[] w fun e w' => e = .returned (.bool r) ∧ Below w.heap.size w w' := by
  obtain rfl := Option.some.inj h
  exact Go.Proofs.YtjkjanegankdhaaGreat.Top.awake_true w
/-! ### tattingref1_Few: function 10 -/
def tattingref1_Few.l0 : Nat → List Int → Int → List Int → Int → Option (List Int)
  | 0, _, _, _, _ => none
  | k + 1, x0, x1, x5, x6 => if x6 < (x0.length : Int) then (if 0 ≤ x6 then (if x1 = 0 then (none) else (if (Int.tmod (rd x0 x6) x1) < 0 then (if x5.length < 17592186044416 then (tattingref1_Few.l0 k x0 x1 (x5 ++ [wrap64 ((Int.tmod (rd x0 x6) x1) + x1)]) (wrap64 (x6 + 1))) else (none)) else (if x5.length < 17592186044416 then (tattingref1_Few.l0 k x0 x1 (x5 ++ [Int.tmod (rd x0 x6) x1]) (wrap64 (x6 + 1))) else (none)))) else (none)) else (some x5)
def tattingref1_Few.f (k : Nat) (l0 : List Int) (a1 : Int) : Option (List Int) := tattingref1_Few.l0 k l0 a1 ([] : List Int) 0
theorem tattingref1_Few.mono_l : ∀ k, (∀ y0 y1 y2 y3, LeO (tattingref1_Few.l0 k y0 y1 y2 y3) (tattingref1_Few.l0 (k + 1) y0 y1 y2 y3))
  | 0 => fun _ _ _ _ r h => by simp [tattingref1_Few.l0] at h
  | k + 1 => by
    have ih0 := tattingref1_Few.mono_l k
    · intro y0 y1 y2 y3
      unfold tattingref1_Few.l0
      repeat' first
      | (with_reducible exact ih0 _ _ _ _)
      | (with_reducible exact LeO.refl _)
      | (with_reducible exact LeO.none _)
      | (with_reducible refine LeO.ite ?_ ?_)
      | (with_reducible refine LeO.bind ?_ (fun _ => ?_))
      | exact ih0 _ _ _ _
      | exact LeO.none _
      | refine LeO.ite ?_ ?_
      | refine LeO.bind ?_ (fun _ => ?_)
theorem tattingref1_Few.mono : ∀ a0 a1 k, LeO (tattingref1_Few.f k a0 a1) (tattingref1_Few.f (k + 1) a0 a1) := by
  intro a0 a1 k
  have ih0 := tattingref1_Few.mono_l k
  unfold tattingref1_Few.f
  repeat' first
      | (with_reducible exact ih0 _ _ _ _)
      | (with_reducible exact LeO.refl _)
      | (with_reducible exact LeO.none _)
      | (with_reducible refine LeO.ite ?_ ?_)
      | (with_reducible refine LeO.bind ?_ (fun _ => ?_))
      | exact ih0 _ _ _ _
      | exact LeO.none _
      | refine LeO.ite ?_ ?_
      | refine LeO.bind ?_ (fun _ => ?_)
set_option maxHeartbeats 8000000 in
set_option maxRecDepth 100000 in
theorem tattingref1_Few.calls (k : Nat) (A0 : Option Addr) (c0 : Nat) (l0 : List Int) (a1 : Int) (r : List Int) (w : World) (hr0 : Kd.C (Kd.int .i64) w A0 l0.length l0) (hc0 : l0.length ≤ c0) (h : tattingref1_Few.f k l0 a1 = some r) :
    Calls Tryz.prog 10 #[.slice A0 l0.length c0, .int .i64 a1] w fun e w' => ∃ v0_ : Value, e = .returned (v0_) ∧ Kd.R (Kd.int .i64) 3 w' w.heap.size (fun _ => True) v0_ r ∧ Below w.heap.size w w' := by
  have HR0 := Aside0.mk hr0
  have HC0 := Aside0.mk hc0
  clear hr0 hc0
  have HB := Aside0.mk (Below.refl w.heap.size w)
  have H : (tattingref1_Few.l0 k l0 a1 ([] : List Int) 0) = some r := h
  clear h
  have H' := Aside0.mk H
  clear H
  go_enter Tryz.func10, Tryz.ntmps10
  go_wp2
  go_loopg [5, 6] k (fun kq v5 v6 w' => ∃ (x5_1 : List Int) (x6_1 : Int), v6 = .int .i64 x6_1 ∧ Aside0 (tattingref1_Few.l0 kq l0 a1 x5_1 x6_1 = some r) ∧ Aside0 (kq ≤ k) ∧ Aside0 (Kd.R (Kd.int .i64) 3 w' w.heap.size (fun _ => True) v5 x5_1) ∧ Aside0 (Below w.heap.size w w'))
  case atStart => exact ⟨(([] : List Int)), (0), (by first | rfl | (simp; done) | (simp [*]; done)), H', ⟨Nat.le_refl _⟩, ⟨by first | exact Kd.R_nil _ _ _ _ _ | exact Kd.N_nil _ _ _ _ _ | exact Kd.V_nil _ _ _ _ _ | exact Kd.Q_nil _ _ _ _ _ | exact Kd.S_nil _ _ _ _ _⟩, ⟨by repeat (first | (with_reducible first | exact HB.out | apply below_alloc | apply pw_below_drewN | apply below_drew1) | exact HB.out)⟩⟩
  case round =>
    clear H'
    try clear c1
    try clear p2
    obtain ⟨x5_1, x6_1, rfl, HA, HK1, HO_5, HB⟩ := hrel
    cases gk with
    | zero => exact absurd HA.out (by simp [tattingref1_Few.l0])
    | succ k1 =>
      have H := HA.out
      clear HA
      simp only [tattingref1_Few.l0] at H
      by_cases c3 : x6_1 < (l0.length : Int)
      · rw [if_pos c3] at H
        have c3b0 : decide (x6_1 < (l0.length : Int)) = true := decide_eq_true c3
        clear c3
        by_cases c4 : 0 ≤ x6_1
        · rw [if_pos c4] at H
          have c4b0 : decide (0 ≤ x6_1) = true := decide_eq_true c4
          clear c4
          by_cases c5 : a1 = 0
          · rw [if_pos c5] at H
            exact absurd H (by simp)
          · rw [if_neg c5] at H
            have c5b0 : (a1 == 0) = false := beq_eq_false_iff_ne.mpr c5
            have c5b1 : (a1 != 0) = true := bne_iff_ne.mpr c5
            by_cases c6 : (Int.tmod (rd l0 x6_1) a1) < 0
            · rw [if_pos c6] at H
              have c6b0 : decide ((Int.tmod (rd l0 x6_1) a1) < 0) = true := decide_eq_true c6
              clear c6
              by_cases c7 : x5_1.length < 17592186044416
              · rw [if_pos c7] at H
                have LMc7 := Aside0.mk c7
                clear c7
                obtain ⟨y168, hy168⟩ : ∃ y_ : List Int, y_ = (x5_1 ++ [wrap64 ((Int.tmod (rd l0 x6_1) a1) + a1)]) := ⟨_, rfl⟩
                replace H : (tattingref1_Few.l0 k1 l0 a1 y168 (wrap64 (x6_1 + 1))) = some r := by first | (rw [hy168]; with_reducible exact H) | (have H2_ := (Option.bind_some _ _).symm.trans H; rw [hy168]; with_reducible exact H2_) | (have H2_ := (Option.bind_some _ _).symm.trans H; with_reducible exact H2_) | with_reducible exact H | (rw [hy168]; exact H) | exact H
                have Ny168 := Aside0.mk hy168
                clear hy168
                have H' := Aside0.mk H
                clear H
                have p167 : 0 ≤ (x6_1 : Int) := of_decide_eq_true (by first | (with_reducible assumption) | assumption)
                have q167 : x6_1 < (l0.length : Int) := of_decide_eq_true (by first | (with_reducible assumption) | assumption)
                obtain ⟨ad167, e167, hx167_0⟩ := Kd.at_int HR0.out x6_1 p167 q167
                cases e167
                replace hx167_0 := (HB.out.cell (World.block_lt_of_cell? w _ hx167_0)).trans hx167_0
                replace p167 := eq_true p167
                replace q167 := eq_true q167
                go_wp2_with (first | ((with_reducible refine gate_builtin (b := .append) (xs := #[.tmp 25, .tmp 27]) rfl ?_); at_builtin; refine Kd.R_append (Kd.int .i64) (w0 := w) w.heap.size rfl (.tmp 25) (.tmp 27) 22 3 (.int .i64 0) 8 rfl Tryz.underlying22 info3 rfl (by decide) (by omega) u5 x5_1 (wrap64 ((Int.tmod (rd l0 x6_1) a1) + a1)) [.int .i64 (wrap64 ((Int.tmod (rd l0 x6_1) a1) + a1))] (fun _ => True) (fun _ => False) rfl rfl ?aP (fun _ hk => hk.elim) ?aF ?aO ?aB ?aS ?aL ?_; (case aP => exact rfl); (case aB => exact (by repeat (first | (with_reducible first | exact HB.out | apply below_alloc | apply pw_below_drewN | apply below_drew1) | exact HB.out))); (case aF => exact (fun _ _ => trivial)); (case aO => exact (by (with_reducible repeat (first | apply Kd.R_alloc | apply Kd.R_drewN | apply Kd.R_drew)); exact HO_5.out)); (case aS => exact (below_size (by repeat (first | (with_reducible first | exact HB.out | apply below_alloc | apply pw_below_drewN | apply below_drew1) | exact HB.out)))); (case aL => have := LMc7.out; omega); intro v169 w8 ho hb hg hat; rw [← Ny168.out] at ho; have n0_ := Aside0.mk (hb); have n1_ := Aside0.mk (ho); clear HB; clear HO_5; have HB := n0_; have HO170 := n1_; clear n0_ n1_; clear ho hb hg hat))
                go_roundg k1
                case measure => have := HK1.out; omega
                case rel => exact ⟨(y168), (wrap64 (x6_1 + 1)), (by first | rfl | (simp; done) | (simp [*]; done)), H', ⟨by have := HK1.out; omega⟩, ⟨by (with_reducible repeat (first | apply Kd.R_alloc | apply Kd.R_drewN | apply Kd.R_drew)); exact HO170.out⟩, ⟨by repeat (first | (with_reducible first | exact HB.out | apply below_alloc | apply pw_below_drewN | apply below_drew1) | exact HB.out)⟩⟩
              · rw [if_neg c7] at H
                exact absurd H (by simp)
            · rw [if_neg c6] at H
              have c6b0 : decide ((Int.tmod (rd l0 x6_1) a1) < 0) = false := decide_eq_false c6
              clear c6
              by_cases c9 : x5_1.length < 17592186044416
              · rw [if_pos c9] at H
                have LMc9 := Aside0.mk c9
                clear c9
                obtain ⟨y171, hy171⟩ : ∃ y_ : List Int, y_ = (x5_1 ++ [Int.tmod (rd l0 x6_1) a1]) := ⟨_, rfl⟩
                replace H : (tattingref1_Few.l0 k1 l0 a1 y171 (wrap64 (x6_1 + 1))) = some r := by first | (rw [hy171]; with_reducible exact H) | (have H2_ := (Option.bind_some _ _).symm.trans H; rw [hy171]; with_reducible exact H2_) | (have H2_ := (Option.bind_some _ _).symm.trans H; with_reducible exact H2_) | with_reducible exact H | (rw [hy171]; exact H) | exact H
                have Ny171 := Aside0.mk hy171
                clear hy171
                have H' := Aside0.mk H
                clear H
                have p167 : 0 ≤ (x6_1 : Int) := of_decide_eq_true (by first | (with_reducible assumption) | assumption)
                have q167 : x6_1 < (l0.length : Int) := of_decide_eq_true (by first | (with_reducible assumption) | assumption)
                obtain ⟨ad167, e167, hx167_0⟩ := Kd.at_int HR0.out x6_1 p167 q167
                cases e167
                replace hx167_0 := (HB.out.cell (World.block_lt_of_cell? w _ hx167_0)).trans hx167_0
                replace p167 := eq_true p167
                replace q167 := eq_true q167
                go_wp2_with (first | ((with_reducible refine gate_builtin (b := .append) (xs := #[.tmp 25, .tmp 27]) rfl ?_); at_builtin; refine Kd.R_append (Kd.int .i64) (w0 := w) w.heap.size rfl (.tmp 25) (.tmp 27) 22 3 (.int .i64 0) 8 rfl Tryz.underlying22 info3 rfl (by decide) (by omega) u5 x5_1 (Int.tmod (rd l0 x6_1) a1) [.int .i64 (Int.tmod (rd l0 x6_1) a1)] (fun _ => True) (fun _ => False) rfl rfl ?aP (fun _ hk => hk.elim) ?aF ?aO ?aB ?aS ?aL ?_; (case aP => exact rfl); (case aB => exact (by repeat (first | (with_reducible first | exact HB.out | apply below_alloc | apply pw_below_drewN | apply below_drew1) | exact HB.out))); (case aF => exact (fun _ _ => trivial)); (case aO => exact (by (with_reducible repeat (first | apply Kd.R_alloc | apply Kd.R_drewN | apply Kd.R_drew)); exact HO_5.out)); (case aS => exact (below_size (by repeat (first | (with_reducible first | exact HB.out | apply below_alloc | apply pw_below_drewN | apply below_drew1) | exact HB.out)))); (case aL => have := LMc9.out; omega); intro v172 w10 ho hb hg hat; rw [← Ny171.out] at ho; have n0_ := Aside0.mk (hb); have n1_ := Aside0.mk (ho); clear HB; clear HO_5; have HB := n0_; have HO173 := n1_; clear n0_ n1_; clear ho hb hg hat))
                go_roundg k1
                case measure => have := HK1.out; omega
                case rel => exact ⟨(y171), (wrap64 (x6_1 + 1)), (by first | rfl | (simp; done) | (simp [*]; done)), H', ⟨by have := HK1.out; omega⟩, ⟨by (with_reducible repeat (first | apply Kd.R_alloc | apply Kd.R_drewN | apply Kd.R_drew)); exact HO173.out⟩, ⟨by repeat (first | (with_reducible first | exact HB.out | apply below_alloc | apply pw_below_drewN | apply below_drew1) | exact HB.out)⟩⟩
              · rw [if_neg c9] at H
                exact absurd H (by simp)
        · rw [if_neg c4] at H
          exact absurd H (by simp)
      · rw [if_neg c3] at H
        have c3b0 : decide (x6_1 < (l0.length : Int)) = false := decide_eq_false c3
        clear c3
        obtain rfl := Option.some.inj H
        go_wp2
        go_ret
        exact ⟨_, by first | rfl | (simp [errW_none, errW_some] <;> rfl) | (simp [*, errW_none, errW_some] <;> rfl), by (with_reducible repeat (first | apply Kd.R_alloc | apply Kd.R_drewN | apply Kd.R_drew)); exact HO_5.out, by repeat (first | (with_reducible first | exact HB.out | apply below_alloc | apply pw_below_drewN | apply below_drew1) | exact HB.out)⟩
/-! ### delta_Of: function 27 -/
def delta_Of.l0 : Nat → List Int → List Int → Int → Int → Option (List Int × Int)
  | 0, _, _, _, _ => none
  | k + 1, x0, x4, x16, x17 => if x17 < x16 then (if 0 ≤ x17 then (if x17 < (x0.length : Int) then (if 0 ≤ (wrap64 (x17 + 1)) then (if (wrap64 (x17 + 1)) < (x0.length : Int) then (if (rd x0 (wrap64 (x17 + 1))) = (rd x0 x17) then (delta_Of.l0 k x0 x4 x16 (wrap64 (x17 + 1))) else (if (rd x0 (wrap64 (x17 + 1))) > (rd x0 x17) then (if (wrap64 ((rd x0 (wrap64 (x17 + 1))) - 1)) = (rd x0 x17) then (if x17 < (x4.length : Int) then (delta_Of.l0 k x0 (x4.set (x17 : Int).toNat 1) x16 (wrap64 (x17 + 1))) else (none)) else (some (([] : List Int), 1))) else (some (([] : List Int), 1)))) else (none)) else (none)) else (none)) else (none)) else (some (x4, 0))
def delta_Of.f (k : Nat) (l0 : List Int) : Option (List Int × Int) := if (l0.length : Int) = 0 then (some (([] : List Int), 1)) else (if 0 ≤ (wrap64 ((l0.length : Int) - 1)) then (if (wrap64 ((l0.length : Int) - 1) : Int).toNat ≤ 281474976710656 then ((some (List.replicate (wrap64 ((l0.length : Int) - 1) : Int).toNat 0 : List Int)).bind fun y174 => (delta_Of.l0 k l0 y174 (y174.length : Int) 0)) else (none)) else (none))
theorem delta_Of.mono_l : ∀ k, (∀ y0 y1 y2 y3, LeO (delta_Of.l0 k y0 y1 y2 y3) (delta_Of.l0 (k + 1) y0 y1 y2 y3))
  | 0 => fun _ _ _ _ r h => by simp [delta_Of.l0] at h
  | k + 1 => by
    have ih0 := delta_Of.mono_l k
    · intro y0 y1 y2 y3
      unfold delta_Of.l0
      repeat' first
      | (with_reducible exact ih0 _ _ _ _)
      | (with_reducible exact LeO.refl _)
      | (with_reducible exact LeO.none _)
      | (with_reducible refine LeO.ite ?_ ?_)
      | (with_reducible refine LeO.bind ?_ (fun _ => ?_))
      | exact ih0 _ _ _ _
      | exact LeO.none _
      | refine LeO.ite ?_ ?_
      | refine LeO.bind ?_ (fun _ => ?_)
theorem delta_Of.mono : ∀ a0 k, LeO (delta_Of.f k a0) (delta_Of.f (k + 1) a0) := by
  intro a0 k
  have ih0 := delta_Of.mono_l k
  unfold delta_Of.f
  repeat' first
      | (with_reducible exact ih0 _ _ _ _)
      | (with_reducible exact LeO.refl _)
      | (with_reducible exact LeO.none _)
      | (with_reducible refine LeO.ite ?_ ?_)
      | (with_reducible refine LeO.bind ?_ (fun _ => ?_))
      | exact ih0 _ _ _ _
      | exact LeO.none _
      | refine LeO.ite ?_ ?_
      | refine LeO.bind ?_ (fun _ => ?_)
set_option maxHeartbeats 8000000 in
set_option maxRecDepth 100000 in
theorem delta_Of.calls (k : Nat) (A0 : Option Addr) (c0 : Nat) (l0 : List Int) (r1 : List Int) (r2 : Int) (w : World) (hr0 : Kd.C (Kd.int .i64) w A0 l0.length l0) (hc0 : l0.length ≤ c0) (h : delta_Of.f k l0 = some (r1, r2)) :
    Calls Tryz.prog 27 #[.slice A0 l0.length c0] w fun e w' => ∃ v0_ : Value, e = .returned (.tuple #[v0_, .int .i64 r2]) ∧ Kd.R (Kd.int .u8) 5 w' w.heap.size (fun _ => True) v0_ r1 ∧ Below w.heap.size w w' := by
  have HR0 := Aside0.mk hr0
  have HC0 := Aside0.mk hc0
  clear hr0 hc0
  have HB := Aside0.mk (Below.refl w.heap.size w)
  have H : (if (l0.length : Int) = 0 then (some (([] : List Int), 1)) else (if 0 ≤ (wrap64 ((l0.length : Int) - 1)) then (if (wrap64 ((l0.length : Int) - 1) : Int).toNat ≤ 281474976710656 then ((some (List.replicate (wrap64 ((l0.length : Int) - 1) : Int).toNat 0 : List Int)).bind fun y174 => (delta_Of.l0 k l0 y174 (y174.length : Int) 0)) else (none)) else (none))) = some (r1, r2) := h
  clear h
  by_cases c2 : (l0.length : Int) = 0
  · rw [if_pos c2] at H
    have c2b0 : ((l0.length : Int) == 0) = true := beq_iff_eq.mpr c2
    have c2b1 : ((l0.length : Int) != 0) = false := bne_eq_false_iff_eq.mpr c2
    clear c2
    simp only [Option.some.injEq, Prod.mk.injEq] at H
    obtain ⟨rfl, rfl⟩ := H
    go_enter Tryz.func27, Tryz.ntmps27
    go_wp2
    repeat (go_quiet (fail); try go_wp2)
    go_ret2
    exact ⟨_, by first | rfl | (simp [errW_none, errW_some] <;> rfl) | (simp [*, errW_none, errW_some] <;> rfl), by first | exact Kd.R_nil _ _ _ _ _ | exact Kd.N_nil _ _ _ _ _ | exact Kd.V_nil _ _ _ _ _ | exact Kd.Q_nil _ _ _ _ _ | exact Kd.S_nil _ _ _ _ _, by repeat (first | (with_reducible first | exact HB.out | apply below_alloc | apply pw_below_drewN | apply below_drew1) | exact HB.out)⟩
  · rw [if_neg c2] at H
    have c2b0 : ((l0.length : Int) == 0) = false := beq_eq_false_iff_ne.mpr c2
    have c2b1 : ((l0.length : Int) != 0) = true := bne_iff_ne.mpr c2
    have c2b2 : ¬ (l0 = []) := fun h_ => c2 (by rw [h_]; rfl)
    obtain ⟨ji3, hji3⟩ : ∃ j_ : Int, (wrap64 ((l0.length : Int) - 1)) = j_ := ⟨_, rfl⟩
    replace H : (if 0 ≤ (ji3) then (if (ji3 : Int).toNat ≤ 281474976710656 then ((some (List.replicate (ji3 : Int).toNat 0 : List Int)).bind fun y174 => (delta_Of.l0 k l0 y174 (y174.length : Int) 0)) else (none)) else (none)) = some (r1, r2) := by first | (rw [hji3] at H; exact H) | (simp only [hji3] at H ⊢; exact H)
    have hji3w : (IntKind.i64.wrap ((l0.length : Int) - 1)) = ji3 := (i64_w _).trans hji3
    by_cases c4 : 0 ≤ (ji3)
    · rw [if_pos c4] at H
      have c4b0 := eq_true c4
      have c4b1 : decide (0 ≤ (ji3)) = true := decide_eq_true c4
      clear c4
      by_cases c5 : (ji3 : Int).toNat ≤ 281474976710656
      · rw [if_pos c5] at H
        have c5b0 := eq_true c5
        have c5b1 : decide ((ji3 : Int).toNat ≤ 281474976710656) = true := decide_eq_true c5
        clear c5
        obtain ⟨y174, hy174⟩ : ∃ y_ : List Int, y_ = (List.replicate (ji3 : Int).toNat 0) := ⟨_, rfl⟩
        replace H : (delta_Of.l0 k l0 y174 (y174.length : Int) 0) = some (r1, r2) := by first | (rw [hy174]; with_reducible exact H) | (have H2_ := (Option.bind_some _ _).symm.trans H; rw [hy174]; with_reducible exact H2_) | (have H2_ := (Option.bind_some _ _).symm.trans H; with_reducible exact H2_) | with_reducible exact H | (rw [hy174]; exact H) | exact H
        have Ny174 := Aside0.mk hy174
        clear hy174
        have H' := Aside0.mk H
        clear H
        go_enter Tryz.func27, Tryz.ntmps27
        go_wp2_with (first | ((with_reducible refine gate_dst (N := 14) rfl ?_); refine Kd.R_make (Kd.int .u8) _ 5 rfl (N := 14) rfl 35 _ _ rfl ji3 rfl rfl Tryz.underlying35 (.int .u8 0) 1 info5 rfl (by decide) (by omega) 0 (ok := fun _ => True) (okp := fun _ => True) rfl (fun _ hk => hk) trivial (of_decide_eq_true (by first | (with_reducible assumption) | assumption)) (Nat.le_trans (Nat.mul_le_mul_right _ (of_decide_eq_true (by first | (with_reducible assumption) | assumption) : ji3.toNat ≤ 281474976710656)) (by omega)) (Below.refl _ _) (Nat.le_refl _) ?_; intro v175 w6 ho7 hb hg_ hnew_; clear hg_ hnew_; (first | rw [← Ny174.out] at ho7 | (simp only [Int.reduceToNat] at ho7; rw [← Ny174.out] at ho7)); have n0_ := Aside0.mk (Kd.R_lower ho7 (below_size (by repeat (first | (with_reducible first | exact HB.out | apply below_alloc | apply pw_below_drewN | apply below_drew1) | exact HB.out)))); have n1_ := Aside0.mk (below_step (by repeat (first | (with_reducible first | exact HB.out | apply below_alloc | apply pw_below_drewN | apply below_drew1) | exact HB.out)) hb); clear HB; have HO176 := n0_; have HB := n1_; clear n0_ n1_; clear hb ho7; obtain ⟨Ao8, co8, eo8⟩ := Kd.R_slice HO176.out; subst eo8))
        repeat (go_quiet (first | ((with_reducible refine gate_dst (N := 14) rfl ?_); refine Kd.R_make (Kd.int .u8) _ 5 rfl (N := 14) rfl 35 _ _ rfl ji3 rfl rfl Tryz.underlying35 (.int .u8 0) 1 info5 rfl (by decide) (by omega) 0 (ok := fun _ => True) (okp := fun _ => True) rfl (fun _ hk => hk) trivial (of_decide_eq_true (by first | (with_reducible assumption) | assumption)) (Nat.le_trans (Nat.mul_le_mul_right _ (of_decide_eq_true (by first | (with_reducible assumption) | assumption) : ji3.toNat ≤ 281474976710656)) (by omega)) (Below.refl _ _) (Nat.le_refl _) ?_; intro v175 w6 ho7 hb hg_ hnew_; clear hg_ hnew_; (first | rw [← Ny174.out] at ho7 | (simp only [Int.reduceToNat] at ho7; rw [← Ny174.out] at ho7)); have n0_ := Aside0.mk (Kd.R_lower ho7 (below_size (by repeat (first | (with_reducible first | exact HB.out | apply below_alloc | apply pw_below_drewN | apply below_drew1) | exact HB.out)))); have n1_ := Aside0.mk (below_step (by repeat (first | (with_reducible first | exact HB.out | apply below_alloc | apply pw_below_drewN | apply below_drew1) | exact HB.out)) hb); clear HB; have HO176 := n0_; have HB := n1_; clear n0_ n1_; clear hb ho7; obtain ⟨Ao8, co8, eo8⟩ := Kd.R_slice HO176.out; subst eo8)); try go_wp2_with (first | ((with_reducible refine gate_dst (N := 14) rfl ?_); refine Kd.R_make (Kd.int .u8) _ 5 rfl (N := 14) rfl 35 _ _ rfl ji3 rfl rfl Tryz.underlying35 (.int .u8 0) 1 info5 rfl (by decide) (by omega) 0 (ok := fun _ => True) (okp := fun _ => True) rfl (fun _ hk => hk) trivial (of_decide_eq_true (by first | (with_reducible assumption) | assumption)) (Nat.le_trans (Nat.mul_le_mul_right _ (of_decide_eq_true (by first | (with_reducible assumption) | assumption) : ji3.toNat ≤ 281474976710656)) (by omega)) (Below.refl _ _) (Nat.le_refl _) ?_; intro v175 w6 ho7 hb hg_ hnew_; clear hg_ hnew_; (first | rw [← Ny174.out] at ho7 | (simp only [Int.reduceToNat] at ho7; rw [← Ny174.out] at ho7)); have n0_ := Aside0.mk (Kd.R_lower ho7 (below_size (by repeat (first | (with_reducible first | exact HB.out | apply below_alloc | apply pw_below_drewN | apply below_drew1) | exact HB.out)))); have n1_ := Aside0.mk (below_step (by repeat (first | (with_reducible first | exact HB.out | apply below_alloc | apply pw_below_drewN | apply below_drew1) | exact HB.out)) hb); clear HB; have HO176 := n0_; have HB := n1_; clear n0_ n1_; clear hb ho7; obtain ⟨Ao8, co8, eo8⟩ := Kd.R_slice HO176.out; subst eo8)))
        go_loopg [17] k (fun kq v17 w' => ∃ (x4_1 : List Int) (x17_1 : Int), v17 = .int .i64 x17_1 ∧ Aside0 (delta_Of.l0 kq l0 x4_1 (y174.length : Int) x17_1 = some (r1, r2)) ∧ Aside0 (kq ≤ k) ∧ Aside0 (Kd.R (Kd.int .u8) 5 w' w.heap.size (fun _ => True) (.slice Ao8 y174.length co8) x4_1) ∧ Aside0 (Below w.heap.size w w'))
        case atStart => exact ⟨(y174), (0), (by first | rfl | (simp; done) | (simp [*]; done)), H', ⟨Nat.le_refl _⟩, ⟨by (with_reducible repeat (first | apply Kd.R_alloc | apply Kd.R_drewN | apply Kd.R_drew)); exact HO176.out⟩, ⟨by repeat (first | (with_reducible first | exact HB.out | apply below_alloc | apply pw_below_drewN | apply below_drew1) | exact HB.out)⟩⟩
        case round =>
          clear H'
          try clear c2
          try clear c2b0
          try clear c2b1
          try clear c2b2
          try clear p2
          try clear c4
          try clear c4b0
          try clear c4b1
          try clear c5
          try clear c5b0
          try clear c5b1
          try clear p6
          obtain ⟨x4_1, x17_1, rfl, HA, HK1, HO_4, HB⟩ := hrel
          have hl4_1 := (Kd.R_reads' HO_4.out).1
          rw [hl4_1] at HO_4
          (try simp only [hl4_1])
          cases gk with
          | zero => exact absurd HA.out (by simp [delta_Of.l0])
          | succ k1 =>
            have H := HA.out
            clear HA
            simp only [delta_Of.l0] at H
            by_cases c9 : x17_1 < (y174.length : Int)
            · rw [if_pos c9] at H
              have c9b0 : decide (x17_1 < (y174.length : Int)) = true := decide_eq_true c9
              (try rw [hl4_1] at c9b0)
              clear c9
              by_cases c10 : 0 ≤ x17_1
              · rw [if_pos c10] at H
                have c10b0 : decide (0 ≤ x17_1) = true := decide_eq_true c10
                clear c10
                by_cases c11 : x17_1 < (l0.length : Int)
                · rw [if_pos c11] at H
                  have c11b0 : decide (x17_1 < (l0.length : Int)) = true := decide_eq_true c11
                  clear c11
                  obtain ⟨ji12, hji12⟩ : ∃ j_ : Int, (wrap64 (x17_1 + 1)) = j_ := ⟨_, rfl⟩
                  replace H : (if 0 ≤ (ji12) then (if (ji12) < (l0.length : Int) then (if (rd l0 (ji12)) = (rd l0 x17_1) then (delta_Of.l0 k1 l0 x4_1 (y174.length : Int) ji12) else (if (rd l0 (ji12)) > (rd l0 x17_1) then (if (wrap64 ((rd l0 (ji12)) - 1)) = (rd l0 x17_1) then (if x17_1 < (x4_1.length : Int) then (delta_Of.l0 k1 l0 (x4_1.set (x17_1 : Int).toNat 1) (y174.length : Int) ji12) else (none)) else (some (([] : List Int), 1))) else (some (([] : List Int), 1)))) else (none)) else (none)) = some (r1, r2) := by first | (rw [hji12] at H; exact H) | (simp only [hji12] at H ⊢; exact H)
                  have hji12w : (IntKind.i64.wrap (x17_1 + 1)) = ji12 := (i64_w _).trans hji12
                  by_cases c13 : 0 ≤ (ji12)
                  · rw [if_pos c13] at H
                    have c13b0 : decide (0 ≤ (ji12)) = true := decide_eq_true c13
                    clear c13
                    by_cases c14 : (ji12) < (l0.length : Int)
                    · rw [if_pos c14] at H
                      have c14b0 : decide ((ji12) < (l0.length : Int)) = true := decide_eq_true c14
                      clear c14
                      by_cases c15 : (rd l0 (ji12)) = (rd l0 x17_1)
                      · rw [if_pos c15] at H
                        have c15b0 : ((rd l0 (ji12)) == (rd l0 x17_1)) = true := beq_iff_eq.mpr c15
                        have c15b1 : ((rd l0 (ji12)) != (rd l0 x17_1)) = false := bne_eq_false_iff_eq.mpr c15
                        clear c15
                        have H' := Aside0.mk H
                        clear H
                        have p177 : 0 ≤ (x17_1 : Int) := of_decide_eq_true (by first | (with_reducible assumption) | assumption)
                        have q177 : x17_1 < (l0.length : Int) := of_decide_eq_true (by first | (with_reducible assumption) | assumption)
                        obtain ⟨ad177, e177, hx177_0⟩ := Kd.at_int HR0.out x17_1 p177 q177
                        cases e177
                        replace hx177_0 := (HB.out.cell (World.block_lt_of_cell? w _ hx177_0)).trans hx177_0
                        replace p177 := eq_true p177
                        replace q177 := eq_true q177
                        have p178 : 0 ≤ ((ji12) : Int) := of_decide_eq_true (by first | (with_reducible assumption) | assumption)
                        have q178 : (ji12) < (l0.length : Int) := of_decide_eq_true (by first | (with_reducible assumption) | assumption)
                        obtain ⟨ad178, e178, hx178_0⟩ := Kd.at_int HR0.out (ji12) p178 q178
                        obtain rfl : ad177 = ad178 := (by injection e178)
                        replace hx178_0 := (HB.out.cell (World.block_lt_of_cell? w _ hx178_0)).trans hx178_0
                        replace p178 := eq_true p178
                        replace q178 := eq_true q178
                        go_wp2
                        repeat (go_quiet (fail); try go_wp2)
                        (try simp only [← hl4_1])
                        go_roundg k1
                        case measure => have := HK1.out; omega
                        case rel => exact ⟨(x4_1), (ji12), (by first | rfl | (simp; done) | (simp only [← hji12] <;> (first | rfl | simp)) | (simp [*]; done)), H', ⟨by have := HK1.out; omega⟩, ⟨by (try simp only [hl4_1]); (with_reducible repeat (first | apply Kd.R_alloc | apply Kd.R_drewN | apply Kd.R_drew)); exact HO_4.out⟩, ⟨by repeat (first | (with_reducible first | exact HB.out | apply below_alloc | apply pw_below_drewN | apply below_drew1) | exact HB.out)⟩⟩
                      · rw [if_neg c15] at H
                        have c15b0 : ((rd l0 (ji12)) == (rd l0 x17_1)) = false := beq_eq_false_iff_ne.mpr c15
                        have c15b1 : ((rd l0 (ji12)) != (rd l0 x17_1)) = true := bne_iff_ne.mpr c15
                        by_cases c16 : (rd l0 (ji12)) > (rd l0 x17_1)
                        · rw [if_pos c16] at H
                          have c16b0 : decide ((rd l0 x17_1) < (rd l0 (ji12))) = true := decide_eq_true c16
                          clear c16
                          by_cases c17 : (wrap64 ((rd l0 (ji12)) - 1)) = (rd l0 x17_1)
                          · rw [if_pos c17] at H
                            have c17b0 : ((wrap64 ((rd l0 (ji12)) - 1)) == (rd l0 x17_1)) = true := beq_iff_eq.mpr c17
                            have c17b1 : ((wrap64 ((rd l0 (ji12)) - 1)) != (rd l0 x17_1)) = false := bne_eq_false_iff_eq.mpr c17
                            clear c17
                            by_cases c18 : x17_1 < (x4_1.length : Int)
                            · rw [if_pos c18] at H
                              have c18b0 : decide (x17_1 < (x4_1.length : Int)) = true := decide_eq_true c18
                              clear c18
                              obtain ⟨y179, hy179⟩ : ∃ y_ : List Int, y_ = (x4_1.set (x17_1 : Int).toNat 1) := ⟨_, rfl⟩
                              replace H : (delta_Of.l0 k1 l0 y179 (y174.length : Int) ji12) = some (r1, r2) := by first | (rw [hy179]; with_reducible exact H) | (have H2_ := (Option.bind_some _ _).symm.trans H; rw [hy179]; with_reducible exact H2_) | (have H2_ := (Option.bind_some _ _).symm.trans H; with_reducible exact H2_) | with_reducible exact H | (rw [hy179]; exact H) | exact H
                              have Ny179 := Aside0.mk hy179
                              clear hy179
                              have H' := Aside0.mk H
                              clear H
                              have p177 : 0 ≤ (x17_1 : Int) := of_decide_eq_true (by first | (with_reducible assumption) | assumption)
                              have q177 : x17_1 < (l0.length : Int) := of_decide_eq_true (by first | (with_reducible assumption) | assumption)
                              obtain ⟨ad177, e177, hx177_0⟩ := Kd.at_int HR0.out x17_1 p177 q177
                              cases e177
                              replace hx177_0 := (HB.out.cell (World.block_lt_of_cell? w _ hx177_0)).trans hx177_0
                              replace p177 := eq_true p177
                              replace q177 := eq_true q177
                              have p178 : 0 ≤ ((ji12) : Int) := of_decide_eq_true (by first | (with_reducible assumption) | assumption)
                              have q178 : (ji12) < (l0.length : Int) := of_decide_eq_true (by first | (with_reducible assumption) | assumption)
                              obtain ⟨ad178, e178, hx178_0⟩ := Kd.at_int HR0.out (ji12) p178 q178
                              obtain rfl : ad177 = ad178 := (by injection e178)
                              replace hx178_0 := (HB.out.cell (World.block_lt_of_cell? w _ hx178_0)).trans hx178_0
                              replace p178 := eq_true p178
                              replace q178 := eq_true q178
                              have p19 : 0 ≤ (x17_1 : Int) := of_decide_eq_true (by first | (with_reducible assumption) | assumption)
                              have q19 : (x17_1 : Int) < ((x4_1.length : Int) : Int) := of_decide_eq_true (by first | (with_reducible assumption) | assumption)
                              obtain ⟨go19, co19, eo19, gb19, gl19, cl19, HG19⟩ := Kd.R_form HO_4.out (by omega)
                              (first | cases eo19 | (injection eo19 with ea_ en_ ec_; (first | subst ea_ | (injection ea_ with ea_; subst ea_)); subst ec_; clear en_))
                              have GB19 := Aside0.mk gb19
                              have GG19 := Aside0.mk HG19
                              clear gb19 gl19 HG19
                              obtain ⟨hx19_0, hf19_0⟩ := Kd.R_celln 0 HO_4.out (x17_1 : Int) p19 q19
                              replace p19 := eq_true p19
                              replace q19 := eq_true q19
                              have HP20 := Kd.R_putg HO_4.out (x17_1 : Int) 1
                              go_wp2_with fail
                              go_quiet (fail)
                              go_wp2_with fail
                              have HP20 := Kd.R_putg (Kd.R_drewN HO_4.out nq) (x17_1 : Int) 1
                              have n0_ := Aside0.mk HP20.1
                              rw [← Ny179.out] at n0_
                              have n1_ := Aside0.mk (below_set (pw_below_drewN HB.out nq) GB19.out : Below w.heap.size w ((wr.drewN nq).setCell ⟨go19, (x17_1 : Int).toNat, none⟩ (.int .u8 1)))
                              clear HO_4 HB
                              have HO_4 := n0_
                              have HB := n1_
                              clear n0_ n1_
                              (try simp only [← hl4_1])
                              go_roundg k1
                              case measure => have := HK1.out; omega
                              case rel => exact ⟨(y179), (ji12), (by first | rfl | (simp; done) | (simp only [← hji12] <;> (first | rfl | simp)) | (simp [*]; done)), H', ⟨by have := HK1.out; omega⟩, ⟨by (try simp only [hl4_1]); (with_reducible repeat (first | apply Kd.R_alloc | apply Kd.R_drewN | apply Kd.R_drew)); exact HO_4.out⟩, ⟨by repeat (first | (with_reducible first | exact HB.out | apply below_alloc | apply pw_below_drewN | apply below_drew1) | exact HB.out)⟩⟩
                            · rw [if_neg c18] at H
                              exact absurd H (by simp)
                          · rw [if_neg c17] at H
                            have c17b0 : ((wrap64 ((rd l0 (ji12)) - 1)) == (rd l0 x17_1)) = false := beq_eq_false_iff_ne.mpr c17
                            have c17b1 : ((wrap64 ((rd l0 (ji12)) - 1)) != (rd l0 x17_1)) = true := bne_iff_ne.mpr c17
                            simp only [Option.some.injEq, Prod.mk.injEq] at H
                            obtain ⟨rfl, rfl⟩ := H
                            have p177 : 0 ≤ (x17_1 : Int) := of_decide_eq_true (by first | (with_reducible assumption) | assumption)
                            have q177 : x17_1 < (l0.length : Int) := of_decide_eq_true (by first | (with_reducible assumption) | assumption)
                            obtain ⟨ad177, e177, hx177_0⟩ := Kd.at_int HR0.out x17_1 p177 q177
                            cases e177
                            replace hx177_0 := (HB.out.cell (World.block_lt_of_cell? w _ hx177_0)).trans hx177_0
                            replace p177 := eq_true p177
                            replace q177 := eq_true q177
                            have p178 : 0 ≤ ((ji12) : Int) := of_decide_eq_true (by first | (with_reducible assumption) | assumption)
                            have q178 : (ji12) < (l0.length : Int) := of_decide_eq_true (by first | (with_reducible assumption) | assumption)
                            obtain ⟨ad178, e178, hx178_0⟩ := Kd.at_int HR0.out (ji12) p178 q178
                            obtain rfl : ad177 = ad178 := (by injection e178)
                            replace hx178_0 := (HB.out.cell (World.block_lt_of_cell? w _ hx178_0)).trans hx178_0
                            replace p178 := eq_true p178
                            replace q178 := eq_true q178
                            go_wp2
                            repeat (go_quiet (fail); try go_wp2)
                            go_ret2
                            exact ⟨_, by first | rfl | (simp [errW_none, errW_some] <;> rfl) | (simp only [← hji3, ← hji12]; first | rfl | (simp [errW_none, errW_some] <;> rfl)) | (simp [*, errW_none, errW_some] <;> rfl), by first | exact Kd.R_nil _ _ _ _ _ | exact Kd.N_nil _ _ _ _ _ | exact Kd.V_nil _ _ _ _ _ | exact Kd.Q_nil _ _ _ _ _ | exact Kd.S_nil _ _ _ _ _, by repeat (first | (with_reducible first | exact HB.out | apply below_alloc | apply pw_below_drewN | apply below_drew1) | exact HB.out)⟩
                        · rw [if_neg c16] at H
                          have c16b0 : decide ((rd l0 x17_1) < (rd l0 (ji12))) = false := decide_eq_false c16
                          clear c16
                          simp only [Option.some.injEq, Prod.mk.injEq] at H
                          obtain ⟨rfl, rfl⟩ := H
                          have p177 : 0 ≤ (x17_1 : Int) := of_decide_eq_true (by first | (with_reducible assumption) | assumption)
                          have q177 : x17_1 < (l0.length : Int) := of_decide_eq_true (by first | (with_reducible assumption) | assumption)
                          obtain ⟨ad177, e177, hx177_0⟩ := Kd.at_int HR0.out x17_1 p177 q177
                          cases e177
                          replace hx177_0 := (HB.out.cell (World.block_lt_of_cell? w _ hx177_0)).trans hx177_0
                          replace p177 := eq_true p177
                          replace q177 := eq_true q177
                          have p178 : 0 ≤ ((ji12) : Int) := of_decide_eq_true (by first | (with_reducible assumption) | assumption)
                          have q178 : (ji12) < (l0.length : Int) := of_decide_eq_true (by first | (with_reducible assumption) | assumption)
                          obtain ⟨ad178, e178, hx178_0⟩ := Kd.at_int HR0.out (ji12) p178 q178
                          obtain rfl : ad177 = ad178 := (by injection e178)
                          replace hx178_0 := (HB.out.cell (World.block_lt_of_cell? w _ hx178_0)).trans hx178_0
                          replace p178 := eq_true p178
                          replace q178 := eq_true q178
                          go_wp2
                          repeat (go_quiet (fail); try go_wp2)
                          go_ret2
                          exact ⟨_, by first | rfl | (simp [errW_none, errW_some] <;> rfl) | (simp only [← hji3, ← hji12]; first | rfl | (simp [errW_none, errW_some] <;> rfl)) | (simp [*, errW_none, errW_some] <;> rfl), by first | exact Kd.R_nil _ _ _ _ _ | exact Kd.N_nil _ _ _ _ _ | exact Kd.V_nil _ _ _ _ _ | exact Kd.Q_nil _ _ _ _ _ | exact Kd.S_nil _ _ _ _ _, by repeat (first | (with_reducible first | exact HB.out | apply below_alloc | apply pw_below_drewN | apply below_drew1) | exact HB.out)⟩
                    · rw [if_neg c14] at H
                      exact absurd H (by simp)
                  · rw [if_neg c13] at H
                    exact absurd H (by simp)
                · rw [if_neg c11] at H
                  exact absurd H (by simp)
              · rw [if_neg c10] at H
                exact absurd H (by simp)
            · rw [if_neg c9] at H
              have c9b0 : decide (x17_1 < (y174.length : Int)) = false := decide_eq_false c9
              (try rw [hl4_1] at c9b0)
              clear c9
              simp only [Option.some.injEq, Prod.mk.injEq] at H
              obtain ⟨rfl, rfl⟩ := H
              go_wp2
              repeat (go_quiet (fail); try go_wp2)
              go_ret2
              exact ⟨_, by first | rfl | (simp [errW_none, errW_some] <;> rfl) | (simp only [← hji3]; first | rfl | (simp [errW_none, errW_some] <;> rfl)) | (simp [*, errW_none, errW_some] <;> rfl), by (with_reducible repeat (first | apply Kd.R_alloc | apply Kd.R_drewN | apply Kd.R_drew)); exact HO_4.out, by repeat (first | (with_reducible first | exact HB.out | apply below_alloc | apply pw_below_drewN | apply below_drew1) | exact HB.out)⟩
      · rw [if_neg c5] at H
        exact absurd H (by simp)
    · rw [if_neg c4] at H
      exact absurd H (by simp)
/-! ### hyyro_Rows: function 28 -/
def hyyro_Rows.f (l0 : List Int) (l1 : List Int) : Option (List (List Int)) := if l0.length ≤ 1000000 ∧ l1.length ≤ 1000000 ∧ l0.all (fun x => (Lit.int .i64 x).wf) = true ∧ l1.all (fun x => (Lit.int .i64 x).wf) = true then some (Go.Proofs.YtjkjanegankdhaaGreat.Vx.Vec.rows Go.Proofs.YtjkjanegankdhaaGreat.Vx.Vec.hyRow l0 l1 l0.length) else none
theorem hyyro_Rows.calls (A0 : Option Addr) (c0 : Nat) (l0 : List Int) (A1 : Option Addr) (c1 : Nat) (l1 : List Int) (r : List (List Int)) (w : World) (hr0 : Kd.C (Kd.int .i64) w A0 l0.length l0) (hc0 : l0.length ≤ c0) (hr1 : Kd.C (Kd.int .i64) w A1 l1.length l1) (hc1 : l1.length ≤ c1) (h : hyyro_Rows.f l0 l1 = some r) :
    Calls Tryz.prog 28 #[.slice A0 l0.length c0, .slice A1 l1.length c1] w fun e w' => ∃ v0_ : Value, e = .returned (v0_) ∧ Kd.S (Kd.slice 104 (Kd.int .u64)) 62 w' w.heap.size (fun _ => True) v0_ r ∧ Below w.heap.size w w' := by
  unfold hyyro_Rows.f at h
  by_cases c : l0.length ≤ 1000000 ∧ l1.length ≤ 1000000 ∧ l0.all (fun x => (Lit.int .i64 x).wf) = true ∧ l1.all (fun x => (Lit.int .i64 x).wf) = true
  · rw [if_pos c] at h
    obtain rfl := Option.some.inj h
    obtain ⟨q0, q1, q2, q3⟩ := c
    exact Go.Proofs.YtjkjanegankdhaaGreat.Vx.Vec.hyRows_calls A0 c0 l0 A1 c1 l1 w hr0 hr1 hc1 q0 q1 (List.all_eq_true.mp q2) (List.all_eq_true.mp q3)
  · rw [if_neg c] at h
    exact absurd h (by simp)
/-! ### croch_Rows: function 29 -/
def croch_Rows.f (l0 : List Int) (l1 : List Int) : Option (List (List Int)) := if l0.length ≤ 1000000 ∧ l1.length ≤ 1000000 ∧ l0.all (fun x => (Lit.int .i64 x).wf) = true ∧ l1.all (fun x => (Lit.int .i64 x).wf) = true then some (Go.Proofs.YtjkjanegankdhaaGreat.Vx.Vec.rows Go.Proofs.YtjkjanegankdhaaGreat.Vx.Vec.crRow l0 l1 l0.length) else none
theorem croch_Rows.calls (A0 : Option Addr) (c0 : Nat) (l0 : List Int) (A1 : Option Addr) (c1 : Nat) (l1 : List Int) (r : List (List Int)) (w : World) (hr0 : Kd.C (Kd.int .i64) w A0 l0.length l0) (hc0 : l0.length ≤ c0) (hr1 : Kd.C (Kd.int .i64) w A1 l1.length l1) (hc1 : l1.length ≤ c1) (h : croch_Rows.f l0 l1 = some r) :
    Calls Tryz.prog 29 #[.slice A0 l0.length c0, .slice A1 l1.length c1] w fun e w' => ∃ v0_ : Value, e = .returned (v0_) ∧ Kd.S (Kd.slice 104 (Kd.int .u64)) 62 w' w.heap.size (fun _ => True) v0_ r ∧ Below w.heap.size w w' := by
  unfold croch_Rows.f at h
  by_cases c : l0.length ≤ 1000000 ∧ l1.length ≤ 1000000 ∧ l0.all (fun x => (Lit.int .i64 x).wf) = true ∧ l1.all (fun x => (Lit.int .i64 x).wf) = true
  · rw [if_pos c] at h
    obtain rfl := Option.some.inj h
    obtain ⟨q0, q1, q2, q3⟩ := c
    exact Go.Proofs.YtjkjanegankdhaaGreat.Vx.Vec.crRows_calls A0 c0 l0 A1 c1 l1 w hr0 hr1 hc1 q0 q1 (List.all_eq_true.mp q2) (List.all_eq_true.mp q3)
  · rw [if_neg c] at h
    exact absurd h (by simp)
end Go.Proofs.YtjkjanegankdhaaGreat.PTopRows
