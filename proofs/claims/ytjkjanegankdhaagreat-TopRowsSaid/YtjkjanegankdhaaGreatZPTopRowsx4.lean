/- Words of the printer, those that are used. -/
import Derived.Test.YtjkjanegankdhaaGreatZPTopRowsx0
import Derived.Test.YtjkjanegankdhaaGreatZPTopRowsx1
import Derived.Test.YtjkjanegankdhaaGreatZPTopRowsx3
import Derived.Test.YtjkjanegankdhaaGreatZHBack
import Derived.Test.YtjkjanegankdhaaGreatZPTopRowsx2
namespace Go.Proofs.YtjkjanegankdhaaGreat.PTopRows
open Go.RowKit Go.Proofs.YtjkjanegankdhaaGreatW.PrintWords Go.Proofs.YtjkjanegankdhaaGreatW.PrintLast Go.Proofs.YtjkjanegankdhaaGreatW.PrintMore
attribute [local go_sem] max2_int min2_int max_two min_two max_three min_three max_four min_four   -- for this text's walks alone
set_option linter.unusedVariables false
set_option linter.unusedSimpArgs false
/-! ### tattingref5_Get: function 30 -/
def tattingref5_Get.f (l0 : List Int) (a1 : Int) : Option (Bool) := if a1 ≥ 0 then (if (wrap64 (Int.tdiv a1 64)) < (l0.length : Int) then (if 0 ≤ (wrap64 (Int.tdiv a1 64)) then (if 0 ≤ (IntKind.u64.wrap (Int.tmod a1 64)) then (some ((Go.bits .and .u64 (shr .u64 (rd l0 (wrap64 (Int.tdiv a1 64))) (IntKind.u64.wrap (Int.tmod a1 64))) 1) == 1)) else (none)) else (none)) else (some false)) else (some false)
set_option maxHeartbeats 8000000 in
set_option maxRecDepth 100000 in
theorem tattingref5_Get.calls (A0 : Option Addr) (c0 : Nat) (l0 : List Int) (a1 : Int) (r : Bool) (w : World) (hr0 : Kd.C (Kd.int .u64) w A0 l0.length l0) (hc0 : l0.length ≤ c0) (h : tattingref5_Get.f l0 a1 = some r) :
    Calls Tryz.prog 30 #[.slice A0 l0.length c0, .int .i64 a1] w fun e w' => e = .returned (.bool r) ∧ Drawn0 w w' := by
  have HR0 := Aside0.mk hr0
  have HC0 := Aside0.mk hc0
  clear hr0 hc0
  have H : (if a1 ≥ 0 then (if (wrap64 (Int.tdiv a1 64)) < (l0.length : Int) then (if 0 ≤ (wrap64 (Int.tdiv a1 64)) then (if 0 ≤ (IntKind.u64.wrap (Int.tmod a1 64)) then (some ((Go.bits .and .u64 (shr .u64 (rd l0 (wrap64 (Int.tdiv a1 64))) (IntKind.u64.wrap (Int.tmod a1 64))) 1) == 1)) else (none)) else (none)) else (some false)) else (some false)) = some r := h
  clear h
  by_cases c3 : a1 ≥ 0
  · rw [if_pos c3] at H
    have c3b0 : decide (0 ≤ a1) = true := decide_eq_true c3
    clear c3
    by_cases c4 : (wrap64 (Int.tdiv a1 64)) < (l0.length : Int)
    · rw [if_pos c4] at H
      have c4b0 : decide ((wrap64 (Int.tdiv a1 64)) < (l0.length : Int)) = true := decide_eq_true c4
      clear c4
      obtain ⟨ji5, hji5⟩ : ∃ j_ : Int, (wrap64 (Int.tdiv a1 64)) = j_ := ⟨_, rfl⟩
      replace H : (if 0 ≤ (ji5) then (if 0 ≤ (IntKind.u64.wrap (Int.tmod a1 64)) then (some ((Go.bits .and .u64 (shr .u64 (rd l0 (ji5)) (IntKind.u64.wrap (Int.tmod a1 64))) 1) == 1)) else (none)) else (none)) = some r := by first | (rw [hji5] at H; exact H) | (simp only [hji5] at H ⊢; exact H)
      (try rw [hji5] at c4b0)
      have hji5w : (IntKind.i64.wrap (Int.tdiv a1 64)) = ji5 := (i64_w _).trans hji5
      by_cases c6 : 0 ≤ (ji5)
      · rw [if_pos c6] at H
        have c6b0 : decide (0 ≤ (ji5)) = true := decide_eq_true c6
        clear c6
        obtain ⟨ji7, hji7⟩ : ∃ j_ : Int, (IntKind.u64.wrap (Int.tmod a1 64)) = j_ := ⟨_, rfl⟩
        replace H : (if 0 ≤ (ji7) then (some ((Go.bits .and .u64 (shr .u64 (rd l0 (ji5)) (ji7)) 1) == 1)) else (none)) = some r := by first | (rw [hji7] at H; exact H) | (simp only [hji7] at H ⊢; exact H)
        by_cases c8 : 0 ≤ (ji7)
        · rw [if_pos c8] at H
          have c8b0 := eq_true c8
          have c8b1 : decide (0 ≤ (ji7)) = true := decide_eq_true c8
          clear c8
          obtain ⟨ji9, hji9⟩ : ∃ j_ : Int, (shr .u64 (rd l0 (ji5)) (ji7)) = j_ := ⟨_, rfl⟩
          replace H : (some ((Go.bits .and .u64 (ji9) 1) == 1)) = some r := by first | (rw [hji9] at H; exact H) | (simp only [hji9] at H ⊢; exact H)
          have hji9_ : ((rd l0 (ji5)) / 2 ^ min (ji7).toNat 64) = ji9 := hji9
          have hji9z : (ji7) ≤ 64 → ((rd l0 (ji5)) / 2 ^ (ji7).toNat) = ji9 := shr_small hji9
          obtain rfl := Option.some.inj H
          have p198 : 0 ≤ ((ji5) : Int) := of_decide_eq_true (by first | (with_reducible assumption) | assumption)
          have q198 : (ji5) < (l0.length : Int) := of_decide_eq_true (by first | (with_reducible assumption) | assumption)
          obtain ⟨ad198, e198, hx198_0⟩ := Kd.at_int HR0.out (ji5) p198 q198
          cases e198
          replace p198 := eq_true p198
          replace q198 := eq_true q198
          go_enter Tryz.func30, Tryz.ntmps30
          go_wp2
          go_ret
          exact ⟨by first | rfl | (simp; done) | (simp only [← hji5, ← hji7, ← hji9] <;> (first | rfl | simp)) | (simp [*]; done), by repeat (first | exact Drawn0.refl _ | apply Drawn0.step)⟩
        · rw [if_neg c8] at H
          exact absurd H (by simp)
      · rw [if_neg c6] at H
        exact absurd H (by simp)
    · rw [if_neg c4] at H
      have c4b0 : decide ((wrap64 (Int.tdiv a1 64)) < (l0.length : Int)) = false := decide_eq_false c4
      clear c4
      obtain rfl := Option.some.inj H
      go_enter Tryz.func30, Tryz.ntmps30
      go_wp2
      go_ret
      exact ⟨by first | rfl | (simp; done) | (simp [*]; done), by repeat (first | exact Drawn0.refl _ | apply Drawn0.step)⟩
  · rw [if_neg c3] at H
    have c3b0 : decide (0 ≤ a1) = false := decide_eq_false c3
    clear c3
    obtain rfl := Option.some.inj H
    go_enter Tryz.func30, Tryz.ntmps30
    go_wp2
    go_ret
    exact ⟨by first | rfl | (simp; done) | (simp [*]; done), by repeat (first | exact Drawn0.refl _ | apply Drawn0.step)⟩
/-! ### tattingref1_SameInts: function 31 -/
def tattingref1_SameInts.l0 : Nat → List Int → List Int → Int → Option (Bool)
  | 0, _, _, _ => none
  | k + 1, x0, x1, x5 => if x5 < (x0.length : Int) then (if 0 ≤ x5 then (if x5 < (x1.length : Int) then (if (rd x0 x5) = (rd x1 x5) then (tattingref1_SameInts.l0 k x0 x1 (wrap64 (x5 + 1))) else (some false)) else (none)) else (none)) else (some true)
def tattingref1_SameInts.f (k : Nat) (l0 : List Int) (l1 : List Int) : Option (Bool) := if (l0.length : Int) = (l1.length : Int) then (tattingref1_SameInts.l0 k l0 l1 0) else (some false)
theorem tattingref1_SameInts.mono_l : ∀ k, (∀ y0 y1 y2, LeO (tattingref1_SameInts.l0 k y0 y1 y2) (tattingref1_SameInts.l0 (k + 1) y0 y1 y2))
  | 0 => fun _ _ _ r h => by simp [tattingref1_SameInts.l0] at h
  | k + 1 => by
    have ih0 := tattingref1_SameInts.mono_l k
    · intro y0 y1 y2
      unfold tattingref1_SameInts.l0
      repeat' first
      | (with_reducible exact ih0 _ _ _)
      | (with_reducible exact LeO.refl _)
      | (with_reducible exact LeO.none _)
      | (with_reducible refine LeO.ite ?_ ?_)
      | (with_reducible refine LeO.bind ?_ (fun _ => ?_))
      | exact ih0 _ _ _
      | exact LeO.none _
      | refine LeO.ite ?_ ?_
      | refine LeO.bind ?_ (fun _ => ?_)
theorem tattingref1_SameInts.mono : ∀ a0 a1 k, LeO (tattingref1_SameInts.f k a0 a1) (tattingref1_SameInts.f (k + 1) a0 a1) := by
  intro a0 a1 k
  have ih0 := tattingref1_SameInts.mono_l k
  unfold tattingref1_SameInts.f
  repeat' first
      | (with_reducible exact ih0 _ _ _)
      | (with_reducible exact LeO.refl _)
      | (with_reducible exact LeO.none _)
      | (with_reducible refine LeO.ite ?_ ?_)
      | (with_reducible refine LeO.bind ?_ (fun _ => ?_))
      | exact ih0 _ _ _
      | exact LeO.none _
      | refine LeO.ite ?_ ?_
      | refine LeO.bind ?_ (fun _ => ?_)
set_option maxHeartbeats 8000000 in
set_option maxRecDepth 100000 in
theorem tattingref1_SameInts.calls (k : Nat) (A0 : Option Addr) (c0 : Nat) (l0 : List Int) (A1 : Option Addr) (c1 : Nat) (l1 : List Int) (r : Bool) (w : World) (hr0 : Kd.C (Kd.int .i64) w A0 l0.length l0) (hc0 : l0.length ≤ c0) (hr1 : Kd.C (Kd.int .i64) w A1 l1.length l1) (hc1 : l1.length ≤ c1) (h : tattingref1_SameInts.f k l0 l1 = some r) :
    Calls Tryz.prog 31 #[.slice A0 l0.length c0, .slice A1 l1.length c1] w fun e w' => e = .returned (.bool r) ∧ Drawn0 w w' := by
  have HR0 := Aside0.mk hr0
  have HC0 := Aside0.mk hc0
  clear hr0 hc0
  have HR1 := Aside0.mk hr1
  have HC1 := Aside0.mk hc1
  clear hr1 hc1
  have H : (if (l0.length : Int) = (l1.length : Int) then (tattingref1_SameInts.l0 k l0 l1 0) else (some false)) = some r := h
  clear h
  by_cases c3 : (l0.length : Int) = (l1.length : Int)
  · rw [if_pos c3] at H
    have c3b0 : ((l0.length : Int) == (l1.length : Int)) = true := beq_iff_eq.mpr c3
    have c3b1 : ((l0.length : Int) != (l1.length : Int)) = false := bne_eq_false_iff_eq.mpr c3
    have c3b2 : (l0.length == l1.length) = true := by first | simpa using c3 | (simp at c3 ⊢; omega)
    clear c3
    have H' := Aside0.mk H
    clear H
    go_enter Tryz.func31, Tryz.ntmps31
    go_wp2
    repeat (go_quiet (fail); try go_wp2)
    go_loopg [5] k (fun kq v5 w' => ∃ (x5_1 : Int), v5 = .int .i64 x5_1 ∧ Aside0 (tattingref1_SameInts.l0 kq l0 l1 x5_1 = some r) ∧ Aside0 (kq ≤ k) ∧ Drawn0 w w')
    case atStart => exact ⟨(0), (by first | rfl | (simp; done) | (simp [*]; done)), H', ⟨Nat.le_refl _⟩, by repeat (first | exact Drawn0.refl _ | apply Drawn0.step)⟩
    case round =>
      clear H'
      try clear c1
      try clear p2
      try clear c3
      try clear c3b0
      try clear c3b1
      try clear c3b2
      obtain ⟨x5_1, rfl, HA, HK1, ⟨m1, rfl⟩⟩ := hrel
      cases gk with
      | zero => exact absurd HA.out (by simp [tattingref1_SameInts.l0])
      | succ k1 =>
        have H := HA.out
        clear HA
        simp only [tattingref1_SameInts.l0] at H
        by_cases c4 : x5_1 < (l0.length : Int)
        · rw [if_pos c4] at H
          have c4b0 : decide (x5_1 < (l0.length : Int)) = true := decide_eq_true c4
          clear c4
          by_cases c5 : 0 ≤ x5_1
          · rw [if_pos c5] at H
            have c5b0 : decide (0 ≤ x5_1) = true := decide_eq_true c5
            clear c5
            by_cases c6 : x5_1 < (l1.length : Int)
            · rw [if_pos c6] at H
              have c6b0 : decide (x5_1 < (l1.length : Int)) = true := decide_eq_true c6
              clear c6
              by_cases c7 : (rd l0 x5_1) = (rd l1 x5_1)
              · rw [if_pos c7] at H
                have c7b0 : ((rd l0 x5_1) == (rd l1 x5_1)) = true := beq_iff_eq.mpr c7
                have c7b1 : ((rd l0 x5_1) != (rd l1 x5_1)) = false := bne_eq_false_iff_eq.mpr c7
                clear c7
                have H' := Aside0.mk H
                clear H
                have p199 : 0 ≤ (x5_1 : Int) := of_decide_eq_true (by first | (with_reducible assumption) | assumption)
                have q199 : x5_1 < (l0.length : Int) := of_decide_eq_true (by first | (with_reducible assumption) | assumption)
                obtain ⟨ad199, e199, hx199_0⟩ := Kd.at_int HR0.out x5_1 p199 q199
                cases e199
                replace p199 := eq_true p199
                replace q199 := eq_true q199
                have p200 : 0 ≤ (x5_1 : Int) := of_decide_eq_true (by first | (with_reducible assumption) | assumption)
                have q200 : x5_1 < (l1.length : Int) := of_decide_eq_true (by first | (with_reducible assumption) | assumption)
                obtain ⟨ad200, e200, hx200_0⟩ := Kd.at_int HR1.out x5_1 p200 q200
                cases e200
                replace p200 := eq_true p200
                replace q200 := eq_true q200
                go_wp2
                repeat (go_quiet (fail); try go_wp2)
                go_roundg k1
                case measure => have := HK1.out; omega
                case rel => exact ⟨(wrap64 (x5_1 + 1)), (by first | rfl | (simp; done) | (simp [*]; done)), H', ⟨by have := HK1.out; omega⟩, by repeat (first | exact Drawn0.refl _ | apply Drawn0.step)⟩
              · rw [if_neg c7] at H
                have c7b0 : ((rd l0 x5_1) == (rd l1 x5_1)) = false := beq_eq_false_iff_ne.mpr c7
                have c7b1 : ((rd l0 x5_1) != (rd l1 x5_1)) = true := bne_iff_ne.mpr c7
                obtain rfl := Option.some.inj H
                have p199 : 0 ≤ (x5_1 : Int) := of_decide_eq_true (by first | (with_reducible assumption) | assumption)
                have q199 : x5_1 < (l0.length : Int) := of_decide_eq_true (by first | (with_reducible assumption) | assumption)
                obtain ⟨ad199, e199, hx199_0⟩ := Kd.at_int HR0.out x5_1 p199 q199
                cases e199
                replace p199 := eq_true p199
                replace q199 := eq_true q199
                have p200 : 0 ≤ (x5_1 : Int) := of_decide_eq_true (by first | (with_reducible assumption) | assumption)
                have q200 : x5_1 < (l1.length : Int) := of_decide_eq_true (by first | (with_reducible assumption) | assumption)
                obtain ⟨ad200, e200, hx200_0⟩ := Kd.at_int HR1.out x5_1 p200 q200
                cases e200
                replace p200 := eq_true p200
                replace q200 := eq_true q200
                go_wp2
                repeat (go_quiet (fail); try go_wp2)
                go_ret
                exact ⟨by first | rfl | (simp; done) | (simp [*]; done), by repeat (first | exact Drawn0.refl _ | apply Drawn0.step)⟩
            · rw [if_neg c6] at H
              exact absurd H (by simp)
          · rw [if_neg c5] at H
            exact absurd H (by simp)
        · rw [if_neg c4] at H
          have c4b0 : decide (x5_1 < (l0.length : Int)) = false := decide_eq_false c4
          clear c4
          obtain rfl := Option.some.inj H
          go_wp2
          repeat (go_quiet (fail); try go_wp2)
          go_ret
          exact ⟨by first | rfl | (simp; done) | (simp [*]; done), by repeat (first | exact Drawn0.refl _ | apply Drawn0.step)⟩
  · rw [if_neg c3] at H
    have c3b0 : ((l0.length : Int) == (l1.length : Int)) = false := beq_eq_false_iff_ne.mpr c3
    have c3b1 : ((l0.length : Int) != (l1.length : Int)) = true := bne_iff_ne.mpr c3
    have c3b2 : (l0.length == l1.length) = false := by first | simpa using c3 | (simp at c3 ⊢; omega)
    obtain rfl := Option.some.inj H
    go_enter Tryz.func31, Tryz.ntmps31
    go_wp2
    repeat (go_quiet (fail); try go_wp2)
    go_ret
    exact ⟨by first | rfl | (simp; done) | (simp [*]; done), by repeat (first | exact Drawn0.refl _ | apply Drawn0.step)⟩
/-! ### thresh_put: function 136 -/
def thresh_put.f (l0 : List Int) (a1 : Int) (a2 : Int) : Option (List Int) := if a2 = (l0.length : Int) then (if l0.length < 17592186044416 then (some (l0 ++ [a1])) else (none)) else (if 0 ≤ a2 then (if a2 < (l0.length : Int) then (some (l0.set (a2 : Int).toNat a1)) else (none)) else (none))
set_option maxHeartbeats 8000000 in
set_option maxRecDepth 100000 in
theorem thresh_put.calls (P0_ : Nat → Prop) (u9000_ : Value) (l0 : List Int) (a1 : Int) (a2 : Int) (r : List Int) (w0 w : World) (hB : Below w0.heap.size w0 w) (ho0 : Kd.R (Kd.int .i64) 3 w w0.heap.size P0_ u9000_ l0) (h : thresh_put.f l0 a1 a2 = some r) :
    Calls Tryz.prog 136 #[u9000_, .int .i64 a1, .int .i64 a2] w fun e w' => ∃ v0_ : Value, e = .returned (v0_) ∧ Kd.R (Kd.int .i64) 3 w' w0.heap.size (fun k_ => (P0_ k_ ∨ w.heap.size ≤ k_)) v0_ r ∧ Below w0.heap.size w0 w' ∧ Kept w w' (fun k_ => P0_ k_) := by
  have HO0 := Aside0.mk (show Kd.R (Kd.int .i64) 3 w w0.heap.size (fun k_ => (P0_ k_ ∨ w.heap.size ≤ k_)) u9000_ l0 from Kd.R_mono ho0 (fun k_ hk => (.inl hk)))
  have HK := Aside0.mk (Kept.refl w (fun k_ => P0_ k_))
  have HW0 := Aside0.mk hB.size
  have HB := Aside0.mk hB
  clear hB
  have H : (if a2 = (l0.length : Int) then (if l0.length < 17592186044416 then (some (l0 ++ [a1])) else (none)) else (if 0 ≤ a2 then (if a2 < (l0.length : Int) then (some (l0.set (a2 : Int).toNat a1)) else (none)) else (none))) = some r := h
  clear h
  by_cases c4 : a2 = (l0.length : Int)
  · rw [if_pos c4] at H
    have c4b0 : (a2 == (l0.length : Int)) = true := beq_iff_eq.mpr c4
    have c4b1 : (a2 != (l0.length : Int)) = false := bne_eq_false_iff_eq.mpr c4
    clear c4
    by_cases c5 : l0.length < 17592186044416
    · rw [if_pos c5] at H
      have LMc5 := Aside0.mk c5
      clear c5
      obtain ⟨y201, hy201⟩ : ∃ y_ : List Int, y_ = (l0 ++ [a1]) := ⟨_, rfl⟩
      replace H : (some y201) = some r := by first | (rw [hy201]; with_reducible exact H) | (have H2_ := (Option.bind_some _ _).symm.trans H; rw [hy201]; with_reducible exact H2_) | (have H2_ := (Option.bind_some _ _).symm.trans H; with_reducible exact H2_) | with_reducible exact H | (rw [hy201]; exact H) | exact H
      have Ny201 := Aside0.mk hy201
      clear hy201
      obtain rfl := Option.some.inj H
      obtain ⟨Ao6, co6, eo6⟩ := Kd.R_slice HO0.out
      subst eo6
      go_enter Tryz.func136, Tryz.ntmps136
      go_wp2_with (first | ((with_reducible refine gate_builtin (b := .append) (xs := #[.tmp 11, .tmp 13]) rfl ?_); at_builtin; refine Kd.R_append (Kd.int .i64) (w0 := w0) w0.heap.size rfl (.tmp 11) (.tmp 13) 22 3 (.int .i64 0) 8 rfl Tryz.underlying22 info3 rfl (by decide) (by omega) (.slice Ao6 l0.length co6) l0 a1 [.int .i64 a1] (fun k_ => (P0_ k_ ∨ w.heap.size ≤ k_)) (fun _ => False) rfl rfl ?aP (fun _ hk => hk.elim) ?aF ?aO ?aB ?aS ?aL ?_; (case aP => exact rfl); (case aB => exact (by repeat (first | (with_reducible first | exact HB.out | apply below_alloc | apply pw_below_drewN | apply below_drew1) | exact HB.out))); (case aF => exact (fun k_ hk => (.inr (Nat.le_trans (by first | exact HK.out.1 | exact (show Kept w _ (fun k_ => P0_ k_) from by repeat (first | (with_reducible first | exact HK.out | apply Kept.alloc | apply Kept.drewN | apply Kept.drew) | exact HK.out)).1) hk)))); (case aO => exact (by (with_reducible repeat (first | apply Kd.R_alloc | apply Kd.R_drewN | apply Kd.R_drew)); exact HO0.out)); (case aS => exact (below_size (by repeat (first | (with_reducible first | exact HB.out | apply below_alloc | apply pw_below_drewN | apply below_drew1) | exact HB.out)))); (case aL => have := LMc5.out; omega); intro v202 w7 ho hb hg hat; rw [← Ny201.out] at ho; have n0_ := Aside0.mk (hb); have n1_ := Aside0.mk (Kept.of_grown (S := (fun k_ => P0_ k_)) hg (by repeat (first | (with_reducible first | exact HK.out | apply Kept.alloc | apply Kept.drewN | apply Kept.drew) | exact HK.out)) (fun k_ e_ => (HO0.out.1 k_ e_))); have n2_ := Aside0.mk (ho); clear HB; clear HK; clear HO0; have HB := n0_; have HK := n1_; have HO203 := n2_; clear n0_ n1_ n2_; clear ho hb hg hat))
      go_ret
      exact ⟨_, by first | rfl | (simp [errW_none, errW_some] <;> rfl) | (simp [*, errW_none, errW_some] <;> rfl), by (with_reducible repeat (first | apply Kd.R_alloc | apply Kd.R_drewN | apply Kd.R_drew)); exact HO203.out, by repeat (first | (with_reducible first | exact HB.out | apply below_alloc | apply pw_below_drewN | apply below_drew1) | exact HB.out), by repeat (first | (with_reducible first | exact HK.out | apply Kept.alloc | apply Kept.drewN | apply Kept.drew) | exact HK.out)⟩
    · rw [if_neg c5] at H
      exact absurd H (by simp)
  · rw [if_neg c4] at H
    have c4b0 : (a2 == (l0.length : Int)) = false := beq_eq_false_iff_ne.mpr c4
    have c4b1 : (a2 != (l0.length : Int)) = true := bne_iff_ne.mpr c4
    by_cases c8 : 0 ≤ a2
    · rw [if_pos c8] at H
      have c8b0 : decide (0 ≤ a2) = true := decide_eq_true c8
      clear c8
      by_cases c9 : a2 < (l0.length : Int)
      · rw [if_pos c9] at H
        have c9b0 : decide (a2 < (l0.length : Int)) = true := decide_eq_true c9
        clear c9
        obtain ⟨y204, hy204⟩ : ∃ y_ : List Int, y_ = (l0.set (a2 : Int).toNat a1) := ⟨_, rfl⟩
        replace H : (some y204) = some r := by first | (rw [hy204]; with_reducible exact H) | (have H2_ := (Option.bind_some _ _).symm.trans H; rw [hy204]; with_reducible exact H2_) | (have H2_ := (Option.bind_some _ _).symm.trans H; with_reducible exact H2_) | with_reducible exact H | (rw [hy204]; exact H) | exact H
        have Ny204 := Aside0.mk hy204
        clear hy204
        obtain rfl := Option.some.inj H
        obtain ⟨Ao11, co11, eo11⟩ := Kd.R_slice HO0.out
        subst eo11
        have p10 : 0 ≤ (a2 : Int) := of_decide_eq_true (by first | (with_reducible assumption) | assumption)
        have q10 : (a2 : Int) < ((l0.length : Int) : Int) := of_decide_eq_true (by first | (with_reducible assumption) | assumption)
        obtain ⟨go10, co10, eo10, gb10, gl10, cl10, HG10⟩ := Kd.R_form HO0.out (by omega)
        (first | cases eo10 | (injection eo10 with ea_ en_ ec_; (first | subst ea_ | (injection ea_ with ea_; subst ea_)); subst ec_; clear en_))
        have GB10 := Aside0.mk gb10
        have GG10 := Aside0.mk HG10
        clear gb10 gl10 HG10
        have HMgo10 := Aside0.mk (show (P0_ go10 ∨ w.heap.size ≤ go10) from (HO0.out.1 _ rfl))
        obtain ⟨hx10_0, hf10_0⟩ := Kd.R_celln 0 HO0.out (a2 : Int) p10 q10
        replace p10 := eq_true p10
        replace q10 := eq_true q10
        have HP12 := Kd.R_putg HO0.out (a2 : Int) a1
        go_enter Tryz.func136, Tryz.ntmps136
        go_wp2_with (first | ((with_reducible refine gate_store (t := 3) (p := 18) rfl ?_); refine store_event (t := 3) (p := 18) (v := ?vo_w13) (w1 := (w.setCell ⟨go10, (a2 : Int).toNat, none⟩ (.int .i64 a1))) ?hg ?ho ?hn ?hr ?_; (case ho => rfl); (case hg => rfl); (case hn => rfl); (case hr => first | (go_simp; done) | (go_simp; rfl)); intro w13 hw; have hg : w.grownBy w13 (some go10) := (by rw [hw]; exact HP12.2); have hp_ : Kd.R (Kd.int .i64) 3 w13 w0.heap.size (fun k_ => (P0_ k_ ∨ w.heap.size ≤ k_)) (.slice (some ⟨go10, 0, none⟩) l0.length co11) y204 := (by rw [hw, Ny204.out]; exact HP12.1); clear HP12; have n0_ := Aside0.mk (hp_); have n1_ := Aside0.mk ((by rw [hw]; exact below_set (HB.out) GB10.out : Below w0.heap.size w0 w13)); have n2_ := Aside0.mk (Kept.of_grown (S := (fun k_ => P0_ k_)) hg (by repeat (first | (with_reducible first | exact HK.out | apply Kept.alloc | apply Kept.drewN | apply Kept.drew) | exact HK.out)) (fun k_ e_ => (HO0.out.1 k_ e_))); clear HO0; clear HB; clear HK; have HO0 := n0_; have HB := n1_; have HK := n2_; clear n0_ n1_ n2_; clear hg hw hp_))
        go_ret
        exact ⟨_, by first | rfl | (simp [errW_none, errW_some] <;> rfl) | (simp [*, errW_none, errW_some] <;> rfl), by (with_reducible repeat (first | apply Kd.R_alloc | apply Kd.R_drewN | apply Kd.R_drew)); exact HO0.out, by repeat (first | (with_reducible first | exact HB.out | apply below_alloc | apply pw_below_drewN | apply below_drew1) | exact HB.out), by repeat (first | (with_reducible first | exact HK.out | apply Kept.alloc | apply Kept.drewN | apply Kept.drew) | exact HK.out)⟩
      · rw [if_neg c9] at H
        exact absurd H (by simp)
    · rw [if_neg c8] at H
      exact absurd H (by simp)
/-! ### thresh_Row: function 75 -/
/-- The thresholds with places more, one by one. -/
def thresh_Row.go (k : Nat) : List Int → List Int → Option (List Int)
  | r, [] => some r
  | r, j :: js => (thresh_Find.f k r j).bind fun i => (thresh_put.f r j i).bind fun r' => thresh_Row.go k r' js
def thresh_Row.f (k : Nat) (l0 : List Int) (l1 : List Int) : Option (List Int) := if l0.length ≤ 1000000 ∧ l1.length ≤ 1000000 then (slices_Clone_int_int.f l0).bind fun r => thresh_Row.go k r l1.reverse else none
theorem thresh_Row.go_mono (k : Nat) : ∀ (js r : List Int), LeO (thresh_Row.go k r js) (thresh_Row.go (k + 1) r js)
  | [], r => LeO.refl _
  | j :: js, r => by
    show LeO ((thresh_Find.f k r j).bind fun i => (thresh_put.f r j i).bind fun r' => thresh_Row.go k r' js) ((thresh_Find.f (k + 1) r j).bind fun i => (thresh_put.f r j i).bind fun r' => thresh_Row.go (k + 1) r' js)
    exact LeO.bind (thresh_Find.mono r j k) fun i => LeO.bind (LeO.refl _) fun r' => thresh_Row.go_mono k js r'
theorem thresh_Row.mono : ∀ a0 a1 k, LeO (thresh_Row.f k a0 a1) (thresh_Row.f (k + 1) a0 a1) := by
  intro a0 a1 k
  unfold thresh_Row.f
  split
  · exact LeO.bind (LeO.refl _) fun r => thresh_Row.go_mono k _ r
  · exact LeO.refl _
theorem thresh_Row.wrap_id {i : Int} (h0 : -9223372036854775808 ≤ i) (h1 : i < 9223372036854775808) : wrap64 i = i := by unfold wrap64; omega
theorem thresh_Row.mid_id (i j : Nat) (h : i + j ≤ 4000000) : wrap64 ((IntKind.u64.wrap (wrap64 ((i : Int) + (j : Int)))) / 2) = (((i + j) / 2 : Nat) : Int) := by
  have e : IntKind.u64.wrap ((i + j : Nat) : Int) = ((i + j : Nat) : Int) := by simp [IntKind.wrap, IntKind.signed, IntKind.bits]; omega
  rw [thresh_Row.wrap_id (i := (i : Int) + (j : Int)) (by omega) (by omega), ← Int.natCast_add, e, thresh_Row.wrap_id (by omega) (by omega)]
  omega
theorem thresh_Row.less (a b : Int) : cmp_Less_int.f a b = some (decide (a < b)) := by
  unfold cmp_Less_int.f cmp_isNaN_int.f
  rw [Option.bind_some, if_neg (by simp)]
theorem thresh_Row.bin_total (x0 : List Int) (x1 : Int) (hl : x0.length ≤ 2000000) (d : Nat) : ∀ (k i j : Nat), i ≤ j → j ≤ x0.length → j - i ≤ d → d < k → ∃ (v : Nat) (b : Bool), slices_BinarySearch_int_int.l0 k x0 x1 (x0.length : Int) (i : Int) (j : Int) = some ((v : Int), b) ∧ v ≤ x0.length := by
  induction d with
  | zero =>
    intro k i j hij hj hd hk
    obtain ⟨k, rfl⟩ : ∃ m, k = m + 1 := ⟨k - 1, by omega⟩
    simp only [slices_BinarySearch_int_int.l0]
    rw [if_neg (by omega)]
    by_cases c : (i : Int) < (x0.length : Int)
    · rw [if_pos c, if_pos (by omega), if_pos c]
      by_cases e : rd x0 (i : Int) = x1
      · rw [if_pos e]; exact ⟨i, true, rfl, by omega⟩
      · rw [if_neg e]
        unfold slices_isNaN_int.f
        rw [Option.bind_some, if_neg (by simp)]
        exact ⟨i, false, rfl, by omega⟩
    · rw [if_neg c]; exact ⟨i, false, rfl, by omega⟩
  | succ d ih =>
    intro k i j hij hj hd hk
    obtain ⟨k, rfl⟩ : ∃ m, k = m + 1 := ⟨k - 1, by omega⟩
    by_cases q : i < j
    · simp only [slices_BinarySearch_int_int.l0]
      have em := Aside0.mk (thresh_Row.mid_id i j (by omega))
      rw [if_pos (by omega), em.out, if_pos (by omega), if_pos (by omega), thresh_Row.less, Option.bind_some]
      by_cases c : rd x0 ((((i + j) / 2 : Nat)) : Int) < x1
      · rw [if_pos (decide_eq_true c), thresh_Row.wrap_id (by omega) (by omega)]
        exact ih k ((i + j) / 2 + 1) j (by omega) hj (by omega) (by omega)
      · rw [if_neg (by simpa using c)]
        exact ih k i ((i + j) / 2) (by omega) (by omega) (by omega) (by omega)
    · obtain ⟨v, b, h1, h2⟩ := ih k i j hij hj (by omega) (by omega)
      exact ⟨v, b, slices_BinarySearch_int_int.mono_l k _ _ _ _ _ _ h1, h2⟩
theorem thresh_Row.find_total (r : List Int) (j : Int) (hl : r.length ≤ 2000000) : ∃ v : Nat, thresh_Find.f (r.length + 1) r j = some (v : Int) ∧ v ≤ r.length := by
  obtain ⟨v, b, h1, h2⟩ := thresh_Row.bin_total r j hl r.length (r.length + 1) 0 r.length (by omega) (by omega) (by omega) (by omega)
  refine ⟨v, ?_, h2⟩
  unfold thresh_Find.f slices_BinarySearch_int_int.f
  have e : ((0 : Nat) : Int) = 0 := rfl
  rw [e] at h1
  rw [h1, Option.bind_some]
theorem thresh_Row.put_total (r : List Int) (j : Int) (v : Nat) (hv : v ≤ r.length) (hl : r.length ≤ 2000000) : ∃ q, thresh_put.f r j (v : Int) = some q ∧ q.length ≤ r.length + 1 := by
  unfold thresh_put.f
  by_cases c : v = r.length
  · rw [if_pos (by omega), if_pos (by omega)]; exact ⟨_, rfl, by simp⟩
  · rw [if_neg (by omega), if_pos (by omega), if_pos (by omega)]; exact ⟨_, rfl, by simp⟩
/-- The thresholds behind places more, with however many rounds. -/
def thresh_Row.Steps : List Int → List Int → List Int → Prop
  | r, [], r' => r' = r
  | r, j :: js, r' => ∃ k i q, thresh_Find.f k r j = some i ∧ thresh_put.f r j i = some q ∧ thresh_Row.Steps q js r'
theorem thresh_Row.Steps.snoc {i j : Int} {q : List Int} {k : Nat} : ∀ {js r r' : List Int}, thresh_Row.Steps r js r' → thresh_Find.f k r' j = some i → thresh_put.f r' j i = some q → thresh_Row.Steps r (js ++ [j]) q
  | [], r, r', h, h1, h2 => by
    have e : r' = r := h
    subst e
    exact ⟨k, i, q, h1, h2, rfl⟩
  | x :: js, r, r', ⟨k', i', q', a, b, c⟩, h1, h2 => ⟨k', i', q', a, b, thresh_Row.Steps.snoc c h1 h2⟩
theorem thresh_Row.le_rounds {α : Type} {g : Nat → Option α} (hm : ∀ k, LeO (g k) (g (k + 1))) {a b : α} {i j : Nat} (h1 : g i = some a) (h2 : g j = some b) : a = b := by
  have up : ∀ n i a, g i = some a → g (i + n) = some a := by
    intro n
    induction n with
    | zero => intro i a h; exact h
    | succ n ih => intro i a h; rw [show i + (n + 1) = (i + n) + 1 by omega]; exact hm _ _ (ih i a h)
  have e1 := up j i a h1
  have e2 := up i j b h2
  rw [Nat.add_comm] at e1
  exact Option.some.inj (e1.symm.trans e2)
theorem thresh_Row.Steps.go {k : Nat} : ∀ {js r r' q : List Int}, thresh_Row.Steps r js r' → thresh_Row.go k r js = some q → q = r'
  | [], r, r', q, h, hg => by
    have e : r' = r := h
    have e2 : some r = some q := hg
    rw [e]; exact (Option.some.inj e2).symm
  | j :: js, r, r', q, ⟨k', i', q', a, b, c⟩, hg => by
    obtain ⟨i, h1, hg⟩ := Option.bind_eq_some_iff.mp (show ((thresh_Find.f k r j).bind fun i => (thresh_put.f r j i).bind fun r' => thresh_Row.go k r' js) = some q from hg)
    obtain ⟨q2, h2, hg⟩ := Option.bind_eq_some_iff.mp hg
    have e := thresh_Row.le_rounds (fun n => thresh_Find.mono r j n) h1 a
    subst e
    have e3 := Option.some.inj (h2.symm.trans b)
    subst e3
    exact thresh_Row.Steps.go c hg
theorem thresh_Row.R_turned {d : Kd Int} {e base : Nat} {ok : Nat → Prop} {v : Value} {xs : List Int} {W W' : World} {row : Option Nat} (h : d.R e W base ok v xs) (hg : W.grownBy W' row) (hr : ∀ r, row = some r → ∃ o : Obj, W.heap[r]? = some o ∧ o.isCells = false) : d.R e W' base ok v xs := by
  refine Kd.R_mono (Kd.R_step (Kd.R_bound h) (fun k hk hlt => hg.block k hlt (fun he => ?_))) (fun k hk => hk.1)
  obtain ⟨_, _, _, q, _, cells, hc⟩ := hk
  obtain ⟨o, ho, hn⟩ := hr k he.symm
  rw [hc] at ho
  cases ho
  cases hn
theorem thresh_Row.box_ne {d : Kd Int} {base : Nat} {ok : Nat → Prop} {v : Value} {xs : List Int} {W : World} {B : Nat} {u : Value} (h : d.R 3 W base ok v xs) (hb : Boxed W B 22 u) : some B ≠ v.ownBlock := by
  intro he
  obtain ⟨cells, hc⟩ := Kd.R_typed h B he.symm
  have hb' : W.heap[B]? = some (.cells #[u] 22 (0, 0)) := hb
  rw [hc] at hb'
  injection hb' with hb'
  injection hb' with _ h2
  exact absurd h2 (by decide)
/-- Between two rounds: the box holds the call's own row, behind the places that have come. -/
def thresh_Row.I (w : World) (B n : Nat) (u : Value) (r0 : List Int) (pre : List (Nat × Int)) (W : World) : Prop := ∃ (A : Option Addr) (c : Nat) (rr : List Int), Boxed W B 22 (.slice A rr.length c) ∧ Boxed W (B + 1) 22 u ∧ Kd.R (Kd.int .i64) 3 W w.heap.size (fun _ => True) (.slice A rr.length c) rr ∧ thresh_Row.Steps r0 (pre.map (·.2)) rr ∧ rr.length ≤ n + pre.length ∧ Below w.heap.size w W
theorem thresh_Row.boxed_turned {W W' : World} {B : Nat} {u : Value} {row : Option Nat} (hb : Boxed W B 22 u) (hg : W.grownBy W' row) (hr : ∀ r, row = some r → ∃ o : Obj, W.heap[r]? = some o ∧ o.isCells = false) : Boxed W' B 22 u := by
  refine hb.kept hg (fun he => ?_)
  obtain ⟨o, ho, hn⟩ := hr B he.symm
  have hb' : W.heap[B]? = some (.cells #[u] 22 (0, 0)) := hb
  rw [ho] at hb'
  cases hb'
  cases hn
theorem thresh_Row.I_own (w : World) (B n M : Nat) (u : Value) (r0 : List Int) (hM : w.heap.size ≤ M) : OwnFrom M (thresh_Row.I w B n u r0) := by
  rintro pre W W' row ⟨A, c, rr, hb, hbt, hr, hs, hl, hB⟩ hg hrow
  exact ⟨A, c, rr, thresh_Row.boxed_turned hb hg (fun r e => (hrow r e).2), thresh_Row.boxed_turned hbt hg (fun r e => (hrow r e).2), thresh_Row.R_turned hr hg (fun r e => (hrow r e).2), hs, hl, hB.grown hg hB.size (fun k e => Nat.le_trans hM (hrow k e).1)⟩
theorem thresh_Row.kept_others {d : Kd Int} {e base : Nat} {ok : Nat → Prop} {v : Value} {xs : List Int} {W W' : World} (h : d.R e W base ok v xs) (hk : Kept W W' (fun k => some k = v.ownBlock)) : KeepsOthers W W' := by
  refine ⟨hk.1, fun k o ho hn => (hk.2 k (blk_lt ho) (fun he => ?_)).trans ho⟩
  obtain ⟨cells, hc⟩ := Kd.R_typed h k he.symm
  rw [hc] at ho
  cases ho
  cases hn
theorem thresh_Row.keeps_of {d : Kd Int} {e n₀ B : Nat} {ok : Nat → Prop} {v u x : Value} {xs : List Int} {W W' : World} (h : d.R e W n₀ ok v xs) (hk : Kept W W' (fun k => some k = v.ownBlock)) (hb : Boxed W (B + 1) 22 u) (hne : some (B + 1) ≠ v.ownBlock) (hB : n₀ ≤ B) (hW : n₀ ≤ W.heap.size) : Back.Keeps n₀ (B + 1) W (W'.setCell ⟨B, 0, none⟩ x) := by
  refine ⟨fun i hi => ?_, ?_⟩
  · rw [Below.heap_setCell W' ⟨B, 0, none⟩ x i (by show i ≠ B; omega)]
    exact hk.2 i (by omega) (fun he => by have := Kd.R_base h i he.symm; omega)
  · rw [Below.heap_setCell W' ⟨B, 0, none⟩ x (B + 1) (by show B + 1 ≠ B; omega)]
    exact hk.2 _ hb.lt hne
attribute [local go_sem] Oper.semAt_some in
set_option maxHeartbeats 8000000 in
set_option maxRecDepth 100000 in
theorem thresh_Row.calls (k : Nat) (A0 : Option Addr) (c0 : Nat) (l0 : List Int) (A1 : Option Addr) (c1 : Nat) (l1 : List Int) (r : List Int) (w : World) (hr0 : Kd.C (Kd.int .i64) w A0 l0.length l0) (hc0 : l0.length ≤ c0) (hr1 : Kd.C (Kd.int .i64) w A1 l1.length l1) (hc1 : l1.length ≤ c1) (h : thresh_Row.f k l0 l1 = some r) :
    Calls Tryz.prog 75 #[.slice A0 l0.length c0, .slice A1 l1.length c1] w fun e w' => ∃ v0_ : Value, e = .returned (v0_) ∧ Kd.R (Kd.int .i64) 3 w' w.heap.size (fun _ => True) v0_ r ∧ Below w.heap.size w w' := by
  unfold thresh_Row.f at h
  by_cases q : l0.length ≤ 1000000 ∧ l1.length ≤ 1000000
  rotate_left
  · rw [if_neg q] at h
    exact absurd h (by simp)
  rw [if_pos q] at h
  obtain ⟨r0, hcl, h⟩ := Option.bind_eq_some_iff.mp h
  have HCL := Aside0.mk hcl
  have HGO := Aside0.mk h
  have HR0 := Aside0.mk hr0
  have HR1 := Aside0.mk hr1
  clear hcl h hr0 hr1
  refine (callsIn_wide (n := 9)).1 ?_
  refine callsIn_of_wp_marks Tryz.func75 rfl trivial ?_ rfl
  simp only [Tryz.ntmps75, List.size_toArray, List.length_cons, List.length_nil, Nat.reduceAdd, Nat.reduceSub, Array.replicate_succ, Array.replicate_zero, List.push_toArray, List.append_toArray, List.nil_append, List.cons_append]
  gi_wp2_with (first | (refine ⟨trivial, ?_⟩; gi_at_call 127; refine (callsIn_wide.2 (slices_Clone_int_int.calls A0 c0 l0 r0 w HR0.out hc0 HCL.out)).mono ?_; rintro e w1 ⟨v1, rfl, ho, hb⟩; obtain ⟨Av, cv, rfl⟩ := Kd.R_slice ho; have HO := Aside0.mk ho; have HB := Aside0.mk hb; clear ho hb) | (refine ⟨trivial, ?_⟩; gi_at_call 94; refine (Back.back_in Fence.wide _ trivial rfl _ _ _ _).mono ?_; rintro e w2 ⟨rfl, rfl⟩))
  have hz := World.size_alloc w1 (Obj.cells #[Value.slice Av r0.length cv] 22)
  have bx : Boxed ((w1.alloc (Obj.cells #[Value.slice Av r0.length cv] 22)).alloc (Obj.cells #[Value.slice A1 l1.length c1] 22)) w1.heap.size 22 (.slice Av r0.length cv) := (Boxed.new w1 22 _).alloc _
  have bs : Boxed ((w1.alloc (Obj.cells #[Value.slice Av r0.length cv] 22)).alloc (Obj.cells #[Value.slice A1 l1.length c1] 22)) (w1.heap.size + 1) 22 (.slice A1 l1.length c1) := by
    have := Boxed.new (w1.alloc (Obj.cells #[Value.slice Av r0.length cv] 22)) 22 (.slice A1 l1.length c1)
    rwa [hz] at this
  have hw1 := HB.out.size
  have bel : Below w.heap.size w ((w1.alloc (Obj.cells #[Value.slice Av r0.length cv] 22)).alloc (Obj.cells #[Value.slice A1 l1.length c1] 22)) := below_alloc (below_alloc HB.out _) _
  have own : Kd.R (Kd.int .i64) 3 ((w1.alloc (Obj.cells #[Value.slice Av r0.length cv] 22)).alloc (Obj.cells #[Value.slice A1 l1.length c1] 22)) w.heap.size (fun _ => True) (.slice Av r0.length cv) r0 := Kd.R_alloc (Kd.R_alloc HO.out _) _
  have ints : Back.Ints w.heap.size ((w1.alloc (Obj.cells #[Value.slice Av r0.length cv] 22)).alloc (Obj.cells #[Value.slice A1 l1.length c1] 22)) A1 l1 := by
    rcases Nat.eq_zero_or_pos l1.length with hn | hn
    · exact .inl (List.eq_nil_of_length_eq_zero hn)
    · obtain ⟨_, _, hh⟩ := Kd.reads_of_C (enc := Value.int .i64) (d := (0 : Int)) (h1 := fun _ => rfl) HR1.out
      obtain ⟨ad, ea, hcs⟩ := hh hn
      refine .inr ⟨ad, ea, ?_, fun j hj => ?_⟩
      · have := World.block_lt_of_cell? w _ (hcs 0 hn)
        rwa [Back.add_block_] at this
      · rw [← List.getD_eq_getElem?_getD]
        exact (bel.cell (World.block_lt_of_cell? w _ (hcs j hj))).trans (hcs j hj)
  have hr0l : r0.length ≤ 1000000 := by
    have hc := HCL.out
    unfold slices_Clone_int_int.f at hc
    split at hc
    · rw [← Option.some.inj hc]; exact q.1
    · exact absurd hc (by simp)
  obtain ⟨W0, hW0⟩ : ∃ W0, W0 = ((w1.alloc (Obj.cells #[Value.slice Av r0.length cv] 22)).alloc (Obj.cells #[Value.slice A1 l1.length c1] 22)) := ⟨_, rfl⟩
  have hsz : W0.heap.size = w1.heap.size + 2 := by rw [hW0, World.size_alloc, World.size_alloc]
  rw [← hW0] at bx bs bel own ints ⊢
  clear hW0 hz
  refine wpIn_rangeFunc_ownF rfl (by omega) (gf := 149) (lb := #[.pointer (some ⟨w1.heap.size + 1, 0, none⟩)]) rfl trivial (enters_of Tryz.func149 (by kernel_rfl) rfl)
    (Back.back_stops Fence.wide _ trivial rfl (by omega) (w1.heap.size + 1) w.heap.size A1 c1 l1 (by omega) W0 (by omega) (by omega) bs.cell ints)
    (fun h k => h.trans k) (fun W l o o' hB _ _ _ => Back.Keeps.putObj (B := W0.heap.size) (by omega) (by omega) W l o' hB) (Below.refl _ _) (fun _ => rfl)
    (thresh_Row.I w w1.heap.size 1000000 (.slice A1 l1.length c1) r0) (fun _ _ _ => False) (thresh_Row.I_own w _ _ _ _ r0 (by omega)) (fun _ _ _ _ _ hs _ _ => hs) ⟨Av, cv, r0, bx, bs, own, rfl, by simp; omega, bel⟩
    (fun x => { tmps := #[Value.slice A0 l0.length c0, Value.slice A1 l1.length c1, undef, undef, Value.slice none 0 0, Value.pointer (some { block := w1.heap.size, off := 0 }), undef, .int .i64 x.2, Value.slice A0 l0.length c0, Value.slice Av r0.length cv, Value.slice A1 l1.length c1, Value.func (Fn.func 149) #[] #[Value.pointer (some { block := w1.heap.size + 1, off := 0 })], .int .i64 (x.1 : Int), .int .i64 x.2, undef, undef, undef, undef, undef, undef, undef], defers := [] }) ?assign ?body ?done ?stop
  case assign =>
    intro l x W K hK
    gi_wp2
    exact hK
  case body =>
    rintro l pre x W ⟨A, c, rr, hb, hbt, hr, hs, hl, hB⟩ hpre
    obtain ⟨i, hF, hi⟩ := thresh_Row.find_total rr x.2 (by omega)
    obtain ⟨p, hP, hpl⟩ := thresh_Row.put_total rr x.2 i hi (by omega)
    have hC := (Kd.R_reads' hr).2.2
    have hcap := (Kd.R_reads' hr).2.1
    have hd : 1 ≤ 9 - 1 - 1 := by omega
    have hmx : Tryz.prog.follows .mixedOrders = true := by kernel_rfl
    have hcell := hb.cell
    have hfroz := hb.frozen
    have HF := Aside0.mk hF
    have HP := Aside0.mk hP
    have HR := Aside0.mk hr
    have HBd := Aside0.mk hb
    have HS := Aside0.mk hs
    have HBB := Aside0.mk hB
    have HCC := Aside0.mk hC
    have HBT := Aside0.mk hbt
    clear hF hP hr hb hs hB hC hbt
    gi_wp2
    gi_region_with_o (first | (refine ⟨trivial, ?_⟩; gi_at_call 95; refine (CallsIn.inRound l (callsIn_wide.2 (thresh_Find.calls (rr.length + 1) A c rr x.2 i _ ?c1 hcap HF.out))).mono ?_; (case c1 => first | exact HCC.out | exact Kd.C_drew HCC.out | exact Kd.C_drewN HCC.out _); rintro e w' ⟨rfl, ⟨nd, rfl⟩⟩) | (refine ⟨trivial, ?_⟩; gi_at_call 136; refine (CallsIn.inRound l (callsIn_wide.2 (thresh_put.calls (fun k => some k = (Value.slice A rr.length c).ownBlock) (.slice A rr.length c) rr x.2 i p w _ ?b1 ?b2 HP.out))).mono ?_; (case b1 => repeat (first | exact HBB.out | apply pw_below_drewN | apply below_drew1)); (case b2 => exact Kd.R_tight rfl (by repeat (first | exact HR.out | apply Kd.R_drewN | apply Kd.R_drew))); rintro e w' ⟨v0, rfl, ho, hb', hk⟩; obtain ⟨A', c', rfl⟩ := Kd.R_slice ho; have hbx : Boxed w' w1.heap.size 22 (.slice A rr.length c) := blk_kept (by repeat (first | exact HBd.out | refine blk_drewN ?_ _ | refine blk_drew ?_)) hk (thresh_Row.box_ne HR.out HBd.out); have hc' := hbx.cell; have hf' := hbx.frozen; have HBX := Aside0.mk hbx; have HO2 := Aside0.mk ho; have HB2 := Aside0.mk hb'; have HK2 := Aside0.mk hk; clear hbx ho hb' hk))
    all_goals gi_wp2
    all_goals
      have ne2 := thresh_Row.box_ne HR.out HBT.out
      have hk : Kept W w' (fun k => some k = (Value.slice A rr.length c).ownBlock) := HK2.out
      have hbs : Boxed w' (w1.heap.size + 1) 22 (.slice A1 l1.length c1) := blk_kept HBT.out hk ne2
      exact ⟨(thresh_Row.kept_others HR.out hk).trans (KeepsOthers.setCell _ _ _), thresh_Row.keeps_of HR.out hk HBT.out ne2 (by omega) HBB.out.size, A', c', p, Boxed.set _ HBX.out, blk_far hbs (by show w1.heap.size + 1 ≠ w1.heap.size; omega) _, Kd.R_mono (Kd.R_set HO2.out HBX.out (by simp [Kd.int, Kd.scalar]) 0 _) (fun _ _ => trivial), by rw [List.map_append]; exact thresh_Row.Steps.snoc HS.out HF.out HP.out, by rw [List.length_append, List.length_singleton]; omega, below_set HB2.out hw1⟩
  case done =>
    rintro D xs W hD rfl ⟨A, c, rr, hb, hbt, hr, hs, hl, hB⟩ hK
    clear hbt
    rw [Back.came_snd] at hs
    have er := thresh_Row.Steps.go hs HGO.out
    subst er
    have hcell := hb.cell
    have HR := Aside0.mk hr
    have HBB := Aside0.mk hB
    clear hr hb hs hB
    gi_wp2
    refine ⟨by simp, .inl ⟨_, _, rfl, run_takeDeferred hK, ?_⟩⟩
    exact ⟨_, results_tmp rfl _ _ _, _, rfl, thresh_Row.R_turned HR.out (grownBy_putObj' _ D (.deferred none)) (fun r e => by cases e; exact ⟨_, hK, rfl⟩), HBB.out.grown (grownBy_putObj' _ D (.deferred none)) HBB.out.size (fun k e => by cases e; omega)⟩
  case stop =>
    rintro D c pre W _ _ hx _
    exact hx.elim
/-! ### hunt_Thresholds: function 32 -/
/-- Row by row, for each number the row of its places in the second list. -/
def hunt_Thresholds.go (k : Nat) (b : List Int) : List Int → List Int → Option (List Int)
  | t, [] => some t
  | t, x :: xs => (thresh_Row.f k t (Plc.pos x b 0)).bind fun t' => hunt_Thresholds.go k b t' xs
def hunt_Thresholds.ok (x : Int) : Bool := (Lit.int .i64 x).wf
def hunt_Thresholds.f (k : Nat) (l0 : List Int) (l1 : List Int) : Option (List Int) := if l0.length ≤ 1000000 ∧ l1.length ≤ 1000000 ∧ l0.all hunt_Thresholds.ok = true ∧ l1.all hunt_Thresholds.ok = true then hunt_Thresholds.go k l1 [] l0 else none
theorem hunt_Thresholds.go_mono (k : Nat) (b : List Int) : ∀ (xs t : List Int), LeO (hunt_Thresholds.go k b t xs) (hunt_Thresholds.go (k + 1) b t xs)
  | [], t => LeO.refl _
  | x :: xs, t => LeO.bind (thresh_Row.mono _ _ _) (fun t' => hunt_Thresholds.go_mono k b xs t')
theorem hunt_Thresholds.mono : ∀ a0 a1 k, LeO (hunt_Thresholds.f k a0 a1) (hunt_Thresholds.f (k + 1) a0 a1) := by
  intro a0 a1 k
  unfold hunt_Thresholds.f
  refine LeO.ite ?_ (LeO.none _)
  exact hunt_Thresholds.go_mono k a1 a0 []
set_option maxHeartbeats 8000000 in
set_option maxRecDepth 100000 in
theorem hunt_Thresholds.calls (k : Nat) (A0 : Option Addr) (c0 : Nat) (l0 : List Int) (A1 : Option Addr) (c1 : Nat) (l1 : List Int) (r : List Int) (w : World) (hr0 : Kd.C (Kd.int .i64) w A0 l0.length l0) (hc0 : l0.length ≤ c0) (hr1 : Kd.C (Kd.int .i64) w A1 l1.length l1) (hc1 : l1.length ≤ c1) (h : hunt_Thresholds.f k l0 l1 = some r) :
    Calls Tryz.prog 32 #[.slice A0 l0.length c0, .slice A1 l1.length c1] w fun e w' => ∃ v0_ : Value, e = .returned (v0_) ∧ Kd.R (Kd.int .i64) 3 w' w.heap.size (fun _ => True) v0_ r ∧ Below w.heap.size w w' := by
  unfold hunt_Thresholds.f at h
  by_cases c : l0.length ≤ 1000000 ∧ l1.length ≤ 1000000 ∧ l0.all hunt_Thresholds.ok = true ∧ l1.all hunt_Thresholds.ok = true
  rotate_left
  · rw [if_neg c] at h
    exact absurd h (by simp)
  rw [if_pos c] at h
  have HG := Aside0.mk h
  obtain ⟨q0, q1, q2, q3⟩ := c
  have W0 : Aside0 (∀ x ∈ l0, (Lit.int .i64 x).wf = true) := ⟨List.all_eq_true.mp q2⟩
  have W1 : Aside0 (∀ x ∈ l1, (Lit.int .i64 x).wf = true) := ⟨List.all_eq_true.mp q3⟩
  have HR0 := Aside0.mk hr0
  clear hr0 q2 q3 h
  go_enter Tryz.func32, Tryz.ntmps32
  go_wp2_with (first | (go_at_call 74; (with_reducible refine (places_calls A1 c1 l1 w hr1 hc1 q1 W1.out).mono ?_); rintro e w1 ⟨rfl, hp, hb⟩; have HP := Aside0.mk hp; have HB := Aside0.mk hb; clear hp hb))
  go_loopw [6, 13] (fun t i wr => ∃ (j : Nat) (rr : List Int), j ≤ l0.length ∧ i = .int .i64 j ∧ Aside0 (hunt_Thresholds.go k l1 rr (l0.drop j) = some r) ∧ Aside0 (Kd.R (Kd.int .i64) 3 wr w.heap.size (fun _ => True) t rr) ∧ Aside0 (Plc wr w.heap.size l1.length l1) ∧ Aside0 (Below w.heap.size w wr)) (fun t i _ => l0.length - (intOf i).toNat)
  case atStart => exact ⟨0, [], Nat.zero_le _, rfl, by rw [List.drop_zero]; exact HG, ⟨Kd.R_nil _ _ _ _ _⟩, HP, HB⟩
  case round =>
    obtain ⟨j, rr, hj, rfl, HG, HT, HC, HBw⟩ := hrel
    obtain ⟨At, ct, rfl⟩ := Kd.R_slice HT.out
    by_cases hlt : j < l0.length
    · obtain ⟨D, hown, hs⟩ := HC.out
      have hw := Plc.all_at W0.out j hlt
      obtain ⟨ad, ea, hx⟩ := Kd.at_int HR0.out (j : Int) (by omega) (by omega)
      cases ea
      replace hx := (HBw.out.cell (World.block_lt_of_cell? w _ hx)).trans hx
      rw [Int.toNat_natCast] at hx
      have hg := HG.out
      rw [Plc.drop_at l0 j hlt, hunt_Thresholds.go] at hg
      obtain ⟨t', h1, h2⟩ := Option.bind_eq_some_iff.mp hg
      obtain ⟨x, ex⟩ : ∃ x, x = rd l0 (j : Int) := ⟨_, rfl⟩
      rw [← ex] at hx hw h1
      have hkey := Plc.key hw
      have HS' := Aside0.mk hs
      have H1 := Aside0.mk h1
      have H2 := Aside0.mk h2
      clear ex hs hg h1 h2 HG
      go_wp2_with (first
        | (at_lookup; refine wpList_lookup_groups _ rfl _ _ 105 rfl 3 22 3 .i64 Plc.law Tryz.underlying105 (Plc.zero _) (w.heap.size + 1) w.heap.size l1.length D rfl hown (by unfold maxLen; omega) _ _ rfl hkey ?_; intro v zs hat hoi hzl hback; obtain rfl := (HS'.out x hw).same hat hoi; obtain ⟨Av, cv, rfl, hrz, hcz⟩ := Plc.reads hoi)
        | (go_at_call 75; (with_reducible refine (thresh_Row.calls k At ct rr Av cv (Plc.pos x l1 0) t' _ (Kd.R_reads' HT.out).2.2 (Kd.R_reads' HT.out).2.1 hrz hcz H1.out).mono ?_); rintro e w2 ⟨v2, rfl, ho, hb⟩; have HO := Aside0.mk (Kd.R_lower ho (below_size HBw.out)); have HP2 := Aside0.mk (HC.out.below hb); have HB2 := Aside0.mk (below_step HBw.out hb); clear ho hb))
      clear hown hback hoi hat hkey hx HS' hrz HC HT H1
      go_roundw
      case rel => exact ⟨j + 1, t', by omega, by go_num, H2, HO, HP2, HB2⟩
      case measure => simp [intOf]; omega
    · have ej : j = l0.length := by omega
      subst ej
      have hg := HG.out
      rw [List.drop_length, hunt_Thresholds.go] at hg
      obtain rfl := Option.some.inj hg
      clear hlt hj hg HG
      go_wp2
      go_ret
      exact ⟨_, rfl, HT.out, HBw.out⟩
end Go.Proofs.YtjkjanegankdhaaGreat.PTopRows
