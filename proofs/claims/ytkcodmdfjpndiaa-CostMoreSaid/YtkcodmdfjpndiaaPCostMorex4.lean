-- Laid by wip/myprint.py: the kit's print, with contracts typed by hand for what it does not take.
import Derived.Test.YtkcodmdfjpndiaaPCostMorex0
import Derived.Test.YtkcodmdfjpndiaaPCostMorex2
import Derived.Test.YtkcodmdfjpndiaaPCostMorex3
namespace Go.Proofs.Ytkcodmdfjpndiaa.PCostMore
open Go.RowKit Go.Proofs.YtkcodmdfjpndiaaW.PrintWords Go.Proofs.YtkcodmdfjpndiaaW.PrintLast Go.Proofs.YtkcodmdfjpndiaaW.PrintMore
attribute [local go_sem] max2_int min2_int max_two min_two max_three min_three max_four min_four   -- for this text's walks alone
set_option linter.unusedVariables false
set_option linter.unusedSimpArgs false

/-! ### tattinglaw27_CostMore: function 6 -/
def tattinglaw27_CostMore.j0 : Nat → Int → Int → Int → Int → Int → Int → Int → Int → Int → Option (Bool)
  | 0, _, _, _, _, _, _, _, _, _ => none
  | k + 1, x13, x147000, x147001, x147002, x147003, x148000, x148001, x148002, x148003 => (cost_Room.f x13 x147000 x147001 x147002 x147003).bind fun bt148 => ((cost_Room.f x13 x148000 x148001 x148002 x148003).bind fun bt150 => (if bt148.2 = 0 then (if bt150.2 = 0 then (if bt150.1 ≥ bt148.1 then ((cost_Fits.f x13 x147000 x147001 x147002 x147003 bt148.1).bind fun t152 => (if t152 = 0 then ((cost_Fits.f x13 x147000 x147001 x147002 x147003 (wrap64 (bt148.1 - 1))).bind fun t153 => (if t153 = 2 then ((cost_Fits.f x13 x148000 x148001 x148002 x148003 (wrap64 (bt148.1 - 1))).bind fun t154 => (some (t154 == 2))) else (some false))) else (some false))) else (some false)) else (some false)) else (some false)))
def tattinglaw27_CostMore.f (k : Nat) (a0 : Int) (a1 : Int) (a2 : Int) (a3 : Int) (a4 : Int) (a5 : Bool) : Option (Bool) := (tattinglaw27_awake.f k).bind fun t145 => (if t145 = true then (if (wrap64 ((wrap64 ((wrap64 (a1)) + (wrap64 (a2)))) + 1)) = 0 then (none) else (if (wrap64 ((wrap64 ((wrap64 (a1)) * (wrap64 (a2)))) + 1)) = 0 then (none) else (if a5 = true then (tattinglaw27_CostMore.j0 k (wrap64 (1 + (Int.tmod (wrap64 (a0)) 8))) (wrap64 (a1)) (wrap64 (a2)) (Int.tmod (wrap64 (a3)) (wrap64 ((wrap64 ((wrap64 (a1)) + (wrap64 (a2)))) + 1))) (Int.tmod (wrap64 (a4)) (wrap64 ((wrap64 ((wrap64 (a1)) * (wrap64 (a2)))) + 1))) (wrap64 ((wrap64 (a1)) + 1)) (wrap64 ((wrap64 (a2)) + 1)) (Int.tmod (wrap64 (a3)) (wrap64 ((wrap64 ((wrap64 (a1)) + (wrap64 (a2)))) + 1))) (Int.tmod (wrap64 (a4)) (wrap64 ((wrap64 ((wrap64 (a1)) * (wrap64 (a2)))) + 1)))) else (tattinglaw27_CostMore.j0 k (wrap64 (1 + (Int.tmod (wrap64 (a0)) 8))) (wrap64 (a1)) (wrap64 (a2)) (Int.tmod (wrap64 (a3)) (wrap64 ((wrap64 ((wrap64 (a1)) + (wrap64 (a2)))) + 1))) (Int.tmod (wrap64 (a4)) (wrap64 ((wrap64 ((wrap64 (a1)) * (wrap64 (a2)))) + 1))) (wrap64 (a1)) (wrap64 ((wrap64 (a2)) + 1)) (Int.tmod (wrap64 (a3)) (wrap64 ((wrap64 ((wrap64 (a1)) + (wrap64 (a2)))) + 1))) (Int.tmod (wrap64 (a4)) (wrap64 ((wrap64 ((wrap64 (a1)) * (wrap64 (a2)))) + 1))))))) else (some false))
theorem tattinglaw27_CostMore.mono_l : ∀ k, (∀ y0 y1 y2 y3 y4 y5 y6 y7 y8, LeO (tattinglaw27_CostMore.j0 k y0 y1 y2 y3 y4 y5 y6 y7 y8) (tattinglaw27_CostMore.j0 (k + 1) y0 y1 y2 y3 y4 y5 y6 y7 y8))
  | 0 => fun _ _ _ _ _ _ _ _ _ r h => by simp [tattinglaw27_CostMore.j0] at h
  | k + 1 => by
    have ih0 := tattinglaw27_CostMore.mono_l k
    · intro y0 y1 y2 y3 y4 y5 y6 y7 y8
      unfold tattinglaw27_CostMore.j0
      repeat' first
      | (with_reducible exact ih0 _ _ _ _ _ _ _ _ _)
      | (with_reducible exact tattinglaw27_awake.mono _)
      | (with_reducible exact LeO.refl _)
      | (with_reducible exact LeO.none _)
      | (with_reducible refine LeO.ite ?_ ?_)
      | (with_reducible refine LeO.bind ?_ (fun _ => ?_))
      | exact ih0 _ _ _ _ _ _ _ _ _
      | exact tattinglaw27_awake.mono _
      | exact LeO.none _
      | refine LeO.ite ?_ ?_
      | refine LeO.bind ?_ (fun _ => ?_)
theorem tattinglaw27_CostMore.mono : ∀ a0 a1 a2 a3 a4 a5 k, LeO (tattinglaw27_CostMore.f k a0 a1 a2 a3 a4 a5) (tattinglaw27_CostMore.f (k + 1) a0 a1 a2 a3 a4 a5) := by
  intro a0 a1 a2 a3 a4 a5 k
  have ih0 := tattinglaw27_CostMore.mono_l k
  unfold tattinglaw27_CostMore.f
  repeat' first
      | (with_reducible exact ih0 _ _ _ _ _ _ _ _ _)
      | (with_reducible exact tattinglaw27_awake.mono _)
      | (with_reducible exact LeO.refl _)
      | (with_reducible exact LeO.none _)
      | (with_reducible refine LeO.ite ?_ ?_)
      | (with_reducible refine LeO.bind ?_ (fun _ => ?_))
      | exact ih0 _ _ _ _ _ _ _ _ _
      | exact tattinglaw27_awake.mono _
      | exact LeO.none _
      | refine LeO.ite ?_ ?_
      | refine LeO.bind ?_ (fun _ => ?_)
def tattinglaw27_CostMore.T4 : Bool × List (List Nat × List Nat) := (true, [([], []), ([0], [0]), ([], []), ([2], [2]), ([], []), ([4], [4]), ([], []), ([6], [6]), ([], []), ([8], [8]), ([7, 9], [7, 9]), ([10], [10]), ([5, 11], [5, 11]), ([], []), ([13], [13]), ([], []), ([15], [15]), ([], []), ([17], [17]), ([16, 18], [16, 18]), ([19], [19]), ([14, 20], [14, 20]), ([1, 3, 12, 21], [1, 3, 12, 21]), ([], []), ([23, 22, 0, 1, 2, 3, 4, 5, 6, 7, 8, 9, 10, 11, 12, 13, 14, 15, 16, 17, 18, 19, 20, 21, 22, 23], [22, 23])])
def tattinglaw27_CostMore.B4 : List Nat := [0, 1, 0, 4, 0, 16, 0, 64, 0, 256, 960, 1984, 4080, 0, 8192, 0, 32768, 0, 131072, 491520, 1015808, 2088960, 4194303, 0, 16777215]
theorem tattinglaw27_CostMore.tab4 : rtab .any (opsOf Try.f6 4) = tattinglaw27_CostMore.T4 := by kernel_rfl
theorem tattinglaw27_CostMore.bits4 : waitsOk tattinglaw27_CostMore.T4.2 tattinglaw27_CostMore.B4 = true := by kernel_rfl
set_option maxHeartbeats 8000000 in
set_option maxRecDepth 100000 in
theorem tattinglaw27_CostMore.calls (k : Nat) (a0 : Int) (a1 : Int) (a2 : Int) (a3 : Int) (a4 : Int) (a5 : Bool) (r : Bool) (w : World) (h : tattinglaw27_CostMore.f k a0 a1 a2 a3 a4 a5 = some r) (HRT : Aside0 (r = true)) :
    Calls Try.prog 6 #[.int .u8 a0, .int .u16 a1, .int .u16 a2, .int .u16 a3, .int .u32 a4, .bool a5] w fun e w' => e = .returned (.bool r) ∧ Below w.heap.size w w' := by
  have hu26 := Try.underlying26
  have HB := Aside0.mk (Below.refl w.heap.size w)
  have H : ((tattinglaw27_awake.f k).bind fun t145 => (if t145 = true then (if (wrap64 ((wrap64 ((wrap64 (a1)) + (wrap64 (a2)))) + 1)) = 0 then (none) else (if (wrap64 ((wrap64 ((wrap64 (a1)) * (wrap64 (a2)))) + 1)) = 0 then (none) else (if a5 = true then (tattinglaw27_CostMore.j0 k (wrap64 (1 + (Int.tmod (wrap64 (a0)) 8))) (wrap64 (a1)) (wrap64 (a2)) (Int.tmod (wrap64 (a3)) (wrap64 ((wrap64 ((wrap64 (a1)) + (wrap64 (a2)))) + 1))) (Int.tmod (wrap64 (a4)) (wrap64 ((wrap64 ((wrap64 (a1)) * (wrap64 (a2)))) + 1))) (wrap64 ((wrap64 (a1)) + 1)) (wrap64 ((wrap64 (a2)) + 1)) (Int.tmod (wrap64 (a3)) (wrap64 ((wrap64 ((wrap64 (a1)) + (wrap64 (a2)))) + 1))) (Int.tmod (wrap64 (a4)) (wrap64 ((wrap64 ((wrap64 (a1)) * (wrap64 (a2)))) + 1)))) else (tattinglaw27_CostMore.j0 k (wrap64 (1 + (Int.tmod (wrap64 (a0)) 8))) (wrap64 (a1)) (wrap64 (a2)) (Int.tmod (wrap64 (a3)) (wrap64 ((wrap64 ((wrap64 (a1)) + (wrap64 (a2)))) + 1))) (Int.tmod (wrap64 (a4)) (wrap64 ((wrap64 ((wrap64 (a1)) * (wrap64 (a2)))) + 1))) (wrap64 (a1)) (wrap64 ((wrap64 (a2)) + 1)) (Int.tmod (wrap64 (a3)) (wrap64 ((wrap64 ((wrap64 (a1)) + (wrap64 (a2)))) + 1))) (Int.tmod (wrap64 (a4)) (wrap64 ((wrap64 ((wrap64 (a1)) * (wrap64 (a2)))) + 1))))))) else (some false))) = some r := h
  clear h
  replace H := Option.bind_eq_some_iff.mp H
  obtain ⟨t145, A70, H⟩ := H
  replace H : (if t145 = true then (if (wrap64 ((wrap64 ((wrap64 (a1)) + (wrap64 (a2)))) + 1)) = 0 then (none) else (if (wrap64 ((wrap64 ((wrap64 (a1)) * (wrap64 (a2)))) + 1)) = 0 then (none) else (if a5 = true then (tattinglaw27_CostMore.j0 k (wrap64 (1 + (Int.tmod (wrap64 (a0)) 8))) (wrap64 (a1)) (wrap64 (a2)) (Int.tmod (wrap64 (a3)) (wrap64 ((wrap64 ((wrap64 (a1)) + (wrap64 (a2)))) + 1))) (Int.tmod (wrap64 (a4)) (wrap64 ((wrap64 ((wrap64 (a1)) * (wrap64 (a2)))) + 1))) (wrap64 ((wrap64 (a1)) + 1)) (wrap64 ((wrap64 (a2)) + 1)) (Int.tmod (wrap64 (a3)) (wrap64 ((wrap64 ((wrap64 (a1)) + (wrap64 (a2)))) + 1))) (Int.tmod (wrap64 (a4)) (wrap64 ((wrap64 ((wrap64 (a1)) * (wrap64 (a2)))) + 1)))) else (tattinglaw27_CostMore.j0 k (wrap64 (1 + (Int.tmod (wrap64 (a0)) 8))) (wrap64 (a1)) (wrap64 (a2)) (Int.tmod (wrap64 (a3)) (wrap64 ((wrap64 ((wrap64 (a1)) + (wrap64 (a2)))) + 1))) (Int.tmod (wrap64 (a4)) (wrap64 ((wrap64 ((wrap64 (a1)) * (wrap64 (a2)))) + 1))) (wrap64 (a1)) (wrap64 ((wrap64 (a2)) + 1)) (Int.tmod (wrap64 (a3)) (wrap64 ((wrap64 ((wrap64 (a1)) + (wrap64 (a2)))) + 1))) (Int.tmod (wrap64 (a4)) (wrap64 ((wrap64 ((wrap64 (a1)) * (wrap64 (a2)))) + 1))))))) else (some false)) = some r := H
  have A7 := Aside0.mk A70
  clear A70
  by_cases c8 : t145 = true
  · subst c8
    have H1 : (if (wrap64 ((wrap64 ((wrap64 (a1)) + (wrap64 (a2)))) + 1)) = 0 then (none) else (if (wrap64 ((wrap64 ((wrap64 (a1)) * (wrap64 (a2)))) + 1)) = 0 then (none) else (if a5 = true then (tattinglaw27_CostMore.j0 k (wrap64 (1 + (Int.tmod (wrap64 (a0)) 8))) (wrap64 (a1)) (wrap64 (a2)) (Int.tmod (wrap64 (a3)) (wrap64 ((wrap64 ((wrap64 (a1)) + (wrap64 (a2)))) + 1))) (Int.tmod (wrap64 (a4)) (wrap64 ((wrap64 ((wrap64 (a1)) * (wrap64 (a2)))) + 1))) (wrap64 ((wrap64 (a1)) + 1)) (wrap64 ((wrap64 (a2)) + 1)) (Int.tmod (wrap64 (a3)) (wrap64 ((wrap64 ((wrap64 (a1)) + (wrap64 (a2)))) + 1))) (Int.tmod (wrap64 (a4)) (wrap64 ((wrap64 ((wrap64 (a1)) * (wrap64 (a2)))) + 1)))) else (tattinglaw27_CostMore.j0 k (wrap64 (1 + (Int.tmod (wrap64 (a0)) 8))) (wrap64 (a1)) (wrap64 (a2)) (Int.tmod (wrap64 (a3)) (wrap64 ((wrap64 ((wrap64 (a1)) + (wrap64 (a2)))) + 1))) (Int.tmod (wrap64 (a4)) (wrap64 ((wrap64 ((wrap64 (a1)) * (wrap64 (a2)))) + 1))) (wrap64 (a1)) (wrap64 ((wrap64 (a2)) + 1)) (Int.tmod (wrap64 (a3)) (wrap64 ((wrap64 ((wrap64 (a1)) + (wrap64 (a2)))) + 1))) (Int.tmod (wrap64 (a4)) (wrap64 ((wrap64 ((wrap64 (a1)) * (wrap64 (a2)))) + 1))))))) = some r := by rw [if_pos rfl] at H; exact H
    clear H
    have H := H1
    clear H1
    by_cases c9 : (wrap64 ((wrap64 ((wrap64 (a1)) + (wrap64 (a2)))) + 1)) = 0
    · rw [if_pos c9] at H
      exact absurd H (by simp)
    · rw [if_neg c9] at H
      have c9b0 : ((wrap64 ((wrap64 ((wrap64 (a1)) + (wrap64 (a2)))) + 1)) == 0) = false := beq_eq_false_iff_ne.mpr c9
      have c9b1 : ((wrap64 ((wrap64 ((wrap64 (a1)) + (wrap64 (a2)))) + 1)) != 0) = true := bne_iff_ne.mpr c9
      by_cases c10 : (wrap64 ((wrap64 ((wrap64 (a1)) * (wrap64 (a2)))) + 1)) = 0
      · rw [if_pos c10] at H
        exact absurd H (by simp)
      · rw [if_neg c10] at H
        have c10b0 : ((wrap64 ((wrap64 ((wrap64 (a1)) * (wrap64 (a2)))) + 1)) == 0) = false := beq_eq_false_iff_ne.mpr c10
        have c10b1 : ((wrap64 ((wrap64 ((wrap64 (a1)) * (wrap64 (a2)))) + 1)) != 0) = true := bne_iff_ne.mpr c10
        have HC11 := Aside0.mk H
        clear H
        go_enter Try.func6, Try.ntmps6
        try go_wp2_with (first | ((with_reducible refine gate_callee (f := 9) rfl ?_); refine goesL_ (some 20) rfl rfl Try.func9 (by kernel_rfl) rfl #[] rfl (by (try simp only [List.map_toArray, List.map_cons, List.map_nil]); first | done | rfl | (simp only [List.length_drop, List.length_take]; rfl)) ?_; (with_reducible refine (tattinglaw27_awake.calls k  true _ A7.out).mono ?_); rintro e w12 ⟨rfl, hb⟩; refine ⟨_, rfl, ?_⟩; have n0_ := Aside0.mk (below_step (by repeat (first | (with_reducible first | exact HB.out | apply below_alloc | apply pw_below_drewN | apply below_drew1) | exact HB.out)) hb); clear HB; have HB := n0_; clear n0_; (try clear hb); (try clear hb2); (try clear hk); (try clear hi)))
        have n0_ := Aside0.mk (below_drew1 HB.out)
        clear HB
        have HB := n0_
        clear n0_
        refine start_ (n := 25) (S := fun w' => True) (ds := []) #[false, false, false, false, false, false, false, false, false, false, false, false, false, false, false, false, false, false, false, false, false, false, false, false, false] (by kernel_rfl) rfl rfl trivial (fun hHeld => ?_); refine with_tabW tattinglaw27_CostMore.tab4 tattinglaw27_CostMore.bits4 (fun HT_ HW_ => ?_)
        generalize w12.drew = w13 at HB hHeld ⊢
        refine pure_ (i := 0) (N := some 26) (v := ?_) (a' := ?_) #[true, false, false, false, false, false, false, false, false, false, false, false, false, false, false, false, false, false, false, false, false, false, false, false, false] rfl rfl (any_of HT_.out (by kernel_rfl)) (fun _ _ _ h => h) (Or.inl ⟨by rfl, ?_⟩) ?_ ?_
        rotate_left
        · intro w'
          go_simp
          with_reducible rfl
        rotate_left
        · simp only [Act.put, List.setIfInBounds_toArray, List.set_cons_zero, List.set_cons_succ, i64_w, i32_w]
          rfl
        refine pure_ (i := 1) (N := some 27) (v := ?_) (a' := ?_) #[true, true, false, false, false, false, false, false, false, false, false, false, false, false, false, false, false, false, false, false, false, false, false, false, false] rfl rfl (any_of HT_.out (by kernel_rfl)) (fun _ _ _ h => h) (Or.inl ⟨by rfl, ?_⟩) ?_ ?_
        rotate_left
        · intro w'
          go_simp
          with_reducible rfl
        rotate_left
        · simp only [Act.put, List.setIfInBounds_toArray, List.set_cons_zero, List.set_cons_succ, i64_w, i32_w]
          rfl
        refine pure_ (i := 2) (N := some 28) (v := ?_) (a' := ?_) #[true, true, true, false, false, false, false, false, false, false, false, false, false, false, false, false, false, false, false, false, false, false, false, false, false] rfl rfl (any_of HT_.out (by kernel_rfl)) (fun _ _ _ h => h) (Or.inl ⟨by rfl, ?_⟩) ?_ ?_
        rotate_left
        · intro w'
          go_simp
          with_reducible rfl
        rotate_left
        · simp only [Act.put, List.setIfInBounds_toArray, List.set_cons_zero, List.set_cons_succ, i64_w, i32_w]
          rfl
        refine pure_ (i := 3) (N := some 29) (v := ?_) (a' := ?_) #[true, true, true, true, false, false, false, false, false, false, false, false, false, false, false, false, false, false, false, false, false, false, false, false, false] rfl rfl (any_of HT_.out (by kernel_rfl)) (fun _ _ _ h => h) (Or.inl ⟨by rfl, ?_⟩) ?_ ?_
        rotate_left
        · intro w'
          go_simp
          with_reducible rfl
        rotate_left
        · simp only [Act.put, List.setIfInBounds_toArray, List.set_cons_zero, List.set_cons_succ, i64_w, i32_w]
          rfl
        refine pure_ (i := 4) (N := some 30) (v := ?_) (a' := ?_) #[true, true, true, true, true, false, false, false, false, false, false, false, false, false, false, false, false, false, false, false, false, false, false, false, false] rfl rfl (any_of HT_.out (by kernel_rfl)) (fun _ _ _ h => h) (Or.inl ⟨by rfl, ?_⟩) ?_ ?_
        rotate_left
        · intro w'
          go_simp
          with_reducible rfl
        rotate_left
        · simp only [Act.put, List.setIfInBounds_toArray, List.set_cons_zero, List.set_cons_succ, i64_w, i32_w]
          rfl
        refine pure_ (i := 5) (N := some 31) (v := ?_) (a' := ?_) #[true, true, true, true, true, true, false, false, false, false, false, false, false, false, false, false, false, false, false, false, false, false, false, false, false] rfl rfl (any_of HT_.out (by kernel_rfl)) (fun _ _ _ h => h) (Or.inl ⟨by rfl, ?_⟩) ?_ ?_
        rotate_left
        · intro w'
          go_simp
          with_reducible rfl
        rotate_left
        · simp only [Act.put, List.setIfInBounds_toArray, List.set_cons_zero, List.set_cons_succ, i64_w, i32_w]
          rfl
        refine pure_ (i := 6) (N := some 32) (v := ?_) (a' := ?_) #[true, true, true, true, true, true, true, false, false, false, false, false, false, false, false, false, false, false, false, false, false, false, false, false, false] rfl rfl (any_of HT_.out (by kernel_rfl)) (fun _ _ _ h => h) (Or.inl ⟨by rfl, ?_⟩) ?_ ?_
        rotate_left
        · intro w'
          go_simp
          with_reducible rfl
        rotate_left
        · simp only [Act.put, List.setIfInBounds_toArray, List.set_cons_zero, List.set_cons_succ, i64_w, i32_w]
          rfl
        refine pure_ (i := 7) (N := some 33) (v := ?_) (a' := ?_) #[true, true, true, true, true, true, true, true, false, false, false, false, false, false, false, false, false, false, false, false, false, false, false, false, false] rfl rfl (any_of HT_.out (by kernel_rfl)) (fun _ _ _ h => h) (Or.inl ⟨by rfl, ?_⟩) ?_ ?_
        rotate_left
        · intro w'
          go_simp
          with_reducible rfl
        rotate_left
        · simp only [Act.put, List.setIfInBounds_toArray, List.set_cons_zero, List.set_cons_succ, i64_w, i32_w]
          rfl
        refine pure_ (i := 8) (N := some 34) (v := ?_) (a' := ?_) #[true, true, true, true, true, true, true, true, true, false, false, false, false, false, false, false, false, false, false, false, false, false, false, false, false] rfl rfl (any_of HT_.out (by kernel_rfl)) (fun _ _ _ h => h) (Or.inl ⟨by rfl, ?_⟩) ?_ ?_
        rotate_left
        · intro w'
          go_simp
          with_reducible rfl
        rotate_left
        · simp only [Act.put, List.setIfInBounds_toArray, List.set_cons_zero, List.set_cons_succ, i64_w, i32_w]
          rfl
        refine pure_ (i := 9) (N := some 35) (v := ?_) (a' := ?_) #[true, true, true, true, true, true, true, true, true, true, false, false, false, false, false, false, false, false, false, false, false, false, false, false, false] rfl rfl (any_of HT_.out (by kernel_rfl)) (fun _ _ _ h => h) (Or.inl ⟨by rfl, ?_⟩) ?_ ?_
        rotate_left
        · intro w'
          go_simp
          with_reducible rfl
        rotate_left
        · simp only [Act.put, List.setIfInBounds_toArray, List.set_cons_zero, List.set_cons_succ, i64_w, i32_w]
          rfl
        refine pure_ (i := 10) (N := some 36) (v := ?_) (a' := ?_) #[true, true, true, true, true, true, true, true, true, true, true, false, false, false, false, false, false, false, false, false, false, false, false, false, false] rfl rfl (any_of HT_.out (by kernel_rfl)) (fun _ _ _ h => h) (Or.inl ⟨by rfl, ?_⟩) ?_ ?_
        rotate_left
        · intro w'
          go_simp
          with_reducible rfl
        rotate_left
        · simp only [Act.put, List.setIfInBounds_toArray, List.set_cons_zero, List.set_cons_succ, i64_w, i32_w]
          rfl
        refine pure_ (i := 11) (N := some 37) (v := ?_) (a' := ?_) #[true, true, true, true, true, true, true, true, true, true, true, true, false, false, false, false, false, false, false, false, false, false, false, false, false] rfl rfl (any_of HT_.out (by kernel_rfl)) (fun _ _ _ h => h) (Or.inl ⟨by rfl, ?_⟩) ?_ ?_
        rotate_left
        · intro w'
          go_simp
          with_reducible rfl
        rotate_left
        · simp only [Act.put, List.setIfInBounds_toArray, List.set_cons_zero, List.set_cons_succ, i64_w, i32_w]
          rfl
        refine pure_ (i := 12) (N := some 38) (v := ?_) (a' := ?_) #[true, true, true, true, true, true, true, true, true, true, true, true, true, false, false, false, false, false, false, false, false, false, false, false, false] rfl rfl (any_of HT_.out (by kernel_rfl)) (fun _ _ _ h => h) (Or.inl ⟨by rfl, ?_⟩) ?_ ?_
        rotate_left
        · intro w'
          go_simp
          with_reducible rfl
        rotate_left
        · simp only [Act.put, List.setIfInBounds_toArray, List.set_cons_zero, List.set_cons_succ, i64_w, i32_w]
          rfl
        refine pure_ (i := 13) (N := some 39) (v := ?_) (a' := ?_) #[true, true, true, true, true, true, true, true, true, true, true, true, true, true, false, false, false, false, false, false, false, false, false, false, false] rfl rfl (any_of HT_.out (by kernel_rfl)) (fun _ _ _ h => h) (Or.inl ⟨by rfl, ?_⟩) ?_ ?_
        rotate_left
        · intro w'
          go_simp
          with_reducible rfl
        rotate_left
        · simp only [Act.put, List.setIfInBounds_toArray, List.set_cons_zero, List.set_cons_succ, i64_w, i32_w]
          rfl
        refine pure_ (i := 14) (N := some 40) (v := ?_) (a' := ?_) #[true, true, true, true, true, true, true, true, true, true, true, true, true, true, true, false, false, false, false, false, false, false, false, false, false] rfl rfl (any_of HT_.out (by kernel_rfl)) (fun _ _ _ h => h) (Or.inl ⟨by rfl, ?_⟩) ?_ ?_
        rotate_left
        · intro w'
          go_simp
          with_reducible rfl
        rotate_left
        · simp only [Act.put, List.setIfInBounds_toArray, List.set_cons_zero, List.set_cons_succ, i64_w, i32_w]
          rfl
        refine pure_ (i := 15) (N := some 41) (v := ?_) (a' := ?_) #[true, true, true, true, true, true, true, true, true, true, true, true, true, true, true, true, false, false, false, false, false, false, false, false, false] rfl rfl (any_of HT_.out (by kernel_rfl)) (fun _ _ _ h => h) (Or.inl ⟨by rfl, ?_⟩) ?_ ?_
        rotate_left
        · intro w'
          go_simp
          with_reducible rfl
        rotate_left
        · simp only [Act.put, List.setIfInBounds_toArray, List.set_cons_zero, List.set_cons_succ, i64_w, i32_w]
          rfl
        refine pure_ (i := 16) (N := some 42) (v := ?_) (a' := ?_) #[true, true, true, true, true, true, true, true, true, true, true, true, true, true, true, true, true, false, false, false, false, false, false, false, false] rfl rfl (any_of HT_.out (by kernel_rfl)) (fun _ _ _ h => h) (Or.inl ⟨by rfl, ?_⟩) ?_ ?_
        rotate_left
        · intro w'
          go_simp
          with_reducible rfl
        rotate_left
        · simp only [Act.put, List.setIfInBounds_toArray, List.set_cons_zero, List.set_cons_succ, i64_w, i32_w]
          rfl
        refine pure_ (i := 17) (N := some 43) (v := ?_) (a' := ?_) #[true, true, true, true, true, true, true, true, true, true, true, true, true, true, true, true, true, true, false, false, false, false, false, false, false] rfl rfl (any_of HT_.out (by kernel_rfl)) (fun _ _ _ h => h) (Or.inl ⟨by rfl, ?_⟩) ?_ ?_
        rotate_left
        · intro w'
          go_simp
          with_reducible rfl
        rotate_left
        · simp only [Act.put, List.setIfInBounds_toArray, List.set_cons_zero, List.set_cons_succ, i64_w, i32_w]
          rfl
        refine pure_ (i := 18) (N := some 44) (v := ?_) (a' := ?_) #[true, true, true, true, true, true, true, true, true, true, true, true, true, true, true, true, true, true, true, false, false, false, false, false, false] rfl rfl (any_of HT_.out (by kernel_rfl)) (fun _ _ _ h => h) (Or.inl ⟨by rfl, ?_⟩) ?_ ?_
        rotate_left
        · intro w'
          go_simp
          with_reducible rfl
        rotate_left
        · simp only [Act.put, List.setIfInBounds_toArray, List.set_cons_zero, List.set_cons_succ, i64_w, i32_w]
          rfl
        refine pure_ (i := 19) (N := some 45) (v := ?_) (a' := ?_) #[true, true, true, true, true, true, true, true, true, true, true, true, true, true, true, true, true, true, true, true, false, false, false, false, false] rfl rfl (any_of HT_.out (by kernel_rfl)) (fun _ _ _ h => h) (Or.inl ⟨by rfl, ?_⟩) ?_ ?_
        rotate_left
        · intro w'
          go_simp
          with_reducible rfl
        rotate_left
        · simp only [Act.put, List.setIfInBounds_toArray, List.set_cons_zero, List.set_cons_succ, i64_w, i32_w]
          rfl
        refine pure_ (i := 20) (N := some 46) (v := ?_) (a' := ?_) #[true, true, true, true, true, true, true, true, true, true, true, true, true, true, true, true, true, true, true, true, true, false, false, false, false] rfl rfl (any_of HT_.out (by kernel_rfl)) (fun _ _ _ h => h) (Or.inl ⟨by rfl, ?_⟩) ?_ ?_
        rotate_left
        · intro w'
          go_simp
          with_reducible rfl
        rotate_left
        · simp only [Act.put, List.setIfInBounds_toArray, List.set_cons_zero, List.set_cons_succ, i64_w, i32_w]
          rfl
        refine pure_ (i := 21) (N := some 47) (v := ?_) (a' := ?_) #[true, true, true, true, true, true, true, true, true, true, true, true, true, true, true, true, true, true, true, true, true, true, false, false, false] rfl rfl (any_of HT_.out (by kernel_rfl)) (fun _ _ _ h => h) (Or.inl ⟨by rfl, ?_⟩) ?_ ?_
        rotate_left
        · intro w'
          go_simp
          with_reducible rfl
        rotate_left
        · simp only [Act.put, List.setIfInBounds_toArray, List.set_cons_zero, List.set_cons_succ, i64_w, i32_w]
          rfl
        refine pure_ (i := 22) (N := some 48) (v := ?_) (a' := ?_) #[true, true, true, true, true, true, true, true, true, true, true, true, true, true, true, true, true, true, true, true, true, true, true, false, false] rfl rfl (any_of HT_.out (by kernel_rfl)) (fun _ _ _ h => h) (Or.inl ⟨by rfl, ?_⟩) ?_ ?_
        rotate_left
        · intro w'
          go_simp
          with_reducible rfl
        rotate_left
        · simp only [Act.put, List.setIfInBounds_toArray, List.set_cons_zero, List.set_cons_succ, i64_w, i32_w]
          rfl
        refine one_ (i := 23) (N := some 14) #[true, true, true, true, true, true, true, true, true, true, true, true, true, true, true, true, true, true, true, true, true, true, true, true, false] rfl rfl (one_of HT_.out (by kernel_rfl)) (by decide) (fun K hK => ?_)
        refine box_step ?hg (N := 14) ?hd (cs := #[.int .i64 0, .int .i64 0, .int .i64 0, .int .i64 0]) (t := 26) ?hr ?_; (case hd => rfl); (case hg => rfl); (case hr => first | (go_simp; done) | (go_simp; rfl))
        intro gb146 hg w14 hbox hb
        have n0_ := Aside0.mk (below_step (by repeat (first | (with_reducible first | exact HB.out | apply below_alloc | apply pw_below_drewN | apply below_drew1) | exact HB.out)) hb)
        have n1_ := Aside0.mk (hbox)
        have n2_ := Aside0.mk ((by rw [hg]; exact (below_size (by repeat (first | (with_reducible first | exact HB.out | apply below_alloc | apply pw_below_drewN | apply below_drew1) | exact HB.out))) : w.heap.size ≤ gb146))
        have n3_ := Aside0.mk ((by rw [hg]; exact (below_size (by repeat (first | (with_reducible first | exact HB.out | apply below_alloc | apply pw_below_drewN | apply below_drew1) | exact HB.out))) : w.heap.size ≤ gb146))
        clear HB
        have HB := n0_
        have BK146 := n1_
        have GW146 := n2_
        have GE146 := n3_
        clear n0_ n1_ n2_ n3_
        clear hb hbox hg
        refine hK.out _ _ trivial (fun hHeld => ?_)
        clear hK K
        refine norm_ (a' := ?_) ?_ ?_
        rotate_left
        · show Act.put _ (some 14) _ = _
          simp only [Act.put, List.setIfInBounds_toArray, List.set_cons_zero, List.set_cons_succ, i64_w, i32_w]
          rfl
        refine one_ (i := 24) (N := none) #[true, true, true, true, true, true, true, true, true, true, true, true, true, true, true, true, true, true, true, true, true, true, true, true, true] rfl rfl (one_of HT_.out (by kernel_rfl)) (by decide) (fun K hK => ?_)
        have hs15 : w14.cell? ⟨gb146, 0, none⟩ = some (.int .i64 0) := (blk_cell BK146.out 0).trans rfl
        have hfs15 := blk_frozen BK146.out 0
        have hs16 : w14.cell? ⟨gb146, 1, none⟩ = some (.int .i64 0) := (blk_cell BK146.out 1).trans rfl
        have hfs16 := blk_frozen BK146.out 1
        have hs17 : w14.cell? ⟨gb146, 2, none⟩ = some (.int .i64 0) := (blk_cell BK146.out 2).trans rfl
        have hfs17 := blk_frozen BK146.out 2
        have hs18 : w14.cell? ⟨gb146, 3, none⟩ = some (.int .i64 0) := (blk_cell BK146.out 3).trans rfl
        have hfs18 := blk_frozen BK146.out 3
        refine skip_ (w1 := ?_) (by rfl) rfl ?_ ?_
        rotate_left
        · go_simp
          rfl
        refine hK.out _ _ trivial (fun hHeld => ?_)
        clear hK K
        refine done_ (done_of HT_.out (by kernel_rfl)) ?_
        have hcz19_0 : w14.cell? ⟨gb146, 0, none⟩ = some (.int .i64 0) := (blk_cell BK146.out 0).trans rfl
        have hcz19_1 : w14.cell? ⟨gb146, 1, none⟩ = some (.int .i64 0) := (blk_cell BK146.out 1).trans rfl
        have hcz19_2 : w14.cell? ⟨gb146, 2, none⟩ = some (.int .i64 0) := (blk_cell BK146.out 2).trans rfl
        have hcz19_3 : w14.cell? ⟨gb146, 3, none⟩ = some (.int .i64 0) := (blk_cell BK146.out 3).trans rfl
        have hfz19_0 := blk_frozen BK146.out 0
        have hfz19_1 := blk_frozen BK146.out 1
        have hfz19_2 := blk_frozen BK146.out 2
        have hfz19_3 := blk_frozen BK146.out 3
        go_upto_if 54 with (first | ((with_reducible refine gate_dst (N := 15) rfl ?_); refine box_event ?hg (N := 15) ?hd (cs := #[.int .i64 0, .int .i64 0, .int .i64 0, .int .i64 0]) (t := 26) ?hr ?_; (case hd => rfl); (case hg => rfl); (case hr => first | (go_simp; done) | (go_simp; rfl)); intro gb147 hg w20 hbox hb; have n0_ := Aside0.mk (blk_below (g := gb146) (o := .cells #[.int .i64 (wrap64 (a1)), .int .i64 (wrap64 (a2)), .int .i64 (Int.tmod (wrap64 (a3)) (wrap64 ((wrap64 ((wrap64 (a1)) + (wrap64 (a2)))) + 1))), .int .i64 (Int.tmod (wrap64 (a4)) (wrap64 ((wrap64 ((wrap64 (a1)) * (wrap64 (a2)))) + 1)))] 26 (0, 0)) (by (with_reducible repeat (first | refine blk_drewN ?_ _ | refine blk_drew ?_ | refine blk_alloc ?_ _)); refine blk_put (cs := #[.int .i64 (wrap64 (a1)), .int .i64 (wrap64 (a2)), .int .i64 (Int.tmod (wrap64 (a3)) (wrap64 ((wrap64 ((wrap64 (a1)) + (wrap64 (a2)))) + 1))), .int .i64 0]) ?_ 3 _ rfl; (with_reducible repeat (first | refine blk_drewN ?_ _ | refine blk_drew ?_ | refine blk_alloc ?_ _)); refine blk_put (cs := #[.int .i64 (wrap64 (a1)), .int .i64 (wrap64 (a2)), .int .i64 0, .int .i64 0]) ?_ 2 _ rfl; (with_reducible repeat (first | refine blk_drewN ?_ _ | refine blk_drew ?_ | refine blk_alloc ?_ _)); refine blk_put (cs := #[.int .i64 (wrap64 (a1)), .int .i64 0, .int .i64 0, .int .i64 0]) ?_ 1 _ rfl; (with_reducible repeat (first | refine blk_drewN ?_ _ | refine blk_drew ?_ | refine blk_alloc ?_ _)); refine blk_put (cs := #[.int .i64 0, .int .i64 0, .int .i64 0, .int .i64 0]) ?_ 0 _ rfl; (with_reducible repeat (first | refine blk_drewN ?_ _ | refine blk_drew ?_ | refine blk_alloc ?_ _)); exact BK146.out) hb); have n1_ := Aside0.mk (below_step (by repeat (first | (with_reducible first | exact HB.out | apply below_alloc | apply pw_below_drewN | apply below_drew1 | refine below_set ?_ GE146.out) | exact HB.out)) hb); have n2_ := Aside0.mk (hbox); have n3_ := Aside0.mk ((by rw [hg]; exact (below_size (by repeat (first | (with_reducible first | exact HB.out | apply below_alloc | apply pw_below_drewN | apply below_drew1 | refine below_set ?_ GE146.out) | exact HB.out))) : w.heap.size ≤ gb147)); have n4_ := Aside0.mk ((by rw [hg]; exact (below_size (by repeat (first | (with_reducible first | exact HB.out | apply below_alloc | apply pw_below_drewN | apply below_drew1 | refine below_set ?_ GE146.out) | exact HB.out))) : w.heap.size ≤ gb147)); have n5_ := Aside0.mk ((by rw [hg]; exact Nat.ne_of_lt (blk_lt (g := gb146) (o := .cells #[.int .i64 (wrap64 (a1)), .int .i64 (wrap64 (a2)), .int .i64 (Int.tmod (wrap64 (a3)) (wrap64 ((wrap64 ((wrap64 (a1)) + (wrap64 (a2)))) + 1))), .int .i64 (Int.tmod (wrap64 (a4)) (wrap64 ((wrap64 ((wrap64 (a1)) * (wrap64 (a2)))) + 1)))] 26 (0, 0)) (by (with_reducible repeat (first | refine blk_drewN ?_ _ | refine blk_drew ?_ | refine blk_alloc ?_ _)); refine blk_put (cs := #[.int .i64 (wrap64 (a1)), .int .i64 (wrap64 (a2)), .int .i64 (Int.tmod (wrap64 (a3)) (wrap64 ((wrap64 ((wrap64 (a1)) + (wrap64 (a2)))) + 1))), .int .i64 0]) ?_ 3 _ rfl; (with_reducible repeat (first | refine blk_drewN ?_ _ | refine blk_drew ?_ | refine blk_alloc ?_ _)); refine blk_put (cs := #[.int .i64 (wrap64 (a1)), .int .i64 (wrap64 (a2)), .int .i64 0, .int .i64 0]) ?_ 2 _ rfl; (with_reducible repeat (first | refine blk_drewN ?_ _ | refine blk_drew ?_ | refine blk_alloc ?_ _)); refine blk_put (cs := #[.int .i64 (wrap64 (a1)), .int .i64 0, .int .i64 0, .int .i64 0]) ?_ 1 _ rfl; (with_reducible repeat (first | refine blk_drewN ?_ _ | refine blk_drew ?_ | refine blk_alloc ?_ _)); refine blk_put (cs := #[.int .i64 0, .int .i64 0, .int .i64 0, .int .i64 0]) ?_ 0 _ rfl; (with_reducible repeat (first | refine blk_drewN ?_ _ | refine blk_drew ?_ | refine blk_alloc ?_ _)); exact BK146.out)) : gb146 ≠ gb147)); have n6_ := Aside0.mk ((by rw [hg]; exact Nat.ne_of_gt (blk_lt (g := gb146) (o := .cells #[.int .i64 (wrap64 (a1)), .int .i64 (wrap64 (a2)), .int .i64 (Int.tmod (wrap64 (a3)) (wrap64 ((wrap64 ((wrap64 (a1)) + (wrap64 (a2)))) + 1))), .int .i64 (Int.tmod (wrap64 (a4)) (wrap64 ((wrap64 ((wrap64 (a1)) * (wrap64 (a2)))) + 1)))] 26 (0, 0)) (by (with_reducible repeat (first | refine blk_drewN ?_ _ | refine blk_drew ?_ | refine blk_alloc ?_ _)); refine blk_put (cs := #[.int .i64 (wrap64 (a1)), .int .i64 (wrap64 (a2)), .int .i64 (Int.tmod (wrap64 (a3)) (wrap64 ((wrap64 ((wrap64 (a1)) + (wrap64 (a2)))) + 1))), .int .i64 0]) ?_ 3 _ rfl; (with_reducible repeat (first | refine blk_drewN ?_ _ | refine blk_drew ?_ | refine blk_alloc ?_ _)); refine blk_put (cs := #[.int .i64 (wrap64 (a1)), .int .i64 (wrap64 (a2)), .int .i64 0, .int .i64 0]) ?_ 2 _ rfl; (with_reducible repeat (first | refine blk_drewN ?_ _ | refine blk_drew ?_ | refine blk_alloc ?_ _)); refine blk_put (cs := #[.int .i64 (wrap64 (a1)), .int .i64 0, .int .i64 0, .int .i64 0]) ?_ 1 _ rfl; (with_reducible repeat (first | refine blk_drewN ?_ _ | refine blk_drew ?_ | refine blk_alloc ?_ _)); refine blk_put (cs := #[.int .i64 0, .int .i64 0, .int .i64 0, .int .i64 0]) ?_ 0 _ rfl; (with_reducible repeat (first | refine blk_drewN ?_ _ | refine blk_drew ?_ | refine blk_alloc ?_ _)); exact BK146.out)) : gb147 ≠ gb146)); clear BK146; clear HB; have BK146 := n0_; have HB := n1_; have BK147 := n2_; have GW147 := n3_; have GE147 := n4_; have NB146_147 := n5_; have NB147_146 := n6_; clear n0_ n1_ n2_ n3_ n4_ n5_ n6_; clear hb hbox hg; have hnb21 := NB147_146.out; have hnc21 := NB146_147.out; have hcz22_0 : w20.cell? ⟨gb147, 0, none⟩ = some (.int .i64 0) := (blk_cell BK147.out 0).trans rfl; have hcz22_1 : w20.cell? ⟨gb147, 1, none⟩ = some (.int .i64 0) := (blk_cell BK147.out 1).trans rfl; have hcz22_2 : w20.cell? ⟨gb147, 2, none⟩ = some (.int .i64 0) := (blk_cell BK147.out 2).trans rfl; have hcz22_3 : w20.cell? ⟨gb147, 3, none⟩ = some (.int .i64 0) := (blk_cell BK147.out 3).trans rfl; have hfz22_0 := blk_frozen BK147.out 0; have hfz22_1 := blk_frozen BK147.out 1; have hfz22_2 := blk_frozen BK147.out 2; have hfz22_3 := blk_frozen BK147.out 3))
        (try simp only [Act.put, List.setIfInBounds_toArray, List.set_cons_zero, List.set_cons_succ])
        go_cut [] (fun wc => ∃ (kq : Nat) (x148000_10 : Int), Aside0 (tattinglaw27_CostMore.j0 kq (wrap64 (1 + (Int.tmod (wrap64 (a0)) 8))) (wrap64 (a1)) (wrap64 (a2)) (Int.tmod (wrap64 (a3)) (wrap64 ((wrap64 ((wrap64 (a1)) + (wrap64 (a2)))) + 1))) (Int.tmod (wrap64 (a4)) (wrap64 ((wrap64 ((wrap64 (a1)) * (wrap64 (a2)))) + 1))) x148000_10 (wrap64 ((wrap64 (a2)) + 1)) (Int.tmod (wrap64 (a3)) (wrap64 ((wrap64 ((wrap64 (a1)) + (wrap64 (a2)))) + 1))) (Int.tmod (wrap64 (a4)) (wrap64 ((wrap64 ((wrap64 (a1)) * (wrap64 (a2)))) + 1))) = some r) ∧ Aside0 (kq ≤ k) ∧ Aside0 (wc.heap[gb146]? = some (.cells #[.int .i64 (wrap64 (a1)), .int .i64 (wrap64 (a2)), .int .i64 (Int.tmod (wrap64 (a3)) (wrap64 ((wrap64 ((wrap64 (a1)) + (wrap64 (a2)))) + 1))), .int .i64 (Int.tmod (wrap64 (a4)) (wrap64 ((wrap64 ((wrap64 (a1)) * (wrap64 (a2)))) + 1)))] 26 (0, 0))) ∧ Aside0 (wc.heap[gb147]? = some (.cells #[.int .i64 x148000_10, .int .i64 (wrap64 ((wrap64 (a2)) + 1)), .int .i64 (Int.tmod (wrap64 (a3)) (wrap64 ((wrap64 ((wrap64 (a1)) + (wrap64 (a2)))) + 1))), .int .i64 (Int.tmod (wrap64 (a4)) (wrap64 ((wrap64 ((wrap64 (a1)) * (wrap64 (a2)))) + 1)))] 26 (0, 0))) ∧ Aside0 (Below w.heap.size w wc))
        case first =>
          have H := HC11.out
          clear HC11
          by_cases c23 : a5 = true
          · subst c23
            have H1 : (tattinglaw27_CostMore.j0 k (wrap64 (1 + (Int.tmod (wrap64 (a0)) 8))) (wrap64 (a1)) (wrap64 (a2)) (Int.tmod (wrap64 (a3)) (wrap64 ((wrap64 ((wrap64 (a1)) + (wrap64 (a2)))) + 1))) (Int.tmod (wrap64 (a4)) (wrap64 ((wrap64 ((wrap64 (a1)) * (wrap64 (a2)))) + 1))) (wrap64 ((wrap64 (a1)) + 1)) (wrap64 ((wrap64 (a2)) + 1)) (Int.tmod (wrap64 (a3)) (wrap64 ((wrap64 ((wrap64 (a1)) + (wrap64 (a2)))) + 1))) (Int.tmod (wrap64 (a4)) (wrap64 ((wrap64 ((wrap64 (a1)) * (wrap64 (a2)))) + 1)))) = some r := by rw [if_pos rfl] at H; exact H
            clear H
            have H := H1
            clear H1
            have H' := Aside0.mk H
            clear H
            have hnb24 := NB147_146.out
            have hnc24 := NB146_147.out
            have hcz25_0 : w20.cell? ⟨gb147, 0, none⟩ = some (.int .i64 0) := (blk_cell BK147.out 0).trans rfl
            have hcz25_1 : w20.cell? ⟨gb147, 1, none⟩ = some (.int .i64 0) := (blk_cell BK147.out 1).trans rfl
            have hcz25_2 : w20.cell? ⟨gb147, 2, none⟩ = some (.int .i64 0) := (blk_cell BK147.out 2).trans rfl
            have hcz25_3 : w20.cell? ⟨gb147, 3, none⟩ = some (.int .i64 0) := (blk_cell BK147.out 3).trans rfl
            have hfz25_0 := blk_frozen BK147.out 0
            have hfz25_1 := blk_frozen BK147.out 1
            have hfz25_2 := blk_frozen BK147.out 2
            have hfz25_3 := blk_frozen BK147.out 3
            go_wp2
            go_meet
            case rel => exact ⟨_, (wrap64 ((wrap64 (a1)) + 1)), H', ⟨by first | omega | exact Nat.le_refl _⟩, ⟨by (with_reducible repeat (first | refine blk_drewN ?_ _ | refine blk_drew ?_ | refine blk_alloc ?_ _)); refine blk_far ?_ NB146_147.out _; (with_reducible repeat (first | refine blk_drewN ?_ _ | refine blk_drew ?_ | refine blk_alloc ?_ _)); refine blk_far ?_ NB146_147.out _; (with_reducible repeat (first | refine blk_drewN ?_ _ | refine blk_drew ?_ | refine blk_alloc ?_ _)); refine blk_far ?_ NB146_147.out _; (with_reducible repeat (first | refine blk_drewN ?_ _ | refine blk_drew ?_ | refine blk_alloc ?_ _)); refine blk_far ?_ NB146_147.out _; (with_reducible repeat (first | refine blk_drewN ?_ _ | refine blk_drew ?_ | refine blk_alloc ?_ _)); refine blk_far ?_ NB146_147.out _; (with_reducible repeat (first | refine blk_drewN ?_ _ | refine blk_drew ?_ | refine blk_alloc ?_ _)); refine blk_far ?_ NB146_147.out _; (with_reducible repeat (first | refine blk_drewN ?_ _ | refine blk_drew ?_ | refine blk_alloc ?_ _)); exact BK146.out⟩, ⟨by (with_reducible repeat (first | refine blk_drewN ?_ _ | refine blk_drew ?_ | refine blk_alloc ?_ _)); refine blk_put (cs := #[.int .i64 (wrap64 (a1)), .int .i64 (wrap64 ((wrap64 (a2)) + 1)), .int .i64 (Int.tmod (wrap64 (a3)) (wrap64 ((wrap64 ((wrap64 (a1)) + (wrap64 (a2)))) + 1))), .int .i64 (Int.tmod (wrap64 (a4)) (wrap64 ((wrap64 ((wrap64 (a1)) * (wrap64 (a2)))) + 1)))]) ?_ 0 _ rfl; (with_reducible repeat (first | refine blk_drewN ?_ _ | refine blk_drew ?_ | refine blk_alloc ?_ _)); refine blk_put (cs := #[.int .i64 (wrap64 (a1)), .int .i64 (wrap64 (a2)), .int .i64 (Int.tmod (wrap64 (a3)) (wrap64 ((wrap64 ((wrap64 (a1)) + (wrap64 (a2)))) + 1))), .int .i64 (Int.tmod (wrap64 (a4)) (wrap64 ((wrap64 ((wrap64 (a1)) * (wrap64 (a2)))) + 1)))]) ?_ 1 _ rfl; (with_reducible repeat (first | refine blk_drewN ?_ _ | refine blk_drew ?_ | refine blk_alloc ?_ _)); refine blk_put (cs := #[.int .i64 (wrap64 (a1)), .int .i64 (wrap64 (a2)), .int .i64 (Int.tmod (wrap64 (a3)) (wrap64 ((wrap64 ((wrap64 (a1)) + (wrap64 (a2)))) + 1))), .int .i64 0]) ?_ 3 _ rfl; (with_reducible repeat (first | refine blk_drewN ?_ _ | refine blk_drew ?_ | refine blk_alloc ?_ _)); refine blk_put (cs := #[.int .i64 (wrap64 (a1)), .int .i64 (wrap64 (a2)), .int .i64 0, .int .i64 0]) ?_ 2 _ rfl; (with_reducible repeat (first | refine blk_drewN ?_ _ | refine blk_drew ?_ | refine blk_alloc ?_ _)); refine blk_put (cs := #[.int .i64 (wrap64 (a1)), .int .i64 0, .int .i64 0, .int .i64 0]) ?_ 1 _ rfl; (with_reducible repeat (first | refine blk_drewN ?_ _ | refine blk_drew ?_ | refine blk_alloc ?_ _)); refine blk_put (cs := #[.int .i64 0, .int .i64 0, .int .i64 0, .int .i64 0]) ?_ 0 _ rfl; (with_reducible repeat (first | refine blk_drewN ?_ _ | refine blk_drew ?_ | refine blk_alloc ?_ _)); exact BK147.out⟩, ⟨by repeat (first | (with_reducible first | exact HB.out | apply below_alloc | apply pw_below_drewN | apply below_drew1 | refine below_set ?_ GE146.out | refine below_set ?_ GE147.out) | exact HB.out)⟩⟩
          · replace c23 := Bool.eq_false_iff.mpr c23
            subst c23
            have H1 : (tattinglaw27_CostMore.j0 k (wrap64 (1 + (Int.tmod (wrap64 (a0)) 8))) (wrap64 (a1)) (wrap64 (a2)) (Int.tmod (wrap64 (a3)) (wrap64 ((wrap64 ((wrap64 (a1)) + (wrap64 (a2)))) + 1))) (Int.tmod (wrap64 (a4)) (wrap64 ((wrap64 ((wrap64 (a1)) * (wrap64 (a2)))) + 1))) (wrap64 (a1)) (wrap64 ((wrap64 (a2)) + 1)) (Int.tmod (wrap64 (a3)) (wrap64 ((wrap64 ((wrap64 (a1)) + (wrap64 (a2)))) + 1))) (Int.tmod (wrap64 (a4)) (wrap64 ((wrap64 ((wrap64 (a1)) * (wrap64 (a2)))) + 1)))) = some r := by rw [if_neg (show ¬ (false = true) by decide)] at H; exact H
            clear H
            have H := H1
            clear H1
            have H' := Aside0.mk H
            clear H
            go_wp2
            go_meet
            case rel => exact ⟨_, (wrap64 (a1)), H', ⟨by first | omega | exact Nat.le_refl _⟩, ⟨by (with_reducible repeat (first | refine blk_drewN ?_ _ | refine blk_drew ?_ | refine blk_alloc ?_ _)); refine blk_far ?_ NB146_147.out _; (with_reducible repeat (first | refine blk_drewN ?_ _ | refine blk_drew ?_ | refine blk_alloc ?_ _)); refine blk_far ?_ NB146_147.out _; (with_reducible repeat (first | refine blk_drewN ?_ _ | refine blk_drew ?_ | refine blk_alloc ?_ _)); refine blk_far ?_ NB146_147.out _; (with_reducible repeat (first | refine blk_drewN ?_ _ | refine blk_drew ?_ | refine blk_alloc ?_ _)); refine blk_far ?_ NB146_147.out _; (with_reducible repeat (first | refine blk_drewN ?_ _ | refine blk_drew ?_ | refine blk_alloc ?_ _)); refine blk_far ?_ NB146_147.out _; (with_reducible repeat (first | refine blk_drewN ?_ _ | refine blk_drew ?_ | refine blk_alloc ?_ _)); exact BK146.out⟩, ⟨by (with_reducible repeat (first | refine blk_drewN ?_ _ | refine blk_drew ?_ | refine blk_alloc ?_ _)); refine blk_put (cs := #[.int .i64 (wrap64 (a1)), .int .i64 (wrap64 (a2)), .int .i64 (Int.tmod (wrap64 (a3)) (wrap64 ((wrap64 ((wrap64 (a1)) + (wrap64 (a2)))) + 1))), .int .i64 (Int.tmod (wrap64 (a4)) (wrap64 ((wrap64 ((wrap64 (a1)) * (wrap64 (a2)))) + 1)))]) ?_ 1 _ rfl; (with_reducible repeat (first | refine blk_drewN ?_ _ | refine blk_drew ?_ | refine blk_alloc ?_ _)); refine blk_put (cs := #[.int .i64 (wrap64 (a1)), .int .i64 (wrap64 (a2)), .int .i64 (Int.tmod (wrap64 (a3)) (wrap64 ((wrap64 ((wrap64 (a1)) + (wrap64 (a2)))) + 1))), .int .i64 0]) ?_ 3 _ rfl; (with_reducible repeat (first | refine blk_drewN ?_ _ | refine blk_drew ?_ | refine blk_alloc ?_ _)); refine blk_put (cs := #[.int .i64 (wrap64 (a1)), .int .i64 (wrap64 (a2)), .int .i64 0, .int .i64 0]) ?_ 2 _ rfl; (with_reducible repeat (first | refine blk_drewN ?_ _ | refine blk_drew ?_ | refine blk_alloc ?_ _)); refine blk_put (cs := #[.int .i64 (wrap64 (a1)), .int .i64 0, .int .i64 0, .int .i64 0]) ?_ 1 _ rfl; (with_reducible repeat (first | refine blk_drewN ?_ _ | refine blk_drew ?_ | refine blk_alloc ?_ _)); refine blk_put (cs := #[.int .i64 0, .int .i64 0, .int .i64 0, .int .i64 0]) ?_ 0 _ rfl; (with_reducible repeat (first | refine blk_drewN ?_ _ | refine blk_drew ?_ | refine blk_alloc ?_ _)); exact BK147.out⟩, ⟨by repeat (first | (with_reducible first | exact HB.out | apply below_alloc | apply pw_below_drewN | apply below_drew1 | refine below_set ?_ GE146.out | refine below_set ?_ GE147.out) | exact HB.out)⟩⟩
        case rest =>
          clear HC11
          try clear c1
          try clear c2
          try clear p2
          try clear c6
          try clear p6
          try clear c8
          try clear c9
          try clear c9b0
          try clear c9b1
          try clear c10
          try clear c10b0
          try clear c10b1
          try clear c21
          try clear c23
          try clear c24
          try clear hcz19_0
          try clear hcz19_1
          try clear hcz19_2
          try clear hcz19_3
          try clear hcz22_0
          try clear hcz22_1
          try clear hcz22_2
          try clear hcz22_3
          try clear hcz25_0
          try clear hcz25_1
          try clear hcz25_2
          try clear hcz25_3
          try clear hfz19_0
          try clear hfz19_1
          try clear hfz19_2
          try clear hfz19_3
          try clear hfz22_0
          try clear hfz22_1
          try clear hfz22_2
          try clear hfz22_3
          try clear hfz25_0
          try clear hfz25_1
          try clear hfz25_2
          try clear hfz25_3
          obtain ⟨kq, x148000_10, HA, HJ10, BK146, BK147, HB⟩ := hcut
          cases kq with
          | zero => exact absurd HA.out (by simp [tattinglaw27_CostMore.j0])
          | succ kj10 =>
            have H := HA.out
            clear HA
            simp only [tattinglaw27_CostMore.j0] at H
            replace H := Option.bind_eq_some_iff.mp H
            obtain ⟨⟨t148, t149⟩, A260, H⟩ := H
            replace H : ((cost_Room.f (wrap64 (1 + (Int.tmod (wrap64 (a0)) 8))) x148000_10 (wrap64 ((wrap64 (a2)) + 1)) (Int.tmod (wrap64 (a3)) (wrap64 ((wrap64 ((wrap64 (a1)) + (wrap64 (a2)))) + 1))) (Int.tmod (wrap64 (a4)) (wrap64 ((wrap64 ((wrap64 (a1)) * (wrap64 (a2)))) + 1)))).bind fun bt150 => (if t149 = 0 then (if bt150.2 = 0 then (if bt150.1 ≥ t148 then ((cost_Fits.f (wrap64 (1 + (Int.tmod (wrap64 (a0)) 8))) (wrap64 (a1)) (wrap64 (a2)) (Int.tmod (wrap64 (a3)) (wrap64 ((wrap64 ((wrap64 (a1)) + (wrap64 (a2)))) + 1))) (Int.tmod (wrap64 (a4)) (wrap64 ((wrap64 ((wrap64 (a1)) * (wrap64 (a2)))) + 1))) t148).bind fun t152 => (if t152 = 0 then ((cost_Fits.f (wrap64 (1 + (Int.tmod (wrap64 (a0)) 8))) (wrap64 (a1)) (wrap64 (a2)) (Int.tmod (wrap64 (a3)) (wrap64 ((wrap64 ((wrap64 (a1)) + (wrap64 (a2)))) + 1))) (Int.tmod (wrap64 (a4)) (wrap64 ((wrap64 ((wrap64 (a1)) * (wrap64 (a2)))) + 1))) (wrap64 (t148 - 1))).bind fun t153 => (if t153 = 2 then ((cost_Fits.f (wrap64 (1 + (Int.tmod (wrap64 (a0)) 8))) x148000_10 (wrap64 ((wrap64 (a2)) + 1)) (Int.tmod (wrap64 (a3)) (wrap64 ((wrap64 ((wrap64 (a1)) + (wrap64 (a2)))) + 1))) (Int.tmod (wrap64 (a4)) (wrap64 ((wrap64 ((wrap64 (a1)) * (wrap64 (a2)))) + 1))) (wrap64 (t148 - 1))).bind fun t154 => (some (t154 == 2))) else (some false))) else (some false))) else (some false)) else (some false)) else (some false))) = some r := H
            have A26 := Aside0.mk A260
            clear A260
            replace H := Option.bind_eq_some_iff.mp H
            obtain ⟨⟨t150, t151⟩, A270, H⟩ := H
            replace H : (if t149 = 0 then (if t151 = 0 then (if t150 ≥ t148 then ((cost_Fits.f (wrap64 (1 + (Int.tmod (wrap64 (a0)) 8))) (wrap64 (a1)) (wrap64 (a2)) (Int.tmod (wrap64 (a3)) (wrap64 ((wrap64 ((wrap64 (a1)) + (wrap64 (a2)))) + 1))) (Int.tmod (wrap64 (a4)) (wrap64 ((wrap64 ((wrap64 (a1)) * (wrap64 (a2)))) + 1))) t148).bind fun t152 => (if t152 = 0 then ((cost_Fits.f (wrap64 (1 + (Int.tmod (wrap64 (a0)) 8))) (wrap64 (a1)) (wrap64 (a2)) (Int.tmod (wrap64 (a3)) (wrap64 ((wrap64 ((wrap64 (a1)) + (wrap64 (a2)))) + 1))) (Int.tmod (wrap64 (a4)) (wrap64 ((wrap64 ((wrap64 (a1)) * (wrap64 (a2)))) + 1))) (wrap64 (t148 - 1))).bind fun t153 => (if t153 = 2 then ((cost_Fits.f (wrap64 (1 + (Int.tmod (wrap64 (a0)) 8))) x148000_10 (wrap64 ((wrap64 (a2)) + 1)) (Int.tmod (wrap64 (a3)) (wrap64 ((wrap64 ((wrap64 (a1)) + (wrap64 (a2)))) + 1))) (Int.tmod (wrap64 (a4)) (wrap64 ((wrap64 ((wrap64 (a1)) * (wrap64 (a2)))) + 1))) (wrap64 (t148 - 1))).bind fun t154 => (some (t154 == 2))) else (some false))) else (some false))) else (some false)) else (some false)) else (some false)) = some r := H
            have A27 := Aside0.mk A270
            clear A270
            by_cases c28 : t149 = 0
            · rw [if_pos c28] at H
              have c28b0 : (t149 == 0) = true := beq_iff_eq.mpr c28
              have c28b1 : (t149 != 0) = false := bne_eq_false_iff_eq.mpr c28
              clear c28
              by_cases c29 : t151 = 0
              · rw [if_pos c29] at H
                have c29b0 : (t151 == 0) = true := beq_iff_eq.mpr c29
                have c29b1 : (t151 != 0) = false := bne_eq_false_iff_eq.mpr c29
                clear c29
                by_cases c30 : t150 ≥ t148
                · rw [if_pos c30] at H
                  have c30b0 : decide (t148 ≤ t150) = true := decide_eq_true c30
                  clear c30
                  replace H := Option.bind_eq_some_iff.mp H
                  obtain ⟨t152, A310, H⟩ := H
                  replace H : (if t152 = 0 then ((cost_Fits.f (wrap64 (1 + (Int.tmod (wrap64 (a0)) 8))) (wrap64 (a1)) (wrap64 (a2)) (Int.tmod (wrap64 (a3)) (wrap64 ((wrap64 ((wrap64 (a1)) + (wrap64 (a2)))) + 1))) (Int.tmod (wrap64 (a4)) (wrap64 ((wrap64 ((wrap64 (a1)) * (wrap64 (a2)))) + 1))) (wrap64 (t148 - 1))).bind fun t153 => (if t153 = 2 then ((cost_Fits.f (wrap64 (1 + (Int.tmod (wrap64 (a0)) 8))) x148000_10 (wrap64 ((wrap64 (a2)) + 1)) (Int.tmod (wrap64 (a3)) (wrap64 ((wrap64 ((wrap64 (a1)) + (wrap64 (a2)))) + 1))) (Int.tmod (wrap64 (a4)) (wrap64 ((wrap64 ((wrap64 (a1)) * (wrap64 (a2)))) + 1))) (wrap64 (t148 - 1))).bind fun t154 => (some (t154 == 2))) else (some false))) else (some false)) = some r := H
                  have A31 := Aside0.mk A310
                  clear A310
                  by_cases c32 : t152 = 0
                  · rw [if_pos c32] at H
                    have c32b0 : (t152 == 0) = true := beq_iff_eq.mpr c32
                    have c32b1 : (t152 != 0) = false := bne_eq_false_iff_eq.mpr c32
                    clear c32
                    replace H := Option.bind_eq_some_iff.mp H
                    obtain ⟨t153, A330, H⟩ := H
                    replace H : (if t153 = 2 then ((cost_Fits.f (wrap64 (1 + (Int.tmod (wrap64 (a0)) 8))) x148000_10 (wrap64 ((wrap64 (a2)) + 1)) (Int.tmod (wrap64 (a3)) (wrap64 ((wrap64 ((wrap64 (a1)) + (wrap64 (a2)))) + 1))) (Int.tmod (wrap64 (a4)) (wrap64 ((wrap64 ((wrap64 (a1)) * (wrap64 (a2)))) + 1))) (wrap64 (t148 - 1))).bind fun t154 => (some (t154 == 2))) else (some false)) = some r := H
                    have A33 := Aside0.mk A330
                    clear A330
                    by_cases c34 : t153 = 2
                    · rw [if_pos c34] at H
                      have c34b0 : (t153 == 2) = true := beq_iff_eq.mpr c34
                      have c34b1 : (t153 != 2) = false := bne_eq_false_iff_eq.mpr c34
                      clear c34
                      replace H := Option.bind_eq_some_iff.mp H
                      obtain ⟨t154, A350, H⟩ := H
                      replace H : (some (t154 == 2)) = some r := H
                      have A35 := Aside0.mk A350
                      clear A350
                      obtain rfl := Option.some.inj H
                      have hnb36 := NB146_147.out
                      have hnc36 := NB147_146.out
                      have hcz37_0 : wc.cell? ⟨gb146, 0, none⟩ = some (.int .i64 (wrap64 (a1))) := (blk_cell BK146.out 0).trans rfl
                      have hcz37_1 : wc.cell? ⟨gb146, 1, none⟩ = some (.int .i64 (wrap64 (a2))) := (blk_cell BK146.out 1).trans rfl
                      have hcz37_2 : wc.cell? ⟨gb146, 2, none⟩ = some (.int .i64 (Int.tmod (wrap64 (a3)) (wrap64 ((wrap64 ((wrap64 (a1)) + (wrap64 (a2)))) + 1)))) := (blk_cell BK146.out 2).trans rfl
                      have hcz37_3 : wc.cell? ⟨gb146, 3, none⟩ = some (.int .i64 (Int.tmod (wrap64 (a4)) (wrap64 ((wrap64 ((wrap64 (a1)) * (wrap64 (a2)))) + 1)))) := (blk_cell BK146.out 3).trans rfl
                      have hfz37_0 := blk_frozen BK146.out 0
                      have hfz37_1 := blk_frozen BK146.out 1
                      have hfz37_2 := blk_frozen BK146.out 2
                      have hfz37_3 := blk_frozen BK146.out 3
                      go_wp2_with (first | ((with_reducible refine gate_callee (f := 14) rfl ?_); refine goesL_ (some 62) rfl rfl Try.func14 (by kernel_rfl) rfl #[.int .i64 (wrap64 (1 + (Int.tmod (wrap64 (a0)) 8))), .agg #[.int .i64 (wrap64 (a1)), .int .i64 (wrap64 (a2)), .int .i64 (Int.tmod (wrap64 (a3)) (wrap64 ((wrap64 ((wrap64 (a1)) + (wrap64 (a2)))) + 1))), .int .i64 (Int.tmod (wrap64 (a4)) (wrap64 ((wrap64 ((wrap64 (a1)) * (wrap64 (a2)))) + 1)))]] rfl (by (try simp only [List.map_toArray, List.map_cons, List.map_nil]); first | done | rfl | (simp only [List.length_drop, List.length_take]; rfl)) ?_; (with_reducible refine (cost_Room.calls (wrap64 (1 + (Int.tmod (wrap64 (a0)) 8))) (wrap64 (a1)) (wrap64 (a2)) (Int.tmod (wrap64 (a3)) (wrap64 ((wrap64 ((wrap64 (a1)) + (wrap64 (a2)))) + 1))) (Int.tmod (wrap64 (a4)) (wrap64 ((wrap64 ((wrap64 (a1)) * (wrap64 (a2)))) + 1))) t148 t149 _ A26.out).mono ?_); rintro e w38 ⟨rfl, hb⟩; refine ⟨_, rfl, ?_⟩; have n0_ := Aside0.mk (blk_below (g := gb146) (o := .cells #[.int .i64 (wrap64 (a1)), .int .i64 (wrap64 (a2)), .int .i64 (Int.tmod (wrap64 (a3)) (wrap64 ((wrap64 ((wrap64 (a1)) + (wrap64 (a2)))) + 1))), .int .i64 (Int.tmod (wrap64 (a4)) (wrap64 ((wrap64 ((wrap64 (a1)) * (wrap64 (a2)))) + 1)))] 26 (0, 0)) (by (with_reducible repeat (first | refine blk_drewN ?_ _ | refine blk_drew ?_ | refine blk_alloc ?_ _)); exact BK146.out) hb); have n1_ := Aside0.mk (blk_below (g := gb147) (o := .cells #[.int .i64 x148000_10, .int .i64 (wrap64 ((wrap64 (a2)) + 1)), .int .i64 (Int.tmod (wrap64 (a3)) (wrap64 ((wrap64 ((wrap64 (a1)) + (wrap64 (a2)))) + 1))), .int .i64 (Int.tmod (wrap64 (a4)) (wrap64 ((wrap64 ((wrap64 (a1)) * (wrap64 (a2)))) + 1)))] 26 (0, 0)) (by (with_reducible repeat (first | refine blk_drewN ?_ _ | refine blk_drew ?_ | refine blk_alloc ?_ _)); exact BK147.out) hb); have n2_ := Aside0.mk (below_step (by repeat (first | (with_reducible first | exact HB.out | apply below_alloc | apply pw_below_drewN | apply below_drew1 | refine below_set ?_ GE146.out | refine below_set ?_ GE147.out) | exact HB.out)) hb); clear BK146; clear BK147; clear HB; have BK146 := n0_; have BK147 := n1_; have HB := n2_; clear n0_ n1_ n2_; (try clear hb); (try clear hb2); (try clear hk); (try clear hi); have hcz39_0 : w38.cell? ⟨gb147, 0, none⟩ = some (.int .i64 x148000_10) := (blk_cell BK147.out 0).trans rfl; have hcz39_1 : w38.cell? ⟨gb147, 1, none⟩ = some (.int .i64 (wrap64 ((wrap64 (a2)) + 1))) := (blk_cell BK147.out 1).trans rfl; have hcz39_2 : w38.cell? ⟨gb147, 2, none⟩ = some (.int .i64 (Int.tmod (wrap64 (a3)) (wrap64 ((wrap64 ((wrap64 (a1)) + (wrap64 (a2)))) + 1)))) := (blk_cell BK147.out 2).trans rfl; have hcz39_3 : w38.cell? ⟨gb147, 3, none⟩ = some (.int .i64 (Int.tmod (wrap64 (a4)) (wrap64 ((wrap64 ((wrap64 (a1)) * (wrap64 (a2)))) + 1)))) := (blk_cell BK147.out 3).trans rfl; have hfz39_0 := blk_frozen BK147.out 0; have hfz39_1 := blk_frozen BK147.out 1; have hfz39_2 := blk_frozen BK147.out 2; have hfz39_3 := blk_frozen BK147.out 3) | ((with_reducible refine gate_callee (f := 14) rfl ?_); refine goesL_ (some 68) rfl rfl Try.func14 (by kernel_rfl) rfl #[.int .i64 (wrap64 (1 + (Int.tmod (wrap64 (a0)) 8))), .agg #[.int .i64 x148000_10, .int .i64 (wrap64 ((wrap64 (a2)) + 1)), .int .i64 (Int.tmod (wrap64 (a3)) (wrap64 ((wrap64 ((wrap64 (a1)) + (wrap64 (a2)))) + 1))), .int .i64 (Int.tmod (wrap64 (a4)) (wrap64 ((wrap64 ((wrap64 (a1)) * (wrap64 (a2)))) + 1)))]] rfl (by (try simp only [List.map_toArray, List.map_cons, List.map_nil]); first | done | rfl | (simp only [List.length_drop, List.length_take]; rfl)) ?_; (with_reducible refine (cost_Room.calls (wrap64 (1 + (Int.tmod (wrap64 (a0)) 8))) x148000_10 (wrap64 ((wrap64 (a2)) + 1)) (Int.tmod (wrap64 (a3)) (wrap64 ((wrap64 ((wrap64 (a1)) + (wrap64 (a2)))) + 1))) (Int.tmod (wrap64 (a4)) (wrap64 ((wrap64 ((wrap64 (a1)) * (wrap64 (a2)))) + 1))) t150 t151 _ A27.out).mono ?_); rintro e w40 ⟨rfl, hb⟩; refine ⟨_, rfl, ?_⟩; have n0_ := Aside0.mk (blk_below (g := gb146) (o := .cells #[.int .i64 (wrap64 (a1)), .int .i64 (wrap64 (a2)), .int .i64 (Int.tmod (wrap64 (a3)) (wrap64 ((wrap64 ((wrap64 (a1)) + (wrap64 (a2)))) + 1))), .int .i64 (Int.tmod (wrap64 (a4)) (wrap64 ((wrap64 ((wrap64 (a1)) * (wrap64 (a2)))) + 1)))] 26 (0, 0)) (by (with_reducible repeat (first | refine blk_drewN ?_ _ | refine blk_drew ?_ | refine blk_alloc ?_ _)); exact BK146.out) hb); have n1_ := Aside0.mk (blk_below (g := gb147) (o := .cells #[.int .i64 x148000_10, .int .i64 (wrap64 ((wrap64 (a2)) + 1)), .int .i64 (Int.tmod (wrap64 (a3)) (wrap64 ((wrap64 ((wrap64 (a1)) + (wrap64 (a2)))) + 1))), .int .i64 (Int.tmod (wrap64 (a4)) (wrap64 ((wrap64 ((wrap64 (a1)) * (wrap64 (a2)))) + 1)))] 26 (0, 0)) (by (with_reducible repeat (first | refine blk_drewN ?_ _ | refine blk_drew ?_ | refine blk_alloc ?_ _)); exact BK147.out) hb); have n2_ := Aside0.mk (below_step (by repeat (first | (with_reducible first | exact HB.out | apply below_alloc | apply pw_below_drewN | apply below_drew1 | refine below_set ?_ GE146.out | refine below_set ?_ GE147.out) | exact HB.out)) hb); clear BK146; clear BK147; clear HB; have BK146 := n0_; have BK147 := n1_; have HB := n2_; clear n0_ n1_ n2_; (try clear hb); (try clear hb2); (try clear hk); (try clear hi); have hcz41_0 : w40.cell? ⟨gb146, 0, none⟩ = some (.int .i64 (wrap64 (a1))) := (blk_cell BK146.out 0).trans rfl; have hcz41_1 : w40.cell? ⟨gb146, 1, none⟩ = some (.int .i64 (wrap64 (a2))) := (blk_cell BK146.out 1).trans rfl; have hcz41_2 : w40.cell? ⟨gb146, 2, none⟩ = some (.int .i64 (Int.tmod (wrap64 (a3)) (wrap64 ((wrap64 ((wrap64 (a1)) + (wrap64 (a2)))) + 1)))) := (blk_cell BK146.out 2).trans rfl; have hcz41_3 : w40.cell? ⟨gb146, 3, none⟩ = some (.int .i64 (Int.tmod (wrap64 (a4)) (wrap64 ((wrap64 ((wrap64 (a1)) * (wrap64 (a2)))) + 1)))) := (blk_cell BK146.out 3).trans rfl; have hfz41_0 := blk_frozen BK146.out 0; have hfz41_1 := blk_frozen BK146.out 1; have hfz41_2 := blk_frozen BK146.out 2; have hfz41_3 := blk_frozen BK146.out 3) | (go_at_call 21; (with_reducible refine (cost_Fits.calls (wrap64 (1 + (Int.tmod (wrap64 (a0)) 8))) (wrap64 (a1)) (wrap64 (a2)) (Int.tmod (wrap64 (a3)) (wrap64 ((wrap64 ((wrap64 (a1)) + (wrap64 (a2)))) + 1))) (Int.tmod (wrap64 (a4)) (wrap64 ((wrap64 ((wrap64 (a1)) * (wrap64 (a2)))) + 1))) t148 t152 _ A31.out).mono ?_); rintro e w42 ⟨rfl, hb⟩; have n0_ := Aside0.mk (blk_below (g := gb146) (o := .cells #[.int .i64 (wrap64 (a1)), .int .i64 (wrap64 (a2)), .int .i64 (Int.tmod (wrap64 (a3)) (wrap64 ((wrap64 ((wrap64 (a1)) + (wrap64 (a2)))) + 1))), .int .i64 (Int.tmod (wrap64 (a4)) (wrap64 ((wrap64 ((wrap64 (a1)) * (wrap64 (a2)))) + 1)))] 26 (0, 0)) (by (with_reducible repeat (first | refine blk_drewN ?_ _ | refine blk_drew ?_ | refine blk_alloc ?_ _)); exact BK146.out) hb); have n1_ := Aside0.mk (blk_below (g := gb147) (o := .cells #[.int .i64 x148000_10, .int .i64 (wrap64 ((wrap64 (a2)) + 1)), .int .i64 (Int.tmod (wrap64 (a3)) (wrap64 ((wrap64 ((wrap64 (a1)) + (wrap64 (a2)))) + 1))), .int .i64 (Int.tmod (wrap64 (a4)) (wrap64 ((wrap64 ((wrap64 (a1)) * (wrap64 (a2)))) + 1)))] 26 (0, 0)) (by (with_reducible repeat (first | refine blk_drewN ?_ _ | refine blk_drew ?_ | refine blk_alloc ?_ _)); exact BK147.out) hb); have n2_ := Aside0.mk (below_step (by repeat (first | (with_reducible first | exact HB.out | apply below_alloc | apply pw_below_drewN | apply below_drew1 | refine below_set ?_ GE146.out | refine below_set ?_ GE147.out) | exact HB.out)) hb); clear BK146; clear BK147; clear HB; have BK146 := n0_; have BK147 := n1_; have HB := n2_; clear n0_ n1_ n2_; (try clear hb); (try clear hb2); (try clear hk); (try clear hi); have hcz43_0 : w42.cell? ⟨gb146, 0, none⟩ = some (.int .i64 (wrap64 (a1))) := (blk_cell BK146.out 0).trans rfl; have hcz43_1 : w42.cell? ⟨gb146, 1, none⟩ = some (.int .i64 (wrap64 (a2))) := (blk_cell BK146.out 1).trans rfl; have hcz43_2 : w42.cell? ⟨gb146, 2, none⟩ = some (.int .i64 (Int.tmod (wrap64 (a3)) (wrap64 ((wrap64 ((wrap64 (a1)) + (wrap64 (a2)))) + 1)))) := (blk_cell BK146.out 2).trans rfl; have hcz43_3 : w42.cell? ⟨gb146, 3, none⟩ = some (.int .i64 (Int.tmod (wrap64 (a4)) (wrap64 ((wrap64 ((wrap64 (a1)) * (wrap64 (a2)))) + 1)))) := (blk_cell BK146.out 3).trans rfl; have hfz43_0 := blk_frozen BK146.out 0; have hfz43_1 := blk_frozen BK146.out 1; have hfz43_2 := blk_frozen BK146.out 2; have hfz43_3 := blk_frozen BK146.out 3) | (go_at_call 21; (with_reducible refine (cost_Fits.calls (wrap64 (1 + (Int.tmod (wrap64 (a0)) 8))) (wrap64 (a1)) (wrap64 (a2)) (Int.tmod (wrap64 (a3)) (wrap64 ((wrap64 ((wrap64 (a1)) + (wrap64 (a2)))) + 1))) (Int.tmod (wrap64 (a4)) (wrap64 ((wrap64 ((wrap64 (a1)) * (wrap64 (a2)))) + 1))) (wrap64 (t148 - 1)) t153 _ A33.out).mono ?_); rintro e w44 ⟨rfl, hb⟩; have n0_ := Aside0.mk (blk_below (g := gb146) (o := .cells #[.int .i64 (wrap64 (a1)), .int .i64 (wrap64 (a2)), .int .i64 (Int.tmod (wrap64 (a3)) (wrap64 ((wrap64 ((wrap64 (a1)) + (wrap64 (a2)))) + 1))), .int .i64 (Int.tmod (wrap64 (a4)) (wrap64 ((wrap64 ((wrap64 (a1)) * (wrap64 (a2)))) + 1)))] 26 (0, 0)) (by (with_reducible repeat (first | refine blk_drewN ?_ _ | refine blk_drew ?_ | refine blk_alloc ?_ _)); exact BK146.out) hb); have n1_ := Aside0.mk (blk_below (g := gb147) (o := .cells #[.int .i64 x148000_10, .int .i64 (wrap64 ((wrap64 (a2)) + 1)), .int .i64 (Int.tmod (wrap64 (a3)) (wrap64 ((wrap64 ((wrap64 (a1)) + (wrap64 (a2)))) + 1))), .int .i64 (Int.tmod (wrap64 (a4)) (wrap64 ((wrap64 ((wrap64 (a1)) * (wrap64 (a2)))) + 1)))] 26 (0, 0)) (by (with_reducible repeat (first | refine blk_drewN ?_ _ | refine blk_drew ?_ | refine blk_alloc ?_ _)); exact BK147.out) hb); have n2_ := Aside0.mk (below_step (by repeat (first | (with_reducible first | exact HB.out | apply below_alloc | apply pw_below_drewN | apply below_drew1 | refine below_set ?_ GE146.out | refine below_set ?_ GE147.out) | exact HB.out)) hb); clear BK146; clear BK147; clear HB; have BK146 := n0_; have BK147 := n1_; have HB := n2_; clear n0_ n1_ n2_; (try clear hb); (try clear hb2); (try clear hk); (try clear hi); have hcz45_0 : w44.cell? ⟨gb147, 0, none⟩ = some (.int .i64 x148000_10) := (blk_cell BK147.out 0).trans rfl; have hcz45_1 : w44.cell? ⟨gb147, 1, none⟩ = some (.int .i64 (wrap64 ((wrap64 (a2)) + 1))) := (blk_cell BK147.out 1).trans rfl; have hcz45_2 : w44.cell? ⟨gb147, 2, none⟩ = some (.int .i64 (Int.tmod (wrap64 (a3)) (wrap64 ((wrap64 ((wrap64 (a1)) + (wrap64 (a2)))) + 1)))) := (blk_cell BK147.out 2).trans rfl; have hcz45_3 : w44.cell? ⟨gb147, 3, none⟩ = some (.int .i64 (Int.tmod (wrap64 (a4)) (wrap64 ((wrap64 ((wrap64 (a1)) * (wrap64 (a2)))) + 1)))) := (blk_cell BK147.out 3).trans rfl; have hfz45_0 := blk_frozen BK147.out 0; have hfz45_1 := blk_frozen BK147.out 1; have hfz45_2 := blk_frozen BK147.out 2; have hfz45_3 := blk_frozen BK147.out 3) | (go_at_call 21; (with_reducible refine (cost_Fits.calls (wrap64 (1 + (Int.tmod (wrap64 (a0)) 8))) x148000_10 (wrap64 ((wrap64 (a2)) + 1)) (Int.tmod (wrap64 (a3)) (wrap64 ((wrap64 ((wrap64 (a1)) + (wrap64 (a2)))) + 1))) (Int.tmod (wrap64 (a4)) (wrap64 ((wrap64 ((wrap64 (a1)) * (wrap64 (a2)))) + 1))) (wrap64 (t148 - 1)) t154 _ A35.out).mono ?_); rintro e w46 ⟨rfl, hb⟩; have n0_ := Aside0.mk (blk_below (g := gb146) (o := .cells #[.int .i64 (wrap64 (a1)), .int .i64 (wrap64 (a2)), .int .i64 (Int.tmod (wrap64 (a3)) (wrap64 ((wrap64 ((wrap64 (a1)) + (wrap64 (a2)))) + 1))), .int .i64 (Int.tmod (wrap64 (a4)) (wrap64 ((wrap64 ((wrap64 (a1)) * (wrap64 (a2)))) + 1)))] 26 (0, 0)) (by (with_reducible repeat (first | refine blk_drewN ?_ _ | refine blk_drew ?_ | refine blk_alloc ?_ _)); exact BK146.out) hb); have n1_ := Aside0.mk (blk_below (g := gb147) (o := .cells #[.int .i64 x148000_10, .int .i64 (wrap64 ((wrap64 (a2)) + 1)), .int .i64 (Int.tmod (wrap64 (a3)) (wrap64 ((wrap64 ((wrap64 (a1)) + (wrap64 (a2)))) + 1))), .int .i64 (Int.tmod (wrap64 (a4)) (wrap64 ((wrap64 ((wrap64 (a1)) * (wrap64 (a2)))) + 1)))] 26 (0, 0)) (by (with_reducible repeat (first | refine blk_drewN ?_ _ | refine blk_drew ?_ | refine blk_alloc ?_ _)); exact BK147.out) hb); have n2_ := Aside0.mk (below_step (by repeat (first | (with_reducible first | exact HB.out | apply below_alloc | apply pw_below_drewN | apply below_drew1 | refine below_set ?_ GE146.out | refine below_set ?_ GE147.out) | exact HB.out)) hb); clear BK146; clear BK147; clear HB; have BK146 := n0_; have BK147 := n1_; have HB := n2_; clear n0_ n1_ n2_; (try clear hb); (try clear hb2); (try clear hk); (try clear hi)))
                      go_ret
                      exact ⟨by first | rfl | (simp [errW_none, errW_some] <;> rfl) | (simp [*, errW_none, errW_some] <;> rfl), by repeat (first | (with_reducible first | exact HB.out | apply below_alloc | apply pw_below_drewN | apply below_drew1 | refine below_set ?_ GE146.out | refine below_set ?_ GE147.out) | exact HB.out)⟩
                    · rw [if_neg c34] at H
                      have c34b0 : (t153 == 2) = false := beq_eq_false_iff_ne.mpr c34
                      have c34b1 : (t153 != 2) = true := bne_iff_ne.mpr c34
                      exact absurd (Option.some.inj H) (by rw [HRT.out]; decide)
                  · rw [if_neg c32] at H
                    have c32b0 : (t152 == 0) = false := beq_eq_false_iff_ne.mpr c32
                    have c32b1 : (t152 != 0) = true := bne_iff_ne.mpr c32
                    exact absurd (Option.some.inj H) (by rw [HRT.out]; decide)
                · rw [if_neg c30] at H
                  have c30b0 : decide (t148 ≤ t150) = false := decide_eq_false c30
                  clear c30
                  exact absurd (Option.some.inj H) (by rw [HRT.out]; decide)
              · rw [if_neg c29] at H
                have c29b0 : (t151 == 0) = false := beq_eq_false_iff_ne.mpr c29
                have c29b1 : (t151 != 0) = true := bne_iff_ne.mpr c29
                exact absurd (Option.some.inj H) (by rw [HRT.out]; decide)
            · rw [if_neg c28] at H
              have c28b0 : (t149 == 0) = false := beq_eq_false_iff_ne.mpr c28
              have c28b1 : (t149 != 0) = true := bne_iff_ne.mpr c28
              exact absurd (Option.some.inj H) (by rw [HRT.out]; decide)
  · replace c8 := Bool.eq_false_iff.mpr c8
    subst c8
    have H1 : (some false) = some r := by rw [if_neg (show ¬ (false = true) by decide)] at H; exact H
    clear H
    have H := H1
    clear H1
    exact absurd (Option.some.inj H) (by rw [HRT.out]; decide)

/-- THE ONE PURE STATEMENT of tattinglaw27_CostMore: yours. -/
def tattinglaw27_CostMore.Pure : Prop := ∀ (a0 : Int) (a1 : Int) (a2 : Int) (a3 : Int) (a4 : Int) (a5 : Bool), (Lit.int .u8 a0).wf = true → (Lit.int .u16 a1).wf = true → (Lit.int .u16 a2).wf = true → (Lit.int .u16 a3).wf = true → (Lit.int .u32 a4).wf = true → ∃ k, tattinglaw27_CostMore.f k a0 a1 a2 a3 a4 a5 = some true
theorem tattinglaw27_CostMore.walk (P : tattinglaw27_CostMore.Pure) (a0 : Int) (a1 : Int) (a2 : Int) (a3 : Int) (a4 : Int) (a5 : Bool) (w : World) (w0 : (Lit.int .u8 a0).wf = true) (w1 : (Lit.int .u16 a1).wf = true) (w2 : (Lit.int .u16 a2).wf = true) (w3 : (Lit.int .u16 a3).wf = true) (w4 : (Lit.int .u32 a4).wf = true) :
    Calls Try.prog 6 #[.int .u8 a0, .int .u16 a1, .int .u16 a2, .int .u16 a3, .int .u32 a4, .bool a5] w fun e w' => e = .returned (.bool true) ∧ Below w.heap.size w w' := by
  obtain ⟨k, h⟩ := P a0 a1 a2 a3 a4 a5 w0 w1 w2 w3 w4
  refine (tattinglaw27_CostMore.calls k a0 a1 a2 a3 a4 a5 true w h ⟨rfl⟩).mono ?_
  rintro e w' ⟨rfl, hd⟩
  exact ⟨rfl, hd⟩

end Go.Proofs.Ytkcodmdfjpndiaa.PCostMore
