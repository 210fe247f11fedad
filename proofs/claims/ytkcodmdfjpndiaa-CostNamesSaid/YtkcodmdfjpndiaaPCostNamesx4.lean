-- Laid by wip/myprint.py: the kit's print, with contracts typed by hand for what it does not take.
import Derived.Test.YtkcodmdfjpndiaaPCostNamesx0
import Derived.Test.YtkcodmdfjpndiaaPCostNamesx3
namespace Go.Proofs.Ytkcodmdfjpndiaa.PCostNames
open Go.RowKit Go.Proofs.YtkcodmdfjpndiaaW.PrintWords Go.Proofs.YtkcodmdfjpndiaaW.PrintLast Go.Proofs.YtkcodmdfjpndiaaW.PrintMore
attribute [local go_sem] max2_int min2_int max_two min_two max_three min_three max_four min_four   -- for this text's walks alone
set_option linter.unusedVariables false
set_option linter.unusedSimpArgs false

/-! ### tattinglaw27_CostNames: function 7 -/
def tattinglaw27_CostNames.f (k : Nat) (a0 : Int) (a1 : ByteArray) : Option (Bool) := (tattinglaw27_awake.f k).bind fun t148 => (if t148 = true then (if (a1.size : Int) > 60 then (some true) else ((cost_Tag.f k a1).bind fun bt149 => ((tattingref27_Tag.f k a1).bind fun bt151 => ((cost_Name.f a0).bind fun t153 => ((cost_Tag.f k t153).bind fun bt154 => (if bt149.1 = bt151.1 then (if (bt149.2 == bt151.2) = true then ((cost_Name.f a0).bind fun t156 => ((tattingref27_Name.f a0).bind fun t157 => (if t156.toList = t157.toList then (if a0 ≥ 1 then (if (bt154.2 == (decide (a0 ≤ 8))) = true then (if bt154.2 = true then (some (bt154.1 == a0)) else (some true)) else (some false)) else (if (bt154.2 == false) = true then (if bt154.2 = true then (some (bt154.1 == a0)) else (some true)) else (some false))) else (some false)))) else (some false)) else (some false))))))) else (some false))
theorem tattinglaw27_CostNames.mono : ∀ a0 a1 k, LeO (tattinglaw27_CostNames.f k a0 a1) (tattinglaw27_CostNames.f (k + 1) a0 a1) := by
  intro a0 a1 k
  unfold tattinglaw27_CostNames.f
  repeat' first
      | (with_reducible exact cost_Tag.mono _ _)
      | (with_reducible exact tattinglaw27_awake.mono _)
      | (with_reducible exact tattingref27_Tag.mono _ _)
      | (with_reducible exact LeO.refl _)
      | (with_reducible exact LeO.none _)
      | (with_reducible refine LeO.ite ?_ ?_)
      | (with_reducible refine LeO.bind ?_ (fun _ => ?_))
      | exact cost_Tag.mono _ _
      | exact tattinglaw27_awake.mono _
      | exact tattingref27_Tag.mono _ _
      | exact LeO.none _
      | refine LeO.ite ?_ ?_
      | refine LeO.bind ?_ (fun _ => ?_)
set_option maxHeartbeats 8000000 in
set_option maxRecDepth 100000 in
theorem tattinglaw27_CostNames.calls (k : Nat) (a0 : Int) (a1 : ByteArray) (r : Bool) (w : World) (h : tattinglaw27_CostNames.f k a0 a1 = some r) (HRT : Aside0 (r = true)) :
    Calls Try.prog 7 #[.int .i64 a0, .string a1] w fun e w' => e = .returned (.bool r) ∧ Below w.heap.size w w' := by
  have HB := Aside0.mk (Below.refl w.heap.size w)
  have H : ((tattinglaw27_awake.f k).bind fun t148 => (if t148 = true then (if (a1.size : Int) > 60 then (some true) else ((cost_Tag.f k a1).bind fun bt149 => ((tattingref27_Tag.f k a1).bind fun bt151 => ((cost_Name.f a0).bind fun t153 => ((cost_Tag.f k t153).bind fun bt154 => (if bt149.1 = bt151.1 then (if (bt149.2 == bt151.2) = true then ((cost_Name.f a0).bind fun t156 => ((tattingref27_Name.f a0).bind fun t157 => (if t156.toList = t157.toList then (if a0 ≥ 1 then (if (bt154.2 == (decide (a0 ≤ 8))) = true then (if bt154.2 = true then (some (bt154.1 == a0)) else (some true)) else (some false)) else (if (bt154.2 == false) = true then (if bt154.2 = true then (some (bt154.1 == a0)) else (some true)) else (some false))) else (some false)))) else (some false)) else (some false))))))) else (some false))) = some r := h
  clear h
  replace H := Option.bind_eq_some_iff.mp H
  obtain ⟨t148, A30, H⟩ := H
  replace H : (if t148 = true then (if (a1.size : Int) > 60 then (some true) else ((cost_Tag.f k a1).bind fun bt149 => ((tattingref27_Tag.f k a1).bind fun bt151 => ((cost_Name.f a0).bind fun t153 => ((cost_Tag.f k t153).bind fun bt154 => (if bt149.1 = bt151.1 then (if (bt149.2 == bt151.2) = true then ((cost_Name.f a0).bind fun t156 => ((tattingref27_Name.f a0).bind fun t157 => (if t156.toList = t157.toList then (if a0 ≥ 1 then (if (bt154.2 == (decide (a0 ≤ 8))) = true then (if bt154.2 = true then (some (bt154.1 == a0)) else (some true)) else (some false)) else (if (bt154.2 == false) = true then (if bt154.2 = true then (some (bt154.1 == a0)) else (some true)) else (some false))) else (some false)))) else (some false)) else (some false))))))) else (some false)) = some r := H
  have A3 := Aside0.mk A30
  clear A30
  by_cases c4 : t148 = true
  · subst c4
    have H1 : (if (a1.size : Int) > 60 then (some true) else ((cost_Tag.f k a1).bind fun bt149 => ((tattingref27_Tag.f k a1).bind fun bt151 => ((cost_Name.f a0).bind fun t153 => ((cost_Tag.f k t153).bind fun bt154 => (if bt149.1 = bt151.1 then (if (bt149.2 == bt151.2) = true then ((cost_Name.f a0).bind fun t156 => ((tattingref27_Name.f a0).bind fun t157 => (if t156.toList = t157.toList then (if a0 ≥ 1 then (if (bt154.2 == (decide (a0 ≤ 8))) = true then (if bt154.2 = true then (some (bt154.1 == a0)) else (some true)) else (some false)) else (if (bt154.2 == false) = true then (if bt154.2 = true then (some (bt154.1 == a0)) else (some true)) else (some false))) else (some false)))) else (some false)) else (some false))))))) = some r := by rw [if_pos rfl] at H; exact H
    clear H
    have H := H1
    clear H1
    by_cases c5 : (a1.size : Int) > 60
    · rw [if_pos c5] at H
      have c5b0 : decide (60 < (a1.size : Int)) = true := decide_eq_true c5
      have c5b1 : decide (60 < a1.size) = true := decide_eq_true (by omega)
      clear c5
      obtain rfl := Option.some.inj H
      go_enter Try.func7, Try.ntmps7
      go_wp2_with (first | ((with_reducible refine gate_callee (f := 9) rfl ?_); refine goesL_ (some 11) rfl rfl Try.func9 (by kernel_rfl) rfl #[] rfl (by (try simp only [List.map_toArray, List.map_cons, List.map_nil]); first | done | rfl | (simp only [List.length_drop, List.length_take]; rfl)) ?_; (with_reducible refine (tattinglaw27_awake.calls k  true _ A3.out).mono ?_); rintro e w6 ⟨rfl, hb⟩; refine ⟨_, rfl, ?_⟩; have n0_ := Aside0.mk (below_step (by repeat (first | (with_reducible first | exact HB.out | apply below_alloc | apply pw_below_drewN | apply below_drew1) | exact HB.out)) hb); clear HB; have HB := n0_; clear n0_; (try clear hb); (try clear hb2); (try clear hk); (try clear hi)))
      go_ret
      exact ⟨by first | rfl | (simp [errW_none, errW_some] <;> rfl) | (simp [*, errW_none, errW_some] <;> rfl), by repeat (first | (with_reducible first | exact HB.out | apply below_alloc | apply pw_below_drewN | apply below_drew1) | exact HB.out)⟩
    · rw [if_neg c5] at H
      have c5b0 : decide (60 < (a1.size : Int)) = false := decide_eq_false c5
      have c5b1 : decide (60 < a1.size) = false := decide_eq_false (by omega)
      clear c5
      replace H := Option.bind_eq_some_iff.mp H
      obtain ⟨⟨t149, t150⟩, A70, H⟩ := H
      replace H : ((tattingref27_Tag.f k a1).bind fun bt151 => ((cost_Name.f a0).bind fun t153 => ((cost_Tag.f k t153).bind fun bt154 => (if t149 = bt151.1 then (if (t150 == bt151.2) = true then ((cost_Name.f a0).bind fun t156 => ((tattingref27_Name.f a0).bind fun t157 => (if t156.toList = t157.toList then (if a0 ≥ 1 then (if (bt154.2 == (decide (a0 ≤ 8))) = true then (if bt154.2 = true then (some (bt154.1 == a0)) else (some true)) else (some false)) else (if (bt154.2 == false) = true then (if bt154.2 = true then (some (bt154.1 == a0)) else (some true)) else (some false))) else (some false)))) else (some false)) else (some false))))) = some r := H
      have A7 := Aside0.mk A70
      clear A70
      replace H := Option.bind_eq_some_iff.mp H
      obtain ⟨⟨t151, t152⟩, A80, H⟩ := H
      replace H : ((cost_Name.f a0).bind fun t153 => ((cost_Tag.f k t153).bind fun bt154 => (if t149 = t151 then (if (t150 == t152) = true then ((cost_Name.f a0).bind fun t156 => ((tattingref27_Name.f a0).bind fun t157 => (if t156.toList = t157.toList then (if a0 ≥ 1 then (if (bt154.2 == (decide (a0 ≤ 8))) = true then (if bt154.2 = true then (some (bt154.1 == a0)) else (some true)) else (some false)) else (if (bt154.2 == false) = true then (if bt154.2 = true then (some (bt154.1 == a0)) else (some true)) else (some false))) else (some false)))) else (some false)) else (some false)))) = some r := H
      have A8 := Aside0.mk A80
      clear A80
      replace H := Option.bind_eq_some_iff.mp H
      obtain ⟨t153, A90, H⟩ := H
      replace H : ((cost_Tag.f k t153).bind fun bt154 => (if t149 = t151 then (if (t150 == t152) = true then ((cost_Name.f a0).bind fun t156 => ((tattingref27_Name.f a0).bind fun t157 => (if t156.toList = t157.toList then (if a0 ≥ 1 then (if (bt154.2 == (decide (a0 ≤ 8))) = true then (if bt154.2 = true then (some (bt154.1 == a0)) else (some true)) else (some false)) else (if (bt154.2 == false) = true then (if bt154.2 = true then (some (bt154.1 == a0)) else (some true)) else (some false))) else (some false)))) else (some false)) else (some false))) = some r := H
      have A9 := Aside0.mk A90
      clear A90
      replace H := Option.bind_eq_some_iff.mp H
      obtain ⟨⟨t154, t155⟩, A100, H⟩ := H
      replace H : (if t149 = t151 then (if (t150 == t152) = true then ((cost_Name.f a0).bind fun t156 => ((tattingref27_Name.f a0).bind fun t157 => (if t156.toList = t157.toList then (if a0 ≥ 1 then (if (t155 == (decide (a0 ≤ 8))) = true then (if t155 = true then (some (t154 == a0)) else (some true)) else (some false)) else (if (t155 == false) = true then (if t155 = true then (some (t154 == a0)) else (some true)) else (some false))) else (some false)))) else (some false)) else (some false)) = some r := H
      have A10 := Aside0.mk A100
      clear A100
      by_cases c11 : t149 = t151
      · rw [if_pos c11] at H
        have c11b0 : (t149 == t151) = true := beq_iff_eq.mpr c11
        have c11b1 : (t149 != t151) = false := bne_eq_false_iff_eq.mpr c11
        clear c11
        by_cases c12 : (t150 == t152) = true
        · rw [if_pos c12] at H
          have c12b0 : (t150 == t152) = true := c12
          (try (have c12b1 : decide (t150 = t152) = true := by simpa using c12))
          (try (have c12b2 : (t150 == t152) = true := by simpa using c12))
          clear c12
          replace H := Option.bind_eq_some_iff.mp H
          obtain ⟨t156, A130, H⟩ := H
          replace H : ((tattingref27_Name.f a0).bind fun t157 => (if t156.toList = t157.toList then (if a0 ≥ 1 then (if (t155 == (decide (a0 ≤ 8))) = true then (if t155 = true then (some (t154 == a0)) else (some true)) else (some false)) else (if (t155 == false) = true then (if t155 = true then (some (t154 == a0)) else (some true)) else (some false))) else (some false))) = some r := H
          have A13 := Aside0.mk A130
          clear A130
          replace H := Option.bind_eq_some_iff.mp H
          obtain ⟨t157, A140, H⟩ := H
          replace H : (if t156.toList = t157.toList then (if a0 ≥ 1 then (if (t155 == (decide (a0 ≤ 8))) = true then (if t155 = true then (some (t154 == a0)) else (some true)) else (some false)) else (if (t155 == false) = true then (if t155 = true then (some (t154 == a0)) else (some true)) else (some false))) else (some false)) = some r := H
          have A14 := Aside0.mk A140
          clear A140
          by_cases c15 : t156.toList = t157.toList
          · rw [if_pos c15] at H
            have c15b0 : (t156.toList == t157.toList) = true := beq_iff_eq.mpr c15
            have c15b1 : (t156.toList != t157.toList) = false := bne_eq_false_iff_eq.mpr c15
            clear c15
            by_cases c16 : a0 ≥ 1
            · rw [if_pos c16] at H
              have c16b0 : decide (1 ≤ a0) = true := decide_eq_true c16
              clear c16
              by_cases c17 : (t155 == (decide (a0 ≤ 8))) = true
              · rw [if_pos c17] at H
                have c17b0 : (t155 == (decide (a0 ≤ 8))) = true := c17
                (try (have c17b1 : decide (t155 = (decide (a0 ≤ 8))) = true := by simpa using c17))
                (try (have c17b2 : (t155 == (decide (a0 ≤ 8))) = true := by simpa using c17))
                clear c17
                by_cases c18 : t155 = true
                · subst c18
                  have H1 : (some (t154 == a0)) = some r := by rw [if_pos rfl] at H; exact H
                  clear H
                  have H := H1
                  clear H1
                  obtain rfl := Option.some.inj H
                  go_enter Try.func7, Try.ntmps7
                  go_wp2_with (first | ((with_reducible refine gate_callee (f := 9) rfl ?_); refine goesL_ (some 11) rfl rfl Try.func9 (by kernel_rfl) rfl #[] rfl (by (try simp only [List.map_toArray, List.map_cons, List.map_nil]); first | done | rfl | (simp only [List.length_drop, List.length_take]; rfl)) ?_; (with_reducible refine (tattinglaw27_awake.calls k  true _ A3.out).mono ?_); rintro e w19 ⟨rfl, hb⟩; refine ⟨_, rfl, ?_⟩; have n0_ := Aside0.mk (below_step (by repeat (first | (with_reducible first | exact HB.out | apply below_alloc | apply pw_below_drewN | apply below_drew1) | exact HB.out)) hb); clear HB; have HB := n0_; clear n0_; (try clear hb); (try clear hb2); (try clear hk); (try clear hi)) | ((with_reducible refine gate_callee (f := 23) rfl ?_); refine goesL_ (some 18) rfl rfl Try.func23 (by kernel_rfl) rfl #[.string a1] rfl (by (try simp only [List.map_toArray, List.map_cons, List.map_nil]); first | done | rfl | (simp only [List.length_drop, List.length_take]; rfl)) ?_; (with_reducible refine (cost_Tag.calls k a1 t149 t150 _ A7.out).mono ?_); rintro e w' ⟨rfl, ⟨nd, rfl⟩⟩; refine ⟨_, rfl, ?_⟩) | ((with_reducible refine gate_callee (f := 24) rfl ?_); refine goesL_ (some 23) rfl rfl Try.func24 (by kernel_rfl) rfl #[.string a1] rfl (by (try simp only [List.map_toArray, List.map_cons, List.map_nil]); first | done | rfl | (simp only [List.length_drop, List.length_take]; rfl)) ?_; (with_reducible refine (tattingref27_Tag.calls k a1 t151 t152 _ A8.out).mono ?_); rintro e w20 ⟨rfl, hb⟩; refine ⟨_, rfl, ?_⟩; have n0_ := Aside0.mk (below_step (by repeat (first | (with_reducible first | exact HB.out | apply below_alloc | apply pw_below_drewN | apply below_drew1) | exact HB.out)) hb); clear HB; have HB := n0_; clear n0_; (try clear hb); (try clear hb2); (try clear hk); (try clear hi)) | ((with_reducible refine gate_callee (f := 25) rfl ?_); refine goesL_ (some 28) rfl rfl Try.func25 (by kernel_rfl) rfl #[.int .i64 a0] rfl (by (try simp only [List.map_toArray, List.map_cons, List.map_nil]); first | done | rfl | (simp only [List.length_drop, List.length_take]; rfl)) ?_; (with_reducible refine (cost_Name.calls a0 t153 _ A9.out).mono ?_); rintro e w' ⟨rfl, ⟨nd, rfl⟩⟩; refine ⟨_, rfl, ?_⟩) | ((with_reducible refine gate_callee (f := 23) rfl ?_); refine goesL_ (some 29) rfl rfl Try.func23 (by kernel_rfl) rfl #[.string t153] rfl (by (try simp only [List.map_toArray, List.map_cons, List.map_nil]); first | done | rfl | (simp only [List.length_drop, List.length_take]; rfl)) ?_; (with_reducible refine (cost_Tag.calls k t153 t154 true _ A10.out).mono ?_); rintro e w' ⟨rfl, ⟨nd, rfl⟩⟩; refine ⟨_, rfl, ?_⟩) | (go_at_call 25; (with_reducible refine (cost_Name.calls a0 t156 _ A13.out).mono ?_); rintro e w' ⟨rfl, ⟨nd, rfl⟩⟩) | (go_at_call 26; (with_reducible refine (tattingref27_Name.calls a0 t157 _ A14.out).mono ?_); rintro e w21 ⟨rfl, hb⟩; have n0_ := Aside0.mk (below_step (by repeat (first | (with_reducible first | exact HB.out | apply below_alloc | apply pw_below_drewN | apply below_drew1) | exact HB.out)) hb); clear HB; have HB := n0_; clear n0_; (try clear hb); (try clear hb2); (try clear hk); (try clear hi)))
                  go_ret
                  exact ⟨by first | rfl | (simp [errW_none, errW_some] <;> rfl) | (simp [*, errW_none, errW_some] <;> rfl), by repeat (first | (with_reducible first | exact HB.out | apply below_alloc | apply pw_below_drewN | apply below_drew1) | exact HB.out)⟩
                · replace c18 := Bool.eq_false_iff.mpr c18
                  subst c18
                  have H1 : (some true) = some r := by rw [if_neg (show ¬ (false = true) by decide)] at H; exact H
                  clear H
                  have H := H1
                  clear H1
                  obtain rfl := Option.some.inj H
                  go_enter Try.func7, Try.ntmps7
                  go_wp2_with (first | ((with_reducible refine gate_callee (f := 9) rfl ?_); refine goesL_ (some 11) rfl rfl Try.func9 (by kernel_rfl) rfl #[] rfl (by (try simp only [List.map_toArray, List.map_cons, List.map_nil]); first | done | rfl | (simp only [List.length_drop, List.length_take]; rfl)) ?_; (with_reducible refine (tattinglaw27_awake.calls k  true _ A3.out).mono ?_); rintro e w22 ⟨rfl, hb⟩; refine ⟨_, rfl, ?_⟩; have n0_ := Aside0.mk (below_step (by repeat (first | (with_reducible first | exact HB.out | apply below_alloc | apply pw_below_drewN | apply below_drew1) | exact HB.out)) hb); clear HB; have HB := n0_; clear n0_; (try clear hb); (try clear hb2); (try clear hk); (try clear hi)) | ((with_reducible refine gate_callee (f := 23) rfl ?_); refine goesL_ (some 18) rfl rfl Try.func23 (by kernel_rfl) rfl #[.string a1] rfl (by (try simp only [List.map_toArray, List.map_cons, List.map_nil]); first | done | rfl | (simp only [List.length_drop, List.length_take]; rfl)) ?_; (with_reducible refine (cost_Tag.calls k a1 t149 t150 _ A7.out).mono ?_); rintro e w' ⟨rfl, ⟨nd, rfl⟩⟩; refine ⟨_, rfl, ?_⟩) | ((with_reducible refine gate_callee (f := 24) rfl ?_); refine goesL_ (some 23) rfl rfl Try.func24 (by kernel_rfl) rfl #[.string a1] rfl (by (try simp only [List.map_toArray, List.map_cons, List.map_nil]); first | done | rfl | (simp only [List.length_drop, List.length_take]; rfl)) ?_; (with_reducible refine (tattingref27_Tag.calls k a1 t151 t152 _ A8.out).mono ?_); rintro e w23 ⟨rfl, hb⟩; refine ⟨_, rfl, ?_⟩; have n0_ := Aside0.mk (below_step (by repeat (first | (with_reducible first | exact HB.out | apply below_alloc | apply pw_below_drewN | apply below_drew1) | exact HB.out)) hb); clear HB; have HB := n0_; clear n0_; (try clear hb); (try clear hb2); (try clear hk); (try clear hi)) | ((with_reducible refine gate_callee (f := 25) rfl ?_); refine goesL_ (some 28) rfl rfl Try.func25 (by kernel_rfl) rfl #[.int .i64 a0] rfl (by (try simp only [List.map_toArray, List.map_cons, List.map_nil]); first | done | rfl | (simp only [List.length_drop, List.length_take]; rfl)) ?_; (with_reducible refine (cost_Name.calls a0 t153 _ A9.out).mono ?_); rintro e w' ⟨rfl, ⟨nd, rfl⟩⟩; refine ⟨_, rfl, ?_⟩) | ((with_reducible refine gate_callee (f := 23) rfl ?_); refine goesL_ (some 29) rfl rfl Try.func23 (by kernel_rfl) rfl #[.string t153] rfl (by (try simp only [List.map_toArray, List.map_cons, List.map_nil]); first | done | rfl | (simp only [List.length_drop, List.length_take]; rfl)) ?_; (with_reducible refine (cost_Tag.calls k t153 t154 false _ A10.out).mono ?_); rintro e w' ⟨rfl, ⟨nd, rfl⟩⟩; refine ⟨_, rfl, ?_⟩) | (go_at_call 25; (with_reducible refine (cost_Name.calls a0 t156 _ A13.out).mono ?_); rintro e w' ⟨rfl, ⟨nd, rfl⟩⟩) | (go_at_call 26; (with_reducible refine (tattingref27_Name.calls a0 t157 _ A14.out).mono ?_); rintro e w24 ⟨rfl, hb⟩; have n0_ := Aside0.mk (below_step (by repeat (first | (with_reducible first | exact HB.out | apply below_alloc | apply pw_below_drewN | apply below_drew1) | exact HB.out)) hb); clear HB; have HB := n0_; clear n0_; (try clear hb); (try clear hb2); (try clear hk); (try clear hi)))
                  go_ret
                  exact ⟨by first | rfl | (simp [errW_none, errW_some] <;> rfl) | (simp [*, errW_none, errW_some] <;> rfl), by repeat (first | (with_reducible first | exact HB.out | apply below_alloc | apply pw_below_drewN | apply below_drew1) | exact HB.out)⟩
              · rw [if_neg c17] at H
                have c17b0 : (t155 == (decide (a0 ≤ 8))) = false := by simpa using c17
                (try (have c17b1 : decide (t155 = (decide (a0 ≤ 8))) = false := by simpa using c17))
                (try (have c17b2 : (t155 == (decide (a0 ≤ 8))) = false := by simpa using c17))
                (try (have c17b3 : ¬ (t155 = (decide (a0 ≤ 8))) := by simpa using c17))
                clear c17
                exact absurd (Option.some.inj H) (by rw [HRT.out]; decide)
            · rw [if_neg c16] at H
              have c16b0 : decide (1 ≤ a0) = false := decide_eq_false c16
              clear c16
              by_cases c25 : (t155 == false) = true
              · rw [if_pos c25] at H
                have c25b0 : (t155 == false) = true := c25
                (try (have c25b1 : decide (t155 = false) = true := by simpa using c25))
                (try (have c25b2 : (t155 == false) = true := by simpa using c25))
                clear c25
                by_cases c26 : t155 = true
                · subst c26
                  have H1 : (some (t154 == a0)) = some r := by rw [if_pos rfl] at H; exact H
                  clear H
                  have H := H1
                  clear H1
                  obtain rfl := Option.some.inj H
                  go_enter Try.func7, Try.ntmps7
                  go_wp2_with (first | ((with_reducible refine gate_callee (f := 9) rfl ?_); refine goesL_ (some 11) rfl rfl Try.func9 (by kernel_rfl) rfl #[] rfl (by (try simp only [List.map_toArray, List.map_cons, List.map_nil]); first | done | rfl | (simp only [List.length_drop, List.length_take]; rfl)) ?_; (with_reducible refine (tattinglaw27_awake.calls k  true _ A3.out).mono ?_); rintro e w27 ⟨rfl, hb⟩; refine ⟨_, rfl, ?_⟩; have n0_ := Aside0.mk (below_step (by repeat (first | (with_reducible first | exact HB.out | apply below_alloc | apply pw_below_drewN | apply below_drew1) | exact HB.out)) hb); clear HB; have HB := n0_; clear n0_; (try clear hb); (try clear hb2); (try clear hk); (try clear hi)) | ((with_reducible refine gate_callee (f := 23) rfl ?_); refine goesL_ (some 18) rfl rfl Try.func23 (by kernel_rfl) rfl #[.string a1] rfl (by (try simp only [List.map_toArray, List.map_cons, List.map_nil]); first | done | rfl | (simp only [List.length_drop, List.length_take]; rfl)) ?_; (with_reducible refine (cost_Tag.calls k a1 t149 t150 _ A7.out).mono ?_); rintro e w' ⟨rfl, ⟨nd, rfl⟩⟩; refine ⟨_, rfl, ?_⟩) | ((with_reducible refine gate_callee (f := 24) rfl ?_); refine goesL_ (some 23) rfl rfl Try.func24 (by kernel_rfl) rfl #[.string a1] rfl (by (try simp only [List.map_toArray, List.map_cons, List.map_nil]); first | done | rfl | (simp only [List.length_drop, List.length_take]; rfl)) ?_; (with_reducible refine (tattingref27_Tag.calls k a1 t151 t152 _ A8.out).mono ?_); rintro e w28 ⟨rfl, hb⟩; refine ⟨_, rfl, ?_⟩; have n0_ := Aside0.mk (below_step (by repeat (first | (with_reducible first | exact HB.out | apply below_alloc | apply pw_below_drewN | apply below_drew1) | exact HB.out)) hb); clear HB; have HB := n0_; clear n0_; (try clear hb); (try clear hb2); (try clear hk); (try clear hi)) | ((with_reducible refine gate_callee (f := 25) rfl ?_); refine goesL_ (some 28) rfl rfl Try.func25 (by kernel_rfl) rfl #[.int .i64 a0] rfl (by (try simp only [List.map_toArray, List.map_cons, List.map_nil]); first | done | rfl | (simp only [List.length_drop, List.length_take]; rfl)) ?_; (with_reducible refine (cost_Name.calls a0 t153 _ A9.out).mono ?_); rintro e w' ⟨rfl, ⟨nd, rfl⟩⟩; refine ⟨_, rfl, ?_⟩) | ((with_reducible refine gate_callee (f := 23) rfl ?_); refine goesL_ (some 29) rfl rfl Try.func23 (by kernel_rfl) rfl #[.string t153] rfl (by (try simp only [List.map_toArray, List.map_cons, List.map_nil]); first | done | rfl | (simp only [List.length_drop, List.length_take]; rfl)) ?_; (with_reducible refine (cost_Tag.calls k t153 t154 true _ A10.out).mono ?_); rintro e w' ⟨rfl, ⟨nd, rfl⟩⟩; refine ⟨_, rfl, ?_⟩) | (go_at_call 25; (with_reducible refine (cost_Name.calls a0 t156 _ A13.out).mono ?_); rintro e w' ⟨rfl, ⟨nd, rfl⟩⟩) | (go_at_call 26; (with_reducible refine (tattingref27_Name.calls a0 t157 _ A14.out).mono ?_); rintro e w29 ⟨rfl, hb⟩; have n0_ := Aside0.mk (below_step (by repeat (first | (with_reducible first | exact HB.out | apply below_alloc | apply pw_below_drewN | apply below_drew1) | exact HB.out)) hb); clear HB; have HB := n0_; clear n0_; (try clear hb); (try clear hb2); (try clear hk); (try clear hi)))
                  go_ret
                  exact ⟨by first | rfl | (simp [errW_none, errW_some] <;> rfl) | (simp [*, errW_none, errW_some] <;> rfl), by repeat (first | (with_reducible first | exact HB.out | apply below_alloc | apply pw_below_drewN | apply below_drew1) | exact HB.out)⟩
                · replace c26 := Bool.eq_false_iff.mpr c26
                  subst c26
                  have H1 : (some true) = some r := by rw [if_neg (show ¬ (false = true) by decide)] at H; exact H
                  clear H
                  have H := H1
                  clear H1
                  obtain rfl := Option.some.inj H
                  go_enter Try.func7, Try.ntmps7
                  go_wp2_with (first | ((with_reducible refine gate_callee (f := 9) rfl ?_); refine goesL_ (some 11) rfl rfl Try.func9 (by kernel_rfl) rfl #[] rfl (by (try simp only [List.map_toArray, List.map_cons, List.map_nil]); first | done | rfl | (simp only [List.length_drop, List.length_take]; rfl)) ?_; (with_reducible refine (tattinglaw27_awake.calls k  true _ A3.out).mono ?_); rintro e w30 ⟨rfl, hb⟩; refine ⟨_, rfl, ?_⟩; have n0_ := Aside0.mk (below_step (by repeat (first | (with_reducible first | exact HB.out | apply below_alloc | apply pw_below_drewN | apply below_drew1) | exact HB.out)) hb); clear HB; have HB := n0_; clear n0_; (try clear hb); (try clear hb2); (try clear hk); (try clear hi)) | ((with_reducible refine gate_callee (f := 23) rfl ?_); refine goesL_ (some 18) rfl rfl Try.func23 (by kernel_rfl) rfl #[.string a1] rfl (by (try simp only [List.map_toArray, List.map_cons, List.map_nil]); first | done | rfl | (simp only [List.length_drop, List.length_take]; rfl)) ?_; (with_reducible refine (cost_Tag.calls k a1 t149 t150 _ A7.out).mono ?_); rintro e w' ⟨rfl, ⟨nd, rfl⟩⟩; refine ⟨_, rfl, ?_⟩) | ((with_reducible refine gate_callee (f := 24) rfl ?_); refine goesL_ (some 23) rfl rfl Try.func24 (by kernel_rfl) rfl #[.string a1] rfl (by (try simp only [List.map_toArray, List.map_cons, List.map_nil]); first | done | rfl | (simp only [List.length_drop, List.length_take]; rfl)) ?_; (with_reducible refine (tattingref27_Tag.calls k a1 t151 t152 _ A8.out).mono ?_); rintro e w31 ⟨rfl, hb⟩; refine ⟨_, rfl, ?_⟩; have n0_ := Aside0.mk (below_step (by repeat (first | (with_reducible first | exact HB.out | apply below_alloc | apply pw_below_drewN | apply below_drew1) | exact HB.out)) hb); clear HB; have HB := n0_; clear n0_; (try clear hb); (try clear hb2); (try clear hk); (try clear hi)) | ((with_reducible refine gate_callee (f := 25) rfl ?_); refine goesL_ (some 28) rfl rfl Try.func25 (by kernel_rfl) rfl #[.int .i64 a0] rfl (by (try simp only [List.map_toArray, List.map_cons, List.map_nil]); first | done | rfl | (simp only [List.length_drop, List.length_take]; rfl)) ?_; (with_reducible refine (cost_Name.calls a0 t153 _ A9.out).mono ?_); rintro e w' ⟨rfl, ⟨nd, rfl⟩⟩; refine ⟨_, rfl, ?_⟩) | ((with_reducible refine gate_callee (f := 23) rfl ?_); refine goesL_ (some 29) rfl rfl Try.func23 (by kernel_rfl) rfl #[.string t153] rfl (by (try simp only [List.map_toArray, List.map_cons, List.map_nil]); first | done | rfl | (simp only [List.length_drop, List.length_take]; rfl)) ?_; (with_reducible refine (cost_Tag.calls k t153 t154 false _ A10.out).mono ?_); rintro e w' ⟨rfl, ⟨nd, rfl⟩⟩; refine ⟨_, rfl, ?_⟩) | (go_at_call 25; (with_reducible refine (cost_Name.calls a0 t156 _ A13.out).mono ?_); rintro e w' ⟨rfl, ⟨nd, rfl⟩⟩) | (go_at_call 26; (with_reducible refine (tattingref27_Name.calls a0 t157 _ A14.out).mono ?_); rintro e w32 ⟨rfl, hb⟩; have n0_ := Aside0.mk (below_step (by repeat (first | (with_reducible first | exact HB.out | apply below_alloc | apply pw_below_drewN | apply below_drew1) | exact HB.out)) hb); clear HB; have HB := n0_; clear n0_; (try clear hb); (try clear hb2); (try clear hk); (try clear hi)))
                  go_ret
                  exact ⟨by first | rfl | (simp [errW_none, errW_some] <;> rfl) | (simp [*, errW_none, errW_some] <;> rfl), by repeat (first | (with_reducible first | exact HB.out | apply below_alloc | apply pw_below_drewN | apply below_drew1) | exact HB.out)⟩
              · rw [if_neg c25] at H
                have c25b0 : (t155 == false) = false := by simpa using c25
                (try (have c25b1 : decide (t155 = false) = false := by simpa using c25))
                (try (have c25b2 : (t155 == false) = false := by simpa using c25))
                (try (have c25b3 : ¬ (t155 = false) := by simpa using c25))
                clear c25
                exact absurd (Option.some.inj H) (by rw [HRT.out]; decide)
          · rw [if_neg c15] at H
            have c15b0 : (t156.toList == t157.toList) = false := beq_eq_false_iff_ne.mpr c15
            have c15b1 : (t156.toList != t157.toList) = true := bne_iff_ne.mpr c15
            exact absurd (Option.some.inj H) (by rw [HRT.out]; decide)
        · rw [if_neg c12] at H
          have c12b0 : (t150 == t152) = false := by simpa using c12
          (try (have c12b1 : decide (t150 = t152) = false := by simpa using c12))
          (try (have c12b2 : (t150 == t152) = false := by simpa using c12))
          (try (have c12b3 : ¬ (t150 = t152) := by simpa using c12))
          clear c12
          exact absurd (Option.some.inj H) (by rw [HRT.out]; decide)
      · rw [if_neg c11] at H
        have c11b0 : (t149 == t151) = false := beq_eq_false_iff_ne.mpr c11
        have c11b1 : (t149 != t151) = true := bne_iff_ne.mpr c11
        exact absurd (Option.some.inj H) (by rw [HRT.out]; decide)
  · replace c4 := Bool.eq_false_iff.mpr c4
    subst c4
    have H1 : (some false) = some r := by rw [if_neg (show ¬ (false = true) by decide)] at H; exact H
    clear H
    have H := H1
    clear H1
    exact absurd (Option.some.inj H) (by rw [HRT.out]; decide)

/-- THE ONE PURE STATEMENT of tattinglaw27_CostNames: yours. -/
def tattinglaw27_CostNames.Pure : Prop := ∀ (a0 : Int) (a1 : ByteArray), (Lit.int .i64 a0).wf = true → a1.size ≤ 140737488351232 → ∃ k, tattinglaw27_CostNames.f k a0 a1 = some true
theorem tattinglaw27_CostNames.walk (P : tattinglaw27_CostNames.Pure) (a0 : Int) (a1 : ByteArray) (w : World) (w0 : (Lit.int .i64 a0).wf = true) (w1 : a1.size ≤ 140737488351232) :
    Calls Try.prog 7 #[.int .i64 a0, .string a1] w fun e w' => e = .returned (.bool true) ∧ Below w.heap.size w w' := by
  obtain ⟨k, h⟩ := P a0 a1 w0 w1
  refine (tattinglaw27_CostNames.calls k a0 a1 true w h ⟨rfl⟩).mono ?_
  rintro e w' ⟨rfl, hd⟩
  exact ⟨rfl, hd⟩

end Go.Proofs.Ytkcodmdfjpndiaa.PCostNames
