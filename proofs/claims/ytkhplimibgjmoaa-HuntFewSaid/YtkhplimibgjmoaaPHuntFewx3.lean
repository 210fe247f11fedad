-- Laid by wip/myprint.py: the kit's print, with contracts typed by hand for what it does not take.
import Derived.Test.YtkhplimibgjmoaaPHuntFewx0
import Derived.Test.YtkhplimibgjmoaaPHuntFewx1
import Derived.Test.YtkhplimibgjmoaaPHuntFewx2
namespace Go.Proofs.Ytkhplimibgjmoaa.PHuntFew
open Go.RowKit Go.Proofs.YtkhplimibgjmoaaW.PrintWords Go.Proofs.YtkhplimibgjmoaaW.PrintLast Go.Proofs.YtkhplimibgjmoaaW.PrintMore
attribute [local go_sem] max2_int min2_int max_two min_two max_three min_three max_four min_four   -- for this text's walks alone
set_option linter.unusedVariables false
set_option linter.unusedSimpArgs false

/-! ### tattinglaw16_HuntFew: function 7 -/
def tattinglaw16_HuntFew.j0 : Nat → List Int → List Int → Bool → Option (Bool)
  | 0, _, _, _ => none
  | k + 1, x0, x1, x25 => if x25 = true then (some true) else ((tattingref1_Few.f k x0 4).bind fun t184 => ((tattingref1_Few.f k x1 4).bind fun t187 => ((hunt_Run.f k t184 t187).bind fun bt190 => (if 1 ≤ (t184.length : Int) then ((hunt_Run.f k (t184.drop 1) t187).bind fun bt198 => (if bt190.2 ≤ (wrap64 ((t184.length : Int) * (t187.length : Int))) then (if (bt190.1.length : Int) ≤ bt190.2 then (if bt198.2 ≤ bt190.2 then (if (bt198.1.length : Int) ≤ (bt190.1.length : Int) then ((tattingref1_Alike.f k (t184.take 1) t187).bind fun t206 => (some ((wrap64 (bt190.2 - bt198.2)) == t206))) else (some false)) else (some false)) else (some false)) else (some false))) else (none)))))
def tattinglaw16_HuntFew.f (k : Nat) (l0 : List Int) (l1 : List Int) : Option (Bool) := (tattinglaw16_awake.f k).bind fun t183 => (if t183 = true then (if (l0.length : Int) = 0 then (tattinglaw16_HuntFew.j0 k l0 l1 true) else (if (l0.length : Int) > 30 then (tattinglaw16_HuntFew.j0 k l0 l1 true) else (tattinglaw16_HuntFew.j0 k l0 l1 (decide ((l1.length : Int) > 30))))) else (some false))
theorem tattinglaw16_HuntFew.mono_l : ∀ k, (∀ y0 y1 y2, LeO (tattinglaw16_HuntFew.j0 k y0 y1 y2) (tattinglaw16_HuntFew.j0 (k + 1) y0 y1 y2))
  | 0 => fun _ _ _ r h => by simp [tattinglaw16_HuntFew.j0] at h
  | k + 1 => by
    have ih0 := tattinglaw16_HuntFew.mono_l k
    · intro y0 y1 y2
      unfold tattinglaw16_HuntFew.j0
      repeat' first
      | (with_reducible exact ih0 _ _ _)
      | (with_reducible exact hunt_Run.mono _ _ _)
      | (with_reducible exact tattinglaw16_awake.mono _)
      | (with_reducible exact tattingref1_Alike.mono _ _ _)
      | (with_reducible exact tattingref1_Few.mono _ _ _)
      | (with_reducible exact LeO.refl _)
      | (with_reducible exact LeO.none _)
      | (with_reducible refine LeO.ite ?_ ?_)
      | (with_reducible refine LeO.bind ?_ (fun _ => ?_))
      | exact ih0 _ _ _
      | exact hunt_Run.mono _ _ _
      | exact tattinglaw16_awake.mono _
      | exact tattingref1_Alike.mono _ _ _
      | exact tattingref1_Few.mono _ _ _
      | exact LeO.none _
      | refine LeO.ite ?_ ?_
      | refine LeO.bind ?_ (fun _ => ?_)
theorem tattinglaw16_HuntFew.mono : ∀ a0 a1 k, LeO (tattinglaw16_HuntFew.f k a0 a1) (tattinglaw16_HuntFew.f (k + 1) a0 a1) := by
  intro a0 a1 k
  have ih0 := tattinglaw16_HuntFew.mono_l k
  unfold tattinglaw16_HuntFew.f
  repeat' first
      | (with_reducible exact ih0 _ _ _)
      | (with_reducible exact hunt_Run.mono _ _ _)
      | (with_reducible exact tattinglaw16_awake.mono _)
      | (with_reducible exact tattingref1_Alike.mono _ _ _)
      | (with_reducible exact tattingref1_Few.mono _ _ _)
      | (with_reducible exact LeO.refl _)
      | (with_reducible exact LeO.none _)
      | (with_reducible refine LeO.ite ?_ ?_)
      | (with_reducible refine LeO.bind ?_ (fun _ => ?_))
      | exact ih0 _ _ _
      | exact hunt_Run.mono _ _ _
      | exact tattinglaw16_awake.mono _
      | exact tattingref1_Alike.mono _ _ _
      | exact tattingref1_Few.mono _ _ _
      | exact LeO.none _
      | refine LeO.ite ?_ ?_
      | refine LeO.bind ?_ (fun _ => ?_)
set_option maxHeartbeats 8000000 in
set_option maxRecDepth 100000 in
theorem tattinglaw16_HuntFew.calls (k : Nat) (A0 : Option Addr) (c0 : Nat) (l0 : List Int) (A1 : Option Addr) (c1 : Nat) (l1 : List Int) (r : Bool) (w : World) (hr0 : Kd.C (Kd.int .i64) w A0 l0.length l0) (hc0 : l0.length ≤ c0) (hr1 : Kd.C (Kd.int .i64) w A1 l1.length l1) (hc1 : l1.length ≤ c1) (h : tattinglaw16_HuntFew.f k l0 l1 = some r) (HRT : Aside0 (r = true)) :
    Calls Try.prog 7 #[.slice A0 l0.length c0, .slice A1 l1.length c1] w fun e w' => e = .returned (.bool r) ∧ Below w.heap.size w w' := by
  have HR0 := Aside0.mk hr0
  have HC0 := Aside0.mk hc0
  clear hr0 hc0
  have HR1 := Aside0.mk hr1
  have HC1 := Aside0.mk hc1
  clear hr1 hc1
  have HB := Aside0.mk (Below.refl w.heap.size w)
  have H : ((tattinglaw16_awake.f k).bind fun t183 => (if t183 = true then (if (l0.length : Int) = 0 then (tattinglaw16_HuntFew.j0 k l0 l1 true) else (if (l0.length : Int) > 30 then (tattinglaw16_HuntFew.j0 k l0 l1 true) else (tattinglaw16_HuntFew.j0 k l0 l1 (decide ((l1.length : Int) > 30))))) else (some false))) = some r := h
  clear h
  replace H := Option.bind_eq_some_iff.mp H
  obtain ⟨t183, A30, H⟩ := H
  replace H : (if t183 = true then (if (l0.length : Int) = 0 then (tattinglaw16_HuntFew.j0 k l0 l1 true) else (if (l0.length : Int) > 30 then (tattinglaw16_HuntFew.j0 k l0 l1 true) else (tattinglaw16_HuntFew.j0 k l0 l1 (decide ((l1.length : Int) > 30))))) else (some false)) = some r := H
  have A3 := Aside0.mk A30
  clear A30
  by_cases c4 : t183 = true
  · subst c4
    have H1 : (if (l0.length : Int) = 0 then (tattinglaw16_HuntFew.j0 k l0 l1 true) else (if (l0.length : Int) > 30 then (tattinglaw16_HuntFew.j0 k l0 l1 true) else (tattinglaw16_HuntFew.j0 k l0 l1 (decide ((l1.length : Int) > 30))))) = some r := by rw [if_pos rfl] at H; exact H
    clear H
    have H := H1
    clear H1
    have HC5 := Aside0.mk H
    clear H
    go_enter Try.func7, Try.ntmps7
    go_upto_region 3 with (first | ((with_reducible refine gate_callee (f := 9) rfl ?_); refine goesL_ (some 11) rfl rfl Try.func9 (by kernel_rfl) rfl #[] rfl (by (try simp only [List.map_toArray, List.map_cons, List.map_nil]); first | done | rfl | (simp only [List.length_drop, List.length_take]; rfl)) ?_; (with_reducible refine (tattinglaw16_awake.calls k  true _ A3.out).mono ?_); rintro e w6 ⟨rfl, hb⟩; refine ⟨_, rfl, ?_⟩; have n0_ := Aside0.mk (below_step (by repeat (first | (with_reducible first | exact HB.out | apply below_alloc | apply pw_below_drewN | apply below_drew1) | exact HB.out)) hb); clear HB; have HB := n0_; clear n0_; (try clear hb); (try clear hb2); (try clear hk); (try clear hi)))
    (try simp only [Act.put, List.setIfInBounds_toArray, List.set_cons_zero, List.set_cons_succ])
    go_cut [25] (fun v25 wc => ∃ (kq : Nat) (x25_4 : Bool), v25 = .bool x25_4 ∧ Aside0 (tattinglaw16_HuntFew.j0 kq l0 l1 x25_4 = some r) ∧ Aside0 (kq ≤ k) ∧ Aside0 (Below w.heap.size w wc))
    case first =>
      have H := HC5.out
      clear HC5
      by_cases c7 : (l0.length : Int) = 0
      · rw [if_pos c7] at H
        have c7b0 : ((l0.length : Int) == 0) = true := beq_iff_eq.mpr c7
        have c7b1 : ((l0.length : Int) != 0) = false := bne_eq_false_iff_eq.mpr c7
        clear c7
        (first | rw [c7b0] | (simp only [i64_w, i32_w]; rw [c7b0]) | skip)
        have H' := Aside0.mk H
        clear H
        go_wp2
        go_meet
        case rel => exact ⟨_, (true), (by first | rfl | (simp; done) | (simp [*]; done)), H', ⟨by first | omega | exact Nat.le_refl _⟩, ⟨by repeat (first | (with_reducible first | exact HB.out | apply below_alloc | apply pw_below_drewN | apply below_drew1) | exact HB.out)⟩⟩
      · rw [if_neg c7] at H
        have c7b0 : ((l0.length : Int) == 0) = false := beq_eq_false_iff_ne.mpr c7
        have c7b1 : ((l0.length : Int) != 0) = true := bne_iff_ne.mpr c7
        have c7b2 : ¬ (l0 = []) := fun h_ => c7 (by rw [h_]; rfl)
        (first | rw [c7b0] | (simp only [i64_w, i32_w]; rw [c7b0]) | skip)
        by_cases c8 : (l0.length : Int) > 30
        · rw [if_pos c8] at H
          have c8b0 : decide (30 < (l0.length : Int)) = true := decide_eq_true c8
          have c8b1 : decide (30 < l0.length) = true := decide_eq_true (by omega)
          clear c8
          have H' := Aside0.mk H
          clear H
          go_wp2
          go_meet
          case rel => exact ⟨_, (true), (by first | rfl | (simp; done) | (simp [*]; done)), H', ⟨by first | omega | exact Nat.le_refl _⟩, ⟨by repeat (first | (with_reducible first | exact HB.out | apply below_alloc | apply pw_below_drewN | apply below_drew1) | exact HB.out)⟩⟩
        · rw [if_neg c8] at H
          have c8b0 : decide (30 < (l0.length : Int)) = false := decide_eq_false c8
          have c8b1 : decide (30 < l0.length) = false := decide_eq_false (by omega)
          clear c8
          have H' := Aside0.mk H
          clear H
          go_wp2
          go_meet
          case rel => exact ⟨_, (decide ((l1.length : Int) > 30)), (by first | rfl | (simp; done) | (simp [*]; done)), H', ⟨by first | omega | exact Nat.le_refl _⟩, ⟨by repeat (first | (with_reducible first | exact HB.out | apply below_alloc | apply pw_below_drewN | apply below_drew1) | exact HB.out)⟩⟩
    case rest =>
      clear HC5
      try clear c1
      try clear p2
      try clear c4
      try clear c7
      try clear c7b0
      try clear c7b1
      try clear c7b2
      try clear c8
      try clear c8b0
      try clear c8b1
      obtain ⟨kq, x25_4, rfl, HA, HJ4, HB⟩ := hcut
      cases kq with
      | zero => exact absurd HA.out (by simp [tattinglaw16_HuntFew.j0])
      | succ kj4 =>
        have H := HA.out
        clear HA
        simp only [tattinglaw16_HuntFew.j0] at H
        by_cases c9 : x25_4 = true
        · subst c9
          have H1 : (some true) = some r := by rw [if_pos rfl] at H; exact H
          clear H
          have H := H1
          clear H1
          obtain rfl := Option.some.inj H
          go_wp2
          go_ret
          exact ⟨by first | rfl | (simp [errW_none, errW_some] <;> rfl) | (simp [*, errW_none, errW_some] <;> rfl), by repeat (first | (with_reducible first | exact HB.out | apply below_alloc | apply pw_below_drewN | apply below_drew1) | exact HB.out)⟩
        · replace c9 := Bool.eq_false_iff.mpr c9
          subst c9
          have H1 : ((tattingref1_Few.f kj4 l0 4).bind fun t184 => ((tattingref1_Few.f kj4 l1 4).bind fun t187 => ((hunt_Run.f kj4 t184 t187).bind fun bt190 => (if 1 ≤ (t184.length : Int) then ((hunt_Run.f kj4 (t184.drop 1) t187).bind fun bt198 => (if bt190.2 ≤ (wrap64 ((t184.length : Int) * (t187.length : Int))) then (if (bt190.1.length : Int) ≤ bt190.2 then (if bt198.2 ≤ bt190.2 then (if (bt198.1.length : Int) ≤ (bt190.1.length : Int) then ((tattingref1_Alike.f kj4 (t184.take 1) t187).bind fun t206 => (some ((wrap64 (bt190.2 - bt198.2)) == t206))) else (some false)) else (some false)) else (some false)) else (some false))) else (none))))) = some r := by rw [if_neg (show ¬ (false = true) by decide)] at H; exact H
          clear H
          have H := H1
          clear H1
          replace H := Option.bind_eq_some_iff.mp H
          obtain ⟨t184, A100, H⟩ := H
          replace H : ((tattingref1_Few.f kj4 l1 4).bind fun t187 => ((hunt_Run.f kj4 t184 t187).bind fun bt190 => (if 1 ≤ (t184.length : Int) then ((hunt_Run.f kj4 (t184.drop 1) t187).bind fun bt198 => (if bt190.2 ≤ (wrap64 ((t184.length : Int) * (t187.length : Int))) then (if (bt190.1.length : Int) ≤ bt190.2 then (if bt198.2 ≤ bt190.2 then (if (bt198.1.length : Int) ≤ (bt190.1.length : Int) then ((tattingref1_Alike.f kj4 (t184.take 1) t187).bind fun t206 => (some ((wrap64 (bt190.2 - bt198.2)) == t206))) else (some false)) else (some false)) else (some false)) else (some false))) else (none)))) = some r := H
          have A10 := Aside0.mk A100
          clear A100
          replace H := Option.bind_eq_some_iff.mp H
          obtain ⟨t187, A110, H⟩ := H
          replace H : ((hunt_Run.f kj4 t184 t187).bind fun bt190 => (if 1 ≤ (t184.length : Int) then ((hunt_Run.f kj4 (t184.drop 1) t187).bind fun bt198 => (if bt190.2 ≤ (wrap64 ((t184.length : Int) * (t187.length : Int))) then (if (bt190.1.length : Int) ≤ bt190.2 then (if bt198.2 ≤ bt190.2 then (if (bt198.1.length : Int) ≤ (bt190.1.length : Int) then ((tattingref1_Alike.f kj4 (t184.take 1) t187).bind fun t206 => (some ((wrap64 (bt190.2 - bt198.2)) == t206))) else (some false)) else (some false)) else (some false)) else (some false))) else (none))) = some r := H
          have A11 := Aside0.mk A110
          clear A110
          replace H := Option.bind_eq_some_iff.mp H
          obtain ⟨⟨t190, t191⟩, A120, H⟩ := H
          replace H : (if 1 ≤ (t184.length : Int) then ((hunt_Run.f kj4 (t184.drop 1) t187).bind fun bt198 => (if t191 ≤ (wrap64 ((t184.length : Int) * (t187.length : Int))) then (if (t190.length : Int) ≤ t191 then (if bt198.2 ≤ t191 then (if (bt198.1.length : Int) ≤ (t190.length : Int) then ((tattingref1_Alike.f kj4 (t184.take 1) t187).bind fun t206 => (some ((wrap64 (t191 - bt198.2)) == t206))) else (some false)) else (some false)) else (some false)) else (some false))) else (none)) = some r := H
          have A12 := Aside0.mk A120
          clear A120
          by_cases c13 : 1 ≤ (t184.length : Int)
          · rw [if_pos c13] at H
            have c13b0 := eq_true c13
            have c13b1 : decide (1 ≤ (t184.length : Int)) = true := decide_eq_true c13
            clear c13
            obtain ⟨y194, hy194⟩ : ∃ y_ : List Int, y_ = (t184.drop 1) := ⟨_, rfl⟩
            replace H : ((hunt_Run.f kj4 y194 t187).bind fun bt198 => (if t191 ≤ (wrap64 ((t184.length : Int) * (t187.length : Int))) then (if (t190.length : Int) ≤ t191 then (if bt198.2 ≤ t191 then (if (bt198.1.length : Int) ≤ (t190.length : Int) then ((tattingref1_Alike.f kj4 (t184.take 1) t187).bind fun t206 => (some ((wrap64 (t191 - bt198.2)) == t206))) else (some false)) else (some false)) else (some false)) else (some false))) = some r := by first | (rw [hy194]; with_reducible exact H) | (have H2_ := (Option.bind_some _ _).symm.trans H; rw [hy194]; with_reducible exact H2_) | (have H2_ := (Option.bind_some _ _).symm.trans H; with_reducible exact H2_) | with_reducible exact H | (rw [hy194]; exact H) | exact H
            have Ny194 := Aside0.mk hy194
            clear hy194
            replace H := Option.bind_eq_some_iff.mp H
            obtain ⟨⟨t198, t199⟩, A140, H⟩ := H
            replace H : (if t191 ≤ (wrap64 ((t184.length : Int) * (t187.length : Int))) then (if (t190.length : Int) ≤ t191 then (if t199 ≤ t191 then (if (t198.length : Int) ≤ (t190.length : Int) then ((tattingref1_Alike.f kj4 (t184.take 1) t187).bind fun t206 => (some ((wrap64 (t191 - t199)) == t206))) else (some false)) else (some false)) else (some false)) else (some false)) = some r := H
            have A14 := Aside0.mk A140
            clear A140
            by_cases c15 : t191 ≤ (wrap64 ((t184.length : Int) * (t187.length : Int)))
            · rw [if_pos c15] at H
              have c15b0 : decide (t191 ≤ (wrap64 ((t184.length : Int) * (t187.length : Int)))) = true := decide_eq_true c15
              clear c15
              by_cases c16 : (t190.length : Int) ≤ t191
              · rw [if_pos c16] at H
                have c16b0 : decide ((t190.length : Int) ≤ t191) = true := decide_eq_true c16
                clear c16
                by_cases c17 : t199 ≤ t191
                · rw [if_pos c17] at H
                  have c17b0 : decide (t199 ≤ t191) = true := decide_eq_true c17
                  clear c17
                  by_cases c18 : (t198.length : Int) ≤ (t190.length : Int)
                  · rw [if_pos c18] at H
                    have c18b0 : decide ((t198.length : Int) ≤ (t190.length : Int)) = true := decide_eq_true c18
                    have c18b1 : decide (t198.length ≤ t190.length) = true := decide_eq_true (Int.ofNat_le.mp c18)
                    clear c18
                    have c19b0 := eq_true (of_decide_eq_true (by first | (with_reducible assumption) | assumption) : 1 ≤ (t184.length : Int))
                    obtain ⟨y202, hy202⟩ : ∃ y_ : List Int, y_ = (t184.take 1) := ⟨_, rfl⟩
                    replace H : ((tattingref1_Alike.f kj4 y202 t187).bind fun t206 => (some ((wrap64 (t191 - t199)) == t206))) = some r := by first | (rw [hy202]; with_reducible exact H) | (have H2_ := (Option.bind_some _ _).symm.trans H; rw [hy202]; with_reducible exact H2_) | (have H2_ := (Option.bind_some _ _).symm.trans H; with_reducible exact H2_) | with_reducible exact H | (rw [hy202]; exact H) | exact H
                    have Ny202 := Aside0.mk hy202
                    clear hy202
                    replace H := Option.bind_eq_some_iff.mp H
                    obtain ⟨t206, A200, H⟩ := H
                    replace H : (some ((wrap64 (t191 - t199)) == t206)) = some r := H
                    have A20 := Aside0.mk A200
                    clear A200
                    obtain rfl := Option.some.inj H
                    go_wp2_with (first | ((with_reducible refine gate_callee (f := 12) rfl ?_); refine goesL_ (some 27) rfl rfl Try.func12 (by kernel_rfl) rfl #[.slice A0 l0.length c0, .int .i64 4] rfl (by (try simp only [List.map_toArray, List.map_cons, List.map_nil]); first | done | rfl | (simp only [List.length_drop, List.length_take]; rfl)) ?_; (with_reducible refine (tattingref1_Few.calls kj4 _ _ l0 4 t184 _ ?side1 ?side2 A10.out).mono ?_); (case side1 => repeat (first | exact (Kd.C_below HR0.out HB.out) | (with_reducible refine Kd.C_alloc ?_ _) | (with_reducible refine Kd.C_drewN ?_ _) | (with_reducible refine Kd.C_drew ?_))); (case side2 => exact HC0.out); rintro e w21 ⟨v185, rfl, ho0, hb⟩; refine ⟨_, rfl, ?_⟩; have n0_ := Aside0.mk (Kd.R_lower ho0 (below_size (by repeat (first | (with_reducible first | exact HB.out | apply below_alloc | apply pw_below_drewN | apply below_drew1) | exact HB.out)))); have n1_ := Aside0.mk (below_step (by repeat (first | (with_reducible first | exact HB.out | apply below_alloc | apply pw_below_drewN | apply below_drew1) | exact HB.out)) hb); clear HB; have HO186 := n0_; have HB := n1_; clear n0_ n1_; (try clear hb); (try clear hb2); (try clear hk); (try clear hi); (try clear ho0)) | ((with_reducible refine gate_callee (f := 12) rfl ?_); refine goesL_ (some 29) rfl rfl Try.func12 (by kernel_rfl) rfl #[.slice A1 l1.length c1, .int .i64 4] rfl (by (try simp only [List.map_toArray, List.map_cons, List.map_nil]); first | done | rfl | (simp only [List.length_drop, List.length_take]; rfl)) ?_; (with_reducible refine (tattingref1_Few.calls kj4 _ _ l1 4 t187 _ ?side1 ?side2 A11.out).mono ?_); (case side1 => repeat (first | exact (Kd.C_below HR1.out HB.out) | (with_reducible refine Kd.C_alloc ?_ _) | (with_reducible refine Kd.C_drewN ?_ _) | (with_reducible refine Kd.C_drew ?_))); (case side2 => exact HC1.out); rintro e w22 ⟨v188, rfl, ho0, hb⟩; refine ⟨_, rfl, ?_⟩; have n0_ := Aside0.mk (Kd.R_elder' (by (with_reducible repeat (first | apply Kd.R_alloc | apply Kd.R_drewN | apply Kd.R_drew)); exact HO186.out) (Kd.R_base ho0) hb); have n1_ := Aside0.mk (Kd.R_lower (Kd.R_new' ho0 (Kd.R_lt (by (with_reducible repeat (first | apply Kd.R_alloc | apply Kd.R_drewN | apply Kd.R_drew)); exact HO186.out))) (below_size (by repeat (first | (with_reducible first | exact HB.out | apply below_alloc | apply pw_below_drewN | apply below_drew1) | exact HB.out)))); have n2_ := Aside0.mk (below_step (by repeat (first | (with_reducible first | exact HB.out | apply below_alloc | apply pw_below_drewN | apply below_drew1) | exact HB.out)) hb); clear HO186; clear HB; have HO186 := n0_; have HO189 := n1_; have HB := n2_; clear n0_ n1_ n2_; (try clear hb); (try clear hb2); (try clear hk); (try clear hi); (try clear ho0); obtain ⟨Ao23, co23, eo23⟩ := Kd.R_slice HO186.out; subst eo23; obtain ⟨Ao24, co24, eo24⟩ := Kd.R_slice HO189.out; subst eo24) | ((with_reducible refine gate_callee (f := 8) rfl ?_); refine goesL_ (some 33) rfl rfl Try.func8 (by kernel_rfl) rfl #[.slice Ao23 t184.length co23, .slice Ao24 t187.length co24] rfl (by (try simp only [List.map_toArray, List.map_cons, List.map_nil]); first | done | rfl | (simp only [List.length_drop, List.length_take]; rfl)) ?_; (with_reducible refine (hunt_Run.calls kj4 _ _ t184 _ _ t187 t190 t191 _ ?side1 ?side2 ?side3 ?side4 A12.out).mono ?_); (case side1 => repeat (first | exact (Kd.R_reads' HO186.out).2.2 | (with_reducible refine Kd.C_alloc ?_ _) | (with_reducible refine Kd.C_drewN ?_ _) | (with_reducible refine Kd.C_drew ?_))); (case side2 => exact (Kd.R_reads' HO186.out).2.1); (case side3 => repeat (first | exact (Kd.R_reads' HO189.out).2.2 | (with_reducible refine Kd.C_alloc ?_ _) | (with_reducible refine Kd.C_drewN ?_ _) | (with_reducible refine Kd.C_drew ?_))); (case side4 => exact (Kd.R_reads' HO189.out).2.1); rintro e w25 ⟨v192, rfl, ho0, hb⟩; refine ⟨_, rfl, ?_⟩; have n0_ := Aside0.mk (Kd.R_below (by (with_reducible repeat (first | apply Kd.R_alloc | apply Kd.R_drewN | apply Kd.R_drew)); exact HO186.out) hb); have n1_ := Aside0.mk (Kd.R_below (by (with_reducible repeat (first | apply Kd.R_alloc | apply Kd.R_drewN | apply Kd.R_drew)); exact HO189.out) hb); have n2_ := Aside0.mk (Kd.R_lower ho0 (below_size (by repeat (first | (with_reducible first | exact HB.out | apply below_alloc | apply pw_below_drewN | apply below_drew1) | exact HB.out)))); have n3_ := Aside0.mk (below_step (by repeat (first | (with_reducible first | exact HB.out | apply below_alloc | apply pw_below_drewN | apply below_drew1) | exact HB.out)) hb); clear HO186; clear HO189; clear HB; have HO186 := n0_; have HO189 := n1_; have HO193 := n2_; have HB := n3_; clear n0_ n1_ n2_ n3_; (try clear hb); (try clear hb2); (try clear hk); (try clear hi); (try clear ho0); have q26 : (1 : Int) ≤ ((t184.length : Int) : Int) := of_decide_eq_true (by first | (with_reducible assumption) | assumption); obtain ⟨i026, hi026, _, hsz26, _⟩ := info_parts info3; have hroom26 : t184.length ≤ co23 := (Kd.R_reads' HO186.out).2.1; have hC26 : Kd.C (Kd.int .i64) _ Ao23 t184.length t184 := (Kd.R_reads' HO186.out).2.2; have hcut26 := cut_from (P := Try.prog) 25 3 .i64 Try.underlying25 hi026 1 hsz26 Ao23 t184.length co23 1 (by omega) q26; have hr26 := Kd.C_drop (m := (1 : Int).toNat) (c := co23) hC26 (by omega) hroom26; obtain ⟨A26, hA26⟩ : ∃ A1, A1 = (if co23 = (1 : Int).toNat then Ao23 else (Ao23 : Option Addr).map (·.add ((1 : Int).toNat * 1))) := ⟨_, rfl⟩; obtain ⟨c26, hc26⟩ : ∃ c1, c1 = co23 - (1 : Int).toNat := ⟨_, rfl⟩; have hy26 : y194.length = t184.length - (1 : Int).toNat := (by rw [Ny194.out, List.length_drop] <;> omega); rw [show (t184).drop (1 : Int).toNat = y194 from Ny194.out.symm] at hr26; replace hr26 : Kd.C (Kd.int .i64) _ A26 y194.length y194 := (by rw [hA26]; exact hr26); rw [← hy26, ← hA26, ← hc26] at hcut26; have HR197 := Aside0.mk hr26; have HC197 := Aside0.mk (show y194.length ≤ c26 from by rw [hy26, hc26]; exact Nat.sub_le_sub_right hroom26 _); clear hr26 hC26 hroom26 hi026 hsz26 hc26; have KY26 := Aside0.mk hy26; have KA26 := Aside0.mk hA26; clear hy26 hA26; have KL26 := Aside0.mk (show 1 ≤ t184.length from by omega); replace q26 := eq_true q26) | ((with_reducible refine gate_callee (f := 8) rfl ?_); refine goesL_ (some 40) rfl rfl Try.func8 (by kernel_rfl) rfl #[.slice A26 y194.length c26, .slice Ao24 t187.length co24] rfl (by (try simp only [List.map_toArray, List.map_cons, List.map_nil]); first | done | rfl | (simp only [List.length_drop, List.length_take]; rfl)) ?_; (with_reducible refine (hunt_Run.calls kj4 _ _ y194 _ _ t187 t198 t199 _ ?side1 ?side2 ?side3 ?side4 A14.out).mono ?_); (case side1 => repeat (first | exact (by repeat (first | (with_reducible exact HR197.out) | (with_reducible refine Kd.C_alloc ?_ _) | (with_reducible refine Kd.C_drewN ?_ _) | (with_reducible refine Kd.C_drew ?_) | exact HR197.out)) | (with_reducible refine Kd.C_alloc ?_ _) | (with_reducible refine Kd.C_drewN ?_ _) | (with_reducible refine Kd.C_drew ?_))); (case side2 => exact HC197.out); (case side3 => repeat (first | exact (Kd.R_reads' HO189.out).2.2 | (with_reducible refine Kd.C_alloc ?_ _) | (with_reducible refine Kd.C_drewN ?_ _) | (with_reducible refine Kd.C_drew ?_))); (case side4 => exact (Kd.R_reads' HO189.out).2.1); rintro e w27 ⟨v200, rfl, ho0, hb⟩; refine ⟨_, rfl, ?_⟩; have n0_ := Aside0.mk (Kd.R_below (by (with_reducible repeat (first | apply Kd.R_alloc | apply Kd.R_drewN | apply Kd.R_drew)); exact HO186.out) hb); have n1_ := Aside0.mk (Kd.R_below (by (with_reducible repeat (first | apply Kd.R_alloc | apply Kd.R_drewN | apply Kd.R_drew)); exact HO189.out) hb); have n2_ := Aside0.mk (Kd.R_elder' (by (with_reducible repeat (first | apply Kd.R_alloc | apply Kd.R_drewN | apply Kd.R_drew)); exact HO193.out) (Kd.R_base ho0) hb); have n3_ := Aside0.mk (Kd.R_lower (Kd.R_new' ho0 (Kd.R_lt (by (with_reducible repeat (first | apply Kd.R_alloc | apply Kd.R_drewN | apply Kd.R_drew)); exact HO193.out))) (below_size (by repeat (first | (with_reducible first | exact HB.out | apply below_alloc | apply pw_below_drewN | apply below_drew1) | exact HB.out)))); have n4_ := Aside0.mk (Kd.C_below (by repeat (first | (with_reducible exact HR197.out) | (with_reducible refine Kd.C_alloc ?_ _) | (with_reducible refine Kd.C_drewN ?_ _) | (with_reducible refine Kd.C_drew ?_) | exact HR197.out)) hb); have n5_ := Aside0.mk (below_step (by repeat (first | (with_reducible first | exact HB.out | apply below_alloc | apply pw_below_drewN | apply below_drew1) | exact HB.out)) hb); clear HO186; clear HO189; clear HO193; clear HR197; clear HB; have HO186 := n0_; have HO189 := n1_; have HO193 := n2_; have HO201 := n3_; have HR197 := n4_; have HB := n5_; clear n0_ n1_ n2_ n3_ n4_ n5_; (try clear hb); (try clear hb2); (try clear hk); (try clear hi); (try clear ho0); obtain ⟨Ao28, co28, eo28⟩ := Kd.R_slice HO193.out; subst eo28; obtain ⟨Ao29, co29, eo29⟩ := Kd.R_slice HO201.out; subst eo29; have q30 : (1 : Int) ≤ ((t184.length : Int) : Int) := of_decide_eq_true (by first | (with_reducible assumption) | assumption); obtain ⟨i030, hi030, _, hsz30, _⟩ := info_parts info3; have hroom30 : t184.length ≤ co23 := (Kd.R_reads' HO186.out).2.1; have hC30 : Kd.C (Kd.int .i64) _ Ao23 t184.length t184 := (Kd.R_reads' HO186.out).2.2; have hcut30 := cut_to (P := Try.prog) 25 3 .i64 Try.underlying25 hi030 Ao23 t184.length co23 1 (by omega) q30 hroom30; have hr30 := Kd.C_take (m := 1) hC30 (by omega); have hy30 : y202.length = (1 : Int).toNat := (by rw [Ny202.out, List.length_take]; omega); rw [← Ny202.out] at hr30; rw [← hy30] at hcut30; have HR205 := Aside0.mk hr30; have HC205 := Aside0.mk (show y202.length ≤ co23 from by omega); clear hr30 hC30 hroom30 hi030 hsz30; have KY30 := Aside0.mk hy30; clear hy30; have KL30 := Aside0.mk (show 1 ≤ t184.length from by omega); replace q30 := eq_true q30) | (go_at_call 15; (with_reducible refine (tattingref1_Alike.calls kj4 _ _ y202 _ _ t187 t206 _ ?side1 ?side2 ?side3 ?side4 A20.out).mono ?_); (case side1 => repeat (first | exact (by repeat (first | (with_reducible exact HR205.out) | (with_reducible refine Kd.C_alloc ?_ _) | (with_reducible refine Kd.C_drewN ?_ _) | (with_reducible refine Kd.C_drew ?_) | exact HR205.out)) | (with_reducible refine Kd.C_alloc ?_ _) | (with_reducible refine Kd.C_drewN ?_ _) | (with_reducible refine Kd.C_drew ?_))); (case side2 => exact HC205.out); (case side3 => repeat (first | exact (Kd.R_reads' HO189.out).2.2 | (with_reducible refine Kd.C_alloc ?_ _) | (with_reducible refine Kd.C_drewN ?_ _) | (with_reducible refine Kd.C_drew ?_))); (case side4 => exact (Kd.R_reads' HO189.out).2.1); rintro e w' ⟨rfl, ⟨nd, rfl⟩⟩))
                    go_ret
                    exact ⟨by first | rfl | (simp [errW_none, errW_some] <;> rfl) | (simp [*, errW_none, errW_some] <;> rfl), by repeat (first | (with_reducible first | exact HB.out | apply below_alloc | apply pw_below_drewN | apply below_drew1) | exact HB.out)⟩
                  · rw [if_neg c18] at H
                    have c18b0 : decide ((t198.length : Int) ≤ (t190.length : Int)) = false := decide_eq_false c18
                    have c18b1 : decide (t198.length ≤ t190.length) = false := decide_eq_false (fun h => c18 (Int.ofNat_le.mpr h))
                    clear c18
                    exact absurd (Option.some.inj H) (by rw [HRT.out]; decide)
                · rw [if_neg c17] at H
                  have c17b0 : decide (t199 ≤ t191) = false := decide_eq_false c17
                  clear c17
                  exact absurd (Option.some.inj H) (by rw [HRT.out]; decide)
              · rw [if_neg c16] at H
                have c16b0 : decide ((t190.length : Int) ≤ t191) = false := decide_eq_false c16
                clear c16
                exact absurd (Option.some.inj H) (by rw [HRT.out]; decide)
            · rw [if_neg c15] at H
              have c15b0 : decide (t191 ≤ (wrap64 ((t184.length : Int) * (t187.length : Int)))) = false := decide_eq_false c15
              clear c15
              exact absurd (Option.some.inj H) (by rw [HRT.out]; decide)
          · rw [if_neg c13] at H
            exact absurd H (by simp)
  · replace c4 := Bool.eq_false_iff.mpr c4
    subst c4
    have H1 : (some false) = some r := by rw [if_neg (show ¬ (false = true) by decide)] at H; exact H
    clear H
    have H := H1
    clear H1
    exact absurd (Option.some.inj H) (by rw [HRT.out]; decide)

/-- THE ONE PURE STATEMENT of tattinglaw16_HuntFew: yours. -/
def tattinglaw16_HuntFew.Pure : Prop := ∀ (l0 : List Int) (l1 : List Int), l0.length ≤ maxLen → l0.length * 8 ≤ 140737488351232 → (∀ x ∈ l0, (Lit.int .i64 x).wf = true) → l1.length ≤ maxLen → l1.length * 8 ≤ 140737488351232 → (∀ x ∈ l1, (Lit.int .i64 x).wf = true) → ∃ k, tattinglaw16_HuntFew.f k l0 l1 = some true
theorem tattinglaw16_HuntFew.walk (P : tattinglaw16_HuntFew.Pure) (a0 : Option Addr) (len0 cap0 : Nat) (z0 : List Int) (a1 : Option Addr) (len1 cap1 : Nat) (z1 : List Int) (w : World) (w0 : (a0 = none ∧ len0 = 0 ∧ cap0 = 0 ∧ z0 = []) ∨ ∃ x, a0 = some x ∧ len0 ≤ cap0 ∧ cap0 ≤ maxLen ∧ z0.length = cap0 ∧ (∀ i, i < z0.length → w.cell? (x.add i) = some (.int .i64 (z0.getD i 0))) ∧ ∀ n ∈ z0, (Lit.int .i64 n).wf = true) (y0 : len0 * 8 ≤ 140737488351232) (w1 : (a1 = none ∧ len1 = 0 ∧ cap1 = 0 ∧ z1 = []) ∨ ∃ x, a1 = some x ∧ len1 ≤ cap1 ∧ cap1 ≤ maxLen ∧ z1.length = cap1 ∧ (∀ i, i < z1.length → w.cell? (x.add i) = some (.int .i64 (z1.getD i 0))) ∧ ∀ n ∈ z1, (Lit.int .i64 n).wf = true) (y1 : len1 * 8 ≤ 140737488351232) :
    Calls Try.prog 7 #[.slice a0 len0 cap0, .slice a1 len1 cap1] w fun e w' => e = .returned (.bool true) ∧ Below w.heap.size w w' := by
  obtain ⟨l0, rfl, hr0, hm0, hw0, hc0⟩ := ReadsInt.ofRowC w0
  obtain ⟨l1, rfl, hr1, hm1, hw1, hc1⟩ := ReadsInt.ofRowC w1
  obtain ⟨k, h⟩ := P l0 l1 hm0 y0 hw0 hm1 y1 hw1
  refine (tattinglaw16_HuntFew.calls k _ _ l0 _ _ l1 true w (Kd.C_of_reads (d := (0 : Int)) (h1 := fun _ => rfl) hr0) hc0 (Kd.C_of_reads (d := (0 : Int)) (h1 := fun _ => rfl) hr1) hc1 h ⟨rfl⟩).mono ?_
  rintro e w' ⟨rfl, hd⟩
  exact ⟨rfl, hd⟩

end Go.Proofs.Ytkhplimibgjmoaa.PHuntFew
