-- PRINTED BY print.sh 35421559b90ae4d0a3588c463048766b98c2df88dd9212a6774a882060cdf62d: not written by this session
import Derived.Test.YtclddnajmcngcaaPOccurPartsx0
import Derived.Test.YtclddnajmcngcaaPOccurPartsx1
namespace Go.Proofs.Ytclddnajmcngcaa.POccurParts
open Go.RowKit Go.Proofs.YtclddnajmcngcaaW.PrintWords Go.Proofs.YtclddnajmcngcaaW.PrintLast Go.Proofs.YtclddnajmcngcaaW.PrintMore
attribute [local go_sem] max2_int min2_int max_two min_two max_three min_three max_four min_four   -- for this text's walks alone
set_option linter.unusedVariables false
set_option linter.unusedSimpArgs false

/-! ### tattinglaw4_OccurParts: function 4 -/
mutual
def tattinglaw4_OccurParts.j0 : Nat → List Int → List (List Int) → Bool → Option (Bool)
  | 0, _, _, _ => none
  | k + 1, x3, x4, x29 => if x29 = true then (some false) else (tattinglaw4_OccurParts.l0 k x3 x4 0 0 0)
def tattinglaw4_OccurParts.l0 : Nat → List Int → List (List Int) → Int → Int → Int → Option (Bool)
  | 0, _, _, _, _, _ => none
  | k + 1, x3, x4, x6, x7, x8 => if x8 < 8 then (tattinglaw4_OccurParts.l1 k x3 x4 x6 x7 x8 0) else (if x6 = (x3.length : Int) then ((occur_Most.f k x4).bind fun t142 => (some (t142 == x7))) else (some false))
def tattinglaw4_OccurParts.l1 : Nat → List Int → List (List Int) → Int → Int → Int → Int → Option (Bool)
  | 0, _, _, _, _, _, _ => none
  | k + 1, x3, x4, x6, x7, x8, x9 => if 0 ≤ x8 then (if x8 < (x4.length : Int) then (if x9 < ((rd_L1 x4 x8).length : Int) then (if 0 ≤ x9 then (if (rd (rd_L1 x4 x8) x9) < 0 then (some false) else (if (rd (rd_L1 x4 x8) x9) ≥ (x3.length : Int) then (some false) else (if 0 ≤ (rd (rd_L1 x4 x8) x9) then (if (rd (rd_L1 x4 x8) x9) < (x3.length : Int) then (if (rd x3 (rd (rd_L1 x4 x8) x9)) = x8 then (if x9 > 0 then (if 0 ≤ (wrap64 (x9 - 1)) then (if (wrap64 (x9 - 1)) < ((rd_L1 x4 x8).length : Int) then (if (rd (rd_L1 x4 x8) x9) ≤ (rd (rd_L1 x4 x8) (wrap64 (x9 - 1))) then (some false) else (tattinglaw4_OccurParts.l1 k x3 x4 (wrap64 (x6 + 1)) x7 x8 (wrap64 (x9 + 1)))) else (none)) else (none)) else (tattinglaw4_OccurParts.l1 k x3 x4 (wrap64 (x6 + 1)) x7 x8 (wrap64 (x9 + 1)))) else (some false)) else (none)) else (none)))) else (none)) else (tattinglaw4_OccurParts.l0 k x3 x4 x6 (mx x7 ((rd_L1 x4 x8).length : Int)) (wrap64 (x8 + 1)))) else (none)) else (none)
end
def tattinglaw4_OccurParts.f (k : Nat) (l0 : List Int) : Option (Bool) := (tattinglaw4_awake.f k).bind fun t134 => (if t134 = true then (if (l0.length : Int) > 80 then (some true) else ((tattingref1_Few.f k l0 8).bind fun t135 => ((occur_Of.f k 8 t135).bind fun bt138 => (if bt138.2 = 0 then (tattinglaw4_OccurParts.j0 k t135 bt138.1 ((bt138.1.length : Int) != 8)) else (tattinglaw4_OccurParts.j0 k t135 bt138.1 true))))) else (some false))
theorem tattinglaw4_OccurParts.mono_l : ∀ k, (∀ y0 y1 y2, LeO (tattinglaw4_OccurParts.j0 k y0 y1 y2) (tattinglaw4_OccurParts.j0 (k + 1) y0 y1 y2)) ∧ (∀ y0 y1 y2 y3 y4, LeO (tattinglaw4_OccurParts.l0 k y0 y1 y2 y3 y4) (tattinglaw4_OccurParts.l0 (k + 1) y0 y1 y2 y3 y4)) ∧ (∀ y0 y1 y2 y3 y4 y5, LeO (tattinglaw4_OccurParts.l1 k y0 y1 y2 y3 y4 y5) (tattinglaw4_OccurParts.l1 (k + 1) y0 y1 y2 y3 y4 y5))
  | 0 => ⟨fun _ _ _ r h => by simp [tattinglaw4_OccurParts.j0] at h, fun _ _ _ _ _ r h => by simp [tattinglaw4_OccurParts.l0] at h, fun _ _ _ _ _ _ r h => by simp [tattinglaw4_OccurParts.l1] at h⟩
  | k + 1 => by
    obtain ⟨ih0, ih1, ih2⟩ := tattinglaw4_OccurParts.mono_l k
    refine ⟨?_, ?_, ?_⟩
    · intro y0 y1 y2
      unfold tattinglaw4_OccurParts.j0
      repeat' first
      | (with_reducible exact ih0 _ _ _)
      | (with_reducible exact ih1 _ _ _ _ _)
      | (with_reducible exact ih2 _ _ _ _ _ _)
      | (with_reducible exact occur_Most.mono _ _)
      | (with_reducible exact occur_Of.mono _ _ _)
      | (with_reducible exact tattinglaw4_awake.mono _)
      | (with_reducible exact tattingref1_Few.mono _ _ _)
      | (with_reducible exact LeO.refl _)
      | (with_reducible exact LeO.none _)
      | (with_reducible refine LeO.ite ?_ ?_)
      | (with_reducible refine LeO.bind ?_ (fun _ => ?_))
      | exact ih0 _ _ _
      | exact ih1 _ _ _ _ _
      | exact ih2 _ _ _ _ _ _
      | exact occur_Most.mono _ _
      | exact occur_Of.mono _ _ _
      | exact tattinglaw4_awake.mono _
      | exact tattingref1_Few.mono _ _ _
      | exact LeO.none _
      | refine LeO.ite ?_ ?_
      | refine LeO.bind ?_ (fun _ => ?_)
    · intro y0 y1 y2 y3 y4
      unfold tattinglaw4_OccurParts.l0
      repeat' first
      | (with_reducible exact ih0 _ _ _)
      | (with_reducible exact ih1 _ _ _ _ _)
      | (with_reducible exact ih2 _ _ _ _ _ _)
      | (with_reducible exact occur_Most.mono _ _)
      | (with_reducible exact occur_Of.mono _ _ _)
      | (with_reducible exact tattinglaw4_awake.mono _)
      | (with_reducible exact tattingref1_Few.mono _ _ _)
      | (with_reducible exact LeO.refl _)
      | (with_reducible exact LeO.none _)
      | (with_reducible refine LeO.ite ?_ ?_)
      | (with_reducible refine LeO.bind ?_ (fun _ => ?_))
      | exact ih0 _ _ _
      | exact ih1 _ _ _ _ _
      | exact ih2 _ _ _ _ _ _
      | exact occur_Most.mono _ _
      | exact occur_Of.mono _ _ _
      | exact tattinglaw4_awake.mono _
      | exact tattingref1_Few.mono _ _ _
      | exact LeO.none _
      | refine LeO.ite ?_ ?_
      | refine LeO.bind ?_ (fun _ => ?_)
    · intro y0 y1 y2 y3 y4 y5
      unfold tattinglaw4_OccurParts.l1
      repeat' first
      | (with_reducible exact ih0 _ _ _)
      | (with_reducible exact ih1 _ _ _ _ _)
      | (with_reducible exact ih2 _ _ _ _ _ _)
      | (with_reducible exact occur_Most.mono _ _)
      | (with_reducible exact occur_Of.mono _ _ _)
      | (with_reducible exact tattinglaw4_awake.mono _)
      | (with_reducible exact tattingref1_Few.mono _ _ _)
      | (with_reducible exact LeO.refl _)
      | (with_reducible exact LeO.none _)
      | (with_reducible refine LeO.ite ?_ ?_)
      | (with_reducible refine LeO.bind ?_ (fun _ => ?_))
      | exact ih0 _ _ _
      | exact ih1 _ _ _ _ _
      | exact ih2 _ _ _ _ _ _
      | exact occur_Most.mono _ _
      | exact occur_Of.mono _ _ _
      | exact tattinglaw4_awake.mono _
      | exact tattingref1_Few.mono _ _ _
      | exact LeO.none _
      | refine LeO.ite ?_ ?_
      | refine LeO.bind ?_ (fun _ => ?_)
theorem tattinglaw4_OccurParts.mono : ∀ a0 k, LeO (tattinglaw4_OccurParts.f k a0) (tattinglaw4_OccurParts.f (k + 1) a0) := by
  intro a0 k
  obtain ⟨ih0, ih1, ih2⟩ := tattinglaw4_OccurParts.mono_l k
  unfold tattinglaw4_OccurParts.f
  repeat' first
      | (with_reducible exact ih0 _ _ _)
      | (with_reducible exact ih1 _ _ _ _ _)
      | (with_reducible exact ih2 _ _ _ _ _ _)
      | (with_reducible exact occur_Most.mono _ _)
      | (with_reducible exact occur_Of.mono _ _ _)
      | (with_reducible exact tattinglaw4_awake.mono _)
      | (with_reducible exact tattingref1_Few.mono _ _ _)
      | (with_reducible exact LeO.refl _)
      | (with_reducible exact LeO.none _)
      | (with_reducible refine LeO.ite ?_ ?_)
      | (with_reducible refine LeO.bind ?_ (fun _ => ?_))
      | exact ih0 _ _ _
      | exact ih1 _ _ _ _ _
      | exact ih2 _ _ _ _ _ _
      | exact occur_Most.mono _ _
      | exact occur_Of.mono _ _ _
      | exact tattinglaw4_awake.mono _
      | exact tattingref1_Few.mono _ _ _
      | exact LeO.none _
      | refine LeO.ite ?_ ?_
      | refine LeO.bind ?_ (fun _ => ?_)
set_option maxHeartbeats 8000000 in
set_option maxRecDepth 100000 in
theorem tattinglaw4_OccurParts.calls (k : Nat) (A0 : Option Addr) (c0 : Nat) (l0 : List Int) (r : Bool) (w : World) (hr0 : Kd.C (Kd.int .i64) w A0 l0.length l0) (hc0 : l0.length ≤ c0) (h : tattinglaw4_OccurParts.f k l0 = some r) :
    Calls Try.prog 4 #[.slice A0 l0.length c0] w fun e w' => e = .returned (.bool r) ∧ Below w.heap.size w w' := by
  have HR0 := Aside0.mk hr0
  have HC0 := Aside0.mk hc0
  clear hr0 hc0
  have HB := Aside0.mk (Below.refl w.heap.size w)
  have H : ((tattinglaw4_awake.f k).bind fun t134 => (if t134 = true then (if (l0.length : Int) > 80 then (some true) else ((tattingref1_Few.f k l0 8).bind fun t135 => ((occur_Of.f k 8 t135).bind fun bt138 => (if bt138.2 = 0 then (tattinglaw4_OccurParts.j0 k t135 bt138.1 ((bt138.1.length : Int) != 8)) else (tattinglaw4_OccurParts.j0 k t135 bt138.1 true))))) else (some false))) = some r := h
  clear h
  replace H := Option.bind_eq_some_iff.mp H
  obtain ⟨t134, A20, H⟩ := H
  replace H : (if t134 = true then (if (l0.length : Int) > 80 then (some true) else ((tattingref1_Few.f k l0 8).bind fun t135 => ((occur_Of.f k 8 t135).bind fun bt138 => (if bt138.2 = 0 then (tattinglaw4_OccurParts.j0 k t135 bt138.1 ((bt138.1.length : Int) != 8)) else (tattinglaw4_OccurParts.j0 k t135 bt138.1 true))))) else (some false)) = some r := H
  have A2 := Aside0.mk A20
  clear A20
  by_cases c3 : t134 = true
  · subst c3
    have H1 : (if (l0.length : Int) > 80 then (some true) else ((tattingref1_Few.f k l0 8).bind fun t135 => ((occur_Of.f k 8 t135).bind fun bt138 => (if bt138.2 = 0 then (tattinglaw4_OccurParts.j0 k t135 bt138.1 ((bt138.1.length : Int) != 8)) else (tattinglaw4_OccurParts.j0 k t135 bt138.1 true))))) = some r := by rw [if_pos rfl] at H; exact H
    clear H
    have H := H1
    clear H1
    by_cases c4 : (l0.length : Int) > 80
    · rw [if_pos c4] at H
      have c4b0 : decide (80 < (l0.length : Int)) = true := decide_eq_true c4
      have c4b1 : decide (80 < l0.length) = true := decide_eq_true (by omega)
      clear c4
      obtain rfl := Option.some.inj H
      go_enter Try.func4, Try.ntmps4
      go_wp2_with (first | ((with_reducible refine gate_callee (f := 8) rfl ?_); refine goesL_ (some 11) rfl rfl Try.func8 (by kernel_rfl) rfl #[] rfl (by (try simp only [List.map_toArray, List.map_cons, List.map_nil]); first | done | rfl | (simp only [List.length_drop, List.length_take]; rfl)) ?_; (with_reducible refine (tattinglaw4_awake.calls k  true _ A2.out).mono ?_); rintro e w5 ⟨rfl, hb⟩; refine ⟨_, rfl, ?_⟩; have n0_ := Aside0.mk (below_step (by repeat (first | (with_reducible first | exact HB.out | apply below_alloc | apply pw_below_drewN | apply below_drew1) | exact HB.out)) hb); clear HB; have HB := n0_; clear n0_; (try clear hb); (try clear hb2); (try clear hk); (try clear hi)))
      go_ret
      exact ⟨by first | rfl | (simp [errW_none, errW_some] <;> rfl) | (simp [*, errW_none, errW_some] <;> rfl), by repeat (first | (with_reducible first | exact HB.out | apply below_alloc | apply pw_below_drewN | apply below_drew1) | exact HB.out)⟩
    · rw [if_neg c4] at H
      have c4b0 : decide (80 < (l0.length : Int)) = false := decide_eq_false c4
      have c4b1 : decide (80 < l0.length) = false := decide_eq_false (by omega)
      clear c4
      replace H := Option.bind_eq_some_iff.mp H
      obtain ⟨t135, A60, H⟩ := H
      replace H : ((occur_Of.f k 8 t135).bind fun bt138 => (if bt138.2 = 0 then (tattinglaw4_OccurParts.j0 k t135 bt138.1 ((bt138.1.length : Int) != 8)) else (tattinglaw4_OccurParts.j0 k t135 bt138.1 true))) = some r := H
      have A6 := Aside0.mk A60
      clear A60
      replace H := Option.bind_eq_some_iff.mp H
      obtain ⟨⟨t138, t139⟩, A70, H⟩ := H
      replace H : (if t139 = 0 then (tattinglaw4_OccurParts.j0 k t135 t138 ((t138.length : Int) != 8)) else (tattinglaw4_OccurParts.j0 k t135 t138 true)) = some r := H
      have A7 := Aside0.mk A70
      clear A70
      have HC8 := Aside0.mk H
      clear H
      go_enter Try.func4, Try.ntmps4
      go_upto_region 7 with (first | ((with_reducible refine gate_callee (f := 8) rfl ?_); refine goesL_ (some 11) rfl rfl Try.func8 (by kernel_rfl) rfl #[] rfl (by (try simp only [List.map_toArray, List.map_cons, List.map_nil]); first | done | rfl | (simp only [List.length_drop, List.length_take]; rfl)) ?_; (with_reducible refine (tattinglaw4_awake.calls k  true _ A2.out).mono ?_); rintro e w9 ⟨rfl, hb⟩; refine ⟨_, rfl, ?_⟩; have n0_ := Aside0.mk (below_step (by repeat (first | (with_reducible first | exact HB.out | apply below_alloc | apply pw_below_drewN | apply below_drew1) | exact HB.out)) hb); clear HB; have HB := n0_; clear n0_; (try clear hb); (try clear hb2); (try clear hk); (try clear hi)) | ((with_reducible refine gate_callee (f := 12) rfl ?_); refine goesL_ (some 17) rfl rfl Try.func12 (by kernel_rfl) rfl #[.slice A0 l0.length c0, .int .i64 8] rfl (by (try simp only [List.map_toArray, List.map_cons, List.map_nil]); first | done | rfl | (simp only [List.length_drop, List.length_take]; rfl)) ?_; (with_reducible refine (tattingref1_Few.calls k _ _ l0 8 t135 _ ?side1 ?side2 A6.out).mono ?_); (case side1 => repeat (first | exact (Kd.C_below HR0.out HB.out) | (with_reducible refine Kd.C_alloc ?_ _) | (with_reducible refine Kd.C_drewN ?_ _) | (with_reducible refine Kd.C_drew ?_))); (case side2 => exact HC0.out); rintro e w10 ⟨v136, rfl, ho0, hb⟩; refine ⟨_, rfl, ?_⟩; have n0_ := Aside0.mk (Kd.R_lower ho0 (below_size (by repeat (first | (with_reducible first | exact HB.out | apply below_alloc | apply pw_below_drewN | apply below_drew1) | exact HB.out)))); have n1_ := Aside0.mk (below_step (by repeat (first | (with_reducible first | exact HB.out | apply below_alloc | apply pw_below_drewN | apply below_drew1) | exact HB.out)) hb); clear HB; have HO137 := n0_; have HB := n1_; clear n0_ n1_; (try clear hb); (try clear hb2); (try clear hk); (try clear hi); (try clear ho0); obtain ⟨Ao11, co11, eo11⟩ := Kd.R_slice HO137.out; subst eo11) | ((with_reducible refine gate_callee (f := 9) rfl ?_); refine goesL_ (some 20) rfl rfl Try.func9 (by kernel_rfl) rfl #[.int .i64 8, .slice Ao11 t135.length co11] rfl (by (try simp only [List.map_toArray, List.map_cons, List.map_nil]); first | done | rfl | (simp only [List.length_drop, List.length_take]; rfl)) ?_; (with_reducible refine (occur_Of.calls k 8 _ _ t135 t138 t139 _ ?side1 ?side2 A7.out).mono ?_); (case side1 => repeat (first | exact (Kd.R_reads' HO137.out).2.2 | (with_reducible refine Kd.C_alloc ?_ _) | (with_reducible refine Kd.C_drewN ?_ _) | (with_reducible refine Kd.C_drew ?_))); (case side2 => exact (Kd.R_reads' HO137.out).2.1); rintro e w12 ⟨v140, rfl, ho0, hb⟩; refine ⟨_, rfl, ?_⟩; have n0_ := Aside0.mk (Kd.R_below (by (with_reducible repeat (first | apply Kd.R_alloc | apply Kd.R_drewN | apply Kd.R_drew)); exact HO137.out) hb); have n1_ := Aside0.mk (Kd.S_lower (Kd.S_new' ho0 (Kd.R_lt (by (with_reducible repeat (first | apply Kd.R_alloc | apply Kd.R_drewN | apply Kd.R_drew)); exact HO137.out))) (below_size (by repeat (first | (with_reducible first | exact HB.out | apply below_alloc | apply pw_below_drewN | apply below_drew1) | exact HB.out)))); have n2_ := Aside0.mk (below_step (by repeat (first | (with_reducible first | exact HB.out | apply below_alloc | apply pw_below_drewN | apply below_drew1) | exact HB.out)) hb); clear HO137; clear HB; have HO137 := n0_; have HO141 := n1_; have HB := n2_; clear n0_ n1_ n2_; (try clear hb); (try clear hb2); (try clear hk); (try clear hi); (try clear ho0)))
      (try simp only [Act.put, List.setIfInBounds_toArray, List.set_cons_zero, List.set_cons_succ])
      go_cut [29] (fun v29 wc => ∃ (kq : Nat) (x29_7 : Bool), v29 = .bool x29_7 ∧ Aside0 (tattinglaw4_OccurParts.j0 kq t135 t138 x29_7 = some r) ∧ Aside0 (kq ≤ k) ∧ Aside0 (Kd.R (Kd.int .i64) 3 wc w.heap.size (fun _ => True) (.slice Ao11 t135.length co11) t135) ∧ Aside0 (Kd.S (Kd.slice 3 (Kd.int .i64)) 22 wc w.heap.size (fun k_ => some k_ ≠ ((.slice Ao11 t135.length co11) : Value).ownBlock) v140 t138) ∧ Aside0 (Below w.heap.size w wc))
      case first =>
        have H := HC8.out
        clear HC8
        by_cases c13 : t139 = 0
        · rw [if_pos c13] at H
          have c13b0 : (t139 == 0) = true := beq_iff_eq.mpr c13
          have c13b1 : (t139 != 0) = false := bne_eq_false_iff_eq.mpr c13
          clear c13
          (first | rw [c13b0] | (simp only [i64_w, i32_w]; rw [c13b0]) | skip)
          have H' := Aside0.mk H
          clear H
          obtain ⟨Ao14, co14, eo14⟩ := Kd.S_slice HO141.out
          subst eo14
          go_wp2
          go_meet
          case rel => exact ⟨_, (((t138.length : Int) != 8)), (by first | rfl | (simp; done) | (simp [*]; done)), H', ⟨by first | omega | exact Nat.le_refl _⟩, ⟨by (with_reducible repeat (first | apply Kd.R_alloc | apply Kd.R_drewN | apply Kd.R_drew)); exact HO137.out⟩, ⟨by (with_reducible repeat (first | apply Kd.S_alloc | apply Kd.S_drewN | apply Kd.S_drew)); exact Kd.S_mono HO141.out (fun _ hk => hk.2)⟩, ⟨by repeat (first | (with_reducible first | exact HB.out | apply below_alloc | apply pw_below_drewN | apply below_drew1) | exact HB.out)⟩⟩
        · rw [if_neg c13] at H
          have c13b0 : (t139 == 0) = false := beq_eq_false_iff_ne.mpr c13
          have c13b1 : (t139 != 0) = true := bne_iff_ne.mpr c13
          (first | rw [c13b0] | (simp only [i64_w, i32_w]; rw [c13b0]) | skip)
          have H' := Aside0.mk H
          clear H
          go_wp2
          go_meet
          case rel => exact ⟨_, (true), (by first | rfl | (simp; done) | (simp [*]; done)), H', ⟨by first | omega | exact Nat.le_refl _⟩, ⟨by (with_reducible repeat (first | apply Kd.R_alloc | apply Kd.R_drewN | apply Kd.R_drew)); exact HO137.out⟩, ⟨by (with_reducible repeat (first | apply Kd.S_alloc | apply Kd.S_drewN | apply Kd.S_drew)); exact Kd.S_mono HO141.out (fun _ hk => hk.2)⟩, ⟨by repeat (first | (with_reducible first | exact HB.out | apply below_alloc | apply pw_below_drewN | apply below_drew1) | exact HB.out)⟩⟩
      case rest =>
        clear HC8
        try clear c1
        try clear p2
        try clear c3
        try clear c4
        try clear c4b0
        try clear c4b1
        try clear c8
        try clear c9
        try clear c12
        try clear c13
        try clear c13b0
        try clear c13b1
        obtain ⟨kq, x29_7, rfl, HA, HJ7, HO_3, HO_4, HB⟩ := hcut
        cases kq with
        | zero => exact absurd HA.out (by simp [tattinglaw4_OccurParts.j0])
        | succ kj7 =>
          have H := HA.out
          clear HA
          simp only [tattinglaw4_OccurParts.j0] at H
          by_cases c15 : x29_7 = true
          · subst c15
            have H1 : (some false) = some r := by rw [if_pos rfl] at H; exact H
            clear H
            have H := H1
            clear H1
            obtain rfl := Option.some.inj H
            go_wp2
            go_ret
            exact ⟨by first | rfl | (simp [errW_none, errW_some] <;> rfl) | (simp [*, errW_none, errW_some] <;> rfl), by repeat (first | (with_reducible first | exact HB.out | apply below_alloc | apply pw_below_drewN | apply below_drew1) | exact HB.out)⟩
          · replace c15 := Bool.eq_false_iff.mpr c15
            subst c15
            have H1 : (tattinglaw4_OccurParts.l0 kj7 t135 t138 0 0 0) = some r := by rw [if_neg (show ¬ (false = true) by decide)] at H; exact H
            clear H
            have H := H1
            clear H1
            have H' := Aside0.mk H
            clear H
            go_wp2
            go_loopg [6, 7, 8] kj7 (fun kq v6 v7 v8 w' => ∃ (x6_2 : Int) (x7_2 : Int) (x8_2 : Int), v6 = .int .i64 x6_2 ∧ v7 = .int .i64 x7_2 ∧ v8 = .int .i64 x8_2 ∧ Aside0 (tattinglaw4_OccurParts.l0 kq t135 t138 x6_2 x7_2 x8_2 = some r) ∧ Aside0 (kq ≤ kj7) ∧ Aside0 (Kd.R (Kd.int .i64) 3 w' w.heap.size (fun _ => True) (.slice Ao11 t135.length co11) t135) ∧ Aside0 (Kd.S (Kd.slice 3 (Kd.int .i64)) 22 w' w.heap.size (fun k_ => some k_ ≠ ((.slice Ao11 t135.length co11) : Value).ownBlock) v140 t138) ∧ Aside0 (Below w.heap.size w w'))
            case atStart => exact ⟨(0), (0), (0), (by first | rfl | (simp; done) | (simp [*]; done)), (by first | rfl | (simp; done) | (simp [*]; done)), (by first | rfl | (simp; done) | (simp [*]; done)), H', ⟨Nat.le_refl _⟩, ⟨by (with_reducible repeat (first | apply Kd.R_alloc | apply Kd.R_drewN | apply Kd.R_drew)); exact HO_3.out⟩, ⟨by (with_reducible repeat (first | apply Kd.S_alloc | apply Kd.S_drewN | apply Kd.S_drew)); exact HO_4.out⟩, ⟨by repeat (first | (with_reducible first | exact HB.out | apply below_alloc | apply pw_below_drewN | apply below_drew1) | exact HB.out)⟩⟩
            case round =>
              clear H'
              try clear c1
              try clear p2
              try clear c3
              try clear c4
              try clear c4b0
              try clear c4b1
              try clear c8
              try clear c9
              try clear c12
              try clear c13
              try clear c13b0
              try clear c13b1
              try clear c15
              try clear p2
              obtain ⟨x6_2, x7_2, x8_2, rfl, rfl, rfl, HA, HK2, HO_3, HO_4, HB⟩ := hrel
              cases gk with
              | zero => exact absurd HA.out (by simp [tattinglaw4_OccurParts.l0])
              | succ k2 =>
                have H := HA.out
                clear HA
                simp only [tattinglaw4_OccurParts.l0] at H
                by_cases c16 : x8_2 < 8
                · rw [if_pos c16] at H
                  have c16b0 : decide (x8_2 < 8) = true := decide_eq_true c16
                  clear c16
                  have H' := Aside0.mk H
                  clear H
                  go_wp2
                  go_loopg [6, 9] k2 (fun kq v6 v9 w' => ∃ (x6_3 : Int) (x9_3 : Int), v6 = .int .i64 x6_3 ∧ v9 = .int .i64 x9_3 ∧ Aside0 (tattinglaw4_OccurParts.l1 kq t135 t138 x6_3 x7_2 x8_2 x9_3 = some r) ∧ Aside0 (kq ≤ k2) ∧ Aside0 (Kd.R (Kd.int .i64) 3 w' w.heap.size (fun _ => True) (.slice Ao11 t135.length co11) t135) ∧ Aside0 (Kd.S (Kd.slice 3 (Kd.int .i64)) 22 w' w.heap.size (fun k_ => some k_ ≠ ((.slice Ao11 t135.length co11) : Value).ownBlock) v140 t138) ∧ Aside0 (Below w.heap.size w w'))
                  case atStart => exact ⟨(x6_2), (0), (by first | rfl | (simp; done) | (simp [*]; done)), (by first | rfl | (simp; done) | (simp [*]; done)), H', ⟨Nat.le_refl _⟩, ⟨by (with_reducible repeat (first | apply Kd.R_alloc | apply Kd.R_drewN | apply Kd.R_drew)); exact HO_3.out⟩, ⟨by (with_reducible repeat (first | apply Kd.S_alloc | apply Kd.S_drewN | apply Kd.S_drew)); exact HO_4.out⟩, ⟨by repeat (first | (with_reducible first | exact HB.out | apply below_alloc | apply pw_below_drewN | apply below_drew1) | exact HB.out)⟩⟩
                  case round =>
                    clear H'
                    try clear c1
                    try clear p2
                    try clear c3
                    try clear c4
                    try clear c4b0
                    try clear c4b1
                    try clear c8
                    try clear c9
                    try clear c12
                    try clear c13
                    try clear c13b0
                    try clear c13b1
                    try clear c15
                    try clear c16
                    try clear c16b0
                    try clear p2
                    obtain ⟨x6_3, x9_3, rfl, rfl, HA, HK3, HO_3, HO_4, HB⟩ := hrel
                    cases gk with
                    | zero => exact absurd HA.out (by simp [tattinglaw4_OccurParts.l1])
                    | succ k3 =>
                      have H := HA.out
                      clear HA
                      simp only [tattinglaw4_OccurParts.l1] at H
                      by_cases c17 : 0 ≤ x8_2
                      · rw [if_pos c17] at H
                        have c17b0 : decide (0 ≤ x8_2) = true := decide_eq_true c17
                        clear c17
                        by_cases c18 : x8_2 < (t138.length : Int)
                        · rw [if_pos c18] at H
                          have c18b0 : decide (x8_2 < (t138.length : Int)) = true := decide_eq_true c18
                          clear c18
                          by_cases c19 : x9_3 < ((rd_L1 t138 x8_2).length : Int)
                          · rw [if_pos c19] at H
                            have c19b0 : decide (x9_3 < ((rd_L1 t138 x8_2).length : Int)) = true := decide_eq_true c19
                            clear c19
                            by_cases c20 : 0 ≤ x9_3
                            · rw [if_pos c20] at H
                              have c20b0 : decide (0 ≤ x9_3) = true := decide_eq_true c20
                              clear c20
                              by_cases c21 : (rd (rd_L1 t138 x8_2) x9_3) < 0
                              · rw [if_pos c21] at H
                                have c21b0 : decide ((rd (rd_L1 t138 x8_2) x9_3) < 0) = true := decide_eq_true c21
                                clear c21
                                obtain rfl := Option.some.inj H
                                obtain ⟨Ao22, co22, eo22⟩ := Kd.S_slice HO_4.out
                                subst eo22
                                have p143 : 0 ≤ (x8_2 : Int) := of_decide_eq_true (by first | (with_reducible assumption) | assumption)
                                have q143 : x8_2 < (t138.length : Int) := of_decide_eq_true (by first | (with_reducible assumption) | assumption)
                                obtain ⟨ad143, A143_0, c143_0, e143, hx143_0, hl143_0, hi143_0⟩ := at_L1 (Kd.S_reads' HO_4.out).2.2 x8_2 p143 q143
                                cases e143
                                obtain ⟨ce143, hce143, hMe143, hcc143⟩ := Kd.S_get HO_4.out [] x8_2 p143 (by first | exact q143 | exact of_decide_eq_true (by first | (with_reducible assumption) | assumption) | (have e_ := (Kd.S_reads' HO_4.out).1; omega))
                                obtain ⟨ve143_0, rfl, ge143_0⟩ := hMe143
                                have hv143_0 := hcc143 0 _ rfl
                                rw [Nat.add_zero, show ((Kd.slice 3 (Kd.int .i64))).sz = 1 from rfl, Nat.mul_one] at hv143_0
                                replace hv143_0 := Option.some.inj (hv143_0.symm.trans hx143_0)
                                rw [hv143_0] at ge143_0
                                have HL143_0 := Aside0.mk (show Kd.R (Kd.int .i64) 3 _ _ _ _ (rd_L1 t138 x8_2) from ge143_0)
                                clear hv143_0 ge143_0
                                clear hcc143 hce143
                                have HR143_0 := Aside0.mk hi143_0
                                have HC143_0 := Aside0.mk hl143_0
                                clear hi143_0 hl143_0
                                replace p143 := eq_true p143
                                replace q143 := eq_true q143
                                have p144 : 0 ≤ (x8_2 : Int) := of_decide_eq_true (by first | (with_reducible assumption) | assumption)
                                have q144 : x8_2 < (t138.length : Int) := of_decide_eq_true (by first | (with_reducible assumption) | assumption)
                                obtain ⟨ad144, A144_0, c144_0, e144, hx144_0, hl144_0, hi144_0⟩ := at_L1 (Kd.S_reads' HO_4.out).2.2 x8_2 p144 q144
                                obtain rfl : ad143 = ad144 := (by injection e144)
                                obtain ⟨ce144, hce144, hMe144, hcc144⟩ := Kd.S_get HO_4.out [] x8_2 p144 (by first | exact q144 | exact of_decide_eq_true (by first | (with_reducible assumption) | assumption) | (have e_ := (Kd.S_reads' HO_4.out).1; omega))
                                obtain ⟨ve144_0, rfl, ge144_0⟩ := hMe144
                                have hv144_0 := hcc144 0 _ rfl
                                rw [Nat.add_zero, show ((Kd.slice 3 (Kd.int .i64))).sz = 1 from rfl, Nat.mul_one] at hv144_0
                                replace hv144_0 := Option.some.inj (hv144_0.symm.trans hx144_0)
                                rw [hv144_0] at ge144_0
                                have HL144_0 := Aside0.mk (show Kd.R (Kd.int .i64) 3 _ _ _ _ (rd_L1 t138 x8_2) from ge144_0)
                                clear hv144_0 ge144_0
                                clear hcc144 hce144
                                have HR144_0 := Aside0.mk hi144_0
                                have HC144_0 := Aside0.mk hl144_0
                                clear hi144_0 hl144_0
                                replace p144 := eq_true p144
                                replace q144 := eq_true q144
                                have ea_ := Option.some.inj (hx143_0.symm.trans hx144_0)
                                injection ea_ with ea_ en_ ec_
                                subst ea_
                                subst ec_
                                clear en_
                                have p145 : 0 ≤ (x9_3 : Int) := of_decide_eq_true (by first | (with_reducible assumption) | assumption)
                                have q145 : x9_3 < ((rd_L1 t138 x8_2).length : Int) := of_decide_eq_true (by first | (with_reducible assumption) | assumption)
                                obtain ⟨ad145, e145, hx145_0⟩ := Kd.at_int (by repeat (first | (with_reducible exact HR144_0.out) | (with_reducible refine Kd.C_alloc ?_ _) | (with_reducible refine Kd.C_drewN ?_ _) | (with_reducible refine Kd.C_drew ?_) | exact HR144_0.out)) x9_3 p145 q145
                                cases e145
                                replace p145 := eq_true p145
                                replace q145 := eq_true q145
                                go_wp2
                                go_ret
                                exact ⟨by first | rfl | (simp [errW_none, errW_some] <;> rfl) | (simp [*, errW_none, errW_some] <;> rfl), by repeat (first | (with_reducible first | exact HB.out | apply below_alloc | apply pw_below_drewN | apply below_drew1) | exact HB.out)⟩
                              · rw [if_neg c21] at H
                                have c21b0 : decide ((rd (rd_L1 t138 x8_2) x9_3) < 0) = false := decide_eq_false c21
                                clear c21
                                by_cases c23 : (rd (rd_L1 t138 x8_2) x9_3) ≥ (t135.length : Int)
                                · rw [if_pos c23] at H
                                  have c23b0 : decide ((t135.length : Int) ≤ (rd (rd_L1 t138 x8_2) x9_3)) = true := decide_eq_true c23
                                  clear c23
                                  obtain rfl := Option.some.inj H
                                  obtain ⟨Ao24, co24, eo24⟩ := Kd.S_slice HO_4.out
                                  subst eo24
                                  have p143 : 0 ≤ (x8_2 : Int) := of_decide_eq_true (by first | (with_reducible assumption) | assumption)
                                  have q143 : x8_2 < (t138.length : Int) := of_decide_eq_true (by first | (with_reducible assumption) | assumption)
                                  obtain ⟨ad143, A143_0, c143_0, e143, hx143_0, hl143_0, hi143_0⟩ := at_L1 (Kd.S_reads' HO_4.out).2.2 x8_2 p143 q143
                                  cases e143
                                  obtain ⟨ce143, hce143, hMe143, hcc143⟩ := Kd.S_get HO_4.out [] x8_2 p143 (by first | exact q143 | exact of_decide_eq_true (by first | (with_reducible assumption) | assumption) | (have e_ := (Kd.S_reads' HO_4.out).1; omega))
                                  obtain ⟨ve143_0, rfl, ge143_0⟩ := hMe143
                                  have hv143_0 := hcc143 0 _ rfl
                                  rw [Nat.add_zero, show ((Kd.slice 3 (Kd.int .i64))).sz = 1 from rfl, Nat.mul_one] at hv143_0
                                  replace hv143_0 := Option.some.inj (hv143_0.symm.trans hx143_0)
                                  rw [hv143_0] at ge143_0
                                  have HL143_0 := Aside0.mk (show Kd.R (Kd.int .i64) 3 _ _ _ _ (rd_L1 t138 x8_2) from ge143_0)
                                  clear hv143_0 ge143_0
                                  clear hcc143 hce143
                                  have HR143_0 := Aside0.mk hi143_0
                                  have HC143_0 := Aside0.mk hl143_0
                                  clear hi143_0 hl143_0
                                  replace p143 := eq_true p143
                                  replace q143 := eq_true q143
                                  have p144 : 0 ≤ (x8_2 : Int) := of_decide_eq_true (by first | (with_reducible assumption) | assumption)
                                  have q144 : x8_2 < (t138.length : Int) := of_decide_eq_true (by first | (with_reducible assumption) | assumption)
                                  obtain ⟨ad144, A144_0, c144_0, e144, hx144_0, hl144_0, hi144_0⟩ := at_L1 (Kd.S_reads' HO_4.out).2.2 x8_2 p144 q144
                                  obtain rfl : ad143 = ad144 := (by injection e144)
                                  obtain ⟨ce144, hce144, hMe144, hcc144⟩ := Kd.S_get HO_4.out [] x8_2 p144 (by first | exact q144 | exact of_decide_eq_true (by first | (with_reducible assumption) | assumption) | (have e_ := (Kd.S_reads' HO_4.out).1; omega))
                                  obtain ⟨ve144_0, rfl, ge144_0⟩ := hMe144
                                  have hv144_0 := hcc144 0 _ rfl
                                  rw [Nat.add_zero, show ((Kd.slice 3 (Kd.int .i64))).sz = 1 from rfl, Nat.mul_one] at hv144_0
                                  replace hv144_0 := Option.some.inj (hv144_0.symm.trans hx144_0)
                                  rw [hv144_0] at ge144_0
                                  have HL144_0 := Aside0.mk (show Kd.R (Kd.int .i64) 3 _ _ _ _ (rd_L1 t138 x8_2) from ge144_0)
                                  clear hv144_0 ge144_0
                                  clear hcc144 hce144
                                  have HR144_0 := Aside0.mk hi144_0
                                  have HC144_0 := Aside0.mk hl144_0
                                  clear hi144_0 hl144_0
                                  replace p144 := eq_true p144
                                  replace q144 := eq_true q144
                                  have ea_ := Option.some.inj (hx143_0.symm.trans hx144_0)
                                  injection ea_ with ea_ en_ ec_
                                  subst ea_
                                  subst ec_
                                  clear en_
                                  have p145 : 0 ≤ (x9_3 : Int) := of_decide_eq_true (by first | (with_reducible assumption) | assumption)
                                  have q145 : x9_3 < ((rd_L1 t138 x8_2).length : Int) := of_decide_eq_true (by first | (with_reducible assumption) | assumption)
                                  obtain ⟨ad145, e145, hx145_0⟩ := Kd.at_int (by repeat (first | (with_reducible exact HR144_0.out) | (with_reducible refine Kd.C_alloc ?_ _) | (with_reducible refine Kd.C_drewN ?_ _) | (with_reducible refine Kd.C_drew ?_) | exact HR144_0.out)) x9_3 p145 q145
                                  cases e145
                                  replace p145 := eq_true p145
                                  replace q145 := eq_true q145
                                  go_wp2
                                  go_ret
                                  exact ⟨by first | rfl | (simp [errW_none, errW_some] <;> rfl) | (simp [*, errW_none, errW_some] <;> rfl), by repeat (first | (with_reducible first | exact HB.out | apply below_alloc | apply pw_below_drewN | apply below_drew1) | exact HB.out)⟩
                                · rw [if_neg c23] at H
                                  have c23b0 : decide ((t135.length : Int) ≤ (rd (rd_L1 t138 x8_2) x9_3)) = false := decide_eq_false c23
                                  clear c23
                                  by_cases c25 : 0 ≤ (rd (rd_L1 t138 x8_2) x9_3)
                                  · rw [if_pos c25] at H
                                    have c25b0 : decide (0 ≤ (rd (rd_L1 t138 x8_2) x9_3)) = true := decide_eq_true c25
                                    clear c25
                                    by_cases c26 : (rd (rd_L1 t138 x8_2) x9_3) < (t135.length : Int)
                                    · rw [if_pos c26] at H
                                      have c26b0 : decide ((rd (rd_L1 t138 x8_2) x9_3) < (t135.length : Int)) = true := decide_eq_true c26
                                      clear c26
                                      by_cases c27 : (rd t135 (rd (rd_L1 t138 x8_2) x9_3)) = x8_2
                                      · rw [if_pos c27] at H
                                        have c27b0 : ((rd t135 (rd (rd_L1 t138 x8_2) x9_3)) == x8_2) = true := beq_iff_eq.mpr c27
                                        have c27b1 : ((rd t135 (rd (rd_L1 t138 x8_2) x9_3)) != x8_2) = false := bne_eq_false_iff_eq.mpr c27
                                        clear c27
                                        by_cases c28 : x9_3 > 0
                                        · rw [if_pos c28] at H
                                          have c28b0 : decide (0 < x9_3) = true := decide_eq_true c28
                                          clear c28
                                          obtain ⟨ji29, hji29⟩ : ∃ j_ : Int, (wrap64 (x9_3 - 1)) = j_ := ⟨_, rfl⟩
                                          replace H : (if 0 ≤ (ji29) then (if (ji29) < ((rd_L1 t138 x8_2).length : Int) then (if (rd (rd_L1 t138 x8_2) x9_3) ≤ (rd (rd_L1 t138 x8_2) (ji29)) then (some false) else (tattinglaw4_OccurParts.l1 k3 t135 t138 (wrap64 (x6_3 + 1)) x7_2 x8_2 (wrap64 (x9_3 + 1)))) else (none)) else (none)) = some r := by first | (rw [hji29] at H; exact H) | (simp only [hji29] at H ⊢; exact H)
                                          have hji29w : (IntKind.i64.wrap (x9_3 - 1)) = ji29 := (i64_w _).trans hji29
                                          by_cases c30 : 0 ≤ (ji29)
                                          · rw [if_pos c30] at H
                                            have c30b0 : decide (0 ≤ (ji29)) = true := decide_eq_true c30
                                            clear c30
                                            by_cases c31 : (ji29) < ((rd_L1 t138 x8_2).length : Int)
                                            · rw [if_pos c31] at H
                                              have c31b0 : decide ((ji29) < ((rd_L1 t138 x8_2).length : Int)) = true := decide_eq_true c31
                                              clear c31
                                              by_cases c32 : (rd (rd_L1 t138 x8_2) x9_3) ≤ (rd (rd_L1 t138 x8_2) (ji29))
                                              · rw [if_pos c32] at H
                                                have c32b0 : decide ((rd (rd_L1 t138 x8_2) x9_3) ≤ (rd (rd_L1 t138 x8_2) (ji29))) = true := decide_eq_true c32
                                                clear c32
                                                obtain rfl := Option.some.inj H
                                                obtain ⟨Ao33, co33, eo33⟩ := Kd.S_slice HO_4.out
                                                subst eo33
                                                have p143 : 0 ≤ (x8_2 : Int) := of_decide_eq_true (by first | (with_reducible assumption) | assumption)
                                                have q143 : x8_2 < (t138.length : Int) := of_decide_eq_true (by first | (with_reducible assumption) | assumption)
                                                obtain ⟨ad143, A143_0, c143_0, e143, hx143_0, hl143_0, hi143_0⟩ := at_L1 (Kd.S_reads' HO_4.out).2.2 x8_2 p143 q143
                                                cases e143
                                                obtain ⟨ce143, hce143, hMe143, hcc143⟩ := Kd.S_get HO_4.out [] x8_2 p143 (by first | exact q143 | exact of_decide_eq_true (by first | (with_reducible assumption) | assumption) | (have e_ := (Kd.S_reads' HO_4.out).1; omega))
                                                obtain ⟨ve143_0, rfl, ge143_0⟩ := hMe143
                                                have hv143_0 := hcc143 0 _ rfl
                                                rw [Nat.add_zero, show ((Kd.slice 3 (Kd.int .i64))).sz = 1 from rfl, Nat.mul_one] at hv143_0
                                                replace hv143_0 := Option.some.inj (hv143_0.symm.trans hx143_0)
                                                rw [hv143_0] at ge143_0
                                                have HL143_0 := Aside0.mk (show Kd.R (Kd.int .i64) 3 _ _ _ _ (rd_L1 t138 x8_2) from ge143_0)
                                                clear hv143_0 ge143_0
                                                clear hcc143 hce143
                                                have HR143_0 := Aside0.mk hi143_0
                                                have HC143_0 := Aside0.mk hl143_0
                                                clear hi143_0 hl143_0
                                                replace p143 := eq_true p143
                                                replace q143 := eq_true q143
                                                have p144 : 0 ≤ (x8_2 : Int) := of_decide_eq_true (by first | (with_reducible assumption) | assumption)
                                                have q144 : x8_2 < (t138.length : Int) := of_decide_eq_true (by first | (with_reducible assumption) | assumption)
                                                obtain ⟨ad144, A144_0, c144_0, e144, hx144_0, hl144_0, hi144_0⟩ := at_L1 (Kd.S_reads' HO_4.out).2.2 x8_2 p144 q144
                                                obtain rfl : ad143 = ad144 := (by injection e144)
                                                obtain ⟨ce144, hce144, hMe144, hcc144⟩ := Kd.S_get HO_4.out [] x8_2 p144 (by first | exact q144 | exact of_decide_eq_true (by first | (with_reducible assumption) | assumption) | (have e_ := (Kd.S_reads' HO_4.out).1; omega))
                                                obtain ⟨ve144_0, rfl, ge144_0⟩ := hMe144
                                                have hv144_0 := hcc144 0 _ rfl
                                                rw [Nat.add_zero, show ((Kd.slice 3 (Kd.int .i64))).sz = 1 from rfl, Nat.mul_one] at hv144_0
                                                replace hv144_0 := Option.some.inj (hv144_0.symm.trans hx144_0)
                                                rw [hv144_0] at ge144_0
                                                have HL144_0 := Aside0.mk (show Kd.R (Kd.int .i64) 3 _ _ _ _ (rd_L1 t138 x8_2) from ge144_0)
                                                clear hv144_0 ge144_0
                                                clear hcc144 hce144
                                                have HR144_0 := Aside0.mk hi144_0
                                                have HC144_0 := Aside0.mk hl144_0
                                                clear hi144_0 hl144_0
                                                replace p144 := eq_true p144
                                                replace q144 := eq_true q144
                                                have ea_ := Option.some.inj (hx143_0.symm.trans hx144_0)
                                                injection ea_ with ea_ en_ ec_
                                                subst ea_
                                                subst ec_
                                                clear en_
                                                have p145 : 0 ≤ (x9_3 : Int) := of_decide_eq_true (by first | (with_reducible assumption) | assumption)
                                                have q145 : x9_3 < ((rd_L1 t138 x8_2).length : Int) := of_decide_eq_true (by first | (with_reducible assumption) | assumption)
                                                obtain ⟨ad145, e145, hx145_0⟩ := Kd.at_int (by repeat (first | (with_reducible exact HR144_0.out) | (with_reducible refine Kd.C_alloc ?_ _) | (with_reducible refine Kd.C_drewN ?_ _) | (with_reducible refine Kd.C_drew ?_) | exact HR144_0.out)) x9_3 p145 q145
                                                cases e145
                                                replace p145 := eq_true p145
                                                replace q145 := eq_true q145
                                                have p146 : 0 ≤ ((rd (rd_L1 t138 x8_2) x9_3) : Int) := of_decide_eq_true (by first | (with_reducible assumption) | assumption)
                                                have q146 : (rd (rd_L1 t138 x8_2) x9_3) < (t135.length : Int) := of_decide_eq_true (by first | (with_reducible assumption) | assumption)
                                                obtain ⟨ad146, e146, hx146_0⟩ := Kd.at_int (Kd.R_reads' HO_3.out).2.2 (rd (rd_L1 t138 x8_2) x9_3) p146 q146
                                                cases e146
                                                replace p146 := eq_true p146
                                                replace q146 := eq_true q146
                                                have p147 : 0 ≤ (x8_2 : Int) := of_decide_eq_true (by first | (with_reducible assumption) | assumption)
                                                have q147 : x8_2 < (t138.length : Int) := of_decide_eq_true (by first | (with_reducible assumption) | assumption)
                                                obtain ⟨ad147, A147_0, c147_0, e147, hx147_0, hl147_0, hi147_0⟩ := at_L1 (Kd.S_reads' HO_4.out).2.2 x8_2 p147 q147
                                                obtain rfl : ad143 = ad147 := (by injection e147)
                                                obtain ⟨ce147, hce147, hMe147, hcc147⟩ := Kd.S_get HO_4.out [] x8_2 p147 (by first | exact q147 | exact of_decide_eq_true (by first | (with_reducible assumption) | assumption) | (have e_ := (Kd.S_reads' HO_4.out).1; omega))
                                                obtain ⟨ve147_0, rfl, ge147_0⟩ := hMe147
                                                have hv147_0 := hcc147 0 _ rfl
                                                rw [Nat.add_zero, show ((Kd.slice 3 (Kd.int .i64))).sz = 1 from rfl, Nat.mul_one] at hv147_0
                                                replace hv147_0 := Option.some.inj (hv147_0.symm.trans hx147_0)
                                                rw [hv147_0] at ge147_0
                                                have HL147_0 := Aside0.mk (show Kd.R (Kd.int .i64) 3 _ _ _ _ (rd_L1 t138 x8_2) from ge147_0)
                                                clear hv147_0 ge147_0
                                                clear hcc147 hce147
                                                have HR147_0 := Aside0.mk hi147_0
                                                have HC147_0 := Aside0.mk hl147_0
                                                clear hi147_0 hl147_0
                                                replace p147 := eq_true p147
                                                replace q147 := eq_true q147
                                                have ea_ := Option.some.inj (hx143_0.symm.trans hx147_0)
                                                injection ea_ with ea_ en_ ec_
                                                subst ea_
                                                subst ec_
                                                clear en_
                                                have p148 : 0 ≤ ((ji29) : Int) := of_decide_eq_true (by first | (with_reducible assumption) | assumption)
                                                have q148 : (ji29) < ((rd_L1 t138 x8_2).length : Int) := of_decide_eq_true (by first | (with_reducible assumption) | assumption)
                                                obtain ⟨ad148, e148, hx148_0⟩ := Kd.at_int (by repeat (first | (with_reducible exact HR147_0.out) | (with_reducible refine Kd.C_alloc ?_ _) | (with_reducible refine Kd.C_drewN ?_ _) | (with_reducible refine Kd.C_drew ?_) | exact HR147_0.out)) (ji29) p148 q148
                                                cases e148
                                                replace p148 := eq_true p148
                                                replace q148 := eq_true q148
                                                go_wp2
                                                go_ret
                                                exact ⟨by first | rfl | (simp [errW_none, errW_some] <;> rfl) | (simp only [← hji29]; first | rfl | (simp [errW_none, errW_some] <;> rfl)) | (simp [*, errW_none, errW_some] <;> rfl), by repeat (first | (with_reducible first | exact HB.out | apply below_alloc | apply pw_below_drewN | apply below_drew1) | exact HB.out)⟩
                                              · rw [if_neg c32] at H
                                                have c32b0 : decide ((rd (rd_L1 t138 x8_2) x9_3) ≤ (rd (rd_L1 t138 x8_2) (ji29))) = false := decide_eq_false c32
                                                clear c32
                                                have H' := Aside0.mk H
                                                clear H
                                                obtain ⟨Ao34, co34, eo34⟩ := Kd.S_slice HO_4.out
                                                subst eo34
                                                have p143 : 0 ≤ (x8_2 : Int) := of_decide_eq_true (by first | (with_reducible assumption) | assumption)
                                                have q143 : x8_2 < (t138.length : Int) := of_decide_eq_true (by first | (with_reducible assumption) | assumption)
                                                obtain ⟨ad143, A143_0, c143_0, e143, hx143_0, hl143_0, hi143_0⟩ := at_L1 (Kd.S_reads' HO_4.out).2.2 x8_2 p143 q143
                                                cases e143
                                                obtain ⟨ce143, hce143, hMe143, hcc143⟩ := Kd.S_get HO_4.out [] x8_2 p143 (by first | exact q143 | exact of_decide_eq_true (by first | (with_reducible assumption) | assumption) | (have e_ := (Kd.S_reads' HO_4.out).1; omega))
                                                obtain ⟨ve143_0, rfl, ge143_0⟩ := hMe143
                                                have hv143_0 := hcc143 0 _ rfl
                                                rw [Nat.add_zero, show ((Kd.slice 3 (Kd.int .i64))).sz = 1 from rfl, Nat.mul_one] at hv143_0
                                                replace hv143_0 := Option.some.inj (hv143_0.symm.trans hx143_0)
                                                rw [hv143_0] at ge143_0
                                                have HL143_0 := Aside0.mk (show Kd.R (Kd.int .i64) 3 _ _ _ _ (rd_L1 t138 x8_2) from ge143_0)
                                                clear hv143_0 ge143_0
                                                clear hcc143 hce143
                                                have HR143_0 := Aside0.mk hi143_0
                                                have HC143_0 := Aside0.mk hl143_0
                                                clear hi143_0 hl143_0
                                                replace p143 := eq_true p143
                                                replace q143 := eq_true q143
                                                have p144 : 0 ≤ (x8_2 : Int) := of_decide_eq_true (by first | (with_reducible assumption) | assumption)
                                                have q144 : x8_2 < (t138.length : Int) := of_decide_eq_true (by first | (with_reducible assumption) | assumption)
                                                obtain ⟨ad144, A144_0, c144_0, e144, hx144_0, hl144_0, hi144_0⟩ := at_L1 (Kd.S_reads' HO_4.out).2.2 x8_2 p144 q144
                                                obtain rfl : ad143 = ad144 := (by injection e144)
                                                obtain ⟨ce144, hce144, hMe144, hcc144⟩ := Kd.S_get HO_4.out [] x8_2 p144 (by first | exact q144 | exact of_decide_eq_true (by first | (with_reducible assumption) | assumption) | (have e_ := (Kd.S_reads' HO_4.out).1; omega))
                                                obtain ⟨ve144_0, rfl, ge144_0⟩ := hMe144
                                                have hv144_0 := hcc144 0 _ rfl
                                                rw [Nat.add_zero, show ((Kd.slice 3 (Kd.int .i64))).sz = 1 from rfl, Nat.mul_one] at hv144_0
                                                replace hv144_0 := Option.some.inj (hv144_0.symm.trans hx144_0)
                                                rw [hv144_0] at ge144_0
                                                have HL144_0 := Aside0.mk (show Kd.R (Kd.int .i64) 3 _ _ _ _ (rd_L1 t138 x8_2) from ge144_0)
                                                clear hv144_0 ge144_0
                                                clear hcc144 hce144
                                                have HR144_0 := Aside0.mk hi144_0
                                                have HC144_0 := Aside0.mk hl144_0
                                                clear hi144_0 hl144_0
                                                replace p144 := eq_true p144
                                                replace q144 := eq_true q144
                                                have ea_ := Option.some.inj (hx143_0.symm.trans hx144_0)
                                                injection ea_ with ea_ en_ ec_
                                                subst ea_
                                                subst ec_
                                                clear en_
                                                have p145 : 0 ≤ (x9_3 : Int) := of_decide_eq_true (by first | (with_reducible assumption) | assumption)
                                                have q145 : x9_3 < ((rd_L1 t138 x8_2).length : Int) := of_decide_eq_true (by first | (with_reducible assumption) | assumption)
                                                obtain ⟨ad145, e145, hx145_0⟩ := Kd.at_int (by repeat (first | (with_reducible exact HR144_0.out) | (with_reducible refine Kd.C_alloc ?_ _) | (with_reducible refine Kd.C_drewN ?_ _) | (with_reducible refine Kd.C_drew ?_) | exact HR144_0.out)) x9_3 p145 q145
                                                cases e145
                                                replace p145 := eq_true p145
                                                replace q145 := eq_true q145
                                                have p146 : 0 ≤ ((rd (rd_L1 t138 x8_2) x9_3) : Int) := of_decide_eq_true (by first | (with_reducible assumption) | assumption)
                                                have q146 : (rd (rd_L1 t138 x8_2) x9_3) < (t135.length : Int) := of_decide_eq_true (by first | (with_reducible assumption) | assumption)
                                                obtain ⟨ad146, e146, hx146_0⟩ := Kd.at_int (Kd.R_reads' HO_3.out).2.2 (rd (rd_L1 t138 x8_2) x9_3) p146 q146
                                                cases e146
                                                replace p146 := eq_true p146
                                                replace q146 := eq_true q146
                                                have p147 : 0 ≤ (x8_2 : Int) := of_decide_eq_true (by first | (with_reducible assumption) | assumption)
                                                have q147 : x8_2 < (t138.length : Int) := of_decide_eq_true (by first | (with_reducible assumption) | assumption)
                                                obtain ⟨ad147, A147_0, c147_0, e147, hx147_0, hl147_0, hi147_0⟩ := at_L1 (Kd.S_reads' HO_4.out).2.2 x8_2 p147 q147
                                                obtain rfl : ad143 = ad147 := (by injection e147)
                                                obtain ⟨ce147, hce147, hMe147, hcc147⟩ := Kd.S_get HO_4.out [] x8_2 p147 (by first | exact q147 | exact of_decide_eq_true (by first | (with_reducible assumption) | assumption) | (have e_ := (Kd.S_reads' HO_4.out).1; omega))
                                                obtain ⟨ve147_0, rfl, ge147_0⟩ := hMe147
                                                have hv147_0 := hcc147 0 _ rfl
                                                rw [Nat.add_zero, show ((Kd.slice 3 (Kd.int .i64))).sz = 1 from rfl, Nat.mul_one] at hv147_0
                                                replace hv147_0 := Option.some.inj (hv147_0.symm.trans hx147_0)
                                                rw [hv147_0] at ge147_0
                                                have HL147_0 := Aside0.mk (show Kd.R (Kd.int .i64) 3 _ _ _ _ (rd_L1 t138 x8_2) from ge147_0)
                                                clear hv147_0 ge147_0
                                                clear hcc147 hce147
                                                have HR147_0 := Aside0.mk hi147_0
                                                have HC147_0 := Aside0.mk hl147_0
                                                clear hi147_0 hl147_0
                                                replace p147 := eq_true p147
                                                replace q147 := eq_true q147
                                                have ea_ := Option.some.inj (hx143_0.symm.trans hx147_0)
                                                injection ea_ with ea_ en_ ec_
                                                subst ea_
                                                subst ec_
                                                clear en_
                                                have p148 : 0 ≤ ((ji29) : Int) := of_decide_eq_true (by first | (with_reducible assumption) | assumption)
                                                have q148 : (ji29) < ((rd_L1 t138 x8_2).length : Int) := of_decide_eq_true (by first | (with_reducible assumption) | assumption)
                                                obtain ⟨ad148, e148, hx148_0⟩ := Kd.at_int (by repeat (first | (with_reducible exact HR147_0.out) | (with_reducible refine Kd.C_alloc ?_ _) | (with_reducible refine Kd.C_drewN ?_ _) | (with_reducible refine Kd.C_drew ?_) | exact HR147_0.out)) (ji29) p148 q148
                                                cases e148
                                                replace p148 := eq_true p148
                                                replace q148 := eq_true q148
                                                go_wp2
                                                go_roundg k3
                                                case measure => have := HJ7.out; have := HK2.out; have := HK3.out; omega
                                                case rel => exact ⟨(wrap64 (x6_3 + 1)), (wrap64 (x9_3 + 1)), (by first | rfl | (simp; done) | (simp [*]; done)), (by first | rfl | (simp; done) | (simp [*]; done)), H', ⟨by have := HJ7.out; have := HK2.out; have := HK3.out; omega⟩, ⟨by (with_reducible repeat (first | apply Kd.R_alloc | apply Kd.R_drewN | apply Kd.R_drew)); exact HO_3.out⟩, ⟨by (with_reducible repeat (first | apply Kd.S_alloc | apply Kd.S_drewN | apply Kd.S_drew)); exact HO_4.out⟩, ⟨by repeat (first | (with_reducible first | exact HB.out | apply below_alloc | apply pw_below_drewN | apply below_drew1) | exact HB.out)⟩⟩
                                            · rw [if_neg c31] at H
                                              exact absurd H (by simp)
                                          · rw [if_neg c30] at H
                                            exact absurd H (by simp)
                                        · rw [if_neg c28] at H
                                          have c28b0 : decide (0 < x9_3) = false := decide_eq_false c28
                                          clear c28
                                          have H' := Aside0.mk H
                                          clear H
                                          obtain ⟨Ao35, co35, eo35⟩ := Kd.S_slice HO_4.out
                                          subst eo35
                                          have p143 : 0 ≤ (x8_2 : Int) := of_decide_eq_true (by first | (with_reducible assumption) | assumption)
                                          have q143 : x8_2 < (t138.length : Int) := of_decide_eq_true (by first | (with_reducible assumption) | assumption)
                                          obtain ⟨ad143, A143_0, c143_0, e143, hx143_0, hl143_0, hi143_0⟩ := at_L1 (Kd.S_reads' HO_4.out).2.2 x8_2 p143 q143
                                          cases e143
                                          obtain ⟨ce143, hce143, hMe143, hcc143⟩ := Kd.S_get HO_4.out [] x8_2 p143 (by first | exact q143 | exact of_decide_eq_true (by first | (with_reducible assumption) | assumption) | (have e_ := (Kd.S_reads' HO_4.out).1; omega))
                                          obtain ⟨ve143_0, rfl, ge143_0⟩ := hMe143
                                          have hv143_0 := hcc143 0 _ rfl
                                          rw [Nat.add_zero, show ((Kd.slice 3 (Kd.int .i64))).sz = 1 from rfl, Nat.mul_one] at hv143_0
                                          replace hv143_0 := Option.some.inj (hv143_0.symm.trans hx143_0)
                                          rw [hv143_0] at ge143_0
                                          have HL143_0 := Aside0.mk (show Kd.R (Kd.int .i64) 3 _ _ _ _ (rd_L1 t138 x8_2) from ge143_0)
                                          clear hv143_0 ge143_0
                                          clear hcc143 hce143
                                          have HR143_0 := Aside0.mk hi143_0
                                          have HC143_0 := Aside0.mk hl143_0
                                          clear hi143_0 hl143_0
                                          replace p143 := eq_true p143
                                          replace q143 := eq_true q143
                                          have p144 : 0 ≤ (x8_2 : Int) := of_decide_eq_true (by first | (with_reducible assumption) | assumption)
                                          have q144 : x8_2 < (t138.length : Int) := of_decide_eq_true (by first | (with_reducible assumption) | assumption)
                                          obtain ⟨ad144, A144_0, c144_0, e144, hx144_0, hl144_0, hi144_0⟩ := at_L1 (Kd.S_reads' HO_4.out).2.2 x8_2 p144 q144
                                          obtain rfl : ad143 = ad144 := (by injection e144)
                                          obtain ⟨ce144, hce144, hMe144, hcc144⟩ := Kd.S_get HO_4.out [] x8_2 p144 (by first | exact q144 | exact of_decide_eq_true (by first | (with_reducible assumption) | assumption) | (have e_ := (Kd.S_reads' HO_4.out).1; omega))
                                          obtain ⟨ve144_0, rfl, ge144_0⟩ := hMe144
                                          have hv144_0 := hcc144 0 _ rfl
                                          rw [Nat.add_zero, show ((Kd.slice 3 (Kd.int .i64))).sz = 1 from rfl, Nat.mul_one] at hv144_0
                                          replace hv144_0 := Option.some.inj (hv144_0.symm.trans hx144_0)
                                          rw [hv144_0] at ge144_0
                                          have HL144_0 := Aside0.mk (show Kd.R (Kd.int .i64) 3 _ _ _ _ (rd_L1 t138 x8_2) from ge144_0)
                                          clear hv144_0 ge144_0
                                          clear hcc144 hce144
                                          have HR144_0 := Aside0.mk hi144_0
                                          have HC144_0 := Aside0.mk hl144_0
                                          clear hi144_0 hl144_0
                                          replace p144 := eq_true p144
                                          replace q144 := eq_true q144
                                          have ea_ := Option.some.inj (hx143_0.symm.trans hx144_0)
                                          injection ea_ with ea_ en_ ec_
                                          subst ea_
                                          subst ec_
                                          clear en_
                                          have p145 : 0 ≤ (x9_3 : Int) := of_decide_eq_true (by first | (with_reducible assumption) | assumption)
                                          have q145 : x9_3 < ((rd_L1 t138 x8_2).length : Int) := of_decide_eq_true (by first | (with_reducible assumption) | assumption)
                                          obtain ⟨ad145, e145, hx145_0⟩ := Kd.at_int (by repeat (first | (with_reducible exact HR144_0.out) | (with_reducible refine Kd.C_alloc ?_ _) | (with_reducible refine Kd.C_drewN ?_ _) | (with_reducible refine Kd.C_drew ?_) | exact HR144_0.out)) x9_3 p145 q145
                                          cases e145
                                          replace p145 := eq_true p145
                                          replace q145 := eq_true q145
                                          have p146 : 0 ≤ ((rd (rd_L1 t138 x8_2) x9_3) : Int) := of_decide_eq_true (by first | (with_reducible assumption) | assumption)
                                          have q146 : (rd (rd_L1 t138 x8_2) x9_3) < (t135.length : Int) := of_decide_eq_true (by first | (with_reducible assumption) | assumption)
                                          obtain ⟨ad146, e146, hx146_0⟩ := Kd.at_int (Kd.R_reads' HO_3.out).2.2 (rd (rd_L1 t138 x8_2) x9_3) p146 q146
                                          cases e146
                                          replace p146 := eq_true p146
                                          replace q146 := eq_true q146
                                          go_wp2
                                          go_roundg k3
                                          case measure => have := HJ7.out; have := HK2.out; have := HK3.out; omega
                                          case rel => exact ⟨(wrap64 (x6_3 + 1)), (wrap64 (x9_3 + 1)), (by first | rfl | (simp; done) | (simp [*]; done)), (by first | rfl | (simp; done) | (simp [*]; done)), H', ⟨by have := HJ7.out; have := HK2.out; have := HK3.out; omega⟩, ⟨by (with_reducible repeat (first | apply Kd.R_alloc | apply Kd.R_drewN | apply Kd.R_drew)); exact HO_3.out⟩, ⟨by (with_reducible repeat (first | apply Kd.S_alloc | apply Kd.S_drewN | apply Kd.S_drew)); exact HO_4.out⟩, ⟨by repeat (first | (with_reducible first | exact HB.out | apply below_alloc | apply pw_below_drewN | apply below_drew1) | exact HB.out)⟩⟩
                                      · rw [if_neg c27] at H
                                        have c27b0 : ((rd t135 (rd (rd_L1 t138 x8_2) x9_3)) == x8_2) = false := beq_eq_false_iff_ne.mpr c27
                                        have c27b1 : ((rd t135 (rd (rd_L1 t138 x8_2) x9_3)) != x8_2) = true := bne_iff_ne.mpr c27
                                        obtain rfl := Option.some.inj H
                                        obtain ⟨Ao36, co36, eo36⟩ := Kd.S_slice HO_4.out
                                        subst eo36
                                        have p143 : 0 ≤ (x8_2 : Int) := of_decide_eq_true (by first | (with_reducible assumption) | assumption)
                                        have q143 : x8_2 < (t138.length : Int) := of_decide_eq_true (by first | (with_reducible assumption) | assumption)
                                        obtain ⟨ad143, A143_0, c143_0, e143, hx143_0, hl143_0, hi143_0⟩ := at_L1 (Kd.S_reads' HO_4.out).2.2 x8_2 p143 q143
                                        cases e143
                                        obtain ⟨ce143, hce143, hMe143, hcc143⟩ := Kd.S_get HO_4.out [] x8_2 p143 (by first | exact q143 | exact of_decide_eq_true (by first | (with_reducible assumption) | assumption) | (have e_ := (Kd.S_reads' HO_4.out).1; omega))
                                        obtain ⟨ve143_0, rfl, ge143_0⟩ := hMe143
                                        have hv143_0 := hcc143 0 _ rfl
                                        rw [Nat.add_zero, show ((Kd.slice 3 (Kd.int .i64))).sz = 1 from rfl, Nat.mul_one] at hv143_0
                                        replace hv143_0 := Option.some.inj (hv143_0.symm.trans hx143_0)
                                        rw [hv143_0] at ge143_0
                                        have HL143_0 := Aside0.mk (show Kd.R (Kd.int .i64) 3 _ _ _ _ (rd_L1 t138 x8_2) from ge143_0)
                                        clear hv143_0 ge143_0
                                        clear hcc143 hce143
                                        have HR143_0 := Aside0.mk hi143_0
                                        have HC143_0 := Aside0.mk hl143_0
                                        clear hi143_0 hl143_0
                                        replace p143 := eq_true p143
                                        replace q143 := eq_true q143
                                        have p144 : 0 ≤ (x8_2 : Int) := of_decide_eq_true (by first | (with_reducible assumption) | assumption)
                                        have q144 : x8_2 < (t138.length : Int) := of_decide_eq_true (by first | (with_reducible assumption) | assumption)
                                        obtain ⟨ad144, A144_0, c144_0, e144, hx144_0, hl144_0, hi144_0⟩ := at_L1 (Kd.S_reads' HO_4.out).2.2 x8_2 p144 q144
                                        obtain rfl : ad143 = ad144 := (by injection e144)
                                        obtain ⟨ce144, hce144, hMe144, hcc144⟩ := Kd.S_get HO_4.out [] x8_2 p144 (by first | exact q144 | exact of_decide_eq_true (by first | (with_reducible assumption) | assumption) | (have e_ := (Kd.S_reads' HO_4.out).1; omega))
                                        obtain ⟨ve144_0, rfl, ge144_0⟩ := hMe144
                                        have hv144_0 := hcc144 0 _ rfl
                                        rw [Nat.add_zero, show ((Kd.slice 3 (Kd.int .i64))).sz = 1 from rfl, Nat.mul_one] at hv144_0
                                        replace hv144_0 := Option.some.inj (hv144_0.symm.trans hx144_0)
                                        rw [hv144_0] at ge144_0
                                        have HL144_0 := Aside0.mk (show Kd.R (Kd.int .i64) 3 _ _ _ _ (rd_L1 t138 x8_2) from ge144_0)
                                        clear hv144_0 ge144_0
                                        clear hcc144 hce144
                                        have HR144_0 := Aside0.mk hi144_0
                                        have HC144_0 := Aside0.mk hl144_0
                                        clear hi144_0 hl144_0
                                        replace p144 := eq_true p144
                                        replace q144 := eq_true q144
                                        have ea_ := Option.some.inj (hx143_0.symm.trans hx144_0)
                                        injection ea_ with ea_ en_ ec_
                                        subst ea_
                                        subst ec_
                                        clear en_
                                        have p145 : 0 ≤ (x9_3 : Int) := of_decide_eq_true (by first | (with_reducible assumption) | assumption)
                                        have q145 : x9_3 < ((rd_L1 t138 x8_2).length : Int) := of_decide_eq_true (by first | (with_reducible assumption) | assumption)
                                        obtain ⟨ad145, e145, hx145_0⟩ := Kd.at_int (by repeat (first | (with_reducible exact HR144_0.out) | (with_reducible refine Kd.C_alloc ?_ _) | (with_reducible refine Kd.C_drewN ?_ _) | (with_reducible refine Kd.C_drew ?_) | exact HR144_0.out)) x9_3 p145 q145
                                        cases e145
                                        replace p145 := eq_true p145
                                        replace q145 := eq_true q145
                                        have p146 : 0 ≤ ((rd (rd_L1 t138 x8_2) x9_3) : Int) := of_decide_eq_true (by first | (with_reducible assumption) | assumption)
                                        have q146 : (rd (rd_L1 t138 x8_2) x9_3) < (t135.length : Int) := of_decide_eq_true (by first | (with_reducible assumption) | assumption)
                                        obtain ⟨ad146, e146, hx146_0⟩ := Kd.at_int (Kd.R_reads' HO_3.out).2.2 (rd (rd_L1 t138 x8_2) x9_3) p146 q146
                                        cases e146
                                        replace p146 := eq_true p146
                                        replace q146 := eq_true q146
                                        go_wp2
                                        go_ret
                                        exact ⟨by first | rfl | (simp [errW_none, errW_some] <;> rfl) | (simp [*, errW_none, errW_some] <;> rfl), by repeat (first | (with_reducible first | exact HB.out | apply below_alloc | apply pw_below_drewN | apply below_drew1) | exact HB.out)⟩
                                    · rw [if_neg c26] at H
                                      exact absurd H (by simp)
                                  · rw [if_neg c25] at H
                                    exact absurd H (by simp)
                            · rw [if_neg c20] at H
                              exact absurd H (by simp)
                          · rw [if_neg c19] at H
                            have c19b0 : decide (x9_3 < ((rd_L1 t138 x8_2).length : Int)) = false := decide_eq_false c19
                            clear c19
                            obtain ⟨ji37, hji37⟩ : ∃ j_ : Int, (mx x7_2 ((rd_L1 t138 x8_2).length : Int)) = j_ := ⟨_, rfl⟩
                            replace H : (tattinglaw4_OccurParts.l0 k3 t135 t138 x6_3 ji37 (wrap64 (x8_2 + 1))) = some r := by first | (rw [hji37] at H; exact H) | (simp only [hji37] at H ⊢; exact H)
                            have hji37_ : (if x7_2 < ((rd_L1 t138 x8_2).length : Int) then ((rd_L1 t138 x8_2).length : Int) else x7_2) = ji37 := hji37
                            have H' := Aside0.mk H
                            clear H
                            obtain ⟨Ao38, co38, eo38⟩ := Kd.S_slice HO_4.out
                            subst eo38
                            have p143 : 0 ≤ (x8_2 : Int) := of_decide_eq_true (by first | (with_reducible assumption) | assumption)
                            have q143 : x8_2 < (t138.length : Int) := of_decide_eq_true (by first | (with_reducible assumption) | assumption)
                            obtain ⟨ad143, A143_0, c143_0, e143, hx143_0, hl143_0, hi143_0⟩ := at_L1 (Kd.S_reads' HO_4.out).2.2 x8_2 p143 q143
                            cases e143
                            obtain ⟨ce143, hce143, hMe143, hcc143⟩ := Kd.S_get HO_4.out [] x8_2 p143 (by first | exact q143 | exact of_decide_eq_true (by first | (with_reducible assumption) | assumption) | (have e_ := (Kd.S_reads' HO_4.out).1; omega))
                            obtain ⟨ve143_0, rfl, ge143_0⟩ := hMe143
                            have hv143_0 := hcc143 0 _ rfl
                            rw [Nat.add_zero, show ((Kd.slice 3 (Kd.int .i64))).sz = 1 from rfl, Nat.mul_one] at hv143_0
                            replace hv143_0 := Option.some.inj (hv143_0.symm.trans hx143_0)
                            rw [hv143_0] at ge143_0
                            have HL143_0 := Aside0.mk (show Kd.R (Kd.int .i64) 3 _ _ _ _ (rd_L1 t138 x8_2) from ge143_0)
                            clear hv143_0 ge143_0
                            clear hcc143 hce143
                            have HR143_0 := Aside0.mk hi143_0
                            have HC143_0 := Aside0.mk hl143_0
                            clear hi143_0 hl143_0
                            replace p143 := eq_true p143
                            replace q143 := eq_true q143
                            have p149 : 0 ≤ (x8_2 : Int) := of_decide_eq_true (by first | (with_reducible assumption) | assumption)
                            have q149 : x8_2 < (t138.length : Int) := of_decide_eq_true (by first | (with_reducible assumption) | assumption)
                            obtain ⟨ad149, A149_0, c149_0, e149, hx149_0, hl149_0, hi149_0⟩ := at_L1 (Kd.S_reads' HO_4.out).2.2 x8_2 p149 q149
                            obtain rfl : ad143 = ad149 := (by injection e149)
                            obtain ⟨ce149, hce149, hMe149, hcc149⟩ := Kd.S_get HO_4.out [] x8_2 p149 (by first | exact q149 | exact of_decide_eq_true (by first | (with_reducible assumption) | assumption) | (have e_ := (Kd.S_reads' HO_4.out).1; omega))
                            obtain ⟨ve149_0, rfl, ge149_0⟩ := hMe149
                            have hv149_0 := hcc149 0 _ rfl
                            rw [Nat.add_zero, show ((Kd.slice 3 (Kd.int .i64))).sz = 1 from rfl, Nat.mul_one] at hv149_0
                            replace hv149_0 := Option.some.inj (hv149_0.symm.trans hx149_0)
                            rw [hv149_0] at ge149_0
                            have HL149_0 := Aside0.mk (show Kd.R (Kd.int .i64) 3 _ _ _ _ (rd_L1 t138 x8_2) from ge149_0)
                            clear hv149_0 ge149_0
                            clear hcc149 hce149
                            have HR149_0 := Aside0.mk hi149_0
                            have HC149_0 := Aside0.mk hl149_0
                            clear hi149_0 hl149_0
                            replace p149 := eq_true p149
                            replace q149 := eq_true q149
                            have ea_ := Option.some.inj (hx143_0.symm.trans hx149_0)
                            injection ea_ with ea_ en_ ec_
                            subst ea_
                            subst ec_
                            clear en_
                            go_wp2
                            go_roundg k3
                            case measure => have := HJ7.out; have := HK2.out; have := HK3.out; omega
                            case rel => exact ⟨(x6_3), (ji37), (wrap64 (x8_2 + 1)), (by first | rfl | (simp; done) | (simp [*]; done)), (by first | rfl | (simp; done) | (simp only [← hji37] <;> (first | rfl | simp)) | (simp [*]; done)), (by first | rfl | (simp; done) | (simp [*]; done)), H', ⟨by have := HJ7.out; have := HK2.out; have := HK3.out; omega⟩, ⟨by (with_reducible repeat (first | apply Kd.R_alloc | apply Kd.R_drewN | apply Kd.R_drew)); exact HO_3.out⟩, ⟨by (with_reducible repeat (first | apply Kd.S_alloc | apply Kd.S_drewN | apply Kd.S_drew)); exact HO_4.out⟩, ⟨by repeat (first | (with_reducible first | exact HB.out | apply below_alloc | apply pw_below_drewN | apply below_drew1) | exact HB.out)⟩⟩
                        · rw [if_neg c18] at H
                          exact absurd H (by simp)
                      · rw [if_neg c17] at H
                        exact absurd H (by simp)
                · rw [if_neg c16] at H
                  have c16b0 : decide (x8_2 < 8) = false := decide_eq_false c16
                  clear c16
                  by_cases c39 : x6_2 = (t135.length : Int)
                  · rw [if_pos c39] at H
                    have c39b0 : (x6_2 == (t135.length : Int)) = true := beq_iff_eq.mpr c39
                    have c39b1 : (x6_2 != (t135.length : Int)) = false := bne_eq_false_iff_eq.mpr c39
                    clear c39
                    replace H := Option.bind_eq_some_iff.mp H
                    obtain ⟨t142, A400, H⟩ := H
                    replace H : (some (t142 == x7_2)) = some r := H
                    have A40 := Aside0.mk A400
                    clear A400
                    obtain rfl := Option.some.inj H
                    obtain ⟨Ao41, co41, eo41⟩ := Kd.S_slice HO_4.out
                    subst eo41
                    go_wp2_with (first | (go_at_call 13; (with_reducible refine (occur_Most.calls k2 _ _ t138 t142 _ ?side1 ?side2 A40.out).mono ?_); (case side1 => repeat (first | exact (Kd.S_reads' HO_4.out).2.2 | (with_reducible refine Kd.C_alloc ?_ _) | (with_reducible refine Kd.C_drewN ?_ _) | (with_reducible refine Kd.C_drew ?_))); (case side2 => exact (Kd.S_reads' HO_4.out).2.1); rintro e w42 ⟨rfl, hb⟩; have n0_ := Aside0.mk (Kd.R_below (by (with_reducible repeat (first | apply Kd.R_alloc | apply Kd.R_drewN | apply Kd.R_drew)); exact HO_3.out) hb); have n1_ := Aside0.mk (Kd.S_below (by (with_reducible repeat (first | apply Kd.S_alloc | apply Kd.S_drewN | apply Kd.S_drew)); exact HO_4.out) hb); have n2_ := Aside0.mk (below_step (by repeat (first | (with_reducible first | exact HB.out | apply below_alloc | apply pw_below_drewN | apply below_drew1) | exact HB.out)) hb); clear HO_3; clear HO_4; clear HB; have HO_3 := n0_; have HO_4 := n1_; have HB := n2_; clear n0_ n1_ n2_; (try clear hb); (try clear hb2); (try clear hk); (try clear hi)))
                    go_ret
                    exact ⟨by first | rfl | (simp [errW_none, errW_some] <;> rfl) | (simp [*, errW_none, errW_some] <;> rfl), by repeat (first | (with_reducible first | exact HB.out | apply below_alloc | apply pw_below_drewN | apply below_drew1) | exact HB.out)⟩
                  · rw [if_neg c39] at H
                    have c39b0 : (x6_2 == (t135.length : Int)) = false := beq_eq_false_iff_ne.mpr c39
                    have c39b1 : (x6_2 != (t135.length : Int)) = true := bne_iff_ne.mpr c39
                    obtain rfl := Option.some.inj H
                    go_wp2
                    go_ret
                    exact ⟨by first | rfl | (simp [errW_none, errW_some] <;> rfl) | (simp [*, errW_none, errW_some] <;> rfl), by repeat (first | (with_reducible first | exact HB.out | apply below_alloc | apply pw_below_drewN | apply below_drew1) | exact HB.out)⟩
  · replace c3 := Bool.eq_false_iff.mpr c3
    subst c3
    have H1 : (some false) = some r := by rw [if_neg (show ¬ (false = true) by decide)] at H; exact H
    clear H
    have H := H1
    clear H1
    obtain rfl := Option.some.inj H
    go_enter Try.func4, Try.ntmps4
    go_wp2_with (first | ((with_reducible refine gate_callee (f := 8) rfl ?_); refine goesL_ (some 11) rfl rfl Try.func8 (by kernel_rfl) rfl #[] rfl (by (try simp only [List.map_toArray, List.map_cons, List.map_nil]); first | done | rfl | (simp only [List.length_drop, List.length_take]; rfl)) ?_; (with_reducible refine (tattinglaw4_awake.calls k  false _ A2.out).mono ?_); rintro e w43 ⟨rfl, hb⟩; refine ⟨_, rfl, ?_⟩; have n0_ := Aside0.mk (below_step (by repeat (first | (with_reducible first | exact HB.out | apply below_alloc | apply pw_below_drewN | apply below_drew1) | exact HB.out)) hb); clear HB; have HB := n0_; clear n0_; (try clear hb); (try clear hb2); (try clear hk); (try clear hi)))
    go_ret
    exact ⟨by first | rfl | (simp [errW_none, errW_some] <;> rfl) | (simp [*, errW_none, errW_some] <;> rfl), by repeat (first | (with_reducible first | exact HB.out | apply below_alloc | apply pw_below_drewN | apply below_drew1) | exact HB.out)⟩

/-- THE ONE PURE STATEMENT of tattinglaw4_OccurParts: yours. -/
def tattinglaw4_OccurParts.Pure : Prop := ∀ (l0 : List Int), l0.length ≤ maxLen → l0.length * 8 ≤ 140737488351232 → (∀ x ∈ l0, (Lit.int .i64 x).wf = true) → ∃ k, tattinglaw4_OccurParts.f k l0 = some true
theorem tattinglaw4_OccurParts.walk (P : tattinglaw4_OccurParts.Pure) (a0 : Option Addr) (len0 cap0 : Nat) (z0 : List Int) (w : World) (w0 : (a0 = none ∧ len0 = 0 ∧ cap0 = 0 ∧ z0 = []) ∨ ∃ x, a0 = some x ∧ len0 ≤ cap0 ∧ cap0 ≤ maxLen ∧ z0.length = cap0 ∧ (∀ i, i < z0.length → w.cell? (x.add i) = some (.int .i64 (z0.getD i 0))) ∧ ∀ n ∈ z0, (Lit.int .i64 n).wf = true) (y0 : len0 * 8 ≤ 140737488351232) :
    Calls Try.prog 4 #[.slice a0 len0 cap0] w fun e w' => e = .returned (.bool true) ∧ Below w.heap.size w w' := by
  obtain ⟨l0, rfl, hr0, hm0, hw0, hc0⟩ := ReadsInt.ofRowC w0
  obtain ⟨k, h⟩ := P l0 hm0 y0 hw0
  refine (tattinglaw4_OccurParts.calls k _ _ l0 true w (Kd.C_of_reads (d := (0 : Int)) (h1 := fun _ => rfl) hr0) hc0 h).mono ?_
  rintro e w' ⟨rfl, hd⟩
  exact ⟨rfl, hd⟩

end Go.Proofs.Ytclddnajmcngcaa.POccurParts
