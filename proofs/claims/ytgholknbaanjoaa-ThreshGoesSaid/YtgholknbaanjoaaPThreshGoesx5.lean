-- Laid by wip/myprint.py: the kit's print, with contracts typed by hand for what it does not take.
import Derived.Test.YtgholknbaanjoaaPThreshGoesx0
import Derived.Test.YtgholknbaanjoaaPThreshGoesx1
import Derived.Test.YtgholknbaanjoaaPThreshGoesx2
import Derived.Test.YtgholknbaanjoaaPThreshGoesx3
import Derived.Test.YtgholknbaanjoaaPThreshGoesx4
namespace Go.Proofs.Ytgholknbaanjoaa.PThreshGoes
open Go.RowKit Go.Proofs.YtgholknbaanjoaaW.PrintWords Go.Proofs.YtgholknbaanjoaaW.PrintLast Go.Proofs.YtgholknbaanjoaaW.PrintMore
attribute [local go_sem] max2_int min2_int max_two min_two max_three min_three max_four min_four   -- for this text's walks alone
set_option linter.unusedVariables false
set_option linter.unusedSimpArgs false

/-! ### tattingref7_Len: function 21 -/
def tattingref7_Len.f (k : Nat) (l0 : List Int) (l1 : List Int) : Option (Int) := (tattingref7_Behind.f k l0 l1).bind fun t233 => (if 0 < (t233.length : Int) then (if 0 < ((rd_L1 t233 0).length : Int) then (some (rd (rd_L1 t233 0) 0)) else (none)) else (none))
theorem tattingref7_Len.mono : ∀ a0 a1 k, LeO (tattingref7_Len.f k a0 a1) (tattingref7_Len.f (k + 1) a0 a1) := by
  intro a0 a1 k
  unfold tattingref7_Len.f
  repeat' first
      | (with_reducible exact tattingref7_Behind.mono _ _ _)
      | (with_reducible exact LeO.refl _)
      | (with_reducible exact LeO.none _)
      | (with_reducible refine LeO.ite ?_ ?_)
      | (with_reducible refine LeO.bind ?_ (fun _ => ?_))
      | exact tattingref7_Behind.mono _ _ _
      | exact LeO.none _
      | refine LeO.ite ?_ ?_
      | refine LeO.bind ?_ (fun _ => ?_)
set_option maxHeartbeats 8000000 in
set_option maxRecDepth 100000 in
theorem tattingref7_Len.calls (k : Nat) (A0 : Option Addr) (c0 : Nat) (l0 : List Int) (A1 : Option Addr) (c1 : Nat) (l1 : List Int) (r : Int) (w : World) (hr0 : Kd.C (Kd.int .i64) w A0 l0.length l0) (hc0 : l0.length ≤ c0) (hr1 : Kd.C (Kd.int .i64) w A1 l1.length l1) (hc1 : l1.length ≤ c1) (h : tattingref7_Len.f k l0 l1 = some r) :
    Calls Try.prog 21 #[.slice A0 l0.length c0, .slice A1 l1.length c1] w fun e w' => e = .returned (.int .i64 r) ∧ Below w.heap.size w w' := by
  have HR0 := Aside0.mk hr0
  have HC0 := Aside0.mk hc0
  clear hr0 hc0
  have HR1 := Aside0.mk hr1
  have HC1 := Aside0.mk hc1
  clear hr1 hc1
  have HB := Aside0.mk (Below.refl w.heap.size w)
  have H : ((tattingref7_Behind.f k l0 l1).bind fun t233 => (if 0 < (t233.length : Int) then (if 0 < ((rd_L1 t233 0).length : Int) then (some (rd (rd_L1 t233 0) 0)) else (none)) else (none))) = some r := h
  clear h
  replace H := Option.bind_eq_some_iff.mp H
  obtain ⟨t233, A30, H⟩ := H
  replace H : (if 0 < (t233.length : Int) then (if 0 < ((rd_L1 t233 0).length : Int) then (some (rd (rd_L1 t233 0) 0)) else (none)) else (none)) = some r := H
  have A3 := Aside0.mk A30
  clear A30
  by_cases c4 : 0 < (t233.length : Int)
  · rw [if_pos c4] at H
    have c4b0 : decide (0 < (t233.length : Int)) = true := decide_eq_true c4
    have c4b1 : decide (0 < t233.length) = true := decide_eq_true (by omega)
    clear c4
    by_cases c5 : 0 < ((rd_L1 t233 0).length : Int)
    · rw [if_pos c5] at H
      have c5b0 : decide (0 < ((rd_L1 t233 0).length : Int)) = true := decide_eq_true c5
      have c5b1 : decide (0 < (rd_L1 t233 0).length) = true := decide_eq_true (by omega)
      clear c5
      obtain rfl := Option.some.inj H
      go_enter Try.func21, Try.ntmps21
      go_wp2_with (first | ((with_reducible refine gate_callee (f := 27) rfl ?_); refine goesL_ (some 7) rfl rfl Try.func27 (by kernel_rfl) rfl #[.slice A0 l0.length c0, .slice A1 l1.length c1] rfl (by (try simp only [List.map_toArray, List.map_cons, List.map_nil]); first | done | rfl | (simp only [List.length_drop, List.length_take]; rfl)) ?_; (with_reducible refine (tattingref7_Behind.calls k _ _ l0 _ _ l1 t233 _ ?side1 ?side2 ?side3 ?side4 A3.out).mono ?_); (case side1 => repeat (first | exact HR0.out | (with_reducible refine Kd.C_alloc ?_ _) | (with_reducible refine Kd.C_drewN ?_ _) | (with_reducible refine Kd.C_drew ?_))); (case side2 => exact HC0.out); (case side3 => repeat (first | exact HR1.out | (with_reducible refine Kd.C_alloc ?_ _) | (with_reducible refine Kd.C_drewN ?_ _) | (with_reducible refine Kd.C_drew ?_))); (case side4 => exact HC1.out); rintro e w6 ⟨v234, rfl, ho0, hb⟩; refine ⟨_, rfl, ?_⟩; have n0_ := Aside0.mk (Kd.S_lower ho0 (below_size (by repeat (first | (with_reducible first | exact HB.out | apply below_alloc | apply pw_below_drewN | apply below_drew1) | exact HB.out)))); have n1_ := Aside0.mk (below_step (by repeat (first | (with_reducible first | exact HB.out | apply below_alloc | apply pw_below_drewN | apply below_drew1) | exact HB.out)) hb); clear HB; have HO235 := n0_; have HB := n1_; clear n0_ n1_; (try clear hb); (try clear hb2); (try clear hk); (try clear hi); (try clear ho0); obtain ⟨Ao7, co7, eo7⟩ := Kd.S_slice HO235.out; subst eo7; have p236 : 0 ≤ (0 : Int) := (by omega); have q236 : 0 < (t233.length : Int) := of_decide_eq_true (by first | (with_reducible assumption) | assumption); obtain ⟨ad236, A236_0, c236_0, e236, hx236_0, hl236_0, hi236_0⟩ := at_L1 (Kd.S_reads' HO235.out).2.2 0 p236 q236; cases e236; obtain ⟨ce236, hce236, hMe236, hcc236⟩ := Kd.S_get HO235.out [] 0 p236 (by first | exact q236 | exact of_decide_eq_true (by first | (with_reducible assumption) | assumption) | (have e_ := (Kd.S_reads' HO235.out).1; omega)); obtain ⟨ve236_0, rfl, ge236_0⟩ := hMe236; have hv236_0 := hcc236 0 _ rfl; rw [Nat.add_zero, show ((Kd.slice 3 (Kd.int .i64))).sz = 1 from rfl, Nat.mul_one] at hv236_0; replace hv236_0 := Option.some.inj (hv236_0.symm.trans hx236_0); rw [hv236_0] at ge236_0; have HL236_0 := Aside0.mk (show Kd.R (Kd.int .i64) 3 _ _ _ _ (rd_L1 t233 0) from ge236_0); clear hv236_0 ge236_0; clear hcc236 hce236; have qi236 : (0 < t233.length) = True := eq_true (by omega); (try rw [show ((0 : Int)).toNat = 0 from rfl] at hx236_0); (try rw [Addr.add_zero'] at hx236_0); have HR236_0 := Aside0.mk hi236_0; have HC236_0 := Aside0.mk hl236_0; clear hi236_0 hl236_0; replace p236 := eq_true p236; replace q236 := eq_true q236; have p237 : 0 ≤ (0 : Int) := (by omega); have q237 : 0 < ((rd_L1 t233 0).length : Int) := of_decide_eq_true (by first | (with_reducible assumption) | assumption); obtain ⟨ad237, e237, hx237_0⟩ := Kd.at_int (by repeat (first | (with_reducible exact HR236_0.out) | (with_reducible refine Kd.C_alloc ?_ _) | (with_reducible refine Kd.C_drewN ?_ _) | (with_reducible refine Kd.C_drew ?_) | exact HR236_0.out)) 0 p237 q237; cases e237; have qi237 : (0 < (rd_L1 t233 0).length) = True := eq_true (by omega); (try rw [show ((0 : Int)).toNat = 0 from rfl] at hx237_0); (try rw [Addr.add_zero'] at hx237_0); replace p237 := eq_true p237; replace q237 := eq_true q237))
      go_ret
      exact ⟨by first | rfl | (simp [errW_none, errW_some] <;> rfl) | (simp [*, errW_none, errW_some] <;> rfl), by repeat (first | (with_reducible first | exact HB.out | apply below_alloc | apply pw_below_drewN | apply below_drew1) | exact HB.out)⟩
    · rw [if_neg c5] at H
      exact absurd H (by simp)
  · rw [if_neg c4] at H
    exact absurd H (by simp)

/-! ### tattinglaw15_ThreshGoes: function 6 -/
mutual
def tattinglaw15_ThreshGoes.j0 : Nat → List Int → List Int → Bool → Option (Bool)
  | 0, _, _, _ => none
  | k + 1, x0, x1, x20 => if x20 = true then (some true) else ((tattingref1_Few.f k x0 4).bind fun t239 => ((tattingref1_Few.f k x1 4).bind fun t242 => ((tattingref1_Places.f k 4 t242).bind fun bt245 => (tattinglaw15_ThreshGoes.l0 k t239 t242 bt245.1 ([] : List Int) 0))))
def tattinglaw15_ThreshGoes.l0 : Nat → List Int → List Int → List (List Int) → List Int → Int → Option (Bool)
  | 0, _, _, _, _, _ => none
  | k + 1, x5, x6, x7, x9, x10 => if x10 < (x5.length : Int) then (if 0 ≤ x10 then (if 0 ≤ (rd x5 x10) then (if (rd x5 x10) < (x7.length : Int) then ((thresh_Row.f k x9 (rd_L1 x7 (rd x5 x10))).bind fun t252 => (if 0 ≤ (wrap64 (x10 + 1)) then (if (wrap64 (x10 + 1)) ≤ (x5.length : Int) then ((tattingref15_Thresholds.f k (x5.take ((wrap64 (x10 + 1)) : Int).toNat) x6).bind fun t259 => ((tattingref1_SameInts.f k t252 t259).bind fun t262 => (if t262 = true then (tattinglaw15_ThreshGoes.l0 k x5 x6 x7 t252 (wrap64 (x10 + 1))) else (some false)))) else (none)) else (none))) else (none)) else (none)) else (none)) else ((tattingref7_Len.f k x5 x6).bind fun t249 => (some ((x9.length : Int) == t249)))
end
def tattinglaw15_ThreshGoes.f (k : Nat) (l0 : List Int) (l1 : List Int) : Option (Bool) := (tattinglaw15_awake.f k).bind fun t238 => (if t238 = true then (if (l0.length : Int) > 40 then (tattinglaw15_ThreshGoes.j0 k l0 l1 true) else (tattinglaw15_ThreshGoes.j0 k l0 l1 (decide ((l1.length : Int) > 40)))) else (some false))
theorem tattinglaw15_ThreshGoes.mono_l : ∀ k, (∀ y0 y1 y2, LeO (tattinglaw15_ThreshGoes.j0 k y0 y1 y2) (tattinglaw15_ThreshGoes.j0 (k + 1) y0 y1 y2)) ∧ (∀ y0 y1 y2 y3 y4, LeO (tattinglaw15_ThreshGoes.l0 k y0 y1 y2 y3 y4) (tattinglaw15_ThreshGoes.l0 (k + 1) y0 y1 y2 y3 y4))
  | 0 => ⟨fun _ _ _ r h => by simp [tattinglaw15_ThreshGoes.j0] at h, fun _ _ _ _ _ r h => by simp [tattinglaw15_ThreshGoes.l0] at h⟩
  | k + 1 => by
    obtain ⟨ih0, ih1⟩ := tattinglaw15_ThreshGoes.mono_l k
    refine ⟨?_, ?_⟩
    · intro y0 y1 y2
      unfold tattinglaw15_ThreshGoes.j0
      repeat' first
      | (with_reducible exact ih0 _ _ _)
      | (with_reducible exact ih1 _ _ _ _ _)
      | (with_reducible exact tattinglaw15_awake.mono _)
      | (with_reducible exact tattingref15_Thresholds.mono _ _ _)
      | (with_reducible exact tattingref1_Few.mono _ _ _)
      | (with_reducible exact tattingref1_Places.mono _ _ _)
      | (with_reducible exact tattingref1_SameInts.mono _ _ _)
      | (with_reducible exact tattingref7_Len.mono _ _ _)
      | (with_reducible exact thresh_Row.mono _ _ _)
      | (with_reducible exact LeO.refl _)
      | (with_reducible exact LeO.none _)
      | (with_reducible refine LeO.ite ?_ ?_)
      | (with_reducible refine LeO.bind ?_ (fun _ => ?_))
      | exact ih0 _ _ _
      | exact ih1 _ _ _ _ _
      | exact tattinglaw15_awake.mono _
      | exact tattingref15_Thresholds.mono _ _ _
      | exact tattingref1_Few.mono _ _ _
      | exact tattingref1_Places.mono _ _ _
      | exact tattingref1_SameInts.mono _ _ _
      | exact tattingref7_Len.mono _ _ _
      | exact thresh_Row.mono _ _ _
      | exact LeO.none _
      | refine LeO.ite ?_ ?_
      | refine LeO.bind ?_ (fun _ => ?_)
    · intro y0 y1 y2 y3 y4
      unfold tattinglaw15_ThreshGoes.l0
      repeat' first
      | (with_reducible exact ih0 _ _ _)
      | (with_reducible exact ih1 _ _ _ _ _)
      | (with_reducible exact tattinglaw15_awake.mono _)
      | (with_reducible exact tattingref15_Thresholds.mono _ _ _)
      | (with_reducible exact tattingref1_Few.mono _ _ _)
      | (with_reducible exact tattingref1_Places.mono _ _ _)
      | (with_reducible exact tattingref1_SameInts.mono _ _ _)
      | (with_reducible exact tattingref7_Len.mono _ _ _)
      | (with_reducible exact thresh_Row.mono _ _ _)
      | (with_reducible exact LeO.refl _)
      | (with_reducible exact LeO.none _)
      | (with_reducible refine LeO.ite ?_ ?_)
      | (with_reducible refine LeO.bind ?_ (fun _ => ?_))
      | exact ih0 _ _ _
      | exact ih1 _ _ _ _ _
      | exact tattinglaw15_awake.mono _
      | exact tattingref15_Thresholds.mono _ _ _
      | exact tattingref1_Few.mono _ _ _
      | exact tattingref1_Places.mono _ _ _
      | exact tattingref1_SameInts.mono _ _ _
      | exact tattingref7_Len.mono _ _ _
      | exact thresh_Row.mono _ _ _
      | exact LeO.none _
      | refine LeO.ite ?_ ?_
      | refine LeO.bind ?_ (fun _ => ?_)
theorem tattinglaw15_ThreshGoes.mono : ∀ a0 a1 k, LeO (tattinglaw15_ThreshGoes.f k a0 a1) (tattinglaw15_ThreshGoes.f (k + 1) a0 a1) := by
  intro a0 a1 k
  obtain ⟨ih0, ih1⟩ := tattinglaw15_ThreshGoes.mono_l k
  unfold tattinglaw15_ThreshGoes.f
  repeat' first
      | (with_reducible exact ih0 _ _ _)
      | (with_reducible exact ih1 _ _ _ _ _)
      | (with_reducible exact tattinglaw15_awake.mono _)
      | (with_reducible exact tattingref15_Thresholds.mono _ _ _)
      | (with_reducible exact tattingref1_Few.mono _ _ _)
      | (with_reducible exact tattingref1_Places.mono _ _ _)
      | (with_reducible exact tattingref1_SameInts.mono _ _ _)
      | (with_reducible exact tattingref7_Len.mono _ _ _)
      | (with_reducible exact thresh_Row.mono _ _ _)
      | (with_reducible exact LeO.refl _)
      | (with_reducible exact LeO.none _)
      | (with_reducible refine LeO.ite ?_ ?_)
      | (with_reducible refine LeO.bind ?_ (fun _ => ?_))
      | exact ih0 _ _ _
      | exact ih1 _ _ _ _ _
      | exact tattinglaw15_awake.mono _
      | exact tattingref15_Thresholds.mono _ _ _
      | exact tattingref1_Few.mono _ _ _
      | exact tattingref1_Places.mono _ _ _
      | exact tattingref1_SameInts.mono _ _ _
      | exact tattingref7_Len.mono _ _ _
      | exact thresh_Row.mono _ _ _
      | exact LeO.none _
      | refine LeO.ite ?_ ?_
      | refine LeO.bind ?_ (fun _ => ?_)
set_option maxHeartbeats 8000000 in
set_option maxRecDepth 100000 in
theorem tattinglaw15_ThreshGoes.calls (k : Nat) (A0 : Option Addr) (c0 : Nat) (l0 : List Int) (A1 : Option Addr) (c1 : Nat) (l1 : List Int) (r : Bool) (w : World) (hr0 : Kd.C (Kd.int .i64) w A0 l0.length l0) (hc0 : l0.length ≤ c0) (hr1 : Kd.C (Kd.int .i64) w A1 l1.length l1) (hc1 : l1.length ≤ c1) (h : tattinglaw15_ThreshGoes.f k l0 l1 = some r) (HRT : Aside0 (r = true)) :
    Calls Try.prog 6 #[.slice A0 l0.length c0, .slice A1 l1.length c1] w fun e w' => e = .returned (.bool r) ∧ Below w.heap.size w w' := by
  have HR0 := Aside0.mk hr0
  have HC0 := Aside0.mk hc0
  clear hr0 hc0
  have HR1 := Aside0.mk hr1
  have HC1 := Aside0.mk hc1
  clear hr1 hc1
  have HB := Aside0.mk (Below.refl w.heap.size w)
  have H : ((tattinglaw15_awake.f k).bind fun t238 => (if t238 = true then (if (l0.length : Int) > 40 then (tattinglaw15_ThreshGoes.j0 k l0 l1 true) else (tattinglaw15_ThreshGoes.j0 k l0 l1 (decide ((l1.length : Int) > 40)))) else (some false))) = some r := h
  clear h
  replace H := Option.bind_eq_some_iff.mp H
  obtain ⟨t238, A30, H⟩ := H
  replace H : (if t238 = true then (if (l0.length : Int) > 40 then (tattinglaw15_ThreshGoes.j0 k l0 l1 true) else (tattinglaw15_ThreshGoes.j0 k l0 l1 (decide ((l1.length : Int) > 40)))) else (some false)) = some r := H
  have A3 := Aside0.mk A30
  clear A30
  by_cases c4 : t238 = true
  · subst c4
    have H1 : (if (l0.length : Int) > 40 then (tattinglaw15_ThreshGoes.j0 k l0 l1 true) else (tattinglaw15_ThreshGoes.j0 k l0 l1 (decide ((l1.length : Int) > 40)))) = some r := by rw [if_pos rfl] at H; exact H
    clear H
    have H := H1
    clear H1
    have HC5 := Aside0.mk H
    clear H
    go_enter Try.func6, Try.ntmps6
    go_upto_region 3 with (first | ((with_reducible refine gate_callee (f := 9) rfl ?_); refine goesL_ (some 11) rfl rfl Try.func9 (by kernel_rfl) rfl #[] rfl (by (try simp only [List.map_toArray, List.map_cons, List.map_nil]); first | done | rfl | (simp only [List.length_drop, List.length_take]; rfl)) ?_; (with_reducible refine (tattinglaw15_awake.calls k  true _ A3.out).mono ?_); rintro e w6 ⟨rfl, hb⟩; refine ⟨_, rfl, ?_⟩; have n0_ := Aside0.mk (below_step (by repeat (first | (with_reducible first | exact HB.out | apply below_alloc | apply pw_below_drewN | apply below_drew1) | exact HB.out)) hb); clear HB; have HB := n0_; clear n0_; (try clear hb); (try clear hb2); (try clear hk); (try clear hi)))
    (try simp only [Act.put, List.setIfInBounds_toArray, List.set_cons_zero, List.set_cons_succ])
    go_cut [20] (fun v20 wc => ∃ (kq : Nat) (x20_4 : Bool), v20 = .bool x20_4 ∧ Aside0 (tattinglaw15_ThreshGoes.j0 kq l0 l1 x20_4 = some r) ∧ Aside0 (kq ≤ k) ∧ Aside0 (Below w.heap.size w wc))
    case first =>
      have H := HC5.out
      clear HC5
      by_cases c7 : (l0.length : Int) > 40
      · rw [if_pos c7] at H
        have c7b0 : decide (40 < (l0.length : Int)) = true := decide_eq_true c7
        have c7b1 : decide (40 < l0.length) = true := decide_eq_true (by omega)
        clear c7
        (first | rw [c7b0] | (simp only [i64_w, i32_w]; rw [c7b0]) | skip)
        have H' := Aside0.mk H
        clear H
        go_wp2
        go_meet
        case rel => exact ⟨_, (true), (by first | rfl | (simp; done) | (simp [*]; done)), H', ⟨by first | omega | exact Nat.le_refl _⟩, ⟨by repeat (first | (with_reducible first | exact HB.out | apply below_alloc | apply pw_below_drewN | apply below_drew1) | exact HB.out)⟩⟩
      · rw [if_neg c7] at H
        have c7b0 : decide (40 < (l0.length : Int)) = false := decide_eq_false c7
        have c7b1 : decide (40 < l0.length) = false := decide_eq_false (by omega)
        clear c7
        (first | rw [c7b0] | (simp only [i64_w, i32_w]; rw [c7b0]) | skip)
        have H' := Aside0.mk H
        clear H
        go_wp2
        go_meet
        case rel => exact ⟨_, (decide ((l1.length : Int) > 40)), (by first | rfl | (simp; done) | (simp [*]; done)), H', ⟨by first | omega | exact Nat.le_refl _⟩, ⟨by repeat (first | (with_reducible first | exact HB.out | apply below_alloc | apply pw_below_drewN | apply below_drew1) | exact HB.out)⟩⟩
    case rest =>
      clear HC5
      try clear c1
      try clear p2
      try clear c4
      try clear c6
      try clear c7
      try clear c7b0
      try clear c7b1
      obtain ⟨kq, x20_4, rfl, HA, HJ4, HB⟩ := hcut
      cases kq with
      | zero => exact absurd HA.out (by simp [tattinglaw15_ThreshGoes.j0])
      | succ kj4 =>
        have H := HA.out
        clear HA
        simp only [tattinglaw15_ThreshGoes.j0] at H
        by_cases c8 : x20_4 = true
        · subst c8
          have H1 : (some true) = some r := by rw [if_pos rfl] at H; exact H
          clear H
          have H := H1
          clear H1
          obtain rfl := Option.some.inj H
          go_wp2
          go_ret
          exact ⟨by first | rfl | (simp [errW_none, errW_some] <;> rfl) | (simp [*, errW_none, errW_some] <;> rfl), by repeat (first | (with_reducible first | exact HB.out | apply below_alloc | apply pw_below_drewN | apply below_drew1) | exact HB.out)⟩
        · replace c8 := Bool.eq_false_iff.mpr c8
          subst c8
          have H1 : ((tattingref1_Few.f kj4 l0 4).bind fun t239 => ((tattingref1_Few.f kj4 l1 4).bind fun t242 => ((tattingref1_Places.f kj4 4 t242).bind fun bt245 => (tattinglaw15_ThreshGoes.l0 kj4 t239 t242 bt245.1 ([] : List Int) 0)))) = some r := by rw [if_neg (show ¬ (false = true) by decide)] at H; exact H
          clear H
          have H := H1
          clear H1
          replace H := Option.bind_eq_some_iff.mp H
          obtain ⟨t239, A90, H⟩ := H
          replace H : ((tattingref1_Few.f kj4 l1 4).bind fun t242 => ((tattingref1_Places.f kj4 4 t242).bind fun bt245 => (tattinglaw15_ThreshGoes.l0 kj4 t239 t242 bt245.1 ([] : List Int) 0))) = some r := H
          have A9 := Aside0.mk A90
          clear A90
          replace H := Option.bind_eq_some_iff.mp H
          obtain ⟨t242, A100, H⟩ := H
          replace H : ((tattingref1_Places.f kj4 4 t242).bind fun bt245 => (tattinglaw15_ThreshGoes.l0 kj4 t239 t242 bt245.1 ([] : List Int) 0)) = some r := H
          have A10 := Aside0.mk A100
          clear A100
          replace H := Option.bind_eq_some_iff.mp H
          obtain ⟨⟨t245, t246⟩, A110, H⟩ := H
          replace H : (tattinglaw15_ThreshGoes.l0 kj4 t239 t242 t245 ([] : List Int) 0) = some r := H
          have A11 := Aside0.mk A110
          clear A110
          have H' := Aside0.mk H
          clear H
          go_wp2_with (first | ((with_reducible refine gate_callee (f := 18) rfl ?_); refine goesL_ (some 22) rfl rfl Try.func18 (by kernel_rfl) rfl #[.slice A0 l0.length c0, .int .i64 4] rfl (by (try simp only [List.map_toArray, List.map_cons, List.map_nil]); first | done | rfl | (simp only [List.length_drop, List.length_take]; rfl)) ?_; (with_reducible refine (tattingref1_Few.calls kj4 _ _ l0 4 t239 _ ?side1 ?side2 A9.out).mono ?_); (case side1 => repeat (first | exact (Kd.C_below HR0.out HB.out) | (with_reducible refine Kd.C_alloc ?_ _) | (with_reducible refine Kd.C_drewN ?_ _) | (with_reducible refine Kd.C_drew ?_))); (case side2 => exact HC0.out); rintro e w12 ⟨v240, rfl, ho0, hb⟩; refine ⟨_, rfl, ?_⟩; have n0_ := Aside0.mk (Kd.R_lower ho0 (below_size (by repeat (first | (with_reducible first | exact HB.out | apply below_alloc | apply pw_below_drewN | apply below_drew1) | exact HB.out)))); have n1_ := Aside0.mk (below_step (by repeat (first | (with_reducible first | exact HB.out | apply below_alloc | apply pw_below_drewN | apply below_drew1) | exact HB.out)) hb); clear HB; have HO241 := n0_; have HB := n1_; clear n0_ n1_; (try clear hb); (try clear hb2); (try clear hk); (try clear hi); (try clear ho0)) | ((with_reducible refine gate_callee (f := 18) rfl ?_); refine goesL_ (some 24) rfl rfl Try.func18 (by kernel_rfl) rfl #[.slice A1 l1.length c1, .int .i64 4] rfl (by (try simp only [List.map_toArray, List.map_cons, List.map_nil]); first | done | rfl | (simp only [List.length_drop, List.length_take]; rfl)) ?_; (with_reducible refine (tattingref1_Few.calls kj4 _ _ l1 4 t242 _ ?side1 ?side2 A10.out).mono ?_); (case side1 => repeat (first | exact (Kd.C_below HR1.out HB.out) | (with_reducible refine Kd.C_alloc ?_ _) | (with_reducible refine Kd.C_drewN ?_ _) | (with_reducible refine Kd.C_drew ?_))); (case side2 => exact HC1.out); rintro e w13 ⟨v243, rfl, ho0, hb⟩; refine ⟨_, rfl, ?_⟩; have n0_ := Aside0.mk (Kd.R_elder' (by (with_reducible repeat (first | apply Kd.R_alloc | apply Kd.R_drewN | apply Kd.R_drew)); exact HO241.out) (Kd.R_base ho0) hb); have n1_ := Aside0.mk (Kd.R_lower (Kd.R_new' ho0 (Kd.R_lt (by (with_reducible repeat (first | apply Kd.R_alloc | apply Kd.R_drewN | apply Kd.R_drew)); exact HO241.out))) (below_size (by repeat (first | (with_reducible first | exact HB.out | apply below_alloc | apply pw_below_drewN | apply below_drew1) | exact HB.out)))); have n2_ := Aside0.mk (below_step (by repeat (first | (with_reducible first | exact HB.out | apply below_alloc | apply pw_below_drewN | apply below_drew1) | exact HB.out)) hb); clear HO241; clear HB; have HO241 := n0_; have HO244 := n1_; have HB := n2_; clear n0_ n1_ n2_; (try clear hb); (try clear hb2); (try clear hk); (try clear hi); (try clear ho0); obtain ⟨Ao14, co14, eo14⟩ := Kd.R_slice HO244.out; subst eo14) | ((with_reducible refine gate_callee (f := 19) rfl ?_); refine goesL_ (some 27) rfl rfl Try.func19 (by kernel_rfl) rfl #[.int .i64 4, .slice Ao14 t242.length co14] rfl (by (try simp only [List.map_toArray, List.map_cons, List.map_nil]); first | done | rfl | (simp only [List.length_drop, List.length_take]; rfl)) ?_; (with_reducible refine (tattingref1_Places.calls kj4 4 _ _ t242 t245 t246 _ ?side1 ?side2 A11.out).mono ?_); (case side1 => repeat (first | exact (Kd.R_reads' HO244.out).2.2 | (with_reducible refine Kd.C_alloc ?_ _) | (with_reducible refine Kd.C_drewN ?_ _) | (with_reducible refine Kd.C_drew ?_))); (case side2 => exact (Kd.R_reads' HO244.out).2.1); rintro e w15 ⟨v247, rfl, ho0, hb⟩; refine ⟨_, rfl, ?_⟩; have n0_ := Aside0.mk (Kd.R_below (by (with_reducible repeat (first | apply Kd.R_alloc | apply Kd.R_drewN | apply Kd.R_drew)); exact HO241.out) hb); have n1_ := Aside0.mk (Kd.R_below (by (with_reducible repeat (first | apply Kd.R_alloc | apply Kd.R_drewN | apply Kd.R_drew)); exact HO244.out) hb); have n2_ := Aside0.mk (Kd.S_lower (Kd.S_new' (Kd.S_new' ho0 (Kd.R_lt (by (with_reducible repeat (first | apply Kd.R_alloc | apply Kd.R_drewN | apply Kd.R_drew)); exact HO241.out))) (Kd.R_lt (by (with_reducible repeat (first | apply Kd.R_alloc | apply Kd.R_drewN | apply Kd.R_drew)); exact HO244.out))) (below_size (by repeat (first | (with_reducible first | exact HB.out | apply below_alloc | apply pw_below_drewN | apply below_drew1) | exact HB.out)))); have n3_ := Aside0.mk (below_step (by repeat (first | (with_reducible first | exact HB.out | apply below_alloc | apply pw_below_drewN | apply below_drew1) | exact HB.out)) hb); clear HO241; clear HO244; clear HB; have HO241 := n0_; have HO244 := n1_; have HO248 := n2_; have HB := n3_; clear n0_ n1_ n2_ n3_; (try clear hb); (try clear hb2); (try clear hk); (try clear hi); (try clear ho0)))
          go_loopg [9, 10] kj4 (fun kq v9 v10 w' => ∃ (x9_2 : List Int) (x10_2 : Int), v10 = .int .i64 x10_2 ∧ Aside0 (tattinglaw15_ThreshGoes.l0 kq t239 t242 t245 x9_2 x10_2 = some r) ∧ Aside0 (kq ≤ kj4) ∧ Aside0 (Kd.R (Kd.int .i64) 3 w' w.heap.size (fun k_ => some k_ ≠ ((.slice Ao14 t242.length co14) : Value).ownBlock ∧ some k_ ≠ (v9 : Value).ownBlock) v240 t239) ∧ Aside0 (Kd.R (Kd.int .i64) 3 w' w.heap.size (fun k_ => some k_ ≠ (v240 : Value).ownBlock ∧ some k_ ≠ (v9 : Value).ownBlock) (.slice Ao14 t242.length co14) t242) ∧ Aside0 (Kd.S (Kd.slice 3 (Kd.int .i64)) 22 w' w.heap.size (fun k_ => some k_ ≠ (v240 : Value).ownBlock ∧ some k_ ≠ ((.slice Ao14 t242.length co14) : Value).ownBlock ∧ some k_ ≠ (v9 : Value).ownBlock) v247 t245) ∧ Aside0 (Kd.R (Kd.int .i64) 3 w' w.heap.size (fun k_ => some k_ ≠ (v240 : Value).ownBlock ∧ some k_ ≠ ((.slice Ao14 t242.length co14) : Value).ownBlock) v9 x9_2) ∧ Aside0 (Below w.heap.size w w'))
          case atStart => exact ⟨(([] : List Int)), (0), (by first | rfl | (simp; done) | (simp [*]; done)), H', ⟨Nat.le_refl _⟩, ⟨by (with_reducible repeat (first | apply Kd.R_alloc | apply Kd.R_drewN | apply Kd.R_drew)); exact Kd.R_mono HO241.out (fun _ hk => ⟨hk.2, (by simp [Value.ownBlock])⟩)⟩, ⟨by (with_reducible repeat (first | apply Kd.R_alloc | apply Kd.R_drewN | apply Kd.R_drew)); exact Kd.R_mono HO244.out (fun _ hk => ⟨hk.2, (by simp [Value.ownBlock])⟩)⟩, ⟨by (with_reducible repeat (first | apply Kd.S_alloc | apply Kd.S_drewN | apply Kd.S_drew)); exact Kd.S_mono HO248.out (fun _ hk => ⟨hk.1.2, ⟨hk.2, (by simp [Value.ownBlock])⟩⟩)⟩, ⟨by first | exact Kd.R_nil _ _ _ _ _ | exact Kd.N_nil _ _ _ _ _ | exact Kd.V_nil _ _ _ _ _ | exact Kd.Q_nil _ _ _ _ _ | exact Kd.S_nil _ _ _ _ _⟩, ⟨by repeat (first | (with_reducible first | exact HB.out | apply below_alloc | apply pw_below_drewN | apply below_drew1) | exact HB.out)⟩⟩
          case round =>
            clear H'
            try clear c1
            try clear p2
            try clear c4
            try clear c6
            try clear c7
            try clear c7b0
            try clear c7b1
            try clear c8
            try clear c9
            try clear p2
            obtain ⟨x9_2, x10_2, rfl, HA, HK2, HO_5, HO_6, HO_7, HO_9, HB⟩ := hrel
            cases gk with
            | zero => exact absurd HA.out (by simp [tattinglaw15_ThreshGoes.l0])
            | succ k2 =>
              have H := HA.out
              clear HA
              simp only [tattinglaw15_ThreshGoes.l0] at H
              by_cases c16 : x10_2 < (t239.length : Int)
              · rw [if_pos c16] at H
                have c16b0 : decide (x10_2 < (t239.length : Int)) = true := decide_eq_true c16
                clear c16
                by_cases c17 : 0 ≤ x10_2
                · rw [if_pos c17] at H
                  have c17b0 : decide (0 ≤ x10_2) = true := decide_eq_true c17
                  clear c17
                  by_cases c18 : 0 ≤ (rd t239 x10_2)
                  · rw [if_pos c18] at H
                    have c18b0 : decide (0 ≤ (rd t239 x10_2)) = true := decide_eq_true c18
                    clear c18
                    by_cases c19 : (rd t239 x10_2) < (t245.length : Int)
                    · rw [if_pos c19] at H
                      have c19b0 : decide ((rd t239 x10_2) < (t245.length : Int)) = true := decide_eq_true c19
                      clear c19
                      replace H := Option.bind_eq_some_iff.mp H
                      obtain ⟨t252, A200, H⟩ := H
                      replace H : (if 0 ≤ (wrap64 (x10_2 + 1)) then (if (wrap64 (x10_2 + 1)) ≤ (t239.length : Int) then ((tattingref15_Thresholds.f k2 (t239.take ((wrap64 (x10_2 + 1)) : Int).toNat) t242).bind fun t259 => ((tattingref1_SameInts.f k2 t252 t259).bind fun t262 => (if t262 = true then (tattinglaw15_ThreshGoes.l0 k2 t239 t242 t245 t252 (wrap64 (x10_2 + 1))) else (some false)))) else (none)) else (none)) = some r := H
                      have A20 := Aside0.mk A200
                      clear A200
                      obtain ⟨ji21, hji21⟩ : ∃ j_ : Int, (wrap64 (x10_2 + 1)) = j_ := ⟨_, rfl⟩
                      replace H : (if 0 ≤ (ji21) then (if (ji21) ≤ (t239.length : Int) then ((tattingref15_Thresholds.f k2 (t239.take ((ji21) : Int).toNat) t242).bind fun t259 => ((tattingref1_SameInts.f k2 t252 t259).bind fun t262 => (if t262 = true then (tattinglaw15_ThreshGoes.l0 k2 t239 t242 t245 t252 ji21) else (some false)))) else (none)) else (none)) = some r := by first | (rw [hji21] at H; exact H) | (simp only [hji21] at H ⊢; exact H)
                      (try rw [hji21] at A20)
                      have hji21w : (IntKind.i64.wrap (x10_2 + 1)) = ji21 := (i64_w _).trans hji21
                      by_cases c22 : 0 ≤ (ji21)
                      · rw [if_pos c22] at H
                        have c22b0 := eq_true c22
                        have c22b1 : decide (0 ≤ (ji21)) = true := decide_eq_true c22
                        clear c22
                        by_cases c23 : (ji21) ≤ (t239.length : Int)
                        · rw [if_pos c23] at H
                          have c23b0 := eq_true c23
                          have c23b1 : decide ((ji21) ≤ (t239.length : Int)) = true := decide_eq_true c23
                          clear c23
                          obtain ⟨y255, hy255⟩ : ∃ y_ : List Int, y_ = (t239.take ((ji21) : Int).toNat) := ⟨_, rfl⟩
                          replace H : ((tattingref15_Thresholds.f k2 y255 t242).bind fun t259 => ((tattingref1_SameInts.f k2 t252 t259).bind fun t262 => (if t262 = true then (tattinglaw15_ThreshGoes.l0 k2 t239 t242 t245 t252 ji21) else (some false)))) = some r := by first | (rw [hy255]; with_reducible exact H) | (have H2_ := (Option.bind_some _ _).symm.trans H; rw [hy255]; with_reducible exact H2_) | (have H2_ := (Option.bind_some _ _).symm.trans H; with_reducible exact H2_) | with_reducible exact H | (rw [hy255]; exact H) | exact H
                          have Ny255 := Aside0.mk hy255
                          clear hy255
                          replace H := Option.bind_eq_some_iff.mp H
                          obtain ⟨t259, A240, H⟩ := H
                          replace H : ((tattingref1_SameInts.f k2 t252 t259).bind fun t262 => (if t262 = true then (tattinglaw15_ThreshGoes.l0 k2 t239 t242 t245 t252 ji21) else (some false))) = some r := H
                          have A24 := Aside0.mk A240
                          clear A240
                          replace H := Option.bind_eq_some_iff.mp H
                          obtain ⟨t262, A250, H⟩ := H
                          replace H : (if t262 = true then (tattinglaw15_ThreshGoes.l0 k2 t239 t242 t245 t252 ji21) else (some false)) = some r := H
                          have A25 := Aside0.mk A250
                          clear A250
                          by_cases c26 : t262 = true
                          · subst c26
                            have H1 : (tattinglaw15_ThreshGoes.l0 k2 t239 t242 t245 t252 ji21) = some r := by rw [if_pos rfl] at H; exact H
                            clear H
                            have H := H1
                            clear H1
                            have H' := Aside0.mk H
                            clear H
                            obtain ⟨Ao27, co27, eo27⟩ := Kd.R_slice HO_5.out
                            subst eo27
                            have p250 : 0 ≤ (x10_2 : Int) := of_decide_eq_true (by first | (with_reducible assumption) | assumption)
                            have q250 : x10_2 < (t239.length : Int) := of_decide_eq_true (by first | (with_reducible assumption) | assumption)
                            obtain ⟨ad250, e250, hx250_0⟩ := Kd.at_int (Kd.R_reads' HO_5.out).2.2 x10_2 p250 q250
                            cases e250
                            replace p250 := eq_true p250
                            replace q250 := eq_true q250
                            obtain ⟨Ao28, co28, eo28⟩ := Kd.S_slice HO_7.out
                            subst eo28
                            have p251 : 0 ≤ ((rd t239 x10_2) : Int) := of_decide_eq_true (by first | (with_reducible assumption) | assumption)
                            have q251 : (rd t239 x10_2) < (t245.length : Int) := of_decide_eq_true (by first | (with_reducible assumption) | assumption)
                            obtain ⟨ad251, A251_0, c251_0, e251, hx251_0, hl251_0, hi251_0⟩ := at_L1 (Kd.S_reads' HO_7.out).2.2 (rd t239 x10_2) p251 q251
                            cases e251
                            obtain ⟨ce251, hce251, hMe251, hcc251⟩ := Kd.S_get HO_7.out [] (rd t239 x10_2) p251 (by first | exact q251 | exact of_decide_eq_true (by first | (with_reducible assumption) | assumption) | (have e_ := (Kd.S_reads' HO_7.out).1; omega))
                            obtain ⟨ve251_0, rfl, ge251_0⟩ := hMe251
                            have hv251_0 := hcc251 0 _ rfl
                            rw [Nat.add_zero, show ((Kd.slice 3 (Kd.int .i64))).sz = 1 from rfl, Nat.mul_one] at hv251_0
                            replace hv251_0 := Option.some.inj (hv251_0.symm.trans hx251_0)
                            rw [hv251_0] at ge251_0
                            have HL251_0 := Aside0.mk (show Kd.R (Kd.int .i64) 3 _ _ _ _ (rd_L1 t245 (rd t239 x10_2)) from ge251_0)
                            clear hv251_0 ge251_0
                            clear hcc251 hce251
                            have HR251_0 := Aside0.mk hi251_0
                            have HC251_0 := Aside0.mk hl251_0
                            clear hi251_0 hl251_0
                            replace p251 := eq_true p251
                            replace q251 := eq_true q251
                            obtain ⟨Ao29, co29, eo29⟩ := Kd.R_slice HO_9.out
                            subst eo29
                            go_wp2_with (first | ((with_reducible refine gate_callee (f := 12) rfl ?_); refine goesL_ (some 44) rfl rfl Try.func12 (by kernel_rfl) rfl #[.slice Ao29 x9_2.length co29, .slice A251_0 (rd_L1 t245 (rd t239 x10_2)).length c251_0] rfl (by (try simp only [List.map_toArray, List.map_cons, List.map_nil]); first | done | rfl | (simp only [List.length_drop, List.length_take]; rfl)) ?_; (with_reducible refine (thresh_Row.calls k2 _ _ x9_2 _ _ (rd_L1 t245 (rd t239 x10_2)) t252 _ ?side1 ?side2 ?side3 ?side4 A20.out).mono ?_); (case side1 => repeat (first | exact (Kd.R_reads' HO_9.out).2.2 | (with_reducible refine Kd.C_alloc ?_ _) | (with_reducible refine Kd.C_drewN ?_ _) | (with_reducible refine Kd.C_drew ?_))); (case side2 => exact (Kd.R_reads' HO_9.out).2.1); (case side3 => repeat (first | exact (by repeat (first | (with_reducible exact HR251_0.out) | (with_reducible refine Kd.C_alloc ?_ _) | (with_reducible refine Kd.C_drewN ?_ _) | (with_reducible refine Kd.C_drew ?_) | exact HR251_0.out)) | (with_reducible refine Kd.C_alloc ?_ _) | (with_reducible refine Kd.C_drewN ?_ _) | (with_reducible refine Kd.C_drew ?_))); (case side4 => exact HC251_0.out); rintro e w30 ⟨v253, rfl, ho0, hb⟩; refine ⟨_, rfl, ?_⟩; have n0_ := Aside0.mk (Kd.R_elder' (by (with_reducible repeat (first | apply Kd.R_alloc | apply Kd.R_drewN | apply Kd.R_drew)); exact HO_5.out) (Kd.R_base ho0) hb); have n1_ := Aside0.mk (Kd.R_elder' (by (with_reducible repeat (first | apply Kd.R_alloc | apply Kd.R_drewN | apply Kd.R_drew)); exact HO_6.out) (Kd.R_base ho0) hb); have n2_ := Aside0.mk (Kd.S_elder' (by (with_reducible repeat (first | apply Kd.S_alloc | apply Kd.S_drewN | apply Kd.S_drew)); exact HO_7.out) (Kd.R_base ho0) hb); have n3_ := Aside0.mk (Kd.R_elder' (by (with_reducible repeat (first | apply Kd.R_alloc | apply Kd.R_drewN | apply Kd.R_drew)); exact HO_9.out) (Kd.R_base ho0) hb); have n4_ := Aside0.mk (Kd.R_elder' (by (with_reducible repeat (first | apply Kd.R_alloc | apply Kd.R_drewN | apply Kd.R_drew)); exact HL251_0.out) (Kd.R_base ho0) hb); have n5_ := Aside0.mk (Kd.R_lower (Kd.R_new' (Kd.R_new' (Kd.R_new' (Kd.R_new' ho0 (Kd.R_lt (by (with_reducible repeat (first | apply Kd.R_alloc | apply Kd.R_drewN | apply Kd.R_drew)); exact HO_5.out))) (Kd.R_lt (by (with_reducible repeat (first | apply Kd.R_alloc | apply Kd.R_drewN | apply Kd.R_drew)); exact HO_6.out))) (Kd.R_lt (by (with_reducible repeat (first | apply Kd.R_alloc | apply Kd.R_drewN | apply Kd.R_drew)); exact HO_9.out))) (Kd.R_lt (by (with_reducible repeat (first | apply Kd.R_alloc | apply Kd.R_drewN | apply Kd.R_drew)); exact HL251_0.out))) (below_size (by repeat (first | (with_reducible first | exact HB.out | apply below_alloc | apply pw_below_drewN | apply below_drew1) | exact HB.out)))); have n6_ := Aside0.mk (Kd.C_below (by repeat (first | (with_reducible exact HR251_0.out) | (with_reducible refine Kd.C_alloc ?_ _) | (with_reducible refine Kd.C_drewN ?_ _) | (with_reducible refine Kd.C_drew ?_) | exact HR251_0.out)) hb); have n7_ := Aside0.mk (below_step (by repeat (first | (with_reducible first | exact HB.out | apply below_alloc | apply pw_below_drewN | apply below_drew1) | exact HB.out)) hb); clear HO_5; clear HO_6; clear HO_7; clear HO_9; clear HL251_0; clear HR251_0; clear HB; have HO_5 := n0_; have HO_6 := n1_; have HO_7 := n2_; have HO_9 := n3_; have HL251_0 := n4_; have HO254 := n5_; have HR251_0 := n6_; have HB := n7_; clear n0_ n1_ n2_ n3_ n4_ n5_ n6_ n7_; (try clear hb); (try clear hb2); (try clear hk); (try clear hi); (try clear ho0); have q31 : ((ji21) : Int) ≤ ((t239.length : Int) : Int) := of_decide_eq_true (by first | (with_reducible assumption) | assumption); obtain ⟨i031, hi031, _, hsz31, _⟩ := info_parts info3; have hroom31 : t239.length ≤ co27 := (Kd.R_reads' HO_5.out).2.1; have hC31 : Kd.C (Kd.int .i64) _ (some ad250) t239.length t239 := (Kd.R_reads' HO_5.out).2.2; have hcut31 := cut_to (P := Try.prog) 22 3 .i64 Try.underlying22 hi031 (some ad250) t239.length co27 (ji21) (of_decide_eq_true (by first | (with_reducible assumption) | assumption)) q31 hroom31; have hr31 := Kd.C_take (m := ((ji21) : Int).toNat) hC31 (by omega); have hy31 : y255.length = ((ji21) : Int).toNat := (by rw [Ny255.out, List.length_take]; omega); rw [← Ny255.out] at hr31; rw [← hy31] at hcut31; have HR258 := Aside0.mk hr31; have HC258 := Aside0.mk (show y255.length ≤ co27 from by omega); clear hr31 hC31 hroom31 hi031 hsz31; have KY31 := Aside0.mk hy31; clear hy31; have KL31 := Aside0.mk (show ((ji21) : Int).toNat ≤ t239.length from by omega); replace q31 := eq_true q31) | ((with_reducible refine gate_callee (f := 20) rfl ?_); refine goesL_ (some 51) rfl rfl Try.func20 (by kernel_rfl) rfl #[.slice (some ad250) y255.length co27, .slice Ao14 t242.length co14] rfl (by (try simp only [List.map_toArray, List.map_cons, List.map_nil]); first | done | rfl | (simp only [List.length_drop, List.length_take]; rfl)) ?_; (with_reducible refine (tattingref15_Thresholds.calls k2 _ _ y255 _ _ t242 t259 _ ?side1 ?side2 ?side3 ?side4 A24.out).mono ?_); (case side1 => repeat (first | exact (by repeat (first | (with_reducible exact HR258.out) | (with_reducible refine Kd.C_alloc ?_ _) | (with_reducible refine Kd.C_drewN ?_ _) | (with_reducible refine Kd.C_drew ?_) | exact HR258.out)) | (with_reducible refine Kd.C_alloc ?_ _) | (with_reducible refine Kd.C_drewN ?_ _) | (with_reducible refine Kd.C_drew ?_))); (case side2 => exact HC258.out); (case side3 => repeat (first | exact (Kd.R_reads' HO_6.out).2.2 | (with_reducible refine Kd.C_alloc ?_ _) | (with_reducible refine Kd.C_drewN ?_ _) | (with_reducible refine Kd.C_drew ?_))); (case side4 => exact (Kd.R_reads' HO_6.out).2.1); rintro e w32 ⟨v260, rfl, ho0, hb⟩; refine ⟨_, rfl, ?_⟩; have n0_ := Aside0.mk (Kd.R_elder' (by (with_reducible repeat (first | apply Kd.R_alloc | apply Kd.R_drewN | apply Kd.R_drew)); exact HO_5.out) (Kd.R_base ho0) hb); have n1_ := Aside0.mk (Kd.R_elder' (by (with_reducible repeat (first | apply Kd.R_alloc | apply Kd.R_drewN | apply Kd.R_drew)); exact HO_6.out) (Kd.R_base ho0) hb); have n2_ := Aside0.mk (Kd.S_elder' (by (with_reducible repeat (first | apply Kd.S_alloc | apply Kd.S_drewN | apply Kd.S_drew)); exact HO_7.out) (Kd.R_base ho0) hb); have n3_ := Aside0.mk (Kd.R_elder' (by (with_reducible repeat (first | apply Kd.R_alloc | apply Kd.R_drewN | apply Kd.R_drew)); exact HO_9.out) (Kd.R_base ho0) hb); have n4_ := Aside0.mk (Kd.R_elder' (by (with_reducible repeat (first | apply Kd.R_alloc | apply Kd.R_drewN | apply Kd.R_drew)); exact HL251_0.out) (Kd.R_base ho0) hb); have n5_ := Aside0.mk (Kd.R_elder' (by (with_reducible repeat (first | apply Kd.R_alloc | apply Kd.R_drewN | apply Kd.R_drew)); exact HO254.out) (Kd.R_base ho0) hb); have n6_ := Aside0.mk (Kd.R_lower (Kd.R_new' (Kd.R_new' (Kd.R_new' (Kd.R_new' (Kd.R_new' ho0 (Kd.R_lt (by (with_reducible repeat (first | apply Kd.R_alloc | apply Kd.R_drewN | apply Kd.R_drew)); exact HO_5.out))) (Kd.R_lt (by (with_reducible repeat (first | apply Kd.R_alloc | apply Kd.R_drewN | apply Kd.R_drew)); exact HO_6.out))) (Kd.R_lt (by (with_reducible repeat (first | apply Kd.R_alloc | apply Kd.R_drewN | apply Kd.R_drew)); exact HO_9.out))) (Kd.R_lt (by (with_reducible repeat (first | apply Kd.R_alloc | apply Kd.R_drewN | apply Kd.R_drew)); exact HL251_0.out))) (Kd.R_lt (by (with_reducible repeat (first | apply Kd.R_alloc | apply Kd.R_drewN | apply Kd.R_drew)); exact HO254.out))) (below_size (by repeat (first | (with_reducible first | exact HB.out | apply below_alloc | apply pw_below_drewN | apply below_drew1) | exact HB.out)))); have n7_ := Aside0.mk (Kd.C_below (by repeat (first | (with_reducible exact HR251_0.out) | (with_reducible refine Kd.C_alloc ?_ _) | (with_reducible refine Kd.C_drewN ?_ _) | (with_reducible refine Kd.C_drew ?_) | exact HR251_0.out)) hb); have n8_ := Aside0.mk (Kd.C_below (by repeat (first | (with_reducible exact HR258.out) | (with_reducible refine Kd.C_alloc ?_ _) | (with_reducible refine Kd.C_drewN ?_ _) | (with_reducible refine Kd.C_drew ?_) | exact HR258.out)) hb); have n9_ := Aside0.mk (below_step (by repeat (first | (with_reducible first | exact HB.out | apply below_alloc | apply pw_below_drewN | apply below_drew1) | exact HB.out)) hb); clear HO_5; clear HO_6; clear HO_7; clear HO_9; clear HL251_0; clear HO254; clear HR251_0; clear HR258; clear HB; have HO_5 := n0_; have HO_6 := n1_; have HO_7 := n2_; have HO_9 := n3_; have HL251_0 := n4_; have HO254 := n5_; have HO261 := n6_; have HR251_0 := n7_; have HR258 := n8_; have HB := n9_; clear n0_ n1_ n2_ n3_ n4_ n5_ n6_ n7_ n8_ n9_; (try clear hb); (try clear hb2); (try clear hk); (try clear hi); (try clear ho0); obtain ⟨Ao33, co33, eo33⟩ := Kd.R_slice HO254.out; subst eo33; obtain ⟨Ao34, co34, eo34⟩ := Kd.R_slice HO261.out; subst eo34) | ((with_reducible refine gate_callee (f := 10) rfl ?_); refine goesL_ (some 52) rfl rfl Try.func10 (by kernel_rfl) rfl #[.slice Ao33 t252.length co33, .slice Ao34 t259.length co34] rfl (by (try simp only [List.map_toArray, List.map_cons, List.map_nil]); first | done | rfl | (simp only [List.length_drop, List.length_take]; rfl)) ?_; (with_reducible refine (tattingref1_SameInts.calls k2 _ _ t252 _ _ t259 true _ ?side1 ?side2 ?side3 ?side4 A25.out).mono ?_); (case side1 => repeat (first | exact (Kd.R_reads' HO254.out).2.2 | (with_reducible refine Kd.C_alloc ?_ _) | (with_reducible refine Kd.C_drewN ?_ _) | (with_reducible refine Kd.C_drew ?_))); (case side2 => exact (Kd.R_reads' HO254.out).2.1); (case side3 => repeat (first | exact (Kd.R_reads' HO261.out).2.2 | (with_reducible refine Kd.C_alloc ?_ _) | (with_reducible refine Kd.C_drewN ?_ _) | (with_reducible refine Kd.C_drew ?_))); (case side4 => exact (Kd.R_reads' HO261.out).2.1); rintro e w' ⟨rfl, ⟨nd, rfl⟩⟩; refine ⟨_, rfl, ?_⟩))
                            go_roundg k2
                            case measure => have := HJ4.out; have := HK2.out; omega
                            case rel => exact ⟨(t252), (ji21), (by first | rfl | (simp; done) | (simp only [← hji21] <;> (first | rfl | simp)) | (simp [*]; done)), H', ⟨by have := HJ4.out; have := HK2.out; omega⟩, ⟨by (with_reducible repeat (first | apply Kd.R_alloc | apply Kd.R_drewN | apply Kd.R_drew)); exact Kd.R_mono HO_5.out (fun _ hk => ⟨hk.1.1.1, hk.1.2⟩)⟩, ⟨by (with_reducible repeat (first | apply Kd.R_alloc | apply Kd.R_drewN | apply Kd.R_drew)); exact Kd.R_mono HO_6.out (fun _ hk => ⟨hk.1.1.1, hk.1.2⟩)⟩, ⟨by (with_reducible repeat (first | apply Kd.S_alloc | apply Kd.S_drewN | apply Kd.S_drew)); exact Kd.S_mono HO_7.out (fun _ hk => ⟨hk.1.1.1, ⟨hk.1.1.2.1, hk.1.2⟩⟩)⟩, ⟨by (with_reducible repeat (first | apply Kd.R_alloc | apply Kd.R_drewN | apply Kd.R_drew)); exact Kd.R_mono HO254.out (fun _ hk => ⟨hk.1.1.1.1.2, hk.1.1.1.2⟩)⟩, ⟨by repeat (first | (with_reducible first | exact HB.out | apply below_alloc | apply pw_below_drewN | apply below_drew1) | exact HB.out)⟩⟩
                          · replace c26 := Bool.eq_false_iff.mpr c26
                            subst c26
                            have H1 : (some false) = some r := by rw [if_neg (show ¬ (false = true) by decide)] at H; exact H
                            clear H
                            have H := H1
                            clear H1
                            exact absurd (Option.some.inj H) (by rw [HRT.out]; decide)
                        · rw [if_neg c23] at H
                          exact absurd H (by simp)
                      · rw [if_neg c22] at H
                        exact absurd H (by simp)
                    · rw [if_neg c19] at H
                      exact absurd H (by simp)
                  · rw [if_neg c18] at H
                    exact absurd H (by simp)
                · rw [if_neg c17] at H
                  exact absurd H (by simp)
              · rw [if_neg c16] at H
                have c16b0 : decide (x10_2 < (t239.length : Int)) = false := decide_eq_false c16
                clear c16
                replace H := Option.bind_eq_some_iff.mp H
                obtain ⟨t249, A350, H⟩ := H
                replace H : (some ((x9_2.length : Int) == t249)) = some r := H
                have A35 := Aside0.mk A350
                clear A350
                obtain rfl := Option.some.inj H
                obtain ⟨Ao36, co36, eo36⟩ := Kd.R_slice HO_5.out
                subst eo36
                obtain ⟨Ao37, co37, eo37⟩ := Kd.R_slice HO_9.out
                subst eo37
                go_wp2_with (first | ((with_reducible refine gate_callee (f := 21) rfl ?_); refine goesL_ (some 58) rfl rfl Try.func21 (by kernel_rfl) rfl #[.slice Ao36 t239.length co36, .slice Ao14 t242.length co14] rfl (by (try simp only [List.map_toArray, List.map_cons, List.map_nil]); first | done | rfl | (simp only [List.length_drop, List.length_take]; rfl)) ?_; (with_reducible refine (tattingref7_Len.calls k2 _ _ t239 _ _ t242 t249 _ ?side1 ?side2 ?side3 ?side4 A35.out).mono ?_); (case side1 => repeat (first | exact (Kd.R_reads' HO_5.out).2.2 | (with_reducible refine Kd.C_alloc ?_ _) | (with_reducible refine Kd.C_drewN ?_ _) | (with_reducible refine Kd.C_drew ?_))); (case side2 => exact (Kd.R_reads' HO_5.out).2.1); (case side3 => repeat (first | exact (Kd.R_reads' HO_6.out).2.2 | (with_reducible refine Kd.C_alloc ?_ _) | (with_reducible refine Kd.C_drewN ?_ _) | (with_reducible refine Kd.C_drew ?_))); (case side4 => exact (Kd.R_reads' HO_6.out).2.1); rintro e w38 ⟨rfl, hb⟩; refine ⟨_, rfl, ?_⟩; have n0_ := Aside0.mk (Kd.R_below (by (with_reducible repeat (first | apply Kd.R_alloc | apply Kd.R_drewN | apply Kd.R_drew)); exact HO_5.out) hb); have n1_ := Aside0.mk (Kd.R_below (by (with_reducible repeat (first | apply Kd.R_alloc | apply Kd.R_drewN | apply Kd.R_drew)); exact HO_6.out) hb); have n2_ := Aside0.mk (Kd.S_below (by (with_reducible repeat (first | apply Kd.S_alloc | apply Kd.S_drewN | apply Kd.S_drew)); exact HO_7.out) hb); have n3_ := Aside0.mk (Kd.R_below (by (with_reducible repeat (first | apply Kd.R_alloc | apply Kd.R_drewN | apply Kd.R_drew)); exact HO_9.out) hb); have n4_ := Aside0.mk (below_step (by repeat (first | (with_reducible first | exact HB.out | apply below_alloc | apply pw_below_drewN | apply below_drew1) | exact HB.out)) hb); clear HO_5; clear HO_6; clear HO_7; clear HO_9; clear HB; have HO_5 := n0_; have HO_6 := n1_; have HO_7 := n2_; have HO_9 := n3_; have HB := n4_; clear n0_ n1_ n2_ n3_ n4_; (try clear hb); (try clear hb2); (try clear hk); (try clear hi)))
                go_ret
                exact ⟨by first | rfl | (simp [errW_none, errW_some] <;> rfl) | (simp [*, errW_none, errW_some] <;> rfl), by repeat (first | (with_reducible first | exact HB.out | apply below_alloc | apply pw_below_drewN | apply below_drew1) | exact HB.out)⟩
  · replace c4 := Bool.eq_false_iff.mpr c4
    subst c4
    have H1 : (some false) = some r := by rw [if_neg (show ¬ (false = true) by decide)] at H; exact H
    clear H
    have H := H1
    clear H1
    exact absurd (Option.some.inj H) (by rw [HRT.out]; decide)

/-- THE ONE PURE STATEMENT of tattinglaw15_ThreshGoes: yours. -/
def tattinglaw15_ThreshGoes.Pure : Prop := ∀ (l0 : List Int) (l1 : List Int), l0.length ≤ maxLen → l0.length * 8 ≤ 140737488351232 → (∀ x ∈ l0, (Lit.int .i64 x).wf = true) → l1.length ≤ maxLen → l1.length * 8 ≤ 140737488351232 → (∀ x ∈ l1, (Lit.int .i64 x).wf = true) → ∃ k, tattinglaw15_ThreshGoes.f k l0 l1 = some true
theorem tattinglaw15_ThreshGoes.walk (P : tattinglaw15_ThreshGoes.Pure) (a0 : Option Addr) (len0 cap0 : Nat) (z0 : List Int) (a1 : Option Addr) (len1 cap1 : Nat) (z1 : List Int) (w : World) (w0 : (a0 = none ∧ len0 = 0 ∧ cap0 = 0 ∧ z0 = []) ∨ ∃ x, a0 = some x ∧ len0 ≤ cap0 ∧ cap0 ≤ maxLen ∧ z0.length = cap0 ∧ (∀ i, i < z0.length → w.cell? (x.add i) = some (.int .i64 (z0.getD i 0))) ∧ ∀ n ∈ z0, (Lit.int .i64 n).wf = true) (y0 : len0 * 8 ≤ 140737488351232) (w1 : (a1 = none ∧ len1 = 0 ∧ cap1 = 0 ∧ z1 = []) ∨ ∃ x, a1 = some x ∧ len1 ≤ cap1 ∧ cap1 ≤ maxLen ∧ z1.length = cap1 ∧ (∀ i, i < z1.length → w.cell? (x.add i) = some (.int .i64 (z1.getD i 0))) ∧ ∀ n ∈ z1, (Lit.int .i64 n).wf = true) (y1 : len1 * 8 ≤ 140737488351232) :
    Calls Try.prog 6 #[.slice a0 len0 cap0, .slice a1 len1 cap1] w fun e w' => e = .returned (.bool true) ∧ Below w.heap.size w w' := by
  obtain ⟨l0, rfl, hr0, hm0, hw0, hc0⟩ := ReadsInt.ofRowC w0
  obtain ⟨l1, rfl, hr1, hm1, hw1, hc1⟩ := ReadsInt.ofRowC w1
  obtain ⟨k, h⟩ := P l0 l1 hm0 y0 hw0 hm1 y1 hw1
  refine (tattinglaw15_ThreshGoes.calls k _ _ l0 _ _ l1 true w (Kd.C_of_reads (d := (0 : Int)) (h1 := fun _ => rfl) hr0) hc0 (Kd.C_of_reads (d := (0 : Int)) (h1 := fun _ => rfl) hr1) hc1 h ⟨rfl⟩).mono ?_
  rintro e w' ⟨rfl, hd⟩
  exact ⟨rfl, hd⟩

end Go.Proofs.Ytgholknbaanjoaa.PThreshGoes
