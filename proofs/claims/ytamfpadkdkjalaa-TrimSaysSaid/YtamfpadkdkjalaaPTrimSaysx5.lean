-- Laid by wip/myprint.py: the kit's print, with contracts typed by hand for what it does not take.
import Derived.Test.YtamfpadkdkjalaaPTrimSaysx0
import Derived.Test.YtamfpadkdkjalaaPTrimSaysx2
import Derived.Test.YtamfpadkdkjalaaPTrimSaysx3
import Derived.Test.YtamfpadkdkjalaaPTrimSaysx4
namespace Go.Proofs.Ytamfpadkdkjalaa.PTrimSays
open Go.RowKit Go.Proofs.YtamfpadkdkjalaaW.PrintWords Go.Proofs.YtamfpadkdkjalaaW.PrintLast Go.Proofs.YtamfpadkdkjalaaW.PrintMore
attribute [local go_sem] max2_int min2_int max_two min_two max_three min_three max_four min_four   -- for this text's walks alone
set_option linter.unusedVariables false
set_option linter.unusedSimpArgs false

/-! ### tattingref1_Mid: function 14 -/
def tattingref1_Mid.f (k : Nat) (l0 : List Int) (l1 : List Int) : Option (List Int × List Int) := (tattingref1_Ends.f k l0 l1).bind fun bt168 => (if 0 ≤ bt168.1 then (if bt168.1 ≤ (wrap64 ((l0.length : Int) - bt168.2)) then (if (wrap64 ((l0.length : Int) - bt168.2)) ≤ (l0.length : Int) then ((slices_Clone_int_int.f ((l0.take ((wrap64 ((l0.length : Int) - bt168.2)) : Int).toNat).drop (bt168.1 : Int).toNat)).bind fun t171 => (if bt168.1 ≤ (wrap64 ((l1.length : Int) - bt168.2)) then (if (wrap64 ((l1.length : Int) - bt168.2)) ≤ (l1.length : Int) then ((slices_Clone_int_int.f ((l1.take ((wrap64 ((l1.length : Int) - bt168.2)) : Int).toNat).drop (bt168.1 : Int).toNat)).bind fun t175 => (some (t171, t175))) else (none)) else (none))) else (none)) else (none)) else (none))
theorem tattingref1_Mid.mono : ∀ a0 a1 k, LeO (tattingref1_Mid.f k a0 a1) (tattingref1_Mid.f (k + 1) a0 a1) := by
  intro a0 a1 k
  unfold tattingref1_Mid.f
  repeat' first
      | (with_reducible exact tattingref1_Ends.mono _ _ _)
      | (with_reducible exact LeO.refl _)
      | (with_reducible exact LeO.none _)
      | (with_reducible refine LeO.ite ?_ ?_)
      | (with_reducible refine LeO.bind ?_ (fun _ => ?_))
      | exact tattingref1_Ends.mono _ _ _
      | exact LeO.none _
      | refine LeO.ite ?_ ?_
      | refine LeO.bind ?_ (fun _ => ?_)
set_option maxHeartbeats 8000000 in
set_option maxRecDepth 100000 in
theorem tattingref1_Mid.clone_same {l t : List Int} (h : slices_Clone_int_int.f l = some t) : t = l := by
  unfold slices_Clone_int_int.f at h
  split at h
  · exact (Option.some.inj h).symm
  · exact absurd h (by simp)
theorem tattingref1_Mid.calls (k : Nat) (A0 : Option Addr) (c0 : Nat) (l0 : List Int) (A1 : Option Addr) (c1 : Nat) (l1 : List Int) (r1 : List Int) (r2 : List Int) (w : World) (hr0 : Kd.C (Kd.int .i64) w A0 l0.length l0) (hc0 : l0.length ≤ c0) (hr1 : Kd.C (Kd.int .i64) w A1 l1.length l1) (hc1 : l1.length ≤ c1) (h : tattingref1_Mid.f k l0 l1 = some (r1, r2)) :
    Calls Try.prog 14 #[.slice A0 l0.length c0, .slice A1 l1.length c1] w fun e w' => ∃ (B0 : Option Addr) (d0 : Nat) (B1 : Option Addr) (d1 : Nat), e = .returned (.tuple #[.slice B0 r1.length d0, .slice B1 r2.length d1]) ∧ Kd.C (Kd.int .i64) w' B0 r1.length r1 ∧ r1.length ≤ d0 ∧ Kd.C (Kd.int .i64) w' B1 r2.length r2 ∧ r2.length ≤ d1 ∧ ∃ m, w' = w.drewN m := by
  have HR0 := Aside0.mk hr0
  have HC0 := Aside0.mk hc0
  clear hr0 hc0
  have HR1 := Aside0.mk hr1
  have HC1 := Aside0.mk hc1
  clear hr1 hc1
  have HB := Aside0.mk (Below.refl w.heap.size w)
  have H : ((tattingref1_Ends.f k l0 l1).bind fun bt168 => (if 0 ≤ bt168.1 then (if bt168.1 ≤ (wrap64 ((l0.length : Int) - bt168.2)) then (if (wrap64 ((l0.length : Int) - bt168.2)) ≤ (l0.length : Int) then ((slices_Clone_int_int.f ((l0.take ((wrap64 ((l0.length : Int) - bt168.2)) : Int).toNat).drop (bt168.1 : Int).toNat)).bind fun t171 => (if bt168.1 ≤ (wrap64 ((l1.length : Int) - bt168.2)) then (if (wrap64 ((l1.length : Int) - bt168.2)) ≤ (l1.length : Int) then ((slices_Clone_int_int.f ((l1.take ((wrap64 ((l1.length : Int) - bt168.2)) : Int).toNat).drop (bt168.1 : Int).toNat)).bind fun t175 => (some (t171, t175))) else (none)) else (none))) else (none)) else (none)) else (none))) = some (r1, r2) := h
  clear h
  replace H := Option.bind_eq_some_iff.mp H
  obtain ⟨⟨t168, t169⟩, A30, H⟩ := H
  replace H : (if 0 ≤ t168 then (if t168 ≤ (wrap64 ((l0.length : Int) - t169)) then (if (wrap64 ((l0.length : Int) - t169)) ≤ (l0.length : Int) then ((slices_Clone_int_int.f ((l0.take ((wrap64 ((l0.length : Int) - t169)) : Int).toNat).drop (t168 : Int).toNat)).bind fun t171 => (if t168 ≤ (wrap64 ((l1.length : Int) - t169)) then (if (wrap64 ((l1.length : Int) - t169)) ≤ (l1.length : Int) then ((slices_Clone_int_int.f ((l1.take ((wrap64 ((l1.length : Int) - t169)) : Int).toNat).drop (t168 : Int).toNat)).bind fun t175 => (some (t171, t175))) else (none)) else (none))) else (none)) else (none)) else (none)) = some (r1, r2) := H
  have A3 := Aside0.mk A30
  clear A30
  by_cases c4 : 0 ≤ t168
  · rw [if_pos c4] at H
    have c4b0 := eq_true c4
    have c4b1 : decide (0 ≤ t168) = true := decide_eq_true c4
    clear c4
    by_cases c5 : t168 ≤ (wrap64 ((l0.length : Int) - t169))
    · rw [if_pos c5] at H
      have c5b0 := eq_true c5
      have c5b1 : decide (t168 ≤ (wrap64 ((l0.length : Int) - t169))) = true := decide_eq_true c5
      clear c5
      by_cases c6 : (wrap64 ((l0.length : Int) - t169)) ≤ (l0.length : Int)
      · rw [if_pos c6] at H
        have c6b0 := eq_true c6
        have c6b1 : decide ((wrap64 ((l0.length : Int) - t169)) ≤ (l0.length : Int)) = true := decide_eq_true c6
        clear c6
        replace H := Option.bind_eq_some_iff.mp H
        obtain ⟨t171, A70, H⟩ := H
        replace H : (if t168 ≤ (wrap64 ((l1.length : Int) - t169)) then (if (wrap64 ((l1.length : Int) - t169)) ≤ (l1.length : Int) then ((slices_Clone_int_int.f ((l1.take ((wrap64 ((l1.length : Int) - t169)) : Int).toNat).drop (t168 : Int).toNat)).bind fun t175 => (some (t171, t175))) else (none)) else (none)) = some (r1, r2) := H
        have A7 := Aside0.mk A70
        clear A70
        have c8b0 := eq_true (of_decide_eq_true (by first | (with_reducible assumption) | assumption) : 0 ≤ t168)
        by_cases c9 : t168 ≤ (wrap64 ((l1.length : Int) - t169))
        · rw [if_pos c9] at H
          have c9b0 := eq_true c9
          have c9b1 : decide (t168 ≤ (wrap64 ((l1.length : Int) - t169))) = true := decide_eq_true c9
          clear c9
          by_cases c10 : (wrap64 ((l1.length : Int) - t169)) ≤ (l1.length : Int)
          · rw [if_pos c10] at H
            have c10b0 := eq_true c10
            have c10b1 : decide ((wrap64 ((l1.length : Int) - t169)) ≤ (l1.length : Int)) = true := decide_eq_true c10
            clear c10
            replace H := Option.bind_eq_some_iff.mp H
            obtain ⟨t175, A110, H⟩ := H
            replace H : (some (t171, t175)) = some (r1, r2) := H
            have A11 := Aside0.mk A110
            clear A110
            simp only [Option.some.injEq, Prod.mk.injEq] at H
            obtain ⟨rfl, rfl⟩ := H
            go_enter Try.func14, Try.ntmps14
            try go_wp2_with (first | ((with_reducible refine gate_callee (f := 12) rfl ?_); refine goesL_ (some 11) rfl rfl Try.func12 (by kernel_rfl) rfl #[.slice A0 l0.length c0, .slice A1 l1.length c1] rfl (by (try simp only [List.map_toArray, List.map_cons, List.map_nil]); first | done | rfl | (simp only [List.length_drop, List.length_take]; rfl)) ?_; (with_reducible refine (tattingref1_Ends.calls k _ _ l0 _ _ l1 t168 t169 _ ?side1 ?side2 ?side3 ?side4 A3.out).mono ?_); (case side1 => repeat (first | exact HR0.out | (with_reducible refine Kd.C_alloc ?_ _) | (with_reducible refine Kd.C_drewN ?_ _) | (with_reducible refine Kd.C_drew ?_))); (case side2 => exact HC0.out); (case side3 => repeat (first | exact HR1.out | (with_reducible refine Kd.C_alloc ?_ _) | (with_reducible refine Kd.C_drewN ?_ _) | (with_reducible refine Kd.C_drew ?_))); (case side4 => exact HC1.out); rintro e w' ⟨rfl, ⟨nd, rfl⟩⟩; refine ⟨_, rfl, ?_⟩))
            obtain ⟨i013, hi013, _, hsz13, _⟩ := info_parts info3
            obtain ⟨A13, hcut13, hA13, hC13⟩ := print_mid_of (P := Try.prog) (Value.int .i64) 0 24 3 .i64 .i64 Try.underlying24 hi013 hsz13 A0 c0 l0 t168 (wrap64 ((l0.length : Int) - t169)) (of_decide_eq_true (by first | (with_reducible assumption) | assumption)) (by first | omega | exact of_decide_eq_true (by first | (with_reducible assumption) | assumption)) (of_decide_eq_true (by first | (with_reducible assumption) | assumption)) HC0.out
            have HR170 := Aside0.mk (Kd.C_of_reads (h1 := fun _ => rfl) (hA13 _ (Kd.reads_of_C HR0.out)))
            have HC170 := Aside0.mk hC13
            clear hA13 hC13 hi013 hsz13
            obtain ⟨i014, hi014, _, hsz14, _⟩ := info_parts info3
            obtain ⟨A14, hcut14, hA14, hC14⟩ := print_mid_of (P := Try.prog) (Value.int .i64) 0 24 3 .i64 .i64 Try.underlying24 hi014 hsz14 A1 c1 l1 t168 (wrap64 ((l1.length : Int) - t169)) (of_decide_eq_true (by first | (with_reducible assumption) | assumption)) (by first | omega | exact of_decide_eq_true (by first | (with_reducible assumption) | assumption)) (of_decide_eq_true (by first | (with_reducible assumption) | assumption)) HC1.out
            have HR174 := Aside0.mk (Kd.C_of_reads (h1 := fun _ => rfl) (hA14 _ (Kd.reads_of_C HR1.out)))
            have HC174 := Aside0.mk hC14
            clear hA14 hC14 hi014 hsz14
            have e_t171 := tattingref1_Mid.clone_same A7.out
            rw [← e_t171] at hcut13
            rw [← e_t171] at HR170
            rw [← e_t171] at HC170
            clear e_t171
            have e_t175 := tattingref1_Mid.clone_same A11.out
            rw [← e_t175] at hcut14
            rw [← e_t175] at HR174
            rw [← e_t175] at HC174
            clear e_t175
            go_quiet (fail)
            try go_wp2
            go_ret2
            exact ⟨_, _, _, _, rfl, Kd.C_drewN (Kd.C_drewN HR170.out _) _, HC170.out, Kd.C_drewN (Kd.C_drewN HR174.out _) _, HC174.out, ⟨_, World.drewN_drewN _ _ _⟩⟩
          · rw [if_neg c10] at H
            exact absurd H (by simp)
        · rw [if_neg c9] at H
          exact absurd H (by simp)
      · rw [if_neg c6] at H
        exact absurd H (by simp)
    · rw [if_neg c5] at H
      exact absurd H (by simp)
  · rw [if_neg c4] at H
    exact absurd H (by simp)

/-! ### tattingref1_SameInts: function 15 -/
def tattingref1_SameInts.l0 : Nat → List Int → List Int → Int → Option (Bool)
  | 0, _, _, _ => none
  | k + 1, x0, x1, x5 => if x5 < (x0.length : Int) then (if 0 ≤ x5 then (if x5 < (x1.length : Int) then (if (rd x0 x5) = (rd x1 x5) then (tattingref1_SameInts.l0 k x0 x1 (wrap64 (x5 + 1))) else (some false)) else (none)) else (none)) else (some true)
def tattingref1_SameInts.f (k : Nat) (l0 : List Int) (l1 : List Int) : Option (Bool) := if (l0.length : Int) = (l1.length : Int) then (tattingref1_SameInts.l0 k l0 l1 0) else (some false)
theorem tattingref1_SameInts.mono_l : ∀ k, (∀ y0 y1 y2, LeO (tattingref1_SameInts.l0 k y0 y1 y2) (tattingref1_SameInts.l0 (k + 1) y0 y1 y2))
  | 0 => fun _ _ _ r h => by simp [tattingref1_SameInts.l0] at h
  | k + 1 => by
    have ih0 := tattingref1_SameInts.mono_l k
    · intro y0 y1 y2
      unfold tattingref1_SameInts.l0
      repeat' first
      | (with_reducible exact ih0 _ _ _)
      | (with_reducible exact LeO.refl _)
      | (with_reducible exact LeO.none _)
      | (with_reducible refine LeO.ite ?_ ?_)
      | (with_reducible refine LeO.bind ?_ (fun _ => ?_))
      | exact ih0 _ _ _
      | exact LeO.none _
      | refine LeO.ite ?_ ?_
      | refine LeO.bind ?_ (fun _ => ?_)
theorem tattingref1_SameInts.mono : ∀ a0 a1 k, LeO (tattingref1_SameInts.f k a0 a1) (tattingref1_SameInts.f (k + 1) a0 a1) := by
  intro a0 a1 k
  have ih0 := tattingref1_SameInts.mono_l k
  unfold tattingref1_SameInts.f
  repeat' first
      | (with_reducible exact ih0 _ _ _)
      | (with_reducible exact LeO.refl _)
      | (with_reducible exact LeO.none _)
      | (with_reducible refine LeO.ite ?_ ?_)
      | (with_reducible refine LeO.bind ?_ (fun _ => ?_))
      | exact ih0 _ _ _
      | exact LeO.none _
      | refine LeO.ite ?_ ?_
      | refine LeO.bind ?_ (fun _ => ?_)
set_option maxHeartbeats 8000000 in
set_option maxRecDepth 100000 in
theorem tattingref1_SameInts.calls (k : Nat) (A0 : Option Addr) (c0 : Nat) (l0 : List Int) (A1 : Option Addr) (c1 : Nat) (l1 : List Int) (r : Bool) (w : World) (hr0 : Kd.C (Kd.int .i64) w A0 l0.length l0) (hc0 : l0.length ≤ c0) (hr1 : Kd.C (Kd.int .i64) w A1 l1.length l1) (hc1 : l1.length ≤ c1) (h : tattingref1_SameInts.f k l0 l1 = some r) :
    Calls Try.prog 15 #[.slice A0 l0.length c0, .slice A1 l1.length c1] w fun e w' => e = .returned (.bool r) ∧ Drawn0 w w' := by
  have HR0 := Aside0.mk hr0
  have HC0 := Aside0.mk hc0
  clear hr0 hc0
  have HR1 := Aside0.mk hr1
  have HC1 := Aside0.mk hc1
  clear hr1 hc1
  have H : (if (l0.length : Int) = (l1.length : Int) then (tattingref1_SameInts.l0 k l0 l1 0) else (some false)) = some r := h
  clear h
  by_cases c3 : (l0.length : Int) = (l1.length : Int)
  · rw [if_pos c3] at H
    have c3b0 : ((l0.length : Int) == (l1.length : Int)) = true := beq_iff_eq.mpr c3
    have c3b1 : ((l0.length : Int) != (l1.length : Int)) = false := bne_eq_false_iff_eq.mpr c3
    have c3b2 : (l0.length == l1.length) = true := by first | simpa using c3 | (simp at c3 ⊢; omega)
    clear c3
    have H' := Aside0.mk H
    clear H
    go_enter Try.func15, Try.ntmps15
    go_wp2
    repeat (go_quiet (fail); try go_wp2)
    go_loopg [5] k (fun kq v5 w' => ∃ (x5_1 : Int), v5 = .int .i64 x5_1 ∧ Aside0 (tattingref1_SameInts.l0 kq l0 l1 x5_1 = some r) ∧ Aside0 (kq ≤ k) ∧ Drawn0 w w')
    case atStart => exact ⟨(0), (by first | rfl | (simp; done) | (simp [*]; done)), H', ⟨Nat.le_refl _⟩, by repeat (first | exact Drawn0.refl _ | apply Drawn0.step)⟩
    case round =>
      clear H'
      try clear c1
      try clear p2
      try clear c3
      try clear c3b0
      try clear c3b1
      try clear c3b2
      obtain ⟨x5_1, rfl, HA, HK1, ⟨m1, rfl⟩⟩ := hrel
      cases gk with
      | zero => exact absurd HA.out (by simp [tattingref1_SameInts.l0])
      | succ k1 =>
        have H := HA.out
        clear HA
        simp only [tattingref1_SameInts.l0] at H
        by_cases c4 : x5_1 < (l0.length : Int)
        · rw [if_pos c4] at H
          have c4b0 : decide (x5_1 < (l0.length : Int)) = true := decide_eq_true c4
          clear c4
          by_cases c5 : 0 ≤ x5_1
          · rw [if_pos c5] at H
            have c5b0 : decide (0 ≤ x5_1) = true := decide_eq_true c5
            clear c5
            by_cases c6 : x5_1 < (l1.length : Int)
            · rw [if_pos c6] at H
              have c6b0 : decide (x5_1 < (l1.length : Int)) = true := decide_eq_true c6
              clear c6
              by_cases c7 : (rd l0 x5_1) = (rd l1 x5_1)
              · rw [if_pos c7] at H
                have c7b0 : ((rd l0 x5_1) == (rd l1 x5_1)) = true := beq_iff_eq.mpr c7
                have c7b1 : ((rd l0 x5_1) != (rd l1 x5_1)) = false := bne_eq_false_iff_eq.mpr c7
                clear c7
                have H' := Aside0.mk H
                clear H
                have p178 : 0 ≤ (x5_1 : Int) := of_decide_eq_true (by first | (with_reducible assumption) | assumption)
                have q178 : x5_1 < (l0.length : Int) := of_decide_eq_true (by first | (with_reducible assumption) | assumption)
                obtain ⟨ad178, e178, hx178_0⟩ := Kd.at_int HR0.out x5_1 p178 q178
                cases e178
                replace p178 := eq_true p178
                replace q178 := eq_true q178
                have p179 : 0 ≤ (x5_1 : Int) := of_decide_eq_true (by first | (with_reducible assumption) | assumption)
                have q179 : x5_1 < (l1.length : Int) := of_decide_eq_true (by first | (with_reducible assumption) | assumption)
                obtain ⟨ad179, e179, hx179_0⟩ := Kd.at_int HR1.out x5_1 p179 q179
                cases e179
                replace p179 := eq_true p179
                replace q179 := eq_true q179
                go_wp2
                repeat (go_quiet (fail); try go_wp2)
                go_roundg k1
                case measure => have := HK1.out; omega
                case rel => exact ⟨(wrap64 (x5_1 + 1)), (by first | rfl | (simp; done) | (simp [*]; done)), H', ⟨by have := HK1.out; omega⟩, by repeat (first | exact Drawn0.refl _ | apply Drawn0.step)⟩
              · rw [if_neg c7] at H
                have c7b0 : ((rd l0 x5_1) == (rd l1 x5_1)) = false := beq_eq_false_iff_ne.mpr c7
                have c7b1 : ((rd l0 x5_1) != (rd l1 x5_1)) = true := bne_iff_ne.mpr c7
                obtain rfl := Option.some.inj H
                have p178 : 0 ≤ (x5_1 : Int) := of_decide_eq_true (by first | (with_reducible assumption) | assumption)
                have q178 : x5_1 < (l0.length : Int) := of_decide_eq_true (by first | (with_reducible assumption) | assumption)
                obtain ⟨ad178, e178, hx178_0⟩ := Kd.at_int HR0.out x5_1 p178 q178
                cases e178
                replace p178 := eq_true p178
                replace q178 := eq_true q178
                have p179 : 0 ≤ (x5_1 : Int) := of_decide_eq_true (by first | (with_reducible assumption) | assumption)
                have q179 : x5_1 < (l1.length : Int) := of_decide_eq_true (by first | (with_reducible assumption) | assumption)
                obtain ⟨ad179, e179, hx179_0⟩ := Kd.at_int HR1.out x5_1 p179 q179
                cases e179
                replace p179 := eq_true p179
                replace q179 := eq_true q179
                go_wp2
                repeat (go_quiet (fail); try go_wp2)
                go_ret
                exact ⟨by first | rfl | (simp; done) | (simp [*]; done), by repeat (first | exact Drawn0.refl _ | apply Drawn0.step)⟩
            · rw [if_neg c6] at H
              exact absurd H (by simp)
          · rw [if_neg c5] at H
            exact absurd H (by simp)
        · rw [if_neg c4] at H
          have c4b0 : decide (x5_1 < (l0.length : Int)) = false := decide_eq_false c4
          clear c4
          obtain rfl := Option.some.inj H
          go_wp2
          repeat (go_quiet (fail); try go_wp2)
          go_ret
          exact ⟨by first | rfl | (simp; done) | (simp [*]; done), by repeat (first | exact Drawn0.refl _ | apply Drawn0.step)⟩
  · rw [if_neg c3] at H
    have c3b0 : ((l0.length : Int) == (l1.length : Int)) = false := beq_eq_false_iff_ne.mpr c3
    have c3b1 : ((l0.length : Int) != (l1.length : Int)) = true := bne_iff_ne.mpr c3
    have c3b2 : (l0.length == l1.length) = false := by first | simpa using c3 | (simp at c3 ⊢; omega)
    obtain rfl := Option.some.inj H
    go_enter Try.func15, Try.ntmps15
    go_wp2
    repeat (go_quiet (fail); try go_wp2)
    go_ret
    exact ⟨by first | rfl | (simp; done) | (simp [*]; done), by repeat (first | exact Drawn0.refl _ | apply Drawn0.step)⟩

/-! ### tattinglaw3_TrimSays: function 4 -/
def tattinglaw3_TrimSays.j0 : Nat → List Int → List Int → Bool → Option (Bool)
  | 0, _, _, _ => none
  | k + 1, x0, x1, x22 => if x22 = true then (some true) else ((trim_Of.f k x0 x1).bind fun bt181 => ((tattingref1_Ends.f k x0 x1).bind fun bt183 => ((trim_Mid.f k x0 x1).bind fun bt185 => ((tattingref1_Mid.f k x0 x1).bind fun bt191 => (if bt181.1 = bt183.1 then (if bt181.2 = bt183.2 then ((tattingref1_SameInts.f k bt185.1 bt191.1).bind fun t197 => (if t197 = true then ((tattingref1_SameInts.f k bt185.2 bt191.2).bind fun t198 => (some t198)) else (some false))) else (some false)) else (some false))))))
def tattinglaw3_TrimSays.f (k : Nat) (l0 : List Int) (l1 : List Int) : Option (Bool) := (tattinglaw3_awake.f k).bind fun t180 => (if t180 = true then (if (l0.length : Int) > 60 then (tattinglaw3_TrimSays.j0 k l0 l1 true) else (tattinglaw3_TrimSays.j0 k l0 l1 (decide ((l1.length : Int) > 60)))) else (some false))
theorem tattinglaw3_TrimSays.mono_l : ∀ k, (∀ y0 y1 y2, LeO (tattinglaw3_TrimSays.j0 k y0 y1 y2) (tattinglaw3_TrimSays.j0 (k + 1) y0 y1 y2))
  | 0 => fun _ _ _ r h => by simp [tattinglaw3_TrimSays.j0] at h
  | k + 1 => by
    have ih0 := tattinglaw3_TrimSays.mono_l k
    · intro y0 y1 y2
      unfold tattinglaw3_TrimSays.j0
      repeat' first
      | (with_reducible exact ih0 _ _ _)
      | (with_reducible exact tattinglaw3_awake.mono _)
      | (with_reducible exact tattingref1_Ends.mono _ _ _)
      | (with_reducible exact tattingref1_Mid.mono _ _ _)
      | (with_reducible exact tattingref1_SameInts.mono _ _ _)
      | (with_reducible exact trim_Mid.mono _ _ _)
      | (with_reducible exact trim_Of.mono _ _ _)
      | (with_reducible exact LeO.refl _)
      | (with_reducible exact LeO.none _)
      | (with_reducible refine LeO.ite ?_ ?_)
      | (with_reducible refine LeO.bind ?_ (fun _ => ?_))
      | exact ih0 _ _ _
      | exact tattinglaw3_awake.mono _
      | exact tattingref1_Ends.mono _ _ _
      | exact tattingref1_Mid.mono _ _ _
      | exact tattingref1_SameInts.mono _ _ _
      | exact trim_Mid.mono _ _ _
      | exact trim_Of.mono _ _ _
      | exact LeO.none _
      | refine LeO.ite ?_ ?_
      | refine LeO.bind ?_ (fun _ => ?_)
theorem tattinglaw3_TrimSays.mono : ∀ a0 a1 k, LeO (tattinglaw3_TrimSays.f k a0 a1) (tattinglaw3_TrimSays.f (k + 1) a0 a1) := by
  intro a0 a1 k
  have ih0 := tattinglaw3_TrimSays.mono_l k
  unfold tattinglaw3_TrimSays.f
  repeat' first
      | (with_reducible exact ih0 _ _ _)
      | (with_reducible exact tattinglaw3_awake.mono _)
      | (with_reducible exact tattingref1_Ends.mono _ _ _)
      | (with_reducible exact tattingref1_Mid.mono _ _ _)
      | (with_reducible exact tattingref1_SameInts.mono _ _ _)
      | (with_reducible exact trim_Mid.mono _ _ _)
      | (with_reducible exact trim_Of.mono _ _ _)
      | (with_reducible exact LeO.refl _)
      | (with_reducible exact LeO.none _)
      | (with_reducible refine LeO.ite ?_ ?_)
      | (with_reducible refine LeO.bind ?_ (fun _ => ?_))
      | exact ih0 _ _ _
      | exact tattinglaw3_awake.mono _
      | exact tattingref1_Ends.mono _ _ _
      | exact tattingref1_Mid.mono _ _ _
      | exact tattingref1_SameInts.mono _ _ _
      | exact trim_Mid.mono _ _ _
      | exact trim_Of.mono _ _ _
      | exact LeO.none _
      | refine LeO.ite ?_ ?_
      | refine LeO.bind ?_ (fun _ => ?_)
set_option maxHeartbeats 8000000 in
set_option maxRecDepth 100000 in
theorem tattinglaw3_TrimSays.calls (k : Nat) (A0 : Option Addr) (c0 : Nat) (l0 : List Int) (A1 : Option Addr) (c1 : Nat) (l1 : List Int) (r : Bool) (w : World) (hr0 : Kd.C (Kd.int .i64) w A0 l0.length l0) (hc0 : l0.length ≤ c0) (hr1 : Kd.C (Kd.int .i64) w A1 l1.length l1) (hc1 : l1.length ≤ c1) (h : tattinglaw3_TrimSays.f k l0 l1 = some r) (HRT : Aside0 (r = true)) :
    Calls Try.prog 4 #[.slice A0 l0.length c0, .slice A1 l1.length c1] w fun e w' => e = .returned (.bool r) ∧ Below w.heap.size w w' := by
  have HR0 := Aside0.mk hr0
  have HC0 := Aside0.mk hc0
  clear hr0 hc0
  have HR1 := Aside0.mk hr1
  have HC1 := Aside0.mk hc1
  clear hr1 hc1
  have HB := Aside0.mk (Below.refl w.heap.size w)
  have H : ((tattinglaw3_awake.f k).bind fun t180 => (if t180 = true then (if (l0.length : Int) > 60 then (tattinglaw3_TrimSays.j0 k l0 l1 true) else (tattinglaw3_TrimSays.j0 k l0 l1 (decide ((l1.length : Int) > 60)))) else (some false))) = some r := h
  clear h
  replace H := Option.bind_eq_some_iff.mp H
  obtain ⟨t180, A30, H⟩ := H
  replace H : (if t180 = true then (if (l0.length : Int) > 60 then (tattinglaw3_TrimSays.j0 k l0 l1 true) else (tattinglaw3_TrimSays.j0 k l0 l1 (decide ((l1.length : Int) > 60)))) else (some false)) = some r := H
  have A3 := Aside0.mk A30
  clear A30
  by_cases c4 : t180 = true
  · subst c4
    have H1 : (if (l0.length : Int) > 60 then (tattinglaw3_TrimSays.j0 k l0 l1 true) else (tattinglaw3_TrimSays.j0 k l0 l1 (decide ((l1.length : Int) > 60)))) = some r := by rw [if_pos rfl] at H; exact H
    clear H
    have H := H1
    clear H1
    have HC5 := Aside0.mk H
    clear H
    go_enter Try.func4, Try.ntmps4
    go_upto_region 3 with (first | ((with_reducible refine gate_callee (f := 11) rfl ?_); refine goesL_ (some 13) rfl rfl Try.func11 (by kernel_rfl) rfl #[] rfl (by (try simp only [List.map_toArray, List.map_cons, List.map_nil]); first | done | rfl | (simp only [List.length_drop, List.length_take]; rfl)) ?_; (with_reducible refine (tattinglaw3_awake.calls k  true _ A3.out).mono ?_); rintro e w6 ⟨rfl, hb⟩; refine ⟨_, rfl, ?_⟩; have n0_ := Aside0.mk (below_step (by repeat (first | (with_reducible first | exact HB.out | apply below_alloc | apply pw_below_drewN | apply below_drew1) | exact HB.out)) hb); clear HB; have HB := n0_; clear n0_; (try clear hb); (try clear hb2); (try clear hk); (try clear hi)))
    (try simp only [Act.put, List.setIfInBounds_toArray, List.set_cons_zero, List.set_cons_succ])
    go_cut [22] (fun v22 wc => ∃ (kq : Nat) (x22_4 : Bool), v22 = .bool x22_4 ∧ Aside0 (tattinglaw3_TrimSays.j0 kq l0 l1 x22_4 = some r) ∧ Aside0 (kq ≤ k) ∧ Aside0 (Below w.heap.size w wc))
    case first =>
      have H := HC5.out
      clear HC5
      by_cases c7 : (l0.length : Int) > 60
      · rw [if_pos c7] at H
        have c7b0 : decide (60 < (l0.length : Int)) = true := decide_eq_true c7
        have c7b1 : decide (60 < l0.length) = true := decide_eq_true (by omega)
        clear c7
        (first | rw [c7b0] | (simp only [i64_w, i32_w]; rw [c7b0]) | skip)
        have H' := Aside0.mk H
        clear H
        go_wp2
        go_meet
        case rel => exact ⟨_, (true), (by first | rfl | (simp; done) | (simp [*]; done)), H', ⟨by first | omega | exact Nat.le_refl _⟩, ⟨by repeat (first | (with_reducible first | exact HB.out | apply below_alloc | apply pw_below_drewN | apply below_drew1) | exact HB.out)⟩⟩
      · rw [if_neg c7] at H
        have c7b0 : decide (60 < (l0.length : Int)) = false := decide_eq_false c7
        have c7b1 : decide (60 < l0.length) = false := decide_eq_false (by omega)
        clear c7
        (first | rw [c7b0] | (simp only [i64_w, i32_w]; rw [c7b0]) | skip)
        have H' := Aside0.mk H
        clear H
        go_wp2
        go_meet
        case rel => exact ⟨_, (decide ((l1.length : Int) > 60)), (by first | rfl | (simp; done) | (simp [*]; done)), H', ⟨by first | omega | exact Nat.le_refl _⟩, ⟨by repeat (first | (with_reducible first | exact HB.out | apply below_alloc | apply pw_below_drewN | apply below_drew1) | exact HB.out)⟩⟩
    case rest =>
      clear HC5
      try clear c1
      try clear p2
      try clear c4
      try clear c7
      try clear c7b0
      try clear c7b1
      obtain ⟨kq, x22_4, rfl, HA, HJ4, HB⟩ := hcut
      cases kq with
      | zero => exact absurd HA.out (by simp [tattinglaw3_TrimSays.j0])
      | succ kj4 =>
        have H := HA.out
        clear HA
        simp only [tattinglaw3_TrimSays.j0] at H
        by_cases c8 : x22_4 = true
        · subst c8
          have H1 : (some true) = some r := by rw [if_pos rfl] at H; exact H
          clear H
          have H := H1
          clear H1
          obtain rfl := Option.some.inj H
          go_wp2
          go_ret
          exact ⟨by first | rfl | (simp [errW_none, errW_some] <;> rfl) | (simp [*, errW_none, errW_some] <;> rfl), by repeat (first | (with_reducible first | exact HB.out | apply below_alloc | apply pw_below_drewN | apply below_drew1) | exact HB.out)⟩
        · replace c8 := Bool.eq_false_iff.mpr c8
          subst c8
          have H1 : ((trim_Of.f kj4 l0 l1).bind fun bt181 => ((tattingref1_Ends.f kj4 l0 l1).bind fun bt183 => ((trim_Mid.f kj4 l0 l1).bind fun bt185 => ((tattingref1_Mid.f kj4 l0 l1).bind fun bt191 => (if bt181.1 = bt183.1 then (if bt181.2 = bt183.2 then ((tattingref1_SameInts.f kj4 bt185.1 bt191.1).bind fun t197 => (if t197 = true then ((tattingref1_SameInts.f kj4 bt185.2 bt191.2).bind fun t198 => (some t198)) else (some false))) else (some false)) else (some false)))))) = some r := by rw [if_neg (show ¬ (false = true) by decide)] at H; exact H
          clear H
          have H := H1
          clear H1
          replace H := Option.bind_eq_some_iff.mp H
          obtain ⟨⟨t181, t182⟩, A90, H⟩ := H
          replace H : ((tattingref1_Ends.f kj4 l0 l1).bind fun bt183 => ((trim_Mid.f kj4 l0 l1).bind fun bt185 => ((tattingref1_Mid.f kj4 l0 l1).bind fun bt191 => (if t181 = bt183.1 then (if t182 = bt183.2 then ((tattingref1_SameInts.f kj4 bt185.1 bt191.1).bind fun t197 => (if t197 = true then ((tattingref1_SameInts.f kj4 bt185.2 bt191.2).bind fun t198 => (some t198)) else (some false))) else (some false)) else (some false))))) = some r := H
          have A9 := Aside0.mk A90
          clear A90
          replace H := Option.bind_eq_some_iff.mp H
          obtain ⟨⟨t183, t184⟩, A100, H⟩ := H
          replace H : ((trim_Mid.f kj4 l0 l1).bind fun bt185 => ((tattingref1_Mid.f kj4 l0 l1).bind fun bt191 => (if t181 = t183 then (if t182 = t184 then ((tattingref1_SameInts.f kj4 bt185.1 bt191.1).bind fun t197 => (if t197 = true then ((tattingref1_SameInts.f kj4 bt185.2 bt191.2).bind fun t198 => (some t198)) else (some false))) else (some false)) else (some false)))) = some r := H
          have A10 := Aside0.mk A100
          clear A100
          replace H := Option.bind_eq_some_iff.mp H
          obtain ⟨⟨t185, t186⟩, A110, H⟩ := H
          replace H : ((tattingref1_Mid.f kj4 l0 l1).bind fun bt191 => (if t181 = t183 then (if t182 = t184 then ((tattingref1_SameInts.f kj4 t185 bt191.1).bind fun t197 => (if t197 = true then ((tattingref1_SameInts.f kj4 t186 bt191.2).bind fun t198 => (some t198)) else (some false))) else (some false)) else (some false))) = some r := H
          have A11 := Aside0.mk A110
          clear A110
          replace H := Option.bind_eq_some_iff.mp H
          obtain ⟨⟨t191, t192⟩, A120, H⟩ := H
          replace H : (if t181 = t183 then (if t182 = t184 then ((tattingref1_SameInts.f kj4 t185 t191).bind fun t197 => (if t197 = true then ((tattingref1_SameInts.f kj4 t186 t192).bind fun t198 => (some t198)) else (some false))) else (some false)) else (some false)) = some r := H
          have A12 := Aside0.mk A120
          clear A120
          by_cases c13 : t181 = t183
          · rw [if_pos c13] at H
            have c13b0 : (t181 == t183) = true := beq_iff_eq.mpr c13
            have c13b1 : (t181 != t183) = false := bne_eq_false_iff_eq.mpr c13
            clear c13
            by_cases c14 : t182 = t184
            · rw [if_pos c14] at H
              have c14b0 : (t182 == t184) = true := beq_iff_eq.mpr c14
              have c14b1 : (t182 != t184) = false := bne_eq_false_iff_eq.mpr c14
              clear c14
              replace H := Option.bind_eq_some_iff.mp H
              obtain ⟨t197, A150, H⟩ := H
              replace H : (if t197 = true then ((tattingref1_SameInts.f kj4 t186 t192).bind fun t198 => (some t198)) else (some false)) = some r := H
              have A15 := Aside0.mk A150
              clear A150
              by_cases c16 : t197 = true
              · subst c16
                have H1 : ((tattingref1_SameInts.f kj4 t186 t192).bind fun t198 => (some t198)) = some r := by rw [if_pos rfl] at H; exact H
                clear H
                have H := H1
                clear H1
                replace H := Option.bind_eq_some_iff.mp H
                obtain ⟨t198, A170, H⟩ := H
                replace H : (some t198) = some r := H
                have A17 := Aside0.mk A170
                clear A170
                obtain rfl := Option.some.inj H
                go_wp2_with (first | ((with_reducible refine gate_callee (f := 9) rfl ?_); refine goesL_ (some 26) rfl rfl Try.func9 (by kernel_rfl) rfl #[.slice A0 l0.length c0, .slice A1 l1.length c1] rfl (by (try simp only [List.map_toArray, List.map_cons, List.map_nil]); first | done | rfl | (simp only [List.length_drop, List.length_take]; rfl)) ?_; (with_reducible refine (trim_Of.calls kj4 _ _ l0 _ _ l1 t181 t182 _ ?side1 ?side2 ?side3 ?side4 A9.out).mono ?_); (case side1 => repeat (first | exact (Kd.C_below HR0.out HB.out) | (with_reducible refine Kd.C_alloc ?_ _) | (with_reducible refine Kd.C_drewN ?_ _) | (with_reducible refine Kd.C_drew ?_))); (case side2 => exact HC0.out); (case side3 => repeat (first | exact (Kd.C_below HR1.out HB.out) | (with_reducible refine Kd.C_alloc ?_ _) | (with_reducible refine Kd.C_drewN ?_ _) | (with_reducible refine Kd.C_drew ?_))); (case side4 => exact HC1.out); rintro e w' ⟨rfl, ⟨nd, rfl⟩⟩; refine ⟨_, rfl, ?_⟩) | ((with_reducible refine gate_callee (f := 12) rfl ?_); refine goesL_ (some 32) rfl rfl Try.func12 (by kernel_rfl) rfl #[.slice A0 l0.length c0, .slice A1 l1.length c1] rfl (by (try simp only [List.map_toArray, List.map_cons, List.map_nil]); first | done | rfl | (simp only [List.length_drop, List.length_take]; rfl)) ?_; (with_reducible refine (tattingref1_Ends.calls kj4 _ _ l0 _ _ l1 t183 t184 _ ?side1 ?side2 ?side3 ?side4 A10.out).mono ?_); (case side1 => repeat (first | exact (Kd.C_below HR0.out (by repeat (first | (with_reducible first | exact HB.out | apply below_alloc | apply pw_below_drewN | apply below_drew1) | exact HB.out))) | (with_reducible refine Kd.C_alloc ?_ _) | (with_reducible refine Kd.C_drewN ?_ _) | (with_reducible refine Kd.C_drew ?_))); (case side2 => exact HC0.out); (case side3 => repeat (first | exact (Kd.C_below HR1.out (by repeat (first | (with_reducible first | exact HB.out | apply below_alloc | apply pw_below_drewN | apply below_drew1) | exact HB.out))) | (with_reducible refine Kd.C_alloc ?_ _) | (with_reducible refine Kd.C_drewN ?_ _) | (with_reducible refine Kd.C_drew ?_))); (case side4 => exact HC1.out); rintro e w' ⟨rfl, ⟨nd, rfl⟩⟩; refine ⟨_, rfl, ?_⟩) | ((with_reducible refine gate_callee (f := 13) rfl ?_); refine goesL_ (some 38) rfl rfl Try.func13 (by kernel_rfl) rfl #[.slice A0 l0.length c0, .slice A1 l1.length c1] rfl (by (try simp only [List.map_toArray, List.map_cons, List.map_nil]); first | done | rfl | (simp only [List.length_drop, List.length_take]; rfl)) ?_; (with_reducible refine (trim_Mid.calls kj4 _ _ l0 _ _ l1 t185 t186 _ ?side1 ?side2 ?side3 ?side4 A11.out).mono ?_); (case side1 => repeat (first | exact (Kd.C_below HR0.out (by repeat (first | (with_reducible first | exact HB.out | apply below_alloc | apply pw_below_drewN | apply below_drew1) | exact HB.out))) | (with_reducible refine Kd.C_alloc ?_ _) | (with_reducible refine Kd.C_drewN ?_ _) | (with_reducible refine Kd.C_drew ?_))); (case side2 => exact HC0.out); (case side3 => repeat (first | exact (Kd.C_below HR1.out (by repeat (first | (with_reducible first | exact HB.out | apply below_alloc | apply pw_below_drewN | apply below_drew1) | exact HB.out))) | (with_reducible refine Kd.C_alloc ?_ _) | (with_reducible refine Kd.C_drewN ?_ _) | (with_reducible refine Kd.C_drew ?_))); (case side4 => exact HC1.out); rintro e w18 ⟨v187, v189, rfl, ho0, ho1, hb⟩; refine ⟨_, rfl, ?_⟩; have n0_ := Aside0.mk (Kd.R_lower ho0 (below_size (by repeat (first | (with_reducible first | exact HB.out | apply below_alloc | apply pw_below_drewN | apply below_drew1) | exact HB.out)))); have n1_ := Aside0.mk (Kd.R_lower ho1 (below_size (by repeat (first | (with_reducible first | exact HB.out | apply below_alloc | apply pw_below_drewN | apply below_drew1) | exact HB.out)))); have n2_ := Aside0.mk (below_step (by repeat (first | (with_reducible first | exact HB.out | apply below_alloc | apply pw_below_drewN | apply below_drew1) | exact HB.out)) hb); clear HB; have HO188 := n0_; have HO190 := n1_; have HB := n2_; clear n0_ n1_ n2_; (try clear hb); (try clear hb2); (try clear hk); (try clear hi); (try clear ho0); (try clear ho1)) | ((with_reducible refine gate_callee (f := 14) rfl ?_); refine goesL_ (some 44) rfl rfl Try.func14 (by kernel_rfl) rfl #[.slice A0 l0.length c0, .slice A1 l1.length c1] rfl (by (try simp only [List.map_toArray, List.map_cons, List.map_nil]); first | done | rfl | (simp only [List.length_drop, List.length_take]; rfl)) ?_; (with_reducible refine (tattingref1_Mid.calls kj4 _ _ l0 _ _ l1 t191 t192 _ ?side1 ?side2 ?side3 ?side4 A12.out).mono ?_); (case side1 => repeat (first | exact (Kd.C_below HR0.out HB.out) | (with_reducible refine Kd.C_alloc ?_ _) | (with_reducible refine Kd.C_drewN ?_ _) | (with_reducible refine Kd.C_drew ?_))); (case side2 => exact HC0.out); (case side3 => repeat (first | exact (Kd.C_below HR1.out HB.out) | (with_reducible refine Kd.C_alloc ?_ _) | (with_reducible refine Kd.C_drewN ?_ _) | (with_reducible refine Kd.C_drew ?_))); (case side4 => exact HC1.out); rintro e w' ⟨X0, x0, X1, x1, rfl, ho0, hq0, ho1, hq1, ⟨nd, rfl⟩⟩; refine ⟨_, rfl, ?_⟩; have HO1 := Aside0.mk ho0; have HP1 := Aside0.mk hq0; have HO2 := Aside0.mk ho1; have HP2 := Aside0.mk hq1; clear ho0 hq0 ho1 hq1; obtain ⟨Ao20, co20, eo20⟩ := Kd.R_slice HO188.out; subst eo20) | (go_at_call 15; (with_reducible refine (tattingref1_SameInts.calls kj4 _ _ t185 _ _ t191 true _ ?side1 ?side2 ?side3 ?side4 A15.out).mono ?_); (case side1 => repeat (first | exact (Kd.R_reads' HO188.out).2.2 | (with_reducible refine Kd.C_alloc ?_ _) | (with_reducible refine Kd.C_drewN ?_ _) | (with_reducible refine Kd.C_drew ?_))); (case side2 => exact (Kd.R_reads' HO188.out).2.1); (case side3 => repeat (first | exact HO1.out | (with_reducible refine Kd.C_alloc ?_ _) | (with_reducible refine Kd.C_drewN ?_ _) | (with_reducible refine Kd.C_drew ?_))); (case side4 => exact HP1.out); rintro e w' ⟨rfl, ⟨nd, rfl⟩⟩; obtain ⟨Ao22, co22, eo22⟩ := Kd.R_slice HO190.out; subst eo22) | (go_at_call 15; (with_reducible refine (tattingref1_SameInts.calls kj4 _ _ t186 _ _ t192 t198 _ ?side1 ?side2 ?side3 ?side4 A17.out).mono ?_); (case side1 => repeat (first | exact (Kd.R_reads' HO190.out).2.2 | (with_reducible refine Kd.C_alloc ?_ _) | (with_reducible refine Kd.C_drewN ?_ _) | (with_reducible refine Kd.C_drew ?_))); (case side2 => exact (Kd.R_reads' HO190.out).2.1); (case side3 => repeat (first | exact HO2.out | (with_reducible refine Kd.C_alloc ?_ _) | (with_reducible refine Kd.C_drewN ?_ _) | (with_reducible refine Kd.C_drew ?_))); (case side4 => exact HP2.out); rintro e w' ⟨rfl, ⟨nd, rfl⟩⟩))
                go_ret
                exact ⟨by first | rfl | (simp [errW_none, errW_some] <;> rfl) | (simp [*, errW_none, errW_some] <;> rfl), by repeat (first | (with_reducible first | exact HB.out | apply below_alloc | apply pw_below_drewN | apply below_drew1) | exact HB.out)⟩
              · replace c16 := Bool.eq_false_iff.mpr c16
                subst c16
                have H1 : (some false) = some r := by rw [if_neg (show ¬ (false = true) by decide)] at H; exact H
                clear H
                have H := H1
                clear H1
                exact absurd (Option.some.inj H) (by rw [HRT.out]; decide)
            · rw [if_neg c14] at H
              have c14b0 : (t182 == t184) = false := beq_eq_false_iff_ne.mpr c14
              have c14b1 : (t182 != t184) = true := bne_iff_ne.mpr c14
              exact absurd (Option.some.inj H) (by rw [HRT.out]; decide)
          · rw [if_neg c13] at H
            have c13b0 : (t181 == t183) = false := beq_eq_false_iff_ne.mpr c13
            have c13b1 : (t181 != t183) = true := bne_iff_ne.mpr c13
            exact absurd (Option.some.inj H) (by rw [HRT.out]; decide)
  · replace c4 := Bool.eq_false_iff.mpr c4
    subst c4
    have H1 : (some false) = some r := by rw [if_neg (show ¬ (false = true) by decide)] at H; exact H
    clear H
    have H := H1
    clear H1
    exact absurd (Option.some.inj H) (by rw [HRT.out]; decide)

/-- THE ONE PURE STATEMENT of tattinglaw3_TrimSays: yours. -/
def tattinglaw3_TrimSays.Pure : Prop := ∀ (l0 : List Int) (l1 : List Int), l0.length ≤ maxLen → l0.length * 8 ≤ 140737488351232 → (∀ x ∈ l0, (Lit.int .i64 x).wf = true) → l1.length ≤ maxLen → l1.length * 8 ≤ 140737488351232 → (∀ x ∈ l1, (Lit.int .i64 x).wf = true) → ∃ k, tattinglaw3_TrimSays.f k l0 l1 = some true
theorem tattinglaw3_TrimSays.walk (P : tattinglaw3_TrimSays.Pure) (a0 : Option Addr) (len0 cap0 : Nat) (z0 : List Int) (a1 : Option Addr) (len1 cap1 : Nat) (z1 : List Int) (w : World) (w0 : (a0 = none ∧ len0 = 0 ∧ cap0 = 0 ∧ z0 = []) ∨ ∃ x, a0 = some x ∧ len0 ≤ cap0 ∧ cap0 ≤ maxLen ∧ z0.length = cap0 ∧ (∀ i, i < z0.length → w.cell? (x.add i) = some (.int .i64 (z0.getD i 0))) ∧ ∀ n ∈ z0, (Lit.int .i64 n).wf = true) (y0 : len0 * 8 ≤ 140737488351232) (w1 : (a1 = none ∧ len1 = 0 ∧ cap1 = 0 ∧ z1 = []) ∨ ∃ x, a1 = some x ∧ len1 ≤ cap1 ∧ cap1 ≤ maxLen ∧ z1.length = cap1 ∧ (∀ i, i < z1.length → w.cell? (x.add i) = some (.int .i64 (z1.getD i 0))) ∧ ∀ n ∈ z1, (Lit.int .i64 n).wf = true) (y1 : len1 * 8 ≤ 140737488351232) :
    Calls Try.prog 4 #[.slice a0 len0 cap0, .slice a1 len1 cap1] w fun e w' => e = .returned (.bool true) ∧ Below w.heap.size w w' := by
  obtain ⟨l0, rfl, hr0, hm0, hw0, hc0⟩ := ReadsInt.ofRowC w0
  obtain ⟨l1, rfl, hr1, hm1, hw1, hc1⟩ := ReadsInt.ofRowC w1
  obtain ⟨k, h⟩ := P l0 l1 hm0 y0 hw0 hm1 y1 hw1
  refine (tattinglaw3_TrimSays.calls k _ _ l0 _ _ l1 true w (Kd.C_of_reads (d := (0 : Int)) (h1 := fun _ => rfl) hr0) hc0 (Kd.C_of_reads (d := (0 : Int)) (h1 := fun _ => rfl) hr1) hc1 h ⟨rfl⟩).mono ?_
  rintro e w' ⟨rfl, hd⟩
  exact ⟨rfl, hd⟩

end Go.Proofs.Ytamfpadkdkjalaa.PTrimSays
