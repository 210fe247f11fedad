/- Words of the printer, those that are used. -/
import Derived.Test.YtjkjanegankdhaaGreatZPTopWordsx0
import Derived.Test.YtjkjanegankdhaaGreatZPTopWordsx2
import Derived.Test.YtjkjanegankdhaaGreatZPTopWordsx3
import Derived.Test.YtjkjanegankdhaaGreatZPTopWordsx4
namespace Go.Proofs.YtjkjanegankdhaaGreat.PTopWords
open Go.RowKit Go.Proofs.YtjkjanegankdhaaGreatW.PrintWords Go.Proofs.YtjkjanegankdhaaGreatW.PrintLast Go.Proofs.YtjkjanegankdhaaGreatW.PrintMore
attribute [local go_sem] max2_int min2_int max_two min_two max_three min_three max_four min_four   -- for this text's walks alone
set_option linter.unusedVariables false
set_option linter.unusedSimpArgs false
/-! ### tattingtop_TopWords: function 8 -/
def tattingtop_TopWords.j0 : Nat → List Int → List Int → Int → Int → Bool → Option (Bool)
  | 0, _, _, _, _, _ => none
  | k + 1, x0, x1, x2, x3, x26 => if x26 = true then (some true) else ((tattingref1_Few.f k x0 3).bind fun t199 => ((tattingref1_Few.f k x1 3).bind fun t202 => ((walk_Run.f k 0 t199 t202 (wrap64 (1 + (Int.tmod (wrap64 (x2)) 60)))).bind fun bt205 => ((walk_Run.f k 1 t199 t202 (wrap64 (1 + (Int.tmod (wrap64 (x3)) 60)))).bind fun bt210 => (if bt205.2.2 = 0 then (if bt210.2.2 = 0 then (if bt205.2.1 = bt210.2.1 then ((hyyro_Steps.f (t199.length : Int) (t202.length : Int)).bind fun t215 => ((croch_Steps.f (t199.length : Int) (t202.length : Int)).bind fun t216 => (if bt205.2.1 = (wrap64 (t215 + t216)) then ((tattingref1_SamePairs.f k bt205.1 bt210.1).bind fun t217 => (if t217 = true then ((hyyro_Rows.f t199 t202).bind fun t218 => ((croch_Rows.f t199 t202).bind fun t221 => ((tattingref20_SameRows.f k t218 t221).bind fun t224 => (if t224 = true then ((tattingref7_Good.f k t199 t202 bt205.1).bind fun t225 => (if t225 = true then ((hyyro_Len.f k t199 t202).bind fun t226 => (if (bt205.1.length : Int) = t226 then ((croch_Len.f k t199 t202).bind fun t227 => (some ((bt205.1.length : Int) == t227))) else (some false))) else (some false))) else (some false))))) else (some false))) else (some false)))) else (some false)) else (some false)) else (some false))))))
def tattingtop_TopWords.f (k : Nat) (l0 : List Int) (l1 : List Int) (a2 : Int) (a3 : Int) : Option (Bool) := (tattingtop_awake.f).bind fun t198 => (if t198 = true then (if (l0.length : Int) > 40 then (tattingtop_TopWords.j0 k l0 l1 a2 a3 true) else (tattingtop_TopWords.j0 k l0 l1 a2 a3 (decide ((l1.length : Int) > 130)))) else (some false))
theorem tattingtop_TopWords.mono_l : ∀ k, (∀ y0 y1 y2 y3 y4, LeO (tattingtop_TopWords.j0 k y0 y1 y2 y3 y4) (tattingtop_TopWords.j0 (k + 1) y0 y1 y2 y3 y4))
  | 0 => fun _ _ _ _ _ r h => by simp [tattingtop_TopWords.j0] at h
  | k + 1 => by
    have ih0 := tattingtop_TopWords.mono_l k
    · intro y0 y1 y2 y3 y4
      unfold tattingtop_TopWords.j0
      repeat' first
      | (with_reducible exact ih0 _ _ _ _ _)
      | (with_reducible exact croch_Len.mono _ _ _)
      | (with_reducible exact hyyro_Len.mono _ _ _)
      | (with_reducible exact tattingref1_Few.mono _ _ _)
      | (with_reducible exact tattingref1_SamePairs.mono _ _ _)
      | (with_reducible exact tattingref20_SameRows.mono _ _ _)
      | (with_reducible exact tattingref7_Good.mono _ _ _ _)
      | (with_reducible exact walk_Run.mono _ _ _ _ _)
      | (with_reducible exact LeO.refl _)
      | (with_reducible exact LeO.none _)
      | (with_reducible refine LeO.ite ?_ ?_)
      | (with_reducible refine LeO.bind ?_ (fun _ => ?_))
      | exact ih0 _ _ _ _ _
      | exact croch_Len.mono _ _ _
      | exact hyyro_Len.mono _ _ _
      | exact tattingref1_Few.mono _ _ _
      | exact tattingref1_SamePairs.mono _ _ _
      | exact tattingref20_SameRows.mono _ _ _
      | exact tattingref7_Good.mono _ _ _ _
      | exact walk_Run.mono _ _ _ _ _
      | exact LeO.none _
      | refine LeO.ite ?_ ?_
      | refine LeO.bind ?_ (fun _ => ?_)
theorem tattingtop_TopWords.mono : ∀ a0 a1 a2 a3 k, LeO (tattingtop_TopWords.f k a0 a1 a2 a3) (tattingtop_TopWords.f (k + 1) a0 a1 a2 a3) := by
  intro a0 a1 a2 a3 k
  have ih0 := tattingtop_TopWords.mono_l k
  unfold tattingtop_TopWords.f
  repeat' first
      | (with_reducible exact ih0 _ _ _ _ _)
      | (with_reducible exact croch_Len.mono _ _ _)
      | (with_reducible exact hyyro_Len.mono _ _ _)
      | (with_reducible exact tattingref1_Few.mono _ _ _)
      | (with_reducible exact tattingref1_SamePairs.mono _ _ _)
      | (with_reducible exact tattingref20_SameRows.mono _ _ _)
      | (with_reducible exact tattingref7_Good.mono _ _ _ _)
      | (with_reducible exact walk_Run.mono _ _ _ _ _)
      | (with_reducible exact LeO.refl _)
      | (with_reducible exact LeO.none _)
      | (with_reducible refine LeO.ite ?_ ?_)
      | (with_reducible refine LeO.bind ?_ (fun _ => ?_))
      | exact ih0 _ _ _ _ _
      | exact croch_Len.mono _ _ _
      | exact hyyro_Len.mono _ _ _
      | exact tattingref1_Few.mono _ _ _
      | exact tattingref1_SamePairs.mono _ _ _
      | exact tattingref20_SameRows.mono _ _ _
      | exact tattingref7_Good.mono _ _ _ _
      | exact walk_Run.mono _ _ _ _ _
      | exact LeO.none _
      | refine LeO.ite ?_ ?_
      | refine LeO.bind ?_ (fun _ => ?_)
set_option maxHeartbeats 8000000 in
set_option maxRecDepth 100000 in
theorem tattingtop_TopWords.calls (k : Nat) (A0 : Option Addr) (c0 : Nat) (l0 : List Int) (A1 : Option Addr) (c1 : Nat) (l1 : List Int) (a2 : Int) (a3 : Int) (r : Bool) (w : World) (hr0 : Kd.C (Kd.int .i64) w A0 l0.length l0) (hc0 : l0.length ≤ c0) (hr1 : Kd.C (Kd.int .i64) w A1 l1.length l1) (hc1 : l1.length ≤ c1) (h : tattingtop_TopWords.f k l0 l1 a2 a3 = some r) (HRT : Aside0 (r = true)) :
    Calls Tryz.prog 8 #[.slice A0 l0.length c0, .slice A1 l1.length c1, .int .u8 a2, .int .u8 a3] w fun e w' => e = .returned (.bool r) ∧ Below w.heap.size w w' := by
  have HR0 := Aside0.mk hr0
  have HC0 := Aside0.mk hc0
  clear hr0 hc0
  have HR1 := Aside0.mk hr1
  have HC1 := Aside0.mk hc1
  clear hr1 hc1
  have HB := Aside0.mk (Below.refl w.heap.size w)
  have H : ((tattingtop_awake.f).bind fun t198 => (if t198 = true then (if (l0.length : Int) > 40 then (tattingtop_TopWords.j0 k l0 l1 a2 a3 true) else (tattingtop_TopWords.j0 k l0 l1 a2 a3 (decide ((l1.length : Int) > 130)))) else (some false))) = some r := h
  clear h
  replace H := Option.bind_eq_some_iff.mp H
  obtain ⟨t198, A50, H⟩ := H
  replace H : (if t198 = true then (if (l0.length : Int) > 40 then (tattingtop_TopWords.j0 k l0 l1 a2 a3 true) else (tattingtop_TopWords.j0 k l0 l1 a2 a3 (decide ((l1.length : Int) > 130)))) else (some false)) = some r := H
  have A5 := Aside0.mk A50
  clear A50
  by_cases c6 : t198 = true
  · subst c6
    have H1 : (if (l0.length : Int) > 40 then (tattingtop_TopWords.j0 k l0 l1 a2 a3 true) else (tattingtop_TopWords.j0 k l0 l1 a2 a3 (decide ((l1.length : Int) > 130)))) = some r := by rw [if_pos rfl] at H; exact H
    clear H
    have H := H1
    clear H1
    have HC7 := Aside0.mk H
    clear H
    go_enter Tryz.func8, Tryz.ntmps8
    go_upto_region 3 with (first | ((with_reducible refine gate_callee (f := 9) rfl ?_); refine goesL_ (some 17) rfl rfl Tryz.func9 (by kernel_rfl) rfl #[] rfl (by (try simp only [List.map_toArray, List.map_cons, List.map_nil]); first | done | rfl | (simp only [List.length_drop, List.length_take]; rfl)) ?_; (with_reducible refine (tattingtop_awake.calls  true _ A5.out).mono ?_); rintro e w8 ⟨rfl, hb⟩; refine ⟨_, rfl, ?_⟩; have n0_ := Aside0.mk (below_step (by repeat (first | (with_reducible first | exact HB.out | apply below_alloc | apply pw_below_drewN | apply below_drew1) | exact HB.out)) hb); clear HB; have HB := n0_; clear n0_; (try clear hb); (try clear hb2); (try clear hk); (try clear hi)))
    (try simp only [Act.put, List.setIfInBounds_toArray, List.set_cons_zero, List.set_cons_succ])
    go_cut [26] (fun v26 wc => ∃ (kq : Nat) (x26_6 : Bool), v26 = .bool x26_6 ∧ Aside0 (tattingtop_TopWords.j0 kq l0 l1 a2 a3 x26_6 = some r) ∧ Aside0 (kq ≤ k) ∧ Aside0 (Below w.heap.size w wc))
    case first =>
      have H := HC7.out
      clear HC7
      by_cases c9 : (l0.length : Int) > 40
      · rw [if_pos c9] at H
        have c9b0 : decide (40 < (l0.length : Int)) = true := decide_eq_true c9
        have c9b1 : decide (40 < l0.length) = true := decide_eq_true (by omega)
        clear c9
        (first | rw [c9b0] | (simp only [i64_w, i32_w]; rw [c9b0]) | skip)
        have H' := Aside0.mk H
        clear H
        go_wp2
        go_meet
        case rel => exact ⟨_, (true), (by first | rfl | (simp; done) | (simp [*]; done)), H', ⟨by first | omega | exact Nat.le_refl _⟩, ⟨by repeat (first | (with_reducible first | exact HB.out | apply below_alloc | apply pw_below_drewN | apply below_drew1) | exact HB.out)⟩⟩
      · rw [if_neg c9] at H
        have c9b0 : decide (40 < (l0.length : Int)) = false := decide_eq_false c9
        have c9b1 : decide (40 < l0.length) = false := decide_eq_false (by omega)
        clear c9
        (first | rw [c9b0] | (simp only [i64_w, i32_w]; rw [c9b0]) | skip)
        have H' := Aside0.mk H
        clear H
        go_wp2
        go_meet
        case rel => exact ⟨_, (decide ((l1.length : Int) > 130)), (by first | rfl | (simp; done) | (simp [*]; done)), H', ⟨by first | omega | exact Nat.le_refl _⟩, ⟨by repeat (first | (with_reducible first | exact HB.out | apply below_alloc | apply pw_below_drewN | apply below_drew1) | exact HB.out)⟩⟩
    case rest =>
      clear HC7
      try clear c1
      try clear p2
      try clear c6
      try clear c8
      try clear c9
      try clear c9b0
      try clear c9b1
      obtain ⟨kq, x26_6, rfl, HA, HJ6, HB⟩ := hcut
      cases kq with
      | zero => exact absurd HA.out (by simp [tattingtop_TopWords.j0])
      | succ kj6 =>
        have H := HA.out
        clear HA
        simp only [tattingtop_TopWords.j0] at H
        by_cases c10 : x26_6 = true
        · subst c10
          have H1 : (some true) = some r := by rw [if_pos rfl] at H; exact H
          clear H
          have H := H1
          clear H1
          obtain rfl := Option.some.inj H
          go_wp2
          go_ret
          exact ⟨by first | rfl | (simp [errW_none, errW_some] <;> rfl) | (simp [*, errW_none, errW_some] <;> rfl), by repeat (first | (with_reducible first | exact HB.out | apply below_alloc | apply pw_below_drewN | apply below_drew1) | exact HB.out)⟩
        · replace c10 := Bool.eq_false_iff.mpr c10
          subst c10
          have H1 : ((tattingref1_Few.f kj6 l0 3).bind fun t199 => ((tattingref1_Few.f kj6 l1 3).bind fun t202 => ((walk_Run.f kj6 0 t199 t202 (wrap64 (1 + (Int.tmod (wrap64 (a2)) 60)))).bind fun bt205 => ((walk_Run.f kj6 1 t199 t202 (wrap64 (1 + (Int.tmod (wrap64 (a3)) 60)))).bind fun bt210 => (if bt205.2.2 = 0 then (if bt210.2.2 = 0 then (if bt205.2.1 = bt210.2.1 then ((hyyro_Steps.f (t199.length : Int) (t202.length : Int)).bind fun t215 => ((croch_Steps.f (t199.length : Int) (t202.length : Int)).bind fun t216 => (if bt205.2.1 = (wrap64 (t215 + t216)) then ((tattingref1_SamePairs.f kj6 bt205.1 bt210.1).bind fun t217 => (if t217 = true then ((hyyro_Rows.f t199 t202).bind fun t218 => ((croch_Rows.f t199 t202).bind fun t221 => ((tattingref20_SameRows.f kj6 t218 t221).bind fun t224 => (if t224 = true then ((tattingref7_Good.f kj6 t199 t202 bt205.1).bind fun t225 => (if t225 = true then ((hyyro_Len.f kj6 t199 t202).bind fun t226 => (if (bt205.1.length : Int) = t226 then ((croch_Len.f kj6 t199 t202).bind fun t227 => (some ((bt205.1.length : Int) == t227))) else (some false))) else (some false))) else (some false))))) else (some false))) else (some false)))) else (some false)) else (some false)) else (some false)))))) = some r := by rw [if_neg (show ¬ (false = true) by decide)] at H; exact H
          clear H
          have H := H1
          clear H1
          replace H := Option.bind_eq_some_iff.mp H
          obtain ⟨t199, A110, H⟩ := H
          replace H : ((tattingref1_Few.f kj6 l1 3).bind fun t202 => ((walk_Run.f kj6 0 t199 t202 (wrap64 (1 + (Int.tmod (wrap64 (a2)) 60)))).bind fun bt205 => ((walk_Run.f kj6 1 t199 t202 (wrap64 (1 + (Int.tmod (wrap64 (a3)) 60)))).bind fun bt210 => (if bt205.2.2 = 0 then (if bt210.2.2 = 0 then (if bt205.2.1 = bt210.2.1 then ((hyyro_Steps.f (t199.length : Int) (t202.length : Int)).bind fun t215 => ((croch_Steps.f (t199.length : Int) (t202.length : Int)).bind fun t216 => (if bt205.2.1 = (wrap64 (t215 + t216)) then ((tattingref1_SamePairs.f kj6 bt205.1 bt210.1).bind fun t217 => (if t217 = true then ((hyyro_Rows.f t199 t202).bind fun t218 => ((croch_Rows.f t199 t202).bind fun t221 => ((tattingref20_SameRows.f kj6 t218 t221).bind fun t224 => (if t224 = true then ((tattingref7_Good.f kj6 t199 t202 bt205.1).bind fun t225 => (if t225 = true then ((hyyro_Len.f kj6 t199 t202).bind fun t226 => (if (bt205.1.length : Int) = t226 then ((croch_Len.f kj6 t199 t202).bind fun t227 => (some ((bt205.1.length : Int) == t227))) else (some false))) else (some false))) else (some false))))) else (some false))) else (some false)))) else (some false)) else (some false)) else (some false))))) = some r := H
          have A11 := Aside0.mk A110
          clear A110
          replace H := Option.bind_eq_some_iff.mp H
          obtain ⟨t202, A120, H⟩ := H
          replace H : ((walk_Run.f kj6 0 t199 t202 (wrap64 (1 + (Int.tmod (wrap64 (a2)) 60)))).bind fun bt205 => ((walk_Run.f kj6 1 t199 t202 (wrap64 (1 + (Int.tmod (wrap64 (a3)) 60)))).bind fun bt210 => (if bt205.2.2 = 0 then (if bt210.2.2 = 0 then (if bt205.2.1 = bt210.2.1 then ((hyyro_Steps.f (t199.length : Int) (t202.length : Int)).bind fun t215 => ((croch_Steps.f (t199.length : Int) (t202.length : Int)).bind fun t216 => (if bt205.2.1 = (wrap64 (t215 + t216)) then ((tattingref1_SamePairs.f kj6 bt205.1 bt210.1).bind fun t217 => (if t217 = true then ((hyyro_Rows.f t199 t202).bind fun t218 => ((croch_Rows.f t199 t202).bind fun t221 => ((tattingref20_SameRows.f kj6 t218 t221).bind fun t224 => (if t224 = true then ((tattingref7_Good.f kj6 t199 t202 bt205.1).bind fun t225 => (if t225 = true then ((hyyro_Len.f kj6 t199 t202).bind fun t226 => (if (bt205.1.length : Int) = t226 then ((croch_Len.f kj6 t199 t202).bind fun t227 => (some ((bt205.1.length : Int) == t227))) else (some false))) else (some false))) else (some false))))) else (some false))) else (some false)))) else (some false)) else (some false)) else (some false)))) = some r := H
          have A12 := Aside0.mk A120
          clear A120
          replace H := Option.bind_eq_some_iff.mp H
          obtain ⟨⟨t205, t206, t207⟩, A130, H⟩ := H
          replace H : ((walk_Run.f kj6 1 t199 t202 (wrap64 (1 + (Int.tmod (wrap64 (a3)) 60)))).bind fun bt210 => (if t207 = 0 then (if bt210.2.2 = 0 then (if t206 = bt210.2.1 then ((hyyro_Steps.f (t199.length : Int) (t202.length : Int)).bind fun t215 => ((croch_Steps.f (t199.length : Int) (t202.length : Int)).bind fun t216 => (if t206 = (wrap64 (t215 + t216)) then ((tattingref1_SamePairs.f kj6 t205 bt210.1).bind fun t217 => (if t217 = true then ((hyyro_Rows.f t199 t202).bind fun t218 => ((croch_Rows.f t199 t202).bind fun t221 => ((tattingref20_SameRows.f kj6 t218 t221).bind fun t224 => (if t224 = true then ((tattingref7_Good.f kj6 t199 t202 t205).bind fun t225 => (if t225 = true then ((hyyro_Len.f kj6 t199 t202).bind fun t226 => (if (t205.length : Int) = t226 then ((croch_Len.f kj6 t199 t202).bind fun t227 => (some ((t205.length : Int) == t227))) else (some false))) else (some false))) else (some false))))) else (some false))) else (some false)))) else (some false)) else (some false)) else (some false))) = some r := H
          have A13 := Aside0.mk A130
          clear A130
          replace H := Option.bind_eq_some_iff.mp H
          obtain ⟨⟨t210, t211, t212⟩, A140, H⟩ := H
          replace H : (if t207 = 0 then (if t212 = 0 then (if t206 = t211 then ((hyyro_Steps.f (t199.length : Int) (t202.length : Int)).bind fun t215 => ((croch_Steps.f (t199.length : Int) (t202.length : Int)).bind fun t216 => (if t206 = (wrap64 (t215 + t216)) then ((tattingref1_SamePairs.f kj6 t205 t210).bind fun t217 => (if t217 = true then ((hyyro_Rows.f t199 t202).bind fun t218 => ((croch_Rows.f t199 t202).bind fun t221 => ((tattingref20_SameRows.f kj6 t218 t221).bind fun t224 => (if t224 = true then ((tattingref7_Good.f kj6 t199 t202 t205).bind fun t225 => (if t225 = true then ((hyyro_Len.f kj6 t199 t202).bind fun t226 => (if (t205.length : Int) = t226 then ((croch_Len.f kj6 t199 t202).bind fun t227 => (some ((t205.length : Int) == t227))) else (some false))) else (some false))) else (some false))))) else (some false))) else (some false)))) else (some false)) else (some false)) else (some false)) = some r := H
          have A14 := Aside0.mk A140
          clear A140
          by_cases c15 : t207 = 0
          · rw [if_pos c15] at H
            have c15b0 : (t207 == 0) = true := beq_iff_eq.mpr c15
            have c15b1 : (t207 != 0) = false := bne_eq_false_iff_eq.mpr c15
            clear c15
            by_cases c16 : t212 = 0
            · rw [if_pos c16] at H
              have c16b0 : (t212 == 0) = true := beq_iff_eq.mpr c16
              have c16b1 : (t212 != 0) = false := bne_eq_false_iff_eq.mpr c16
              clear c16
              by_cases c17 : t206 = t211
              · rw [if_pos c17] at H
                have c17b0 : (t206 == t211) = true := beq_iff_eq.mpr c17
                have c17b1 : (t206 != t211) = false := bne_eq_false_iff_eq.mpr c17
                clear c17
                replace H := Option.bind_eq_some_iff.mp H
                obtain ⟨t215, A180, H⟩ := H
                replace H : ((croch_Steps.f (t199.length : Int) (t202.length : Int)).bind fun t216 => (if t206 = (wrap64 (t215 + t216)) then ((tattingref1_SamePairs.f kj6 t205 t210).bind fun t217 => (if t217 = true then ((hyyro_Rows.f t199 t202).bind fun t218 => ((croch_Rows.f t199 t202).bind fun t221 => ((tattingref20_SameRows.f kj6 t218 t221).bind fun t224 => (if t224 = true then ((tattingref7_Good.f kj6 t199 t202 t205).bind fun t225 => (if t225 = true then ((hyyro_Len.f kj6 t199 t202).bind fun t226 => (if (t205.length : Int) = t226 then ((croch_Len.f kj6 t199 t202).bind fun t227 => (some ((t205.length : Int) == t227))) else (some false))) else (some false))) else (some false))))) else (some false))) else (some false))) = some r := H
                have A18 := Aside0.mk A180
                clear A180
                replace H := Option.bind_eq_some_iff.mp H
                obtain ⟨t216, A190, H⟩ := H
                replace H : (if t206 = (wrap64 (t215 + t216)) then ((tattingref1_SamePairs.f kj6 t205 t210).bind fun t217 => (if t217 = true then ((hyyro_Rows.f t199 t202).bind fun t218 => ((croch_Rows.f t199 t202).bind fun t221 => ((tattingref20_SameRows.f kj6 t218 t221).bind fun t224 => (if t224 = true then ((tattingref7_Good.f kj6 t199 t202 t205).bind fun t225 => (if t225 = true then ((hyyro_Len.f kj6 t199 t202).bind fun t226 => (if (t205.length : Int) = t226 then ((croch_Len.f kj6 t199 t202).bind fun t227 => (some ((t205.length : Int) == t227))) else (some false))) else (some false))) else (some false))))) else (some false))) else (some false)) = some r := H
                have A19 := Aside0.mk A190
                clear A190
                by_cases c20 : t206 = (wrap64 (t215 + t216))
                · rw [if_pos c20] at H
                  have c20b0 : (t206 == (wrap64 (t215 + t216))) = true := beq_iff_eq.mpr c20
                  have c20b1 : (t206 != (wrap64 (t215 + t216))) = false := bne_eq_false_iff_eq.mpr c20
                  clear c20
                  replace H := Option.bind_eq_some_iff.mp H
                  obtain ⟨t217, A210, H⟩ := H
                  replace H : (if t217 = true then ((hyyro_Rows.f t199 t202).bind fun t218 => ((croch_Rows.f t199 t202).bind fun t221 => ((tattingref20_SameRows.f kj6 t218 t221).bind fun t224 => (if t224 = true then ((tattingref7_Good.f kj6 t199 t202 t205).bind fun t225 => (if t225 = true then ((hyyro_Len.f kj6 t199 t202).bind fun t226 => (if (t205.length : Int) = t226 then ((croch_Len.f kj6 t199 t202).bind fun t227 => (some ((t205.length : Int) == t227))) else (some false))) else (some false))) else (some false))))) else (some false)) = some r := H
                  have A21 := Aside0.mk A210
                  clear A210
                  by_cases c22 : t217 = true
                  · subst c22
                    have H1 : ((hyyro_Rows.f t199 t202).bind fun t218 => ((croch_Rows.f t199 t202).bind fun t221 => ((tattingref20_SameRows.f kj6 t218 t221).bind fun t224 => (if t224 = true then ((tattingref7_Good.f kj6 t199 t202 t205).bind fun t225 => (if t225 = true then ((hyyro_Len.f kj6 t199 t202).bind fun t226 => (if (t205.length : Int) = t226 then ((croch_Len.f kj6 t199 t202).bind fun t227 => (some ((t205.length : Int) == t227))) else (some false))) else (some false))) else (some false))))) = some r := by rw [if_pos rfl] at H; exact H
                    clear H
                    have H := H1
                    clear H1
                    replace H := Option.bind_eq_some_iff.mp H
                    obtain ⟨t218, A230, H⟩ := H
                    replace H : ((croch_Rows.f t199 t202).bind fun t221 => ((tattingref20_SameRows.f kj6 t218 t221).bind fun t224 => (if t224 = true then ((tattingref7_Good.f kj6 t199 t202 t205).bind fun t225 => (if t225 = true then ((hyyro_Len.f kj6 t199 t202).bind fun t226 => (if (t205.length : Int) = t226 then ((croch_Len.f kj6 t199 t202).bind fun t227 => (some ((t205.length : Int) == t227))) else (some false))) else (some false))) else (some false)))) = some r := H
                    have A23 := Aside0.mk A230
                    clear A230
                    replace H := Option.bind_eq_some_iff.mp H
                    obtain ⟨t221, A240, H⟩ := H
                    replace H : ((tattingref20_SameRows.f kj6 t218 t221).bind fun t224 => (if t224 = true then ((tattingref7_Good.f kj6 t199 t202 t205).bind fun t225 => (if t225 = true then ((hyyro_Len.f kj6 t199 t202).bind fun t226 => (if (t205.length : Int) = t226 then ((croch_Len.f kj6 t199 t202).bind fun t227 => (some ((t205.length : Int) == t227))) else (some false))) else (some false))) else (some false))) = some r := H
                    have A24 := Aside0.mk A240
                    clear A240
                    replace H := Option.bind_eq_some_iff.mp H
                    obtain ⟨t224, A250, H⟩ := H
                    replace H : (if t224 = true then ((tattingref7_Good.f kj6 t199 t202 t205).bind fun t225 => (if t225 = true then ((hyyro_Len.f kj6 t199 t202).bind fun t226 => (if (t205.length : Int) = t226 then ((croch_Len.f kj6 t199 t202).bind fun t227 => (some ((t205.length : Int) == t227))) else (some false))) else (some false))) else (some false)) = some r := H
                    have A25 := Aside0.mk A250
                    clear A250
                    by_cases c26 : t224 = true
                    · subst c26
                      have H1 : ((tattingref7_Good.f kj6 t199 t202 t205).bind fun t225 => (if t225 = true then ((hyyro_Len.f kj6 t199 t202).bind fun t226 => (if (t205.length : Int) = t226 then ((croch_Len.f kj6 t199 t202).bind fun t227 => (some ((t205.length : Int) == t227))) else (some false))) else (some false))) = some r := by rw [if_pos rfl] at H; exact H
                      clear H
                      have H := H1
                      clear H1
                      replace H := Option.bind_eq_some_iff.mp H
                      obtain ⟨t225, A270, H⟩ := H
                      replace H : (if t225 = true then ((hyyro_Len.f kj6 t199 t202).bind fun t226 => (if (t205.length : Int) = t226 then ((croch_Len.f kj6 t199 t202).bind fun t227 => (some ((t205.length : Int) == t227))) else (some false))) else (some false)) = some r := H
                      have A27 := Aside0.mk A270
                      clear A270
                      by_cases c28 : t225 = true
                      · subst c28
                        have H1 : ((hyyro_Len.f kj6 t199 t202).bind fun t226 => (if (t205.length : Int) = t226 then ((croch_Len.f kj6 t199 t202).bind fun t227 => (some ((t205.length : Int) == t227))) else (some false))) = some r := by rw [if_pos rfl] at H; exact H
                        clear H
                        have H := H1
                        clear H1
                        replace H := Option.bind_eq_some_iff.mp H
                        obtain ⟨t226, A290, H⟩ := H
                        replace H : (if (t205.length : Int) = t226 then ((croch_Len.f kj6 t199 t202).bind fun t227 => (some ((t205.length : Int) == t227))) else (some false)) = some r := H
                        have A29 := Aside0.mk A290
                        clear A290
                        by_cases c30 : (t205.length : Int) = t226
                        · rw [if_pos c30] at H
                          have c30b0 : ((t205.length : Int) == t226) = true := beq_iff_eq.mpr c30
                          have c30b1 : ((t205.length : Int) != t226) = false := bne_eq_false_iff_eq.mpr c30
                          clear c30
                          replace H := Option.bind_eq_some_iff.mp H
                          obtain ⟨t227, A310, H⟩ := H
                          replace H : (some ((t205.length : Int) == t227)) = some r := H
                          have A31 := Aside0.mk A310
                          clear A310
                          obtain rfl := Option.some.inj H
                          go_wp2_with (first | ((with_reducible refine gate_callee (f := 10) rfl ?_); refine goesL_ (some 28) rfl rfl Tryz.func10 (by kernel_rfl) rfl #[.slice A0 l0.length c0, .int .i64 3] rfl (by (try simp only [List.map_toArray, List.map_cons, List.map_nil]); first | done | rfl | (simp only [List.length_drop, List.length_take]; rfl)) ?_; (with_reducible refine (tattingref1_Few.calls kj6 _ _ l0 3 t199 _ ?side1 ?side2 A11.out).mono ?_); (case side1 => repeat (first | exact (Kd.C_below HR0.out HB.out) | (with_reducible refine Kd.C_alloc ?_ _) | (with_reducible refine Kd.C_drewN ?_ _) | (with_reducible refine Kd.C_drew ?_))); (case side2 => exact HC0.out); rintro e w32 ⟨v200, rfl, ho0, hb⟩; refine ⟨_, rfl, ?_⟩; have n0_ := Aside0.mk (Kd.R_lower ho0 (below_size (by repeat (first | (with_reducible first | exact HB.out | apply below_alloc | apply pw_below_drewN | apply below_drew1) | exact HB.out)))); have n1_ := Aside0.mk (below_step (by repeat (first | (with_reducible first | exact HB.out | apply below_alloc | apply pw_below_drewN | apply below_drew1) | exact HB.out)) hb); clear HB; have HO201 := n0_; have HB := n1_; clear n0_ n1_; (try clear hb); (try clear hb2); (try clear hk); (try clear hi); (try clear ho0)) | ((with_reducible refine gate_callee (f := 10) rfl ?_); refine goesL_ (some 30) rfl rfl Tryz.func10 (by kernel_rfl) rfl #[.slice A1 l1.length c1, .int .i64 3] rfl (by (try simp only [List.map_toArray, List.map_cons, List.map_nil]); first | done | rfl | (simp only [List.length_drop, List.length_take]; rfl)) ?_; (with_reducible refine (tattingref1_Few.calls kj6 _ _ l1 3 t202 _ ?side1 ?side2 A12.out).mono ?_); (case side1 => repeat (first | exact (Kd.C_below HR1.out HB.out) | (with_reducible refine Kd.C_alloc ?_ _) | (with_reducible refine Kd.C_drewN ?_ _) | (with_reducible refine Kd.C_drew ?_))); (case side2 => exact HC1.out); rintro e w33 ⟨v203, rfl, ho0, hb⟩; refine ⟨_, rfl, ?_⟩; have n0_ := Aside0.mk (Kd.R_elder' (by (with_reducible repeat (first | apply Kd.R_alloc | apply Kd.R_drewN | apply Kd.R_drew)); exact HO201.out) (Kd.R_base ho0) hb); have n1_ := Aside0.mk (Kd.R_lower (Kd.R_new' ho0 (Kd.R_lt (by (with_reducible repeat (first | apply Kd.R_alloc | apply Kd.R_drewN | apply Kd.R_drew)); exact HO201.out))) (below_size (by repeat (first | (with_reducible first | exact HB.out | apply below_alloc | apply pw_below_drewN | apply below_drew1) | exact HB.out)))); have n2_ := Aside0.mk (below_step (by repeat (first | (with_reducible first | exact HB.out | apply below_alloc | apply pw_below_drewN | apply below_drew1) | exact HB.out)) hb); clear HO201; clear HB; have HO201 := n0_; have HO204 := n1_; have HB := n2_; clear n0_ n1_ n2_; (try clear hb); (try clear hb2); (try clear hk); (try clear hi); (try clear ho0); obtain ⟨Ao34, co34, eo34⟩ := Kd.R_slice HO201.out; subst eo34; obtain ⟨Ao35, co35, eo35⟩ := Kd.R_slice HO204.out; subst eo35) | ((with_reducible refine gate_callee (f := 34) rfl ?_); refine goesL_ (some 38) rfl rfl Tryz.func34 (by kernel_rfl) rfl #[.int .i64 0, .slice Ao34 t199.length co34, .slice Ao35 t202.length co35, .int .i64 (wrap64 (1 + (Int.tmod (wrap64 (a2)) 60)))] rfl (by (try simp only [List.map_toArray, List.map_cons, List.map_nil]); first | done | rfl | (simp only [List.length_drop, List.length_take]; rfl)) ?_; (with_reducible refine (walk_Run.calls kj6 0 _ _ t199 _ _ t202 (wrap64 (1 + (Int.tmod (wrap64 (a2)) 60))) t205 t206 t207 _ ?side1 ?side2 ?side3 ?side4 A13.out).mono ?_); (case side1 => repeat (first | exact (Kd.R_reads' HO201.out).2.2 | (with_reducible refine Kd.C_alloc ?_ _) | (with_reducible refine Kd.C_drewN ?_ _) | (with_reducible refine Kd.C_drew ?_))); (case side2 => exact (Kd.R_reads' HO201.out).2.1); (case side3 => repeat (first | exact (Kd.R_reads' HO204.out).2.2 | (with_reducible refine Kd.C_alloc ?_ _) | (with_reducible refine Kd.C_drewN ?_ _) | (with_reducible refine Kd.C_drew ?_))); (case side4 => exact (Kd.R_reads' HO204.out).2.1); rintro e w36 ⟨v208, rfl, ho0, hb⟩; refine ⟨_, rfl, ?_⟩; have n0_ := Aside0.mk (Kd.R_below (by (with_reducible repeat (first | apply Kd.R_alloc | apply Kd.R_drewN | apply Kd.R_drew)); exact HO201.out) hb); have n1_ := Aside0.mk (Kd.R_below (by (with_reducible repeat (first | apply Kd.R_alloc | apply Kd.R_drewN | apply Kd.R_drew)); exact HO204.out) hb); have n2_ := Aside0.mk (Kd.R_lower ho0 (below_size (by repeat (first | (with_reducible first | exact HB.out | apply below_alloc | apply pw_below_drewN | apply below_drew1) | exact HB.out)))); have n3_ := Aside0.mk (below_step (by repeat (first | (with_reducible first | exact HB.out | apply below_alloc | apply pw_below_drewN | apply below_drew1) | exact HB.out)) hb); clear HO201; clear HO204; clear HB; have HO201 := n0_; have HO204 := n1_; have HO209 := n2_; have HB := n3_; clear n0_ n1_ n2_ n3_; (try clear hb); (try clear hb2); (try clear hk); (try clear hi); (try clear ho0)) | ((with_reducible refine gate_callee (f := 34) rfl ?_); refine goesL_ (some 49) rfl rfl Tryz.func34 (by kernel_rfl) rfl #[.int .i64 1, .slice Ao34 t199.length co34, .slice Ao35 t202.length co35, .int .i64 (wrap64 (1 + (Int.tmod (wrap64 (a3)) 60)))] rfl (by (try simp only [List.map_toArray, List.map_cons, List.map_nil]); first | done | rfl | (simp only [List.length_drop, List.length_take]; rfl)) ?_; (with_reducible refine (walk_Run.calls kj6 1 _ _ t199 _ _ t202 (wrap64 (1 + (Int.tmod (wrap64 (a3)) 60))) t210 t211 t212 _ ?side1 ?side2 ?side3 ?side4 A14.out).mono ?_); (case side1 => repeat (first | exact (Kd.R_reads' HO201.out).2.2 | (with_reducible refine Kd.C_alloc ?_ _) | (with_reducible refine Kd.C_drewN ?_ _) | (with_reducible refine Kd.C_drew ?_))); (case side2 => exact (Kd.R_reads' HO201.out).2.1); (case side3 => repeat (first | exact (Kd.R_reads' HO204.out).2.2 | (with_reducible refine Kd.C_alloc ?_ _) | (with_reducible refine Kd.C_drewN ?_ _) | (with_reducible refine Kd.C_drew ?_))); (case side4 => exact (Kd.R_reads' HO204.out).2.1); rintro e w37 ⟨v213, rfl, ho0, hb⟩; refine ⟨_, rfl, ?_⟩; have n0_ := Aside0.mk (Kd.R_below (by (with_reducible repeat (first | apply Kd.R_alloc | apply Kd.R_drewN | apply Kd.R_drew)); exact HO201.out) hb); have n1_ := Aside0.mk (Kd.R_below (by (with_reducible repeat (first | apply Kd.R_alloc | apply Kd.R_drewN | apply Kd.R_drew)); exact HO204.out) hb); have n2_ := Aside0.mk (Kd.R_elder' (by (with_reducible repeat (first | apply Kd.R_alloc | apply Kd.R_drewN | apply Kd.R_drew)); exact HO209.out) (Kd.R_base ho0) hb); have n3_ := Aside0.mk (Kd.R_lower (Kd.R_new' ho0 (Kd.R_lt (by (with_reducible repeat (first | apply Kd.R_alloc | apply Kd.R_drewN | apply Kd.R_drew)); exact HO209.out))) (below_size (by repeat (first | (with_reducible first | exact HB.out | apply below_alloc | apply pw_below_drewN | apply below_drew1) | exact HB.out)))); have n4_ := Aside0.mk (below_step (by repeat (first | (with_reducible first | exact HB.out | apply below_alloc | apply pw_below_drewN | apply below_drew1) | exact HB.out)) hb); clear HO201; clear HO204; clear HO209; clear HB; have HO201 := n0_; have HO204 := n1_; have HO209 := n2_; have HO214 := n3_; have HB := n4_; clear n0_ n1_ n2_ n3_ n4_; (try clear hb); (try clear hb2); (try clear hk); (try clear hi); (try clear ho0)) | (go_at_call 35; (with_reducible refine (hyyro_Steps.calls (t199.length : Int) (t202.length : Int) t215 _ A18.out).mono ?_); rintro e w38 ⟨rfl, hb⟩; have n0_ := Aside0.mk (Kd.R_below (by (with_reducible repeat (first | apply Kd.R_alloc | apply Kd.R_drewN | apply Kd.R_drew)); exact HO201.out) hb); have n1_ := Aside0.mk (Kd.R_below (by (with_reducible repeat (first | apply Kd.R_alloc | apply Kd.R_drewN | apply Kd.R_drew)); exact HO204.out) hb); have n2_ := Aside0.mk (Kd.R_below (by (with_reducible repeat (first | apply Kd.R_alloc | apply Kd.R_drewN | apply Kd.R_drew)); exact HO209.out) hb); have n3_ := Aside0.mk (Kd.R_below (by (with_reducible repeat (first | apply Kd.R_alloc | apply Kd.R_drewN | apply Kd.R_drew)); exact HO214.out) hb); have n4_ := Aside0.mk (below_step (by repeat (first | (with_reducible first | exact HB.out | apply below_alloc | apply pw_below_drewN | apply below_drew1) | exact HB.out)) hb); clear HO201; clear HO204; clear HO209; clear HO214; clear HB; have HO201 := n0_; have HO204 := n1_; have HO209 := n2_; have HO214 := n3_; have HB := n4_; clear n0_ n1_ n2_ n3_ n4_; (try clear hb); (try clear hb2); (try clear hk); (try clear hi)) | (go_at_call 36; (with_reducible refine (croch_Steps.calls (t199.length : Int) (t202.length : Int) t216 _ A19.out).mono ?_); rintro e w39 ⟨rfl, hb⟩; have n0_ := Aside0.mk (Kd.R_below (by (with_reducible repeat (first | apply Kd.R_alloc | apply Kd.R_drewN | apply Kd.R_drew)); exact HO201.out) hb); have n1_ := Aside0.mk (Kd.R_below (by (with_reducible repeat (first | apply Kd.R_alloc | apply Kd.R_drewN | apply Kd.R_drew)); exact HO204.out) hb); have n2_ := Aside0.mk (Kd.R_below (by (with_reducible repeat (first | apply Kd.R_alloc | apply Kd.R_drewN | apply Kd.R_drew)); exact HO209.out) hb); have n3_ := Aside0.mk (Kd.R_below (by (with_reducible repeat (first | apply Kd.R_alloc | apply Kd.R_drewN | apply Kd.R_drew)); exact HO214.out) hb); have n4_ := Aside0.mk (below_step (by repeat (first | (with_reducible first | exact HB.out | apply below_alloc | apply pw_below_drewN | apply below_drew1) | exact HB.out)) hb); clear HO201; clear HO204; clear HO209; clear HO214; clear HB; have HO201 := n0_; have HO204 := n1_; have HO209 := n2_; have HO214 := n3_; have HB := n4_; clear n0_ n1_ n2_ n3_ n4_; (try clear hb); (try clear hb2); (try clear hk); (try clear hi); obtain ⟨Ao40, co40, eo40⟩ := Kd.R_slice HO209.out; subst eo40; obtain ⟨Ao41, co41, eo41⟩ := Kd.R_slice HO214.out; subst eo41) | (go_at_call 15; (with_reducible refine (tattingref1_SamePairs.calls kj6 _ _ t205 _ _ t210 true _ ?side1 ?side2 ?side3 ?side4 A21.out).mono ?_); (case side1 => repeat (first | exact (Kd.R_reads' HO209.out).2.2 | (with_reducible refine Kd.C_alloc ?_ _) | (with_reducible refine Kd.C_drewN ?_ _) | (with_reducible refine Kd.C_drew ?_))); (case side2 => exact (Kd.R_reads' HO209.out).2.1); (case side3 => repeat (first | exact (Kd.R_reads' HO214.out).2.2 | (with_reducible refine Kd.C_alloc ?_ _) | (with_reducible refine Kd.C_drewN ?_ _) | (with_reducible refine Kd.C_drew ?_))); (case side4 => exact (Kd.R_reads' HO214.out).2.1); rintro e w' ⟨rfl, ⟨nd, rfl⟩⟩) | (go_at_call 28; (with_reducible refine (hyyro_Rows.calls _ _ t199 _ _ t202 t218 _ ?side1 ?side2 ?side3 ?side4 A23.out).mono ?_); (case side1 => repeat (first | exact (Kd.R_reads' HO201.out).2.2 | (with_reducible refine Kd.C_alloc ?_ _) | (with_reducible refine Kd.C_drewN ?_ _) | (with_reducible refine Kd.C_drew ?_))); (case side2 => exact (Kd.R_reads' HO201.out).2.1); (case side3 => repeat (first | exact (Kd.R_reads' HO204.out).2.2 | (with_reducible refine Kd.C_alloc ?_ _) | (with_reducible refine Kd.C_drewN ?_ _) | (with_reducible refine Kd.C_drew ?_))); (case side4 => exact (Kd.R_reads' HO204.out).2.1); rintro e w42 ⟨v219, rfl, ho0, hb⟩; have n0_ := Aside0.mk (Kd.R_below (by (with_reducible repeat (first | apply Kd.R_alloc | apply Kd.R_drewN | apply Kd.R_drew)); exact HO201.out) hb); have n1_ := Aside0.mk (Kd.R_below (by (with_reducible repeat (first | apply Kd.R_alloc | apply Kd.R_drewN | apply Kd.R_drew)); exact HO204.out) hb); have n2_ := Aside0.mk (Kd.R_below (by (with_reducible repeat (first | apply Kd.R_alloc | apply Kd.R_drewN | apply Kd.R_drew)); exact HO209.out) hb); have n3_ := Aside0.mk (Kd.R_below (by (with_reducible repeat (first | apply Kd.R_alloc | apply Kd.R_drewN | apply Kd.R_drew)); exact HO214.out) hb); have n4_ := Aside0.mk (Kd.S_lower ho0 (below_size (by repeat (first | (with_reducible first | exact HB.out | apply below_alloc | apply pw_below_drewN | apply below_drew1) | exact HB.out)))); have n5_ := Aside0.mk (below_step (by repeat (first | (with_reducible first | exact HB.out | apply below_alloc | apply pw_below_drewN | apply below_drew1) | exact HB.out)) hb); clear HO201; clear HO204; clear HO209; clear HO214; clear HB; have HO201 := n0_; have HO204 := n1_; have HO209 := n2_; have HO214 := n3_; have HO220 := n4_; have HB := n5_; clear n0_ n1_ n2_ n3_ n4_ n5_; (try clear hb); (try clear hb2); (try clear hk); (try clear hi); (try clear ho0)) | (go_at_call 29; (with_reducible refine (croch_Rows.calls _ _ t199 _ _ t202 t221 _ ?side1 ?side2 ?side3 ?side4 A24.out).mono ?_); (case side1 => repeat (first | exact (Kd.R_reads' HO201.out).2.2 | (with_reducible refine Kd.C_alloc ?_ _) | (with_reducible refine Kd.C_drewN ?_ _) | (with_reducible refine Kd.C_drew ?_))); (case side2 => exact (Kd.R_reads' HO201.out).2.1); (case side3 => repeat (first | exact (Kd.R_reads' HO204.out).2.2 | (with_reducible refine Kd.C_alloc ?_ _) | (with_reducible refine Kd.C_drewN ?_ _) | (with_reducible refine Kd.C_drew ?_))); (case side4 => exact (Kd.R_reads' HO204.out).2.1); rintro e w43 ⟨v222, rfl, ho0, hb⟩; have n0_ := Aside0.mk (Kd.R_below (by (with_reducible repeat (first | apply Kd.R_alloc | apply Kd.R_drewN | apply Kd.R_drew)); exact HO201.out) hb); have n1_ := Aside0.mk (Kd.R_below (by (with_reducible repeat (first | apply Kd.R_alloc | apply Kd.R_drewN | apply Kd.R_drew)); exact HO204.out) hb); have n2_ := Aside0.mk (Kd.R_below (by (with_reducible repeat (first | apply Kd.R_alloc | apply Kd.R_drewN | apply Kd.R_drew)); exact HO209.out) hb); have n3_ := Aside0.mk (Kd.R_below (by (with_reducible repeat (first | apply Kd.R_alloc | apply Kd.R_drewN | apply Kd.R_drew)); exact HO214.out) hb); have n4_ := Aside0.mk (Kd.S_elder' (by (with_reducible repeat (first | apply Kd.S_alloc | apply Kd.S_drewN | apply Kd.S_drew)); exact HO220.out) (Kd.S_base ho0) hb); have n5_ := Aside0.mk (Kd.S_lower (Kd.S_new' ho0 (Kd.S_lt (by (with_reducible repeat (first | apply Kd.S_alloc | apply Kd.S_drewN | apply Kd.S_drew)); exact HO220.out))) (below_size (by repeat (first | (with_reducible first | exact HB.out | apply below_alloc | apply pw_below_drewN | apply below_drew1) | exact HB.out)))); have n6_ := Aside0.mk (below_step (by repeat (first | (with_reducible first | exact HB.out | apply below_alloc | apply pw_below_drewN | apply below_drew1) | exact HB.out)) hb); clear HO201; clear HO204; clear HO209; clear HO214; clear HO220; clear HB; have HO201 := n0_; have HO204 := n1_; have HO209 := n2_; have HO214 := n3_; have HO220 := n4_; have HO223 := n5_; have HB := n6_; clear n0_ n1_ n2_ n3_ n4_ n5_ n6_; (try clear hb); (try clear hb2); (try clear hk); (try clear hi); (try clear ho0); obtain ⟨Ao44, co44, eo44⟩ := Kd.S_slice HO220.out; subst eo44; obtain ⟨Ao45, co45, eo45⟩ := Kd.S_slice HO223.out; subst eo45) | (go_at_call 37; (with_reducible refine (tattingref20_SameRows.calls kj6 _ _ t218 _ _ t221 true _ ?side1 ?side2 ?side3 ?side4 A25.out).mono ?_); (case side1 => repeat (first | exact (Kd.S_reads' HO220.out).2.2 | (with_reducible refine Kd.C_alloc ?_ _) | (with_reducible refine Kd.C_drewN ?_ _) | (with_reducible refine Kd.C_drew ?_))); (case side2 => exact (Kd.S_reads' HO220.out).2.1); (case side3 => repeat (first | exact (Kd.S_reads' HO223.out).2.2 | (with_reducible refine Kd.C_alloc ?_ _) | (with_reducible refine Kd.C_drewN ?_ _) | (with_reducible refine Kd.C_drew ?_))); (case side4 => exact (Kd.S_reads' HO223.out).2.1); rintro e w' ⟨rfl, ⟨nd, rfl⟩⟩) | (go_at_call 14; (with_reducible refine (tattingref7_Good.calls kj6 _ _ t199 _ _ t202 _ _ t205 true _ ?side1 ?side2 ?side3 ?side4 ?side5 ?side6 A27.out).mono ?_); (case side1 => repeat (first | exact (Kd.R_reads' HO201.out).2.2 | (with_reducible refine Kd.C_alloc ?_ _) | (with_reducible refine Kd.C_drewN ?_ _) | (with_reducible refine Kd.C_drew ?_))); (case side2 => exact (Kd.R_reads' HO201.out).2.1); (case side3 => repeat (first | exact (Kd.R_reads' HO204.out).2.2 | (with_reducible refine Kd.C_alloc ?_ _) | (with_reducible refine Kd.C_drewN ?_ _) | (with_reducible refine Kd.C_drew ?_))); (case side4 => exact (Kd.R_reads' HO204.out).2.1); (case side5 => repeat (first | exact (Kd.R_reads' HO209.out).2.2 | (with_reducible refine Kd.C_alloc ?_ _) | (with_reducible refine Kd.C_drewN ?_ _) | (with_reducible refine Kd.C_drew ?_))); (case side6 => exact (Kd.R_reads' HO209.out).2.1); rintro e w46 ⟨rfl, hb⟩; have n0_ := Aside0.mk (Kd.R_below (by (with_reducible repeat (first | apply Kd.R_alloc | apply Kd.R_drewN | apply Kd.R_drew)); exact HO201.out) hb); have n1_ := Aside0.mk (Kd.R_below (by (with_reducible repeat (first | apply Kd.R_alloc | apply Kd.R_drewN | apply Kd.R_drew)); exact HO204.out) hb); have n2_ := Aside0.mk (Kd.R_below (by (with_reducible repeat (first | apply Kd.R_alloc | apply Kd.R_drewN | apply Kd.R_drew)); exact HO209.out) hb); have n3_ := Aside0.mk (Kd.R_below (by (with_reducible repeat (first | apply Kd.R_alloc | apply Kd.R_drewN | apply Kd.R_drew)); exact HO214.out) hb); have n4_ := Aside0.mk (Kd.S_below (by (with_reducible repeat (first | apply Kd.S_alloc | apply Kd.S_drewN | apply Kd.S_drew)); exact HO220.out) hb); have n5_ := Aside0.mk (Kd.S_below (by (with_reducible repeat (first | apply Kd.S_alloc | apply Kd.S_drewN | apply Kd.S_drew)); exact HO223.out) hb); have n6_ := Aside0.mk (below_step (by repeat (first | (with_reducible first | exact HB.out | apply below_alloc | apply pw_below_drewN | apply below_drew1) | exact HB.out)) hb); clear HO201; clear HO204; clear HO209; clear HO214; clear HO220; clear HO223; clear HB; have HO201 := n0_; have HO204 := n1_; have HO209 := n2_; have HO214 := n3_; have HO220 := n4_; have HO223 := n5_; have HB := n6_; clear n0_ n1_ n2_ n3_ n4_ n5_ n6_; (try clear hb); (try clear hb2); (try clear hk); (try clear hi)) | (go_at_call 38; (with_reducible refine (hyyro_Len.calls kj6 _ _ t199 _ _ t202 t226 _ ?side1 ?side2 ?side3 ?side4 A29.out).mono ?_); (case side1 => repeat (first | exact (Kd.R_reads' HO201.out).2.2 | (with_reducible refine Kd.C_alloc ?_ _) | (with_reducible refine Kd.C_drewN ?_ _) | (with_reducible refine Kd.C_drew ?_))); (case side2 => exact (Kd.R_reads' HO201.out).2.1); (case side3 => repeat (first | exact (Kd.R_reads' HO204.out).2.2 | (with_reducible refine Kd.C_alloc ?_ _) | (with_reducible refine Kd.C_drewN ?_ _) | (with_reducible refine Kd.C_drew ?_))); (case side4 => exact (Kd.R_reads' HO204.out).2.1); rintro e w47 ⟨rfl, hb⟩; have n0_ := Aside0.mk (Kd.R_below (by (with_reducible repeat (first | apply Kd.R_alloc | apply Kd.R_drewN | apply Kd.R_drew)); exact HO201.out) hb); have n1_ := Aside0.mk (Kd.R_below (by (with_reducible repeat (first | apply Kd.R_alloc | apply Kd.R_drewN | apply Kd.R_drew)); exact HO204.out) hb); have n2_ := Aside0.mk (Kd.R_below (by (with_reducible repeat (first | apply Kd.R_alloc | apply Kd.R_drewN | apply Kd.R_drew)); exact HO209.out) hb); have n3_ := Aside0.mk (Kd.R_below (by (with_reducible repeat (first | apply Kd.R_alloc | apply Kd.R_drewN | apply Kd.R_drew)); exact HO214.out) hb); have n4_ := Aside0.mk (Kd.S_below (by (with_reducible repeat (first | apply Kd.S_alloc | apply Kd.S_drewN | apply Kd.S_drew)); exact HO220.out) hb); have n5_ := Aside0.mk (Kd.S_below (by (with_reducible repeat (first | apply Kd.S_alloc | apply Kd.S_drewN | apply Kd.S_drew)); exact HO223.out) hb); have n6_ := Aside0.mk (below_step (by repeat (first | (with_reducible first | exact HB.out | apply below_alloc | apply pw_below_drewN | apply below_drew1) | exact HB.out)) hb); clear HO201; clear HO204; clear HO209; clear HO214; clear HO220; clear HO223; clear HB; have HO201 := n0_; have HO204 := n1_; have HO209 := n2_; have HO214 := n3_; have HO220 := n4_; have HO223 := n5_; have HB := n6_; clear n0_ n1_ n2_ n3_ n4_ n5_ n6_; (try clear hb); (try clear hb2); (try clear hk); (try clear hi)) | (go_at_call 39; (with_reducible refine (croch_Len.calls kj6 _ _ t199 _ _ t202 t227 _ ?side1 ?side2 ?side3 ?side4 A31.out).mono ?_); (case side1 => repeat (first | exact (Kd.R_reads' HO201.out).2.2 | (with_reducible refine Kd.C_alloc ?_ _) | (with_reducible refine Kd.C_drewN ?_ _) | (with_reducible refine Kd.C_drew ?_))); (case side2 => exact (Kd.R_reads' HO201.out).2.1); (case side3 => repeat (first | exact (Kd.R_reads' HO204.out).2.2 | (with_reducible refine Kd.C_alloc ?_ _) | (with_reducible refine Kd.C_drewN ?_ _) | (with_reducible refine Kd.C_drew ?_))); (case side4 => exact (Kd.R_reads' HO204.out).2.1); rintro e w48 ⟨rfl, hb⟩; have n0_ := Aside0.mk (Kd.R_below (by (with_reducible repeat (first | apply Kd.R_alloc | apply Kd.R_drewN | apply Kd.R_drew)); exact HO201.out) hb); have n1_ := Aside0.mk (Kd.R_below (by (with_reducible repeat (first | apply Kd.R_alloc | apply Kd.R_drewN | apply Kd.R_drew)); exact HO204.out) hb); have n2_ := Aside0.mk (Kd.R_below (by (with_reducible repeat (first | apply Kd.R_alloc | apply Kd.R_drewN | apply Kd.R_drew)); exact HO209.out) hb); have n3_ := Aside0.mk (Kd.R_below (by (with_reducible repeat (first | apply Kd.R_alloc | apply Kd.R_drewN | apply Kd.R_drew)); exact HO214.out) hb); have n4_ := Aside0.mk (Kd.S_below (by (with_reducible repeat (first | apply Kd.S_alloc | apply Kd.S_drewN | apply Kd.S_drew)); exact HO220.out) hb); have n5_ := Aside0.mk (Kd.S_below (by (with_reducible repeat (first | apply Kd.S_alloc | apply Kd.S_drewN | apply Kd.S_drew)); exact HO223.out) hb); have n6_ := Aside0.mk (below_step (by repeat (first | (with_reducible first | exact HB.out | apply below_alloc | apply pw_below_drewN | apply below_drew1) | exact HB.out)) hb); clear HO201; clear HO204; clear HO209; clear HO214; clear HO220; clear HO223; clear HB; have HO201 := n0_; have HO204 := n1_; have HO209 := n2_; have HO214 := n3_; have HO220 := n4_; have HO223 := n5_; have HB := n6_; clear n0_ n1_ n2_ n3_ n4_ n5_ n6_; (try clear hb); (try clear hb2); (try clear hk); (try clear hi)))
                          go_ret
                          exact ⟨by first | rfl | (simp [errW_none, errW_some] <;> rfl) | (simp [*, errW_none, errW_some] <;> rfl), by repeat (first | (with_reducible first | exact HB.out | apply below_alloc | apply pw_below_drewN | apply below_drew1) | exact HB.out)⟩
                        · rw [if_neg c30] at H
                          have c30b0 : ((t205.length : Int) == t226) = false := beq_eq_false_iff_ne.mpr c30
                          have c30b1 : ((t205.length : Int) != t226) = true := bne_iff_ne.mpr c30
                          exact absurd (Option.some.inj H) (by rw [HRT.out]; decide)
                      · replace c28 := Bool.eq_false_iff.mpr c28
                        subst c28
                        have H1 : (some false) = some r := by rw [if_neg (show ¬ (false = true) by decide)] at H; exact H
                        clear H
                        have H := H1
                        clear H1
                        exact absurd (Option.some.inj H) (by rw [HRT.out]; decide)
                    · replace c26 := Bool.eq_false_iff.mpr c26
                      subst c26
                      have H1 : (some false) = some r := by rw [if_neg (show ¬ (false = true) by decide)] at H; exact H
                      clear H
                      have H := H1
                      clear H1
                      exact absurd (Option.some.inj H) (by rw [HRT.out]; decide)
                  · replace c22 := Bool.eq_false_iff.mpr c22
                    subst c22
                    have H1 : (some false) = some r := by rw [if_neg (show ¬ (false = true) by decide)] at H; exact H
                    clear H
                    have H := H1
                    clear H1
                    exact absurd (Option.some.inj H) (by rw [HRT.out]; decide)
                · rw [if_neg c20] at H
                  have c20b0 : (t206 == (wrap64 (t215 + t216))) = false := beq_eq_false_iff_ne.mpr c20
                  have c20b1 : (t206 != (wrap64 (t215 + t216))) = true := bne_iff_ne.mpr c20
                  exact absurd (Option.some.inj H) (by rw [HRT.out]; decide)
              · rw [if_neg c17] at H
                have c17b0 : (t206 == t211) = false := beq_eq_false_iff_ne.mpr c17
                have c17b1 : (t206 != t211) = true := bne_iff_ne.mpr c17
                exact absurd (Option.some.inj H) (by rw [HRT.out]; decide)
            · rw [if_neg c16] at H
              have c16b0 : (t212 == 0) = false := beq_eq_false_iff_ne.mpr c16
              have c16b1 : (t212 != 0) = true := bne_iff_ne.mpr c16
              exact absurd (Option.some.inj H) (by rw [HRT.out]; decide)
          · rw [if_neg c15] at H
            have c15b0 : (t207 == 0) = false := beq_eq_false_iff_ne.mpr c15
            have c15b1 : (t207 != 0) = true := bne_iff_ne.mpr c15
            exact absurd (Option.some.inj H) (by rw [HRT.out]; decide)
  · replace c6 := Bool.eq_false_iff.mpr c6
    subst c6
    have H1 : (some false) = some r := by rw [if_neg (show ¬ (false = true) by decide)] at H; exact H
    clear H
    have H := H1
    clear H1
    exact absurd (Option.some.inj H) (by rw [HRT.out]; decide)
/-- THE ONE PURE STATEMENT of tattingtop_TopWords: yours. -/
def tattingtop_TopWords.Pure : Prop := ∀ (l0 : List Int) (l1 : List Int) (a2 : Int) (a3 : Int), l0.length ≤ maxLen → l0.length * 8 ≤ 140737488351232 → (∀ x ∈ l0, (Lit.int .i64 x).wf = true) → l1.length ≤ maxLen → l1.length * 8 ≤ 140737488351232 → (∀ x ∈ l1, (Lit.int .i64 x).wf = true) → (Lit.int .u8 a2).wf = true → (Lit.int .u8 a3).wf = true → ∃ k, tattingtop_TopWords.f k l0 l1 a2 a3 = some true
theorem tattingtop_TopWords.walk (P : tattingtop_TopWords.Pure) (a0 : Option Addr) (len0 cap0 : Nat) (z0 : List Int) (a1 : Option Addr) (len1 cap1 : Nat) (z1 : List Int) (a2 : Int) (a3 : Int) (w : World) (w0 : (a0 = none ∧ len0 = 0 ∧ cap0 = 0 ∧ z0 = []) ∨ ∃ x, a0 = some x ∧ len0 ≤ cap0 ∧ cap0 ≤ maxLen ∧ z0.length = cap0 ∧ (∀ i, i < z0.length → w.cell? (x.add i) = some (.int .i64 (z0.getD i 0))) ∧ ∀ n ∈ z0, (Lit.int .i64 n).wf = true) (y0 : len0 * 8 ≤ 140737488351232) (w1 : (a1 = none ∧ len1 = 0 ∧ cap1 = 0 ∧ z1 = []) ∨ ∃ x, a1 = some x ∧ len1 ≤ cap1 ∧ cap1 ≤ maxLen ∧ z1.length = cap1 ∧ (∀ i, i < z1.length → w.cell? (x.add i) = some (.int .i64 (z1.getD i 0))) ∧ ∀ n ∈ z1, (Lit.int .i64 n).wf = true) (y1 : len1 * 8 ≤ 140737488351232) (w2 : (Lit.int .u8 a2).wf = true) (w3 : (Lit.int .u8 a3).wf = true) :
    Calls Tryz.prog 8 #[.slice a0 len0 cap0, .slice a1 len1 cap1, .int .u8 a2, .int .u8 a3] w fun e w' => e = .returned (.bool true) ∧ Below w.heap.size w w' := by
  obtain ⟨l0, rfl, hr0, hm0, hw0, hc0⟩ := ReadsInt.ofRowC w0
  obtain ⟨l1, rfl, hr1, hm1, hw1, hc1⟩ := ReadsInt.ofRowC w1
  obtain ⟨k, h⟩ := P l0 l1 a2 a3 hm0 y0 hw0 hm1 y1 hw1 w2 w3
  refine (tattingtop_TopWords.calls k _ _ l0 _ _ l1 a2 a3 true w (Kd.C_of_reads (d := (0 : Int)) (h1 := fun _ => rfl) hr0) hc0 (Kd.C_of_reads (d := (0 : Int)) (h1 := fun _ => rfl) hr1) hc1 h ⟨rfl⟩).mono ?_
  rintro e w' ⟨rfl, hd⟩
  exact ⟨rfl, hd⟩
end Go.Proofs.YtjkjanegankdhaaGreat.PTopWords
