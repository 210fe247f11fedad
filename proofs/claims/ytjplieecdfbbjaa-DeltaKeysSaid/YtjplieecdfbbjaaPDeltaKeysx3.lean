-- Laid by wip/myprint.py: the kit's print, with contracts typed by hand for what it does not take.
import Derived.Test.YtjplieecdfbbjaaPDeltaKeysx0
import Derived.Test.YtjplieecdfbbjaaPDeltaKeysx1
import Derived.Test.YtjplieecdfbbjaaPDeltaKeysx2
namespace Go.Proofs.Ytjplieecdfbbjaa.PDeltaKeys
open Go.RowKit Go.Proofs.YtjplieecdfbbjaaW.PrintWords Go.Proofs.YtjplieecdfbbjaaW.PrintLast Go.Proofs.YtjplieecdfbbjaaW.PrintMore
attribute [local go_sem] max2_int min2_int max_two min_two max_three min_three max_four min_four   -- for this text's walks alone
set_option linter.unusedVariables false
set_option linter.unusedSimpArgs false

/-! ### tattinglaw12_DeltaKeys: function 6 -/
def tattinglaw12_DeltaKeys.f (k : Nat) (l0 : List Int) (a1 : Int) (a2 : Int) (a3 : Int) : Option (Bool) := (tattinglaw12_awake.f k).bind fun t167 => (if t167 = true then (if (l0.length : Int) > 60 then (some true) else ((delta_Key.f k l0 a1 a2).bind fun t168 => ((tattingref12_Key.f k l0 a1 a2).bind fun t169 => (if t168 = t169 then ((delta_Put.f k l0 a1 a2 a3).bind fun t170 => ((tattingref12_Put.f k l0 a1 a2 a3).bind fun t173 => ((tattingref1_Same.f t170 t173).bind fun t176 => (some t176)))) else (some false))))) else (some false))
theorem tattinglaw12_DeltaKeys.mono : ∀ a0 a1 a2 a3 k, LeO (tattinglaw12_DeltaKeys.f k a0 a1 a2 a3) (tattinglaw12_DeltaKeys.f (k + 1) a0 a1 a2 a3) := by
  intro a0 a1 a2 a3 k
  unfold tattinglaw12_DeltaKeys.f
  repeat' first
      | (with_reducible exact delta_Key.mono _ _ _ _)
      | (with_reducible exact delta_Put.mono _ _ _ _ _)
      | (with_reducible exact tattinglaw12_awake.mono _)
      | (with_reducible exact tattingref12_Key.mono _ _ _ _)
      | (with_reducible exact tattingref12_Put.mono _ _ _ _ _)
      | (with_reducible exact LeO.refl _)
      | (with_reducible exact LeO.none _)
      | (with_reducible refine LeO.ite ?_ ?_)
      | (with_reducible refine LeO.bind ?_ (fun _ => ?_))
      | exact delta_Key.mono _ _ _ _
      | exact delta_Put.mono _ _ _ _ _
      | exact tattinglaw12_awake.mono _
      | exact tattingref12_Key.mono _ _ _ _
      | exact tattingref12_Put.mono _ _ _ _ _
      | exact LeO.none _
      | refine LeO.ite ?_ ?_
      | refine LeO.bind ?_ (fun _ => ?_)
set_option maxHeartbeats 8000000 in
set_option maxRecDepth 100000 in
theorem tattinglaw12_DeltaKeys.calls (k : Nat) (A0 : Option Addr) (c0 : Nat) (l0 : List Int) (a1 : Int) (a2 : Int) (a3 : Int) (r : Bool) (w : World) (hr0 : Kd.C (Kd.int .u8) w A0 l0.length l0) (hc0 : l0.length ≤ c0) (h : tattinglaw12_DeltaKeys.f k l0 a1 a2 a3 = some r) (HRT : Aside0 (r = true)) :
    Calls Try.prog 6 #[.slice A0 l0.length c0, .int .i64 a1, .int .i64 a2, .int .i64 a3] w fun e w' => e = .returned (.bool r) ∧ Below w.heap.size w w' := by
  have HR0 := Aside0.mk hr0
  have HC0 := Aside0.mk hc0
  clear hr0 hc0
  have HB := Aside0.mk (Below.refl w.heap.size w)
  have H : ((tattinglaw12_awake.f k).bind fun t167 => (if t167 = true then (if (l0.length : Int) > 60 then (some true) else ((delta_Key.f k l0 a1 a2).bind fun t168 => ((tattingref12_Key.f k l0 a1 a2).bind fun t169 => (if t168 = t169 then ((delta_Put.f k l0 a1 a2 a3).bind fun t170 => ((tattingref12_Put.f k l0 a1 a2 a3).bind fun t173 => ((tattingref1_Same.f t170 t173).bind fun t176 => (some t176)))) else (some false))))) else (some false))) = some r := h
  clear h
  replace H := Option.bind_eq_some_iff.mp H
  obtain ⟨t167, A50, H⟩ := H
  replace H : (if t167 = true then (if (l0.length : Int) > 60 then (some true) else ((delta_Key.f k l0 a1 a2).bind fun t168 => ((tattingref12_Key.f k l0 a1 a2).bind fun t169 => (if t168 = t169 then ((delta_Put.f k l0 a1 a2 a3).bind fun t170 => ((tattingref12_Put.f k l0 a1 a2 a3).bind fun t173 => ((tattingref1_Same.f t170 t173).bind fun t176 => (some t176)))) else (some false))))) else (some false)) = some r := H
  have A5 := Aside0.mk A50
  clear A50
  by_cases c6 : t167 = true
  · subst c6
    have H1 : (if (l0.length : Int) > 60 then (some true) else ((delta_Key.f k l0 a1 a2).bind fun t168 => ((tattingref12_Key.f k l0 a1 a2).bind fun t169 => (if t168 = t169 then ((delta_Put.f k l0 a1 a2 a3).bind fun t170 => ((tattingref12_Put.f k l0 a1 a2 a3).bind fun t173 => ((tattingref1_Same.f t170 t173).bind fun t176 => (some t176)))) else (some false))))) = some r := by rw [if_pos rfl] at H; exact H
    clear H
    have H := H1
    clear H1
    by_cases c7 : (l0.length : Int) > 60
    · rw [if_pos c7] at H
      have c7b0 : decide (60 < (l0.length : Int)) = true := decide_eq_true c7
      have c7b1 : decide (60 < l0.length) = true := decide_eq_true (by omega)
      clear c7
      obtain rfl := Option.some.inj H
      go_enter Try.func6, Try.ntmps6
      go_wp2_with (first | ((with_reducible refine gate_callee (f := 9) rfl ?_); refine goesL_ (some 9) rfl rfl Try.func9 (by kernel_rfl) rfl #[] rfl (by (try simp only [List.map_toArray, List.map_cons, List.map_nil]); first | done | rfl | (simp only [List.length_drop, List.length_take]; rfl)) ?_; (with_reducible refine (tattinglaw12_awake.calls k  true _ A5.out).mono ?_); rintro e w8 ⟨rfl, hb⟩; refine ⟨_, rfl, ?_⟩; have n0_ := Aside0.mk (below_step (by repeat (first | (with_reducible first | exact HB.out | apply below_alloc | apply pw_below_drewN | apply below_drew1) | exact HB.out)) hb); clear HB; have HB := n0_; clear n0_; (try clear hb); (try clear hb2); (try clear hk); (try clear hi)))
      go_ret
      exact ⟨by first | rfl | (simp [errW_none, errW_some] <;> rfl) | (simp [*, errW_none, errW_some] <;> rfl), by repeat (first | (with_reducible first | exact HB.out | apply below_alloc | apply pw_below_drewN | apply below_drew1) | exact HB.out)⟩
    · rw [if_neg c7] at H
      have c7b0 : decide (60 < (l0.length : Int)) = false := decide_eq_false c7
      have c7b1 : decide (60 < l0.length) = false := decide_eq_false (by omega)
      clear c7
      replace H := Option.bind_eq_some_iff.mp H
      obtain ⟨t168, A90, H⟩ := H
      replace H : ((tattingref12_Key.f k l0 a1 a2).bind fun t169 => (if t168 = t169 then ((delta_Put.f k l0 a1 a2 a3).bind fun t170 => ((tattingref12_Put.f k l0 a1 a2 a3).bind fun t173 => ((tattingref1_Same.f t170 t173).bind fun t176 => (some t176)))) else (some false))) = some r := H
      have A9 := Aside0.mk A90
      clear A90
      replace H := Option.bind_eq_some_iff.mp H
      obtain ⟨t169, A100, H⟩ := H
      replace H : (if t168 = t169 then ((delta_Put.f k l0 a1 a2 a3).bind fun t170 => ((tattingref12_Put.f k l0 a1 a2 a3).bind fun t173 => ((tattingref1_Same.f t170 t173).bind fun t176 => (some t176)))) else (some false)) = some r := H
      have A10 := Aside0.mk A100
      clear A100
      by_cases c11 : t168 = t169
      · rw [if_pos c11] at H
        have c11b0 : (t168 == t169) = true := beq_iff_eq.mpr c11
        have c11b1 : (t168 != t169) = false := bne_eq_false_iff_eq.mpr c11
        clear c11
        replace H := Option.bind_eq_some_iff.mp H
        obtain ⟨t170, A120, H⟩ := H
        replace H : ((tattingref12_Put.f k l0 a1 a2 a3).bind fun t173 => ((tattingref1_Same.f t170 t173).bind fun t176 => (some t176))) = some r := H
        have A12 := Aside0.mk A120
        clear A120
        replace H := Option.bind_eq_some_iff.mp H
        obtain ⟨t173, A130, H⟩ := H
        replace H : ((tattingref1_Same.f t170 t173).bind fun t176 => (some t176)) = some r := H
        have A13 := Aside0.mk A130
        clear A130
        replace H := Option.bind_eq_some_iff.mp H
        obtain ⟨t176, A140, H⟩ := H
        replace H : (some t176) = some r := H
        have A14 := Aside0.mk A140
        clear A140
        obtain rfl := Option.some.inj H
        go_enter Try.func6, Try.ntmps6
        go_wp2_with (first | ((with_reducible refine gate_callee (f := 9) rfl ?_); refine goesL_ (some 9) rfl rfl Try.func9 (by kernel_rfl) rfl #[] rfl (by (try simp only [List.map_toArray, List.map_cons, List.map_nil]); first | done | rfl | (simp only [List.length_drop, List.length_take]; rfl)) ?_; (with_reducible refine (tattinglaw12_awake.calls k  true _ A5.out).mono ?_); rintro e w15 ⟨rfl, hb⟩; refine ⟨_, rfl, ?_⟩; have n0_ := Aside0.mk (below_step (by repeat (first | (with_reducible first | exact HB.out | apply below_alloc | apply pw_below_drewN | apply below_drew1) | exact HB.out)) hb); clear HB; have HB := n0_; clear n0_; (try clear hb); (try clear hb2); (try clear hk); (try clear hi)) | ((with_reducible refine gate_callee (f := 13) rfl ?_); refine goesL_ (some 17) rfl rfl Try.func13 (by kernel_rfl) rfl #[.slice A0 l0.length c0, .int .i64 a1, .int .i64 a2] rfl (by (try simp only [List.map_toArray, List.map_cons, List.map_nil]); first | done | rfl | (simp only [List.length_drop, List.length_take]; rfl)) ?_; (with_reducible refine (delta_Key.calls k _ _ l0 a1 a2 t168 _ ?side1 ?side2 A9.out).mono ?_); (case side1 => repeat (first | exact (Kd.C_below HR0.out HB.out) | (with_reducible refine Kd.C_alloc ?_ _) | (with_reducible refine Kd.C_drewN ?_ _) | (with_reducible refine Kd.C_drew ?_))); (case side2 => exact HC0.out); rintro e w' ⟨rfl, ⟨nd, rfl⟩⟩; refine ⟨_, rfl, ?_⟩) | ((with_reducible refine gate_callee (f := 18) rfl ?_); refine goesL_ (some 21) rfl rfl Try.func18 (by kernel_rfl) rfl #[.slice A0 l0.length c0, .int .i64 a1, .int .i64 a2] rfl (by (try simp only [List.map_toArray, List.map_cons, List.map_nil]); first | done | rfl | (simp only [List.length_drop, List.length_take]; rfl)) ?_; (with_reducible refine (tattingref12_Key.calls k _ _ l0 a1 a2 t169 _ ?side1 ?side2 A10.out).mono ?_); (case side1 => repeat (first | exact (Kd.C_below HR0.out (by repeat (first | (with_reducible first | exact HB.out | apply below_alloc | apply pw_below_drewN | apply below_drew1) | exact HB.out))) | (with_reducible refine Kd.C_alloc ?_ _) | (with_reducible refine Kd.C_drewN ?_ _) | (with_reducible refine Kd.C_drew ?_))); (case side2 => exact HC0.out); rintro e w' ⟨rfl, ⟨nd, rfl⟩⟩; refine ⟨_, rfl, ?_⟩) | (go_at_call 15; (with_reducible refine (delta_Put.calls k _ _ l0 a1 a2 a3 t170 _ ?side1 ?side2 A12.out).mono ?_); (case side1 => repeat (first | exact (Kd.C_below HR0.out (by repeat (first | (with_reducible first | exact HB.out | apply below_alloc | apply pw_below_drewN | apply below_drew1) | exact HB.out))) | (with_reducible refine Kd.C_alloc ?_ _) | (with_reducible refine Kd.C_drewN ?_ _) | (with_reducible refine Kd.C_drew ?_))); (case side2 => exact HC0.out); rintro e w16 ⟨v171, rfl, ho0, hb⟩; have n0_ := Aside0.mk (Kd.R_lower ho0 (below_size (by repeat (first | (with_reducible first | exact HB.out | apply below_alloc | apply pw_below_drewN | apply below_drew1) | exact HB.out)))); have n1_ := Aside0.mk (below_step (by repeat (first | (with_reducible first | exact HB.out | apply below_alloc | apply pw_below_drewN | apply below_drew1) | exact HB.out)) hb); clear HB; have HO172 := n0_; have HB := n1_; clear n0_ n1_; (try clear hb); (try clear hb2); (try clear hk); (try clear hi); (try clear ho0)) | (go_at_call 19; (with_reducible refine (tattingref12_Put.calls k _ _ l0 a1 a2 a3 t173 _ ?side1 ?side2 A13.out).mono ?_); (case side1 => repeat (first | exact (Kd.C_below HR0.out HB.out) | (with_reducible refine Kd.C_alloc ?_ _) | (with_reducible refine Kd.C_drewN ?_ _) | (with_reducible refine Kd.C_drew ?_))); (case side2 => exact HC0.out); rintro e w17 ⟨v174, rfl, ho0, hb⟩; have n0_ := Aside0.mk (Kd.R_elder' (by (with_reducible repeat (first | apply Kd.R_alloc | apply Kd.R_drewN | apply Kd.R_drew)); exact HO172.out) (Kd.R_base ho0) hb); have n1_ := Aside0.mk (Kd.R_lower (Kd.R_new' ho0 (Kd.R_lt (by (with_reducible repeat (first | apply Kd.R_alloc | apply Kd.R_drewN | apply Kd.R_drew)); exact HO172.out))) (below_size (by repeat (first | (with_reducible first | exact HB.out | apply below_alloc | apply pw_below_drewN | apply below_drew1) | exact HB.out)))); have n2_ := Aside0.mk (below_step (by repeat (first | (with_reducible first | exact HB.out | apply below_alloc | apply pw_below_drewN | apply below_drew1) | exact HB.out)) hb); clear HO172; clear HB; have HO172 := n0_; have HO175 := n1_; have HB := n2_; clear n0_ n1_ n2_; (try clear hb); (try clear hb2); (try clear hk); (try clear hi); (try clear ho0); obtain ⟨Ao18, co18, eo18⟩ := Kd.R_slice HO172.out; subst eo18; obtain ⟨Ao19, co19, eo19⟩ := Kd.R_slice HO175.out; subst eo19) | (go_at_call 14; (with_reducible refine (tattingref1_Same.calls _ _ t170 _ _ t173 t176 _ ?side1 ?side2 ?side3 ?side4 A14.out).mono ?_); (case side1 => repeat (first | exact (Kd.R_reads' HO172.out).2.2 | (with_reducible refine Kd.C_alloc ?_ _) | (with_reducible refine Kd.C_drewN ?_ _) | (with_reducible refine Kd.C_drew ?_))); (case side2 => exact (Kd.R_reads' HO172.out).2.1); (case side3 => repeat (first | exact (Kd.R_reads' HO175.out).2.2 | (with_reducible refine Kd.C_alloc ?_ _) | (with_reducible refine Kd.C_drewN ?_ _) | (with_reducible refine Kd.C_drew ?_))); (case side4 => exact (Kd.R_reads' HO175.out).2.1); rintro e w' ⟨rfl, ⟨nd, rfl⟩⟩))
        go_ret
        exact ⟨by first | rfl | (simp [errW_none, errW_some] <;> rfl) | (simp [*, errW_none, errW_some] <;> rfl), by repeat (first | (with_reducible first | exact HB.out | apply below_alloc | apply pw_below_drewN | apply below_drew1) | exact HB.out)⟩
      · rw [if_neg c11] at H
        have c11b0 : (t168 == t169) = false := beq_eq_false_iff_ne.mpr c11
        have c11b1 : (t168 != t169) = true := bne_iff_ne.mpr c11
        exact absurd (Option.some.inj H) (by rw [HRT.out]; decide)
  · replace c6 := Bool.eq_false_iff.mpr c6
    subst c6
    have H1 : (some false) = some r := by rw [if_neg (show ¬ (false = true) by decide)] at H; exact H
    clear H
    have H := H1
    clear H1
    exact absurd (Option.some.inj H) (by rw [HRT.out]; decide)

/-- THE ONE PURE STATEMENT of tattinglaw12_DeltaKeys: yours. -/
def tattinglaw12_DeltaKeys.Pure : Prop := ∀ (l0 : List Int) (a1 : Int) (a2 : Int) (a3 : Int), l0.length ≤ maxLen → l0.length * 1 ≤ 140737488351232 → (∀ x ∈ l0, (Lit.int .u8 x).wf = true) → (Lit.int .i64 a1).wf = true → (Lit.int .i64 a2).wf = true → (Lit.int .i64 a3).wf = true → ∃ k, tattinglaw12_DeltaKeys.f k l0 a1 a2 a3 = some true
theorem tattinglaw12_DeltaKeys.walk (P : tattinglaw12_DeltaKeys.Pure) (a0 : Option Addr) (len0 cap0 : Nat) (z0 : List Int) (a1 : Int) (a2 : Int) (a3 : Int) (w : World) (w0 : (a0 = none ∧ len0 = 0 ∧ cap0 = 0 ∧ z0 = []) ∨ ∃ x, a0 = some x ∧ len0 ≤ cap0 ∧ cap0 ≤ maxLen ∧ z0.length = cap0 ∧ (∀ i, i < z0.length → w.cell? (x.add i) = some (.int .u8 (z0.getD i 0))) ∧ ∀ n ∈ z0, (Lit.int .u8 n).wf = true) (y0 : len0 * 1 ≤ 140737488351232) (w1 : (Lit.int .i64 a1).wf = true) (w2 : (Lit.int .i64 a2).wf = true) (w3 : (Lit.int .i64 a3).wf = true) :
    Calls Try.prog 6 #[.slice a0 len0 cap0, .int .i64 a1, .int .i64 a2, .int .i64 a3] w fun e w' => e = .returned (.bool true) ∧ Below w.heap.size w w' := by
  obtain ⟨l0, rfl, hr0, hm0, hw0, hc0⟩ := ReadsInt.ofRowC w0
  obtain ⟨k, h⟩ := P l0 a1 a2 a3 hm0 y0 hw0 w1 w2 w3
  refine (tattinglaw12_DeltaKeys.calls k _ _ l0 a1 a2 a3 true w (Kd.C_of_reads (d := (0 : Int)) (h1 := fun _ => rfl) hr0) hc0 h ⟨rfl⟩).mono ?_
  rintro e w' ⟨rfl, hd⟩
  exact ⟨rfl, hd⟩

end Go.Proofs.Ytjplieecdfbbjaa.PDeltaKeys
