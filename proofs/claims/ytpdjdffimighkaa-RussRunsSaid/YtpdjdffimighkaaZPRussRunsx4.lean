/- Words of the printer, those that are used. -/
import Derived.Test.YtpdjdffimighkaaZPRussRunsx0
import Derived.Test.YtpdjdffimighkaaZPRussRunsx2
import Derived.Test.YtpdjdffimighkaaZPRussRunsx3
import Derived.Test.YtpdjdffimighkaaZHRx
import Derived.Test.YtpdjdffimighkaaZPRussRunsx1
namespace Go.Proofs.Ytpdjdffimighkaa.PRussRuns
open Go.RowKit Go.Proofs.YtpdjdffimighkaaW.PrintWords Go.Proofs.YtpdjdffimighkaaW.PrintLast Go.Proofs.YtpdjdffimighkaaW.PrintMore
attribute [local go_sem] max2_int min2_int max_two min_two max_three min_three max_four min_four   -- for this text's walks alone
set_option linter.unusedVariables false
set_option linter.unusedSimpArgs false
/-! ### tattingref7_Len: function 11 -/
def tattingref7_Len.f (k : Nat) (l0 : List Int) (l1 : List Int) : Option (Int) := (tattingref7_Behind.f k l0 l1).bind fun t167 => (if 0 < (t167.length : Int) then (if 0 < ((rd_L2 t167 0).length : Int) then (some (rd (rd_L2 t167 0) 0)) else (none)) else (none))
theorem tattingref7_Len.mono : ∀ a0 a1 k, LeO (tattingref7_Len.f k a0 a1) (tattingref7_Len.f (k + 1) a0 a1) := by
  intro a0 a1 k
  unfold tattingref7_Len.f
  repeat' first
      | (with_reducible exact tattingref7_Behind.mono _ _ _)
      | (with_reducible exact LeO.refl _)
      | (with_reducible exact LeO.none _)
      | (with_reducible refine LeO.ite ?_ ?_)
      | (with_reducible refine LeO.bind ?_ (fun _ => ?_))
      | exact tattingref7_Behind.mono _ _ _
      | exact LeO.none _
      | refine LeO.ite ?_ ?_
      | refine LeO.bind ?_ (fun _ => ?_)
set_option maxHeartbeats 8000000 in
set_option maxRecDepth 100000 in
theorem tattingref7_Len.calls (k : Nat) (A0 : Option Addr) (c0 : Nat) (l0 : List Int) (A1 : Option Addr) (c1 : Nat) (l1 : List Int) (r : Int) (w : World) (hr0 : Kd.C (Kd.int .i64) w A0 l0.length l0) (hc0 : l0.length ≤ c0) (hr1 : Kd.C (Kd.int .i64) w A1 l1.length l1) (hc1 : l1.length ≤ c1) (h : tattingref7_Len.f k l0 l1 = some r) :
    Calls Try.prog 11 #[.slice A0 l0.length c0, .slice A1 l1.length c1] w fun e w' => e = .returned (.int .i64 r) ∧ Below w.heap.size w w' := by
  have HR0 := Aside0.mk hr0
  have HC0 := Aside0.mk hc0
  clear hr0 hc0
  have HR1 := Aside0.mk hr1
  have HC1 := Aside0.mk hc1
  clear hr1 hc1
  have HB := Aside0.mk (Below.refl w.heap.size w)
  have H : ((tattingref7_Behind.f k l0 l1).bind fun t167 => (if 0 < (t167.length : Int) then (if 0 < ((rd_L2 t167 0).length : Int) then (some (rd (rd_L2 t167 0) 0)) else (none)) else (none))) = some r := h
  clear h
  replace H := Option.bind_eq_some_iff.mp H
  obtain ⟨t167, A30, H⟩ := H
  replace H : (if 0 < (t167.length : Int) then (if 0 < ((rd_L2 t167 0).length : Int) then (some (rd (rd_L2 t167 0) 0)) else (none)) else (none)) = some r := H
  have A3 := Aside0.mk A30
  clear A30
  by_cases c4 : 0 < (t167.length : Int)
  · rw [if_pos c4] at H
    have c4b0 : decide (0 < (t167.length : Int)) = true := decide_eq_true c4
    have c4b1 : decide (0 < t167.length) = true := decide_eq_true (by omega)
    clear c4
    by_cases c5 : 0 < ((rd_L2 t167 0).length : Int)
    · rw [if_pos c5] at H
      have c5b0 : decide (0 < ((rd_L2 t167 0).length : Int)) = true := decide_eq_true c5
      have c5b1 : decide (0 < (rd_L2 t167 0).length) = true := decide_eq_true (by omega)
      clear c5
      obtain rfl := Option.some.inj H
      go_enter Try.func11, Try.ntmps11
      go_wp2_with (first | ((with_reducible refine gate_callee (f := 22) rfl ?_); refine goesL_ (some 7) rfl rfl Try.func22 (by kernel_rfl) rfl #[.slice A0 l0.length c0, .slice A1 l1.length c1] rfl (by (try simp only [List.map_toArray, List.map_cons, List.map_nil]); first | done | rfl | (simp only [List.length_drop, List.length_take]; rfl)) ?_; (with_reducible refine (tattingref7_Behind.calls k _ _ l0 _ _ l1 t167 _ ?side1 ?side2 ?side3 ?side4 A3.out).mono ?_); (case side1 => repeat (first | exact HR0.out | (with_reducible refine Kd.C_alloc ?_ _) | (with_reducible refine Kd.C_drewN ?_ _) | (with_reducible refine Kd.C_drew ?_))); (case side2 => exact HC0.out); (case side3 => repeat (first | exact HR1.out | (with_reducible refine Kd.C_alloc ?_ _) | (with_reducible refine Kd.C_drewN ?_ _) | (with_reducible refine Kd.C_drew ?_))); (case side4 => exact HC1.out); rintro e w6 ⟨v168, rfl, ho0, hb⟩; refine ⟨_, rfl, ?_⟩; have n0_ := Aside0.mk (Kd.S_lower ho0 (below_size (by repeat (first | (with_reducible first | exact HB.out | apply below_alloc | apply pw_below_drewN | apply below_drew1) | exact HB.out)))); have n1_ := Aside0.mk (below_step (by repeat (first | (with_reducible first | exact HB.out | apply below_alloc | apply pw_below_drewN | apply below_drew1) | exact HB.out)) hb); clear HB; have HO169 := n0_; have HB := n1_; clear n0_ n1_; (try clear hb); (try clear hb2); (try clear hk); (try clear hi); (try clear ho0); obtain ⟨Ao7, co7, eo7⟩ := Kd.S_slice HO169.out; subst eo7; have p170 : 0 ≤ (0 : Int) := (by omega); have q170 : 0 < (t167.length : Int) := of_decide_eq_true (by first | (with_reducible assumption) | assumption); obtain ⟨ad170, A170_0, c170_0, e170, hx170_0, hl170_0, hi170_0⟩ := at_L2 (Kd.S_reads' HO169.out).2.2 0 p170 q170; cases e170; obtain ⟨ce170, hce170, hMe170, hcc170⟩ := Kd.S_get HO169.out [] 0 p170 (by first | exact q170 | exact of_decide_eq_true (by first | (with_reducible assumption) | assumption) | (have e_ := (Kd.S_reads' HO169.out).1; omega)); obtain ⟨ve170_0, rfl, ge170_0⟩ := hMe170; have hv170_0 := hcc170 0 _ rfl; rw [Nat.add_zero, show ((Kd.slice 3 (Kd.int .i64))).sz = 1 from rfl, Nat.mul_one] at hv170_0; replace hv170_0 := Option.some.inj (hv170_0.symm.trans hx170_0); rw [hv170_0] at ge170_0; have HL170_0 := Aside0.mk (show Kd.R (Kd.int .i64) 3 _ _ _ _ (rd_L2 t167 0) from ge170_0); clear hv170_0 ge170_0; clear hcc170 hce170; have qi170 : (0 < t167.length) = True := eq_true (by omega); (try rw [show ((0 : Int)).toNat = 0 from rfl] at hx170_0); (try rw [Addr.add_zero'] at hx170_0); have HR170_0 := Aside0.mk hi170_0; have HC170_0 := Aside0.mk hl170_0; clear hi170_0 hl170_0; replace p170 := eq_true p170; replace q170 := eq_true q170; have p171 : 0 ≤ (0 : Int) := (by omega); have q171 : 0 < ((rd_L2 t167 0).length : Int) := of_decide_eq_true (by first | (with_reducible assumption) | assumption); obtain ⟨ad171, e171, hx171_0⟩ := Kd.at_int (by repeat (first | (with_reducible exact HR170_0.out) | (with_reducible refine Kd.C_alloc ?_ _) | (with_reducible refine Kd.C_drewN ?_ _) | (with_reducible refine Kd.C_drew ?_) | exact HR170_0.out)) 0 p171 q171; cases e171; have qi171 : (0 < (rd_L2 t167 0).length) = True := eq_true (by omega); (try rw [show ((0 : Int)).toNat = 0 from rfl] at hx171_0); (try rw [Addr.add_zero'] at hx171_0); replace p171 := eq_true p171; replace q171 := eq_true q171))
      go_ret
      exact ⟨by first | rfl | (simp [errW_none, errW_some] <;> rfl) | (simp [*, errW_none, errW_some] <;> rfl), by repeat (first | (with_reducible first | exact HB.out | apply below_alloc | apply pw_below_drewN | apply below_drew1) | exact HB.out)⟩
    · rw [if_neg c5] at H
      exact absurd H (by simp)
  · rw [if_neg c4] at H
    exact absurd H (by simp)
/-! ### tattingref1_Few: function 12 -/
def tattingref1_Few.l0 : Nat → List Int → Int → List Int → Int → Option (List Int)
  | 0, _, _, _, _ => none
  | k + 1, x0, x1, x5, x6 => if x6 < (x0.length : Int) then (if 0 ≤ x6 then (if x1 = 0 then (none) else (if (Int.tmod (rd x0 x6) x1) < 0 then (if x5.length < 17592186044416 then (tattingref1_Few.l0 k x0 x1 (x5 ++ [wrap64 ((Int.tmod (rd x0 x6) x1) + x1)]) (wrap64 (x6 + 1))) else (none)) else (if x5.length < 17592186044416 then (tattingref1_Few.l0 k x0 x1 (x5 ++ [Int.tmod (rd x0 x6) x1]) (wrap64 (x6 + 1))) else (none)))) else (none)) else (some x5)
def tattingref1_Few.f (k : Nat) (l0 : List Int) (a1 : Int) : Option (List Int) := tattingref1_Few.l0 k l0 a1 ([] : List Int) 0
theorem tattingref1_Few.mono_l : ∀ k, (∀ y0 y1 y2 y3, LeO (tattingref1_Few.l0 k y0 y1 y2 y3) (tattingref1_Few.l0 (k + 1) y0 y1 y2 y3))
  | 0 => fun _ _ _ _ r h => by simp [tattingref1_Few.l0] at h
  | k + 1 => by
    have ih0 := tattingref1_Few.mono_l k
    · intro y0 y1 y2 y3
      unfold tattingref1_Few.l0
      repeat' first
      | (with_reducible exact ih0 _ _ _ _)
      | (with_reducible exact LeO.refl _)
      | (with_reducible exact LeO.none _)
      | (with_reducible refine LeO.ite ?_ ?_)
      | (with_reducible refine LeO.bind ?_ (fun _ => ?_))
      | exact ih0 _ _ _ _
      | exact LeO.none _
      | refine LeO.ite ?_ ?_
      | refine LeO.bind ?_ (fun _ => ?_)
theorem tattingref1_Few.mono : ∀ a0 a1 k, LeO (tattingref1_Few.f k a0 a1) (tattingref1_Few.f (k + 1) a0 a1) := by
  intro a0 a1 k
  have ih0 := tattingref1_Few.mono_l k
  unfold tattingref1_Few.f
  repeat' first
      | (with_reducible exact ih0 _ _ _ _)
      | (with_reducible exact LeO.refl _)
      | (with_reducible exact LeO.none _)
      | (with_reducible refine LeO.ite ?_ ?_)
      | (with_reducible refine LeO.bind ?_ (fun _ => ?_))
      | exact ih0 _ _ _ _
      | exact LeO.none _
      | refine LeO.ite ?_ ?_
      | refine LeO.bind ?_ (fun _ => ?_)
set_option maxHeartbeats 8000000 in
set_option maxRecDepth 100000 in
theorem tattingref1_Few.calls (k : Nat) (A0 : Option Addr) (c0 : Nat) (l0 : List Int) (a1 : Int) (r : List Int) (w : World) (hr0 : Kd.C (Kd.int .i64) w A0 l0.length l0) (hc0 : l0.length ≤ c0) (h : tattingref1_Few.f k l0 a1 = some r) :
    Calls Try.prog 12 #[.slice A0 l0.length c0, .int .i64 a1] w fun e w' => ∃ v0_ : Value, e = .returned (v0_) ∧ Kd.R (Kd.int .i64) 3 w' w.heap.size (fun _ => True) v0_ r ∧ Below w.heap.size w w' := by
  have HR0 := Aside0.mk hr0
  have HC0 := Aside0.mk hc0
  clear hr0 hc0
  have HB := Aside0.mk (Below.refl w.heap.size w)
  have H : (tattingref1_Few.l0 k l0 a1 ([] : List Int) 0) = some r := h
  clear h
  have H' := Aside0.mk H
  clear H
  go_enter Try.func12, Try.ntmps12
  go_wp2
  go_loopg [5, 6] k (fun kq v5 v6 w' => ∃ (x5_1 : List Int) (x6_1 : Int), v6 = .int .i64 x6_1 ∧ Aside0 (tattingref1_Few.l0 kq l0 a1 x5_1 x6_1 = some r) ∧ Aside0 (kq ≤ k) ∧ Aside0 (Kd.R (Kd.int .i64) 3 w' w.heap.size (fun _ => True) v5 x5_1) ∧ Aside0 (Below w.heap.size w w'))
  case atStart => exact ⟨(([] : List Int)), (0), (by first | rfl | (simp; done) | (simp [*]; done)), H', ⟨Nat.le_refl _⟩, ⟨by first | exact Kd.R_nil _ _ _ _ _ | exact Kd.N_nil _ _ _ _ _ | exact Kd.V_nil _ _ _ _ _ | exact Kd.Q_nil _ _ _ _ _ | exact Kd.S_nil _ _ _ _ _⟩, ⟨by repeat (first | (with_reducible first | exact HB.out | apply below_alloc | apply pw_below_drewN | apply below_drew1) | exact HB.out)⟩⟩
  case round =>
    clear H'
    try clear c1
    try clear p2
    obtain ⟨x5_1, x6_1, rfl, HA, HK1, HO_5, HB⟩ := hrel
    cases gk with
    | zero => exact absurd HA.out (by simp [tattingref1_Few.l0])
    | succ k1 =>
      have H := HA.out
      clear HA
      simp only [tattingref1_Few.l0] at H
      by_cases c3 : x6_1 < (l0.length : Int)
      · rw [if_pos c3] at H
        have c3b0 : decide (x6_1 < (l0.length : Int)) = true := decide_eq_true c3
        clear c3
        by_cases c4 : 0 ≤ x6_1
        · rw [if_pos c4] at H
          have c4b0 : decide (0 ≤ x6_1) = true := decide_eq_true c4
          clear c4
          by_cases c5 : a1 = 0
          · rw [if_pos c5] at H
            exact absurd H (by simp)
          · rw [if_neg c5] at H
            have c5b0 : (a1 == 0) = false := beq_eq_false_iff_ne.mpr c5
            have c5b1 : (a1 != 0) = true := bne_iff_ne.mpr c5
            by_cases c6 : (Int.tmod (rd l0 x6_1) a1) < 0
            · rw [if_pos c6] at H
              have c6b0 : decide ((Int.tmod (rd l0 x6_1) a1) < 0) = true := decide_eq_true c6
              clear c6
              by_cases c7 : x5_1.length < 17592186044416
              · rw [if_pos c7] at H
                have LMc7 := Aside0.mk c7
                clear c7
                obtain ⟨y173, hy173⟩ : ∃ y_ : List Int, y_ = (x5_1 ++ [wrap64 ((Int.tmod (rd l0 x6_1) a1) + a1)]) := ⟨_, rfl⟩
                replace H : (tattingref1_Few.l0 k1 l0 a1 y173 (wrap64 (x6_1 + 1))) = some r := by first | (rw [hy173]; with_reducible exact H) | (have H2_ := (Option.bind_some _ _).symm.trans H; rw [hy173]; with_reducible exact H2_) | (have H2_ := (Option.bind_some _ _).symm.trans H; with_reducible exact H2_) | with_reducible exact H | (rw [hy173]; exact H) | exact H
                have Ny173 := Aside0.mk hy173
                clear hy173
                have H' := Aside0.mk H
                clear H
                have p172 : 0 ≤ (x6_1 : Int) := of_decide_eq_true (by first | (with_reducible assumption) | assumption)
                have q172 : x6_1 < (l0.length : Int) := of_decide_eq_true (by first | (with_reducible assumption) | assumption)
                obtain ⟨ad172, e172, hx172_0⟩ := Kd.at_int HR0.out x6_1 p172 q172
                cases e172
                replace hx172_0 := (HB.out.cell (World.block_lt_of_cell? w _ hx172_0)).trans hx172_0
                replace p172 := eq_true p172
                replace q172 := eq_true q172
                go_wp2_with (first | ((with_reducible refine gate_builtin (b := .append) (xs := #[.tmp 25, .tmp 27]) rfl ?_); at_builtin; refine Kd.R_append (Kd.int .i64) (w0 := w) w.heap.size rfl (.tmp 25) (.tmp 27) 31 3 (.int .i64 0) 8 rfl Try.underlying31 info3 rfl (by decide) (by omega) u5 x5_1 (wrap64 ((Int.tmod (rd l0 x6_1) a1) + a1)) [.int .i64 (wrap64 ((Int.tmod (rd l0 x6_1) a1) + a1))] (fun _ => True) (fun _ => False) rfl rfl ?aP (fun _ hk => hk.elim) ?aF ?aO ?aB ?aS ?aL ?_; (case aP => exact rfl); (case aB => exact (by repeat (first | (with_reducible first | exact HB.out | apply below_alloc | apply pw_below_drewN | apply below_drew1) | exact HB.out))); (case aF => exact (fun _ _ => trivial)); (case aO => exact (by (with_reducible repeat (first | apply Kd.R_alloc | apply Kd.R_drewN | apply Kd.R_drew)); exact HO_5.out)); (case aS => exact (below_size (by repeat (first | (with_reducible first | exact HB.out | apply below_alloc | apply pw_below_drewN | apply below_drew1) | exact HB.out)))); (case aL => have := LMc7.out; omega); intro v174 w8 ho hb hg hat; rw [← Ny173.out] at ho; have n0_ := Aside0.mk (hb); have n1_ := Aside0.mk (ho); clear HB; clear HO_5; have HB := n0_; have HO175 := n1_; clear n0_ n1_; clear ho hb hg hat))
                go_roundg k1
                case measure => have := HK1.out; omega
                case rel => exact ⟨(y173), (wrap64 (x6_1 + 1)), (by first | rfl | (simp; done) | (simp [*]; done)), H', ⟨by have := HK1.out; omega⟩, ⟨by (with_reducible repeat (first | apply Kd.R_alloc | apply Kd.R_drewN | apply Kd.R_drew)); exact HO175.out⟩, ⟨by repeat (first | (with_reducible first | exact HB.out | apply below_alloc | apply pw_below_drewN | apply below_drew1) | exact HB.out)⟩⟩
              · rw [if_neg c7] at H
                exact absurd H (by simp)
            · rw [if_neg c6] at H
              have c6b0 : decide ((Int.tmod (rd l0 x6_1) a1) < 0) = false := decide_eq_false c6
              clear c6
              by_cases c9 : x5_1.length < 17592186044416
              · rw [if_pos c9] at H
                have LMc9 := Aside0.mk c9
                clear c9
                obtain ⟨y176, hy176⟩ : ∃ y_ : List Int, y_ = (x5_1 ++ [Int.tmod (rd l0 x6_1) a1]) := ⟨_, rfl⟩
                replace H : (tattingref1_Few.l0 k1 l0 a1 y176 (wrap64 (x6_1 + 1))) = some r := by first | (rw [hy176]; with_reducible exact H) | (have H2_ := (Option.bind_some _ _).symm.trans H; rw [hy176]; with_reducible exact H2_) | (have H2_ := (Option.bind_some _ _).symm.trans H; with_reducible exact H2_) | with_reducible exact H | (rw [hy176]; exact H) | exact H
                have Ny176 := Aside0.mk hy176
                clear hy176
                have H' := Aside0.mk H
                clear H
                have p172 : 0 ≤ (x6_1 : Int) := of_decide_eq_true (by first | (with_reducible assumption) | assumption)
                have q172 : x6_1 < (l0.length : Int) := of_decide_eq_true (by first | (with_reducible assumption) | assumption)
                obtain ⟨ad172, e172, hx172_0⟩ := Kd.at_int HR0.out x6_1 p172 q172
                cases e172
                replace hx172_0 := (HB.out.cell (World.block_lt_of_cell? w _ hx172_0)).trans hx172_0
                replace p172 := eq_true p172
                replace q172 := eq_true q172
                go_wp2_with (first | ((with_reducible refine gate_builtin (b := .append) (xs := #[.tmp 25, .tmp 27]) rfl ?_); at_builtin; refine Kd.R_append (Kd.int .i64) (w0 := w) w.heap.size rfl (.tmp 25) (.tmp 27) 31 3 (.int .i64 0) 8 rfl Try.underlying31 info3 rfl (by decide) (by omega) u5 x5_1 (Int.tmod (rd l0 x6_1) a1) [.int .i64 (Int.tmod (rd l0 x6_1) a1)] (fun _ => True) (fun _ => False) rfl rfl ?aP (fun _ hk => hk.elim) ?aF ?aO ?aB ?aS ?aL ?_; (case aP => exact rfl); (case aB => exact (by repeat (first | (with_reducible first | exact HB.out | apply below_alloc | apply pw_below_drewN | apply below_drew1) | exact HB.out))); (case aF => exact (fun _ _ => trivial)); (case aO => exact (by (with_reducible repeat (first | apply Kd.R_alloc | apply Kd.R_drewN | apply Kd.R_drew)); exact HO_5.out)); (case aS => exact (below_size (by repeat (first | (with_reducible first | exact HB.out | apply below_alloc | apply pw_below_drewN | apply below_drew1) | exact HB.out)))); (case aL => have := LMc9.out; omega); intro v177 w10 ho hb hg hat; rw [← Ny176.out] at ho; have n0_ := Aside0.mk (hb); have n1_ := Aside0.mk (ho); clear HB; clear HO_5; have HB := n0_; have HO178 := n1_; clear n0_ n1_; clear ho hb hg hat))
                go_roundg k1
                case measure => have := HK1.out; omega
                case rel => exact ⟨(y176), (wrap64 (x6_1 + 1)), (by first | rfl | (simp; done) | (simp [*]; done)), H', ⟨by have := HK1.out; omega⟩, ⟨by (with_reducible repeat (first | apply Kd.R_alloc | apply Kd.R_drewN | apply Kd.R_drew)); exact HO178.out⟩, ⟨by repeat (first | (with_reducible first | exact HB.out | apply below_alloc | apply pw_below_drewN | apply below_drew1) | exact HB.out)⟩⟩
              · rw [if_neg c9] at H
                exact absurd H (by simp)
        · rw [if_neg c4] at H
          exact absurd H (by simp)
      · rw [if_neg c3] at H
        have c3b0 : decide (x6_1 < (l0.length : Int)) = false := decide_eq_false c3
        clear c3
        obtain rfl := Option.some.inj H
        go_wp2
        go_ret
        exact ⟨_, by first | rfl | (simp [errW_none, errW_some] <;> rfl) | (simp [*, errW_none, errW_some] <;> rfl), by (with_reducible repeat (first | apply Kd.R_alloc | apply Kd.R_drewN | apply Kd.R_drew)); exact HO_5.out, by repeat (first | (with_reducible first | exact HB.out | apply below_alloc | apply pw_below_drewN | apply below_drew1) | exact HB.out)⟩
/-! ### tattingref7_Good: function 13 -/
mutual
def tattingref7_Good.l0 : Nat → List Int → List Int → List (S49) → Int → Option (Bool)
  | 0, _, _, _, _ => none
  | k + 1, x0, x1, x2, x7 => if x7 < (x2.length : Int) then (if 0 ≤ x7 then (if ((rd_T49 x2 x7).f0) < 0 then (tattingref7_Good.j1 k x0 x1 x2 x7 true ((rd_T49 x2 x7).f0) ((rd_T49 x2 x7).f1)) else (if ((rd_T49 x2 x7).f0) ≥ (x0.length : Int) then (tattingref7_Good.j1 k x0 x1 x2 x7 true ((rd_T49 x2 x7).f0) ((rd_T49 x2 x7).f1)) else (if ((rd_T49 x2 x7).f1) < 0 then (tattingref7_Good.j1 k x0 x1 x2 x7 true ((rd_T49 x2 x7).f0) ((rd_T49 x2 x7).f1)) else (if ((rd_T49 x2 x7).f1) ≥ (x1.length : Int) then (tattingref7_Good.j1 k x0 x1 x2 x7 true ((rd_T49 x2 x7).f0) ((rd_T49 x2 x7).f1)) else (if 0 ≤ ((rd_T49 x2 x7).f0) then (if ((rd_T49 x2 x7).f0) < (x0.length : Int) then (if 0 ≤ ((rd_T49 x2 x7).f1) then (if ((rd_T49 x2 x7).f1) < (x1.length : Int) then (tattingref7_Good.j1 k x0 x1 x2 x7 ((rd x0 ((rd_T49 x2 x7).f0)) != (rd x1 ((rd_T49 x2 x7).f1))) ((rd_T49 x2 x7).f0) ((rd_T49 x2 x7).f1)) else (none)) else (none)) else (none)) else (none)))))) else (none)) else (some true)
def tattingref7_Good.j1 : Nat → List Int → List Int → List (S49) → Int → Bool → Int → Int → Option (Bool)
  | 0, _, _, _, _, _, _, _ => none
  | k + 1, x0, x1, x2, x7, x53, x181000, x181001 => if x53 = true then (some false) else (if x7 > 0 then (if 0 ≤ (wrap64 (x7 - 1)) then (if (wrap64 (x7 - 1)) < (x2.length : Int) then (if x181000 ≤ ((rd_T49 x2 (wrap64 (x7 - 1))).f0) then (some false) else (if x181001 ≤ ((rd_T49 x2 (wrap64 (x7 - 1))).f1) then (some false) else (tattingref7_Good.l0 k x0 x1 x2 (wrap64 (x7 + 1))))) else (none)) else (none)) else (tattingref7_Good.l0 k x0 x1 x2 (wrap64 (x7 + 1))))
end
def tattingref7_Good.f (k : Nat) (l0 : List Int) (l1 : List Int) (l2 : List (S49)) : Option (Bool) := tattingref7_Good.l0 k l0 l1 l2 0
theorem tattingref7_Good.mono_l : ∀ k, (∀ y0 y1 y2 y3, LeO (tattingref7_Good.l0 k y0 y1 y2 y3) (tattingref7_Good.l0 (k + 1) y0 y1 y2 y3)) ∧ (∀ y0 y1 y2 y3 y4 y5 y6, LeO (tattingref7_Good.j1 k y0 y1 y2 y3 y4 y5 y6) (tattingref7_Good.j1 (k + 1) y0 y1 y2 y3 y4 y5 y6))
  | 0 => ⟨fun _ _ _ _ r h => by simp [tattingref7_Good.l0] at h, fun _ _ _ _ _ _ _ r h => by simp [tattingref7_Good.j1] at h⟩
  | k + 1 => by
    obtain ⟨ih0, ih1⟩ := tattingref7_Good.mono_l k
    refine ⟨?_, ?_⟩
    · intro y0 y1 y2 y3
      unfold tattingref7_Good.l0
      repeat' first
      | (with_reducible exact ih0 _ _ _ _)
      | (with_reducible exact ih1 _ _ _ _ _ _ _)
      | (with_reducible exact LeO.refl _)
      | (with_reducible exact LeO.none _)
      | (with_reducible refine LeO.ite ?_ ?_)
      | (with_reducible refine LeO.bind ?_ (fun _ => ?_))
      | exact ih0 _ _ _ _
      | exact ih1 _ _ _ _ _ _ _
      | exact LeO.none _
      | refine LeO.ite ?_ ?_
      | refine LeO.bind ?_ (fun _ => ?_)
    · intro y0 y1 y2 y3 y4 y5 y6
      unfold tattingref7_Good.j1
      repeat' first
      | (with_reducible exact ih0 _ _ _ _)
      | (with_reducible exact ih1 _ _ _ _ _ _ _)
      | (with_reducible exact LeO.refl _)
      | (with_reducible exact LeO.none _)
      | (with_reducible refine LeO.ite ?_ ?_)
      | (with_reducible refine LeO.bind ?_ (fun _ => ?_))
      | exact ih0 _ _ _ _
      | exact ih1 _ _ _ _ _ _ _
      | exact LeO.none _
      | refine LeO.ite ?_ ?_
      | refine LeO.bind ?_ (fun _ => ?_)
theorem tattingref7_Good.mono : ∀ a0 a1 a2 k, LeO (tattingref7_Good.f k a0 a1 a2) (tattingref7_Good.f (k + 1) a0 a1 a2) := by
  intro a0 a1 a2 k
  obtain ⟨ih0, ih1⟩ := tattingref7_Good.mono_l k
  unfold tattingref7_Good.f
  repeat' first
      | (with_reducible exact ih0 _ _ _ _)
      | (with_reducible exact ih1 _ _ _ _ _ _ _)
      | (with_reducible exact LeO.refl _)
      | (with_reducible exact LeO.none _)
      | (with_reducible refine LeO.ite ?_ ?_)
      | (with_reducible refine LeO.bind ?_ (fun _ => ?_))
      | exact ih0 _ _ _ _
      | exact ih1 _ _ _ _ _ _ _
      | exact LeO.none _
      | refine LeO.ite ?_ ?_
      | refine LeO.bind ?_ (fun _ => ?_)
set_option maxHeartbeats 8000000 in
set_option maxRecDepth 100000 in
theorem tattingref7_Good.calls (k : Nat) (A0 : Option Addr) (c0 : Nat) (l0 : List Int) (A1 : Option Addr) (c1 : Nat) (l1 : List Int) (A2 : Option Addr) (c2 : Nat) (l2 : List (S49)) (r : Bool) (w : World) (hr0 : Kd.C (Kd.int .i64) w A0 l0.length l0) (hc0 : l0.length ≤ c0) (hr1 : Kd.C (Kd.int .i64) w A1 l1.length l1) (hc1 : l1.length ≤ c1) (hr2 : Kd.C k49 w A2 l2.length l2) (hc2 : l2.length ≤ c2) (h : tattingref7_Good.f k l0 l1 l2 = some r) :
    Calls Try.prog 13 #[.slice A0 l0.length c0, .slice A1 l1.length c1, .slice A2 l2.length c2] w fun e w' => e = .returned (.bool r) ∧ Below w.heap.size w w' := by
  have hu49 := Try.underlying49
  have HR0 := Aside0.mk hr0
  have HC0 := Aside0.mk hc0
  clear hr0 hc0
  have HR1 := Aside0.mk hr1
  have HC1 := Aside0.mk hc1
  clear hr1 hc1
  have HR2 := Aside0.mk hr2
  have HC2 := Aside0.mk hc2
  clear hr2 hc2
  have HB := Aside0.mk (Below.refl w.heap.size w)
  have H : (tattingref7_Good.l0 k l0 l1 l2 0) = some r := h
  clear h
  have H' := Aside0.mk H
  clear H
  go_enter Try.func13, Try.ntmps13
  go_wp2
  repeat (go_quiet (fail); try go_wp2)
  go_loopg [7] k (fun kq v7 w' => ∃ (x7_1 : Int), v7 = .int .i64 x7_1 ∧ Aside0 (tattingref7_Good.l0 kq l0 l1 l2 x7_1 = some r) ∧ Aside0 (kq ≤ k) ∧ Aside0 (Below w.heap.size w w'))
  case atStart => exact ⟨(0), (by first | rfl | (simp; done) | (simp [*]; done)), H', ⟨Nat.le_refl _⟩, ⟨by repeat (first | (with_reducible first | exact HB.out | apply below_alloc | apply pw_below_drewN | apply below_drew1) | exact HB.out)⟩⟩
  case round =>
    clear H'
    try clear c1
    try clear c2
    try clear p2
    obtain ⟨x7_1, rfl, HA, HK1, HB⟩ := hrel
    cases gk with
    | zero => exact absurd HA.out (by simp [tattingref7_Good.l0])
    | succ k1 =>
      have H := HA.out
      clear HA
      simp only [tattingref7_Good.l0] at H
      by_cases c4 : x7_1 < (l2.length : Int)
      · rw [if_pos c4] at H
        have c4b0 : decide (x7_1 < (l2.length : Int)) = true := decide_eq_true c4
        clear c4
        by_cases c5 : 0 ≤ x7_1
        · rw [if_pos c5] at H
          have c5b0 : decide (0 ≤ x7_1) = true := decide_eq_true c5
          clear c5
          have HC6 := Aside0.mk H
          clear H
          have p179 : 0 ≤ (x7_1 : Int) := of_decide_eq_true (by first | (with_reducible assumption) | assumption)
          have q179 : x7_1 < (l2.length : Int) := of_decide_eq_true (by first | (with_reducible assumption) | assumption)
          obtain ⟨ad179, e179, hx179_0, hx179_1⟩ := at_T49 HR2.out x7_1 p179 q179
          cases e179
          replace hx179_0 := (HB.out.cell (World.block_lt_of_cell? w _ hx179_0)).trans hx179_0
          replace hx179_1 := (HB.out.cell (World.block_lt_of_cell? w _ hx179_1)).trans hx179_1
          replace p179 := eq_true p179
          replace q179 := eq_true q179
          go_upto_region 5 with (first | ((with_reducible refine gate_dst (N := 8) rfl ?_); (try (refine gate_guard (by rfl) ?_; dsimp only)); refine box_event ?hg (N := 8) ?hd (cs := #[.int .i64 0, .int .i64 0]) (t := 49) ?hr ?_; (case hd => rfl); (case hg => rfl); (case hr => first | (go_simp; done) | (go_simp; rfl)); intro gb180 hg w7 hbox hb; have n0_ := Aside0.mk (below_step (by repeat (first | (with_reducible first | exact HB.out | apply below_alloc | apply pw_below_drewN | apply below_drew1) | exact HB.out)) hb); have n1_ := Aside0.mk (hbox); have n2_ := Aside0.mk ((by rw [hg]; exact (below_size (by repeat (first | (with_reducible first | exact HB.out | apply below_alloc | apply pw_below_drewN | apply below_drew1) | exact HB.out))) : w.heap.size ≤ gb180)); have n3_ := Aside0.mk ((by rw [hg]; exact (below_size (by repeat (first | (with_reducible first | exact HB.out | apply below_alloc | apply pw_below_drewN | apply below_drew1) | exact HB.out))) : w.heap.size ≤ gb180)); clear HB; have HB := n0_; have BK180 := n1_; have GW180 := n2_; have GE180 := n3_; clear n0_ n1_ n2_ n3_; clear hb hbox hg; have hcz8_0 : w7.cell? ⟨gb180, 0, none⟩ = some (.int .i64 0) := (blk_cell BK180.out 0).trans rfl; have hcz8_1 : w7.cell? ⟨gb180, 1, none⟩ = some (.int .i64 0) := (blk_cell BK180.out 1).trans rfl; have hfz8_0 := blk_frozen BK180.out 0; have hfz8_1 := blk_frozen BK180.out 1))
          repeat (go_quiet (first | ((with_reducible refine gate_dst (N := 8) rfl ?_); (try (refine gate_guard (by rfl) ?_; dsimp only)); refine box_event ?hg (N := 8) ?hd (cs := #[.int .i64 0, .int .i64 0]) (t := 49) ?hr ?_; (case hd => rfl); (case hg => rfl); (case hr => first | (go_simp; done) | (go_simp; rfl)); intro gb180 hg w7 hbox hb; have n0_ := Aside0.mk (below_step (by repeat (first | (with_reducible first | exact HB.out | apply below_alloc | apply pw_below_drewN | apply below_drew1) | exact HB.out)) hb); have n1_ := Aside0.mk (hbox); have n2_ := Aside0.mk ((by rw [hg]; exact (below_size (by repeat (first | (with_reducible first | exact HB.out | apply below_alloc | apply pw_below_drewN | apply below_drew1) | exact HB.out))) : w.heap.size ≤ gb180)); have n3_ := Aside0.mk ((by rw [hg]; exact (below_size (by repeat (first | (with_reducible first | exact HB.out | apply below_alloc | apply pw_below_drewN | apply below_drew1) | exact HB.out))) : w.heap.size ≤ gb180)); clear HB; have HB := n0_; have BK180 := n1_; have GW180 := n2_; have GE180 := n3_; clear n0_ n1_ n2_ n3_; clear hb hbox hg; have hcz8_0 : w7.cell? ⟨gb180, 0, none⟩ = some (.int .i64 0) := (blk_cell BK180.out 0).trans rfl; have hcz8_1 : w7.cell? ⟨gb180, 1, none⟩ = some (.int .i64 0) := (blk_cell BK180.out 1).trans rfl; have hfz8_0 := blk_frozen BK180.out 0; have hfz8_1 := blk_frozen BK180.out 1)); go_upto_region 5 with (first | ((with_reducible refine gate_dst (N := 8) rfl ?_); (try (refine gate_guard (by rfl) ?_; dsimp only)); refine box_event ?hg (N := 8) ?hd (cs := #[.int .i64 0, .int .i64 0]) (t := 49) ?hr ?_; (case hd => rfl); (case hg => rfl); (case hr => first | (go_simp; done) | (go_simp; rfl)); intro gb180 hg w7 hbox hb; have n0_ := Aside0.mk (below_step (by repeat (first | (with_reducible first | exact HB.out | apply below_alloc | apply pw_below_drewN | apply below_drew1) | exact HB.out)) hb); have n1_ := Aside0.mk (hbox); have n2_ := Aside0.mk ((by rw [hg]; exact (below_size (by repeat (first | (with_reducible first | exact HB.out | apply below_alloc | apply pw_below_drewN | apply below_drew1) | exact HB.out))) : w.heap.size ≤ gb180)); have n3_ := Aside0.mk ((by rw [hg]; exact (below_size (by repeat (first | (with_reducible first | exact HB.out | apply below_alloc | apply pw_below_drewN | apply below_drew1) | exact HB.out))) : w.heap.size ≤ gb180)); clear HB; have HB := n0_; have BK180 := n1_; have GW180 := n2_; have GE180 := n3_; clear n0_ n1_ n2_ n3_; clear hb hbox hg; have hcz8_0 : w7.cell? ⟨gb180, 0, none⟩ = some (.int .i64 0) := (blk_cell BK180.out 0).trans rfl; have hcz8_1 : w7.cell? ⟨gb180, 1, none⟩ = some (.int .i64 0) := (blk_cell BK180.out 1).trans rfl; have hfz8_0 := blk_frozen BK180.out 0; have hfz8_1 := blk_frozen BK180.out 1)))
          (try simp only [Act.put, List.setIfInBounds_toArray, List.set_cons_zero, List.set_cons_succ])
          go_cut [53] (fun v53 wc => ∃ (kq : Nat) (x53_5 : Bool), v53 = .bool x53_5 ∧ Aside0 (tattingref7_Good.j1 kq l0 l1 l2 x7_1 x53_5 ((rd_T49 l2 x7_1).f0) ((rd_T49 l2 x7_1).f1) = some r) ∧ Aside0 (kq ≤ k1) ∧ Aside0 (wc.heap[gb180]? = some (.cells #[.int .i64 ((rd_T49 l2 x7_1).f0), .int .i64 ((rd_T49 l2 x7_1).f1)] 49 (0, 0))) ∧ Aside0 (Below w.heap.size w wc))
          case first =>
            have H := HC6.out
            clear HC6
            by_cases c9 : ((rd_T49 l2 x7_1).f0) < 0
            · rw [if_pos c9] at H
              have c9b0 : decide (((rd_T49 l2 x7_1).f0) < 0) = true := decide_eq_true c9
              clear c9
              (first | rw [c9b0] | (simp only [i64_w, i32_w]; rw [c9b0]) | skip)
              have H' := Aside0.mk H
              clear H
              have hcz10_0 : w7.cell? ⟨gb180, 0, none⟩ = some (.int .i64 0) := (blk_cell BK180.out 0).trans rfl
              have hcz10_1 : w7.cell? ⟨gb180, 1, none⟩ = some (.int .i64 0) := (blk_cell BK180.out 1).trans rfl
              have hfz10_0 := blk_frozen BK180.out 0
              have hfz10_1 := blk_frozen BK180.out 1
              go_wp2
              repeat (go_quiet (fail); try go_wp2)
              go_meet
              case rel => exact ⟨_, (true), (by first | rfl | (simp; done) | (simp [*]; done)), H', ⟨by have := HK1.out; first | omega | exact Nat.le_refl _⟩, ⟨by (with_reducible repeat (first | refine blk_drewN ?_ _ | refine blk_drew ?_ | refine blk_alloc ?_ _)); refine blk_put (cs := #[.int .i64 ((rd_T49 l2 x7_1).f0), .int .i64 0]) ?_ 1 _ rfl; (with_reducible repeat (first | refine blk_drewN ?_ _ | refine blk_drew ?_ | refine blk_alloc ?_ _)); refine blk_put (cs := #[.int .i64 0, .int .i64 0]) ?_ 0 _ rfl; (with_reducible repeat (first | refine blk_drewN ?_ _ | refine blk_drew ?_ | refine blk_alloc ?_ _)); exact BK180.out⟩, ⟨by repeat (first | (with_reducible first | exact HB.out | apply below_alloc | apply pw_below_drewN | apply below_drew1 | refine below_set ?_ GE180.out) | exact HB.out)⟩⟩
            · rw [if_neg c9] at H
              have c9b0 : decide (((rd_T49 l2 x7_1).f0) < 0) = false := decide_eq_false c9
              clear c9
              (first | rw [c9b0] | (simp only [i64_w, i32_w]; rw [c9b0]) | skip)
              by_cases c11 : ((rd_T49 l2 x7_1).f0) ≥ (l0.length : Int)
              · rw [if_pos c11] at H
                have c11b0 : decide ((l0.length : Int) ≤ ((rd_T49 l2 x7_1).f0)) = true := decide_eq_true c11
                clear c11
                have H' := Aside0.mk H
                clear H
                have hcz12_0 : w7.cell? ⟨gb180, 0, none⟩ = some (.int .i64 0) := (blk_cell BK180.out 0).trans rfl
                have hcz12_1 : w7.cell? ⟨gb180, 1, none⟩ = some (.int .i64 0) := (blk_cell BK180.out 1).trans rfl
                have hfz12_0 := blk_frozen BK180.out 0
                have hfz12_1 := blk_frozen BK180.out 1
                go_wp2
                repeat (go_quiet (fail); try go_wp2)
                go_meet
                case rel => exact ⟨_, (true), (by first | rfl | (simp; done) | (simp [*]; done)), H', ⟨by have := HK1.out; first | omega | exact Nat.le_refl _⟩, ⟨by (with_reducible repeat (first | refine blk_drewN ?_ _ | refine blk_drew ?_ | refine blk_alloc ?_ _)); refine blk_put (cs := #[.int .i64 ((rd_T49 l2 x7_1).f0), .int .i64 0]) ?_ 1 _ rfl; (with_reducible repeat (first | refine blk_drewN ?_ _ | refine blk_drew ?_ | refine blk_alloc ?_ _)); refine blk_put (cs := #[.int .i64 0, .int .i64 0]) ?_ 0 _ rfl; (with_reducible repeat (first | refine blk_drewN ?_ _ | refine blk_drew ?_ | refine blk_alloc ?_ _)); exact BK180.out⟩, ⟨by repeat (first | (with_reducible first | exact HB.out | apply below_alloc | apply pw_below_drewN | apply below_drew1 | refine below_set ?_ GE180.out) | exact HB.out)⟩⟩
              · rw [if_neg c11] at H
                have c11b0 : decide ((l0.length : Int) ≤ ((rd_T49 l2 x7_1).f0)) = false := decide_eq_false c11
                clear c11
                by_cases c13 : ((rd_T49 l2 x7_1).f1) < 0
                · rw [if_pos c13] at H
                  have c13b0 : decide (((rd_T49 l2 x7_1).f1) < 0) = true := decide_eq_true c13
                  clear c13
                  have H' := Aside0.mk H
                  clear H
                  have hcz14_0 : w7.cell? ⟨gb180, 0, none⟩ = some (.int .i64 0) := (blk_cell BK180.out 0).trans rfl
                  have hcz14_1 : w7.cell? ⟨gb180, 1, none⟩ = some (.int .i64 0) := (blk_cell BK180.out 1).trans rfl
                  have hfz14_0 := blk_frozen BK180.out 0
                  have hfz14_1 := blk_frozen BK180.out 1
                  go_wp2
                  repeat (go_quiet (fail); try go_wp2)
                  go_meet
                  case rel => exact ⟨_, (true), (by first | rfl | (simp; done) | (simp [*]; done)), H', ⟨by have := HK1.out; first | omega | exact Nat.le_refl _⟩, ⟨by (with_reducible repeat (first | refine blk_drewN ?_ _ | refine blk_drew ?_ | refine blk_alloc ?_ _)); refine blk_put (cs := #[.int .i64 ((rd_T49 l2 x7_1).f0), .int .i64 0]) ?_ 1 _ rfl; (with_reducible repeat (first | refine blk_drewN ?_ _ | refine blk_drew ?_ | refine blk_alloc ?_ _)); refine blk_put (cs := #[.int .i64 0, .int .i64 0]) ?_ 0 _ rfl; (with_reducible repeat (first | refine blk_drewN ?_ _ | refine blk_drew ?_ | refine blk_alloc ?_ _)); exact BK180.out⟩, ⟨by repeat (first | (with_reducible first | exact HB.out | apply below_alloc | apply pw_below_drewN | apply below_drew1 | refine below_set ?_ GE180.out) | exact HB.out)⟩⟩
                · rw [if_neg c13] at H
                  have c13b0 : decide (((rd_T49 l2 x7_1).f1) < 0) = false := decide_eq_false c13
                  clear c13
                  by_cases c15 : ((rd_T49 l2 x7_1).f1) ≥ (l1.length : Int)
                  · rw [if_pos c15] at H
                    have c15b0 : decide ((l1.length : Int) ≤ ((rd_T49 l2 x7_1).f1)) = true := decide_eq_true c15
                    clear c15
                    have H' := Aside0.mk H
                    clear H
                    have hcz16_0 : w7.cell? ⟨gb180, 0, none⟩ = some (.int .i64 0) := (blk_cell BK180.out 0).trans rfl
                    have hcz16_1 : w7.cell? ⟨gb180, 1, none⟩ = some (.int .i64 0) := (blk_cell BK180.out 1).trans rfl
                    have hfz16_0 := blk_frozen BK180.out 0
                    have hfz16_1 := blk_frozen BK180.out 1
                    go_wp2
                    repeat (go_quiet (fail); try go_wp2)
                    go_meet
                    case rel => exact ⟨_, (true), (by first | rfl | (simp; done) | (simp [*]; done)), H', ⟨by have := HK1.out; first | omega | exact Nat.le_refl _⟩, ⟨by (with_reducible repeat (first | refine blk_drewN ?_ _ | refine blk_drew ?_ | refine blk_alloc ?_ _)); refine blk_put (cs := #[.int .i64 ((rd_T49 l2 x7_1).f0), .int .i64 0]) ?_ 1 _ rfl; (with_reducible repeat (first | refine blk_drewN ?_ _ | refine blk_drew ?_ | refine blk_alloc ?_ _)); refine blk_put (cs := #[.int .i64 0, .int .i64 0]) ?_ 0 _ rfl; (with_reducible repeat (first | refine blk_drewN ?_ _ | refine blk_drew ?_ | refine blk_alloc ?_ _)); exact BK180.out⟩, ⟨by repeat (first | (with_reducible first | exact HB.out | apply below_alloc | apply pw_below_drewN | apply below_drew1 | refine below_set ?_ GE180.out) | exact HB.out)⟩⟩
                  · rw [if_neg c15] at H
                    have c15b0 : decide ((l1.length : Int) ≤ ((rd_T49 l2 x7_1).f1)) = false := decide_eq_false c15
                    clear c15
                    by_cases c17 : 0 ≤ ((rd_T49 l2 x7_1).f0)
                    · rw [if_pos c17] at H
                      have c17b0 : decide (0 ≤ ((rd_T49 l2 x7_1).f0)) = true := decide_eq_true c17
                      clear c17
                      by_cases c18 : ((rd_T49 l2 x7_1).f0) < (l0.length : Int)
                      · rw [if_pos c18] at H
                        have c18b0 : decide (((rd_T49 l2 x7_1).f0) < (l0.length : Int)) = true := decide_eq_true c18
                        clear c18
                        by_cases c19 : 0 ≤ ((rd_T49 l2 x7_1).f1)
                        · rw [if_pos c19] at H
                          have c19b0 : decide (0 ≤ ((rd_T49 l2 x7_1).f1)) = true := decide_eq_true c19
                          clear c19
                          by_cases c20 : ((rd_T49 l2 x7_1).f1) < (l1.length : Int)
                          · rw [if_pos c20] at H
                            have c20b0 : decide (((rd_T49 l2 x7_1).f1) < (l1.length : Int)) = true := decide_eq_true c20
                            clear c20
                            have H' := Aside0.mk H
                            clear H
                            have hcz21_0 : w7.cell? ⟨gb180, 0, none⟩ = some (.int .i64 0) := (blk_cell BK180.out 0).trans rfl
                            have hcz21_1 : w7.cell? ⟨gb180, 1, none⟩ = some (.int .i64 0) := (blk_cell BK180.out 1).trans rfl
                            have hfz21_0 := blk_frozen BK180.out 0
                            have hfz21_1 := blk_frozen BK180.out 1
                            have p181 : 0 ≤ (((rd_T49 l2 x7_1).f0) : Int) := of_decide_eq_true (by first | (with_reducible assumption) | assumption)
                            have q181 : ((rd_T49 l2 x7_1).f0) < (l0.length : Int) := of_decide_eq_true (by first | (with_reducible assumption) | assumption)
                            obtain ⟨ad181, e181, hx181_0⟩ := Kd.at_int HR0.out ((rd_T49 l2 x7_1).f0) p181 q181
                            cases e181
                            have hn181_0 : ad181.block ≠ gb180 := Nat.ne_of_lt (Nat.lt_of_lt_of_le (by have := World.block_lt_of_cell? _ _ hx181_0; first | rwa [add_block] at this | exact this) GW180.out)
                            have hn181_1 : ad181.block ≠ gb180 := Nat.ne_of_lt (Nat.lt_of_lt_of_le (by have := World.block_lt_of_cell? _ _ hx181_0; first | rwa [add_block] at this | exact this) GW180.out)
                            replace hx181_0 := (HB.out.cell (World.block_lt_of_cell? w _ hx181_0)).trans hx181_0
                            replace hx181_0 := (cell_far (p := ⟨gb180, 0, none⟩) (by first | (rw [add_block]; exact hn181_0) | (show (Addr.add _ _).block ≠ _; rw [add_block]; exact hn181_0) | exact hn181_0) (.int .i64 ((rd_T49 l2 x7_1).f0))).trans hx181_0
                            replace hx181_0 := (cell_far (p := ⟨gb180, 1, none⟩) (by first | (rw [add_block]; exact hn181_1) | (show (Addr.add _ _).block ≠ _; rw [add_block]; exact hn181_1) | exact hn181_1) (.int .i64 ((rd_T49 l2 x7_1).f1))).trans hx181_0
                            (try have hy181_0 := fun (n_ : Nat) => (show ((((w7.drewN n_).setCell ⟨gb180, 0, none⟩ (.int .i64 ((rd_T49 l2 x7_1).f0))).setCell ⟨gb180, 1, none⟩ (.int .i64 ((rd_T49 l2 x7_1).f1)))).cell? _ = some _ from hx181_0))
                            clear hn181_0
                            clear hn181_1
                            replace p181 := eq_true p181
                            replace q181 := eq_true q181
                            have p182 : 0 ≤ (((rd_T49 l2 x7_1).f1) : Int) := of_decide_eq_true (by first | (with_reducible assumption) | assumption)
                            have q182 : ((rd_T49 l2 x7_1).f1) < (l1.length : Int) := of_decide_eq_true (by first | (with_reducible assumption) | assumption)
                            obtain ⟨ad182, e182, hx182_0⟩ := Kd.at_int HR1.out ((rd_T49 l2 x7_1).f1) p182 q182
                            cases e182
                            have hn182_0 : ad182.block ≠ gb180 := Nat.ne_of_lt (Nat.lt_of_lt_of_le (by have := World.block_lt_of_cell? _ _ hx182_0; first | rwa [add_block] at this | exact this) GW180.out)
                            have hn182_1 : ad182.block ≠ gb180 := Nat.ne_of_lt (Nat.lt_of_lt_of_le (by have := World.block_lt_of_cell? _ _ hx182_0; first | rwa [add_block] at this | exact this) GW180.out)
                            replace hx182_0 := (HB.out.cell (World.block_lt_of_cell? w _ hx182_0)).trans hx182_0
                            replace hx182_0 := (cell_far (p := ⟨gb180, 0, none⟩) (by first | (rw [add_block]; exact hn182_0) | (show (Addr.add _ _).block ≠ _; rw [add_block]; exact hn182_0) | exact hn182_0) (.int .i64 ((rd_T49 l2 x7_1).f0))).trans hx182_0
                            replace hx182_0 := (cell_far (p := ⟨gb180, 1, none⟩) (by first | (rw [add_block]; exact hn182_1) | (show (Addr.add _ _).block ≠ _; rw [add_block]; exact hn182_1) | exact hn182_1) (.int .i64 ((rd_T49 l2 x7_1).f1))).trans hx182_0
                            (try have hy182_0 := fun (n_ : Nat) => (show ((((w7.drewN n_).setCell ⟨gb180, 0, none⟩ (.int .i64 ((rd_T49 l2 x7_1).f0))).setCell ⟨gb180, 1, none⟩ (.int .i64 ((rd_T49 l2 x7_1).f1)))).cell? _ = some _ from hx182_0))
                            clear hn182_0
                            clear hn182_1
                            replace p182 := eq_true p182
                            replace q182 := eq_true q182
                            go_wp2
                            repeat (go_quiet (fail); try go_wp2)
                            go_meet
                            case rel => exact ⟨_, (((rd l0 ((rd_T49 l2 x7_1).f0)) != (rd l1 ((rd_T49 l2 x7_1).f1)))), (by first | rfl | (simp; done) | (simp [*]; done)), H', ⟨by have := HK1.out; first | omega | exact Nat.le_refl _⟩, ⟨by (with_reducible repeat (first | refine blk_drewN ?_ _ | refine blk_drew ?_ | refine blk_alloc ?_ _)); refine blk_put (cs := #[.int .i64 ((rd_T49 l2 x7_1).f0), .int .i64 0]) ?_ 1 _ rfl; (with_reducible repeat (first | refine blk_drewN ?_ _ | refine blk_drew ?_ | refine blk_alloc ?_ _)); refine blk_put (cs := #[.int .i64 0, .int .i64 0]) ?_ 0 _ rfl; (with_reducible repeat (first | refine blk_drewN ?_ _ | refine blk_drew ?_ | refine blk_alloc ?_ _)); exact BK180.out⟩, ⟨by repeat (first | (with_reducible first | exact HB.out | apply below_alloc | apply pw_below_drewN | apply below_drew1 | refine below_set ?_ GE180.out) | exact HB.out)⟩⟩
                          · rw [if_neg c20] at H
                            exact absurd H (by simp)
                        · rw [if_neg c19] at H
                          exact absurd H (by simp)
                      · rw [if_neg c18] at H
                        exact absurd H (by simp)
                    · rw [if_neg c17] at H
                      exact absurd H (by simp)
          case rest =>
            clear HC6
            try clear c1
            try clear p1
            try clear q1
            try clear hx1
            try clear c2
            try clear p2
            try clear c4
            try clear c4b0
            try clear c5
            try clear c5b0
            try clear c9
            try clear c9b0
            try clear c11
            try clear c11b0
            try clear c13
            try clear c13b0
            try clear c15
            try clear c15b0
            try clear c17
            try clear c17b0
            try clear p17
            try clear q17
            try clear hx17
            try clear c18
            try clear c18b0
            try clear p18
            try clear q18
            try clear hx18
            try clear c19
            try clear c19b0
            try clear c20
            try clear c20b0
            try clear hcz10_0
            try clear hcz10_1
            try clear hcz12_0
            try clear hcz12_1
            try clear hcz14_0
            try clear hcz14_1
            try clear hcz16_0
            try clear hcz16_1
            try clear hcz21_0
            try clear hcz21_1
            try clear hcz8_0
            try clear hcz8_1
            try clear hfz10_0
            try clear hfz10_1
            try clear hfz12_0
            try clear hfz12_1
            try clear hfz14_0
            try clear hfz14_1
            try clear hfz16_0
            try clear hfz16_1
            try clear hfz21_0
            try clear hfz21_1
            try clear hfz8_0
            try clear hfz8_1
            try clear hx179_0
            try clear hx179_1
            try clear hx181_0
            try clear hx182_0
            try clear p179
            try clear p181
            try clear p182
            try clear p2
            try clear q179
            try clear q181
            try clear q182
            obtain ⟨kq, x53_5, rfl, HA, HJ5, BK180, HB⟩ := hcut
            cases kq with
            | zero => exact absurd HA.out (by simp [tattingref7_Good.j1])
            | succ kj5 =>
              have H := HA.out
              clear HA
              simp only [tattingref7_Good.j1] at H
              by_cases c22 : x53_5 = true
              · subst c22
                have H1 : (some false) = some r := by rw [if_pos rfl] at H; exact H
                clear H
                have H := H1
                clear H1
                obtain rfl := Option.some.inj H
                go_wp2
                repeat (go_quiet (fail); try go_wp2)
                go_ret
                exact ⟨by first | rfl | (simp [errW_none, errW_some] <;> rfl) | (simp [*, errW_none, errW_some] <;> rfl), by repeat (first | (with_reducible first | exact HB.out | apply below_alloc | apply pw_below_drewN | apply below_drew1 | refine below_set ?_ GE180.out) | exact HB.out)⟩
              · replace c22 := Bool.eq_false_iff.mpr c22
                subst c22
                have H1 : (if x7_1 > 0 then (if 0 ≤ (wrap64 (x7_1 - 1)) then (if (wrap64 (x7_1 - 1)) < (l2.length : Int) then (if ((rd_T49 l2 x7_1).f0) ≤ ((rd_T49 l2 (wrap64 (x7_1 - 1))).f0) then (some false) else (if ((rd_T49 l2 x7_1).f1) ≤ ((rd_T49 l2 (wrap64 (x7_1 - 1))).f1) then (some false) else (tattingref7_Good.l0 kj5 l0 l1 l2 (wrap64 (x7_1 + 1))))) else (none)) else (none)) else (tattingref7_Good.l0 kj5 l0 l1 l2 (wrap64 (x7_1 + 1)))) = some r := by rw [if_neg (show ¬ (false = true) by decide)] at H; exact H
                clear H
                have H := H1
                clear H1
                by_cases c23 : x7_1 > 0
                · rw [if_pos c23] at H
                  have c23b0 : decide (0 < x7_1) = true := decide_eq_true c23
                  clear c23
                  obtain ⟨ji24, hji24⟩ : ∃ j_ : Int, (wrap64 (x7_1 - 1)) = j_ := ⟨_, rfl⟩
                  replace H : (if 0 ≤ (ji24) then (if (ji24) < (l2.length : Int) then (if ((rd_T49 l2 x7_1).f0) ≤ ((rd_T49 l2 (ji24)).f0) then (some false) else (if ((rd_T49 l2 x7_1).f1) ≤ ((rd_T49 l2 (ji24)).f1) then (some false) else (tattingref7_Good.l0 kj5 l0 l1 l2 (wrap64 (x7_1 + 1))))) else (none)) else (none)) = some r := by first | (rw [hji24] at H; exact H) | (simp only [hji24] at H ⊢; exact H)
                  have hji24w : (IntKind.i64.wrap (x7_1 - 1)) = ji24 := (i64_w _).trans hji24
                  by_cases c25 : 0 ≤ (ji24)
                  · rw [if_pos c25] at H
                    have c25b0 : decide (0 ≤ (ji24)) = true := decide_eq_true c25
                    clear c25
                    by_cases c26 : (ji24) < (l2.length : Int)
                    · rw [if_pos c26] at H
                      have c26b0 : decide ((ji24) < (l2.length : Int)) = true := decide_eq_true c26
                      clear c26
                      by_cases c27 : ((rd_T49 l2 x7_1).f0) ≤ ((rd_T49 l2 (ji24)).f0)
                      · rw [if_pos c27] at H
                        have c27b0 : decide (((rd_T49 l2 x7_1).f0) ≤ ((rd_T49 l2 (ji24)).f0)) = true := decide_eq_true c27
                        clear c27
                        obtain rfl := Option.some.inj H
                        have hcz28_0 : wc.cell? ⟨gb180, 0, none⟩ = some (.int .i64 ((rd_T49 l2 x7_1).f0)) := (blk_cell BK180.out 0).trans rfl
                        have hcz28_1 : wc.cell? ⟨gb180, 1, none⟩ = some (.int .i64 ((rd_T49 l2 x7_1).f1)) := (blk_cell BK180.out 1).trans rfl
                        have hfz28_0 := blk_frozen BK180.out 0
                        have hfz28_1 := blk_frozen BK180.out 1
                        have p183 : 0 ≤ ((ji24) : Int) := of_decide_eq_true (by first | (with_reducible assumption) | assumption)
                        have q183 : (ji24) < (l2.length : Int) := of_decide_eq_true (by first | (with_reducible assumption) | assumption)
                        obtain ⟨ad183, e183, hx183_0, hx183_1⟩ := at_T49 HR2.out (ji24) p183 q183
                        obtain rfl : ad179 = ad183 := (by injection e183)
                        replace hx183_0 := (HB.out.cell (World.block_lt_of_cell? w _ hx183_0)).trans hx183_0
                        replace hx183_1 := (HB.out.cell (World.block_lt_of_cell? w _ hx183_1)).trans hx183_1
                        replace p183 := eq_true p183
                        replace q183 := eq_true q183
                        go_wp2
                        repeat (go_quiet (fail); try go_wp2)
                        go_ret
                        exact ⟨by first | rfl | (simp [errW_none, errW_some] <;> rfl) | (simp only [← hji24]; first | rfl | (simp [errW_none, errW_some] <;> rfl)) | (simp [*, errW_none, errW_some] <;> rfl), by repeat (first | (with_reducible first | exact HB.out | apply below_alloc | apply pw_below_drewN | apply below_drew1 | refine below_set ?_ GE180.out) | exact HB.out)⟩
                      · rw [if_neg c27] at H
                        have c27b0 : decide (((rd_T49 l2 x7_1).f0) ≤ ((rd_T49 l2 (ji24)).f0)) = false := decide_eq_false c27
                        clear c27
                        by_cases c29 : ((rd_T49 l2 x7_1).f1) ≤ ((rd_T49 l2 (ji24)).f1)
                        · rw [if_pos c29] at H
                          have c29b0 : decide (((rd_T49 l2 x7_1).f1) ≤ ((rd_T49 l2 (ji24)).f1)) = true := decide_eq_true c29
                          clear c29
                          obtain rfl := Option.some.inj H
                          have hcz30_0 : wc.cell? ⟨gb180, 0, none⟩ = some (.int .i64 ((rd_T49 l2 x7_1).f0)) := (blk_cell BK180.out 0).trans rfl
                          have hcz30_1 : wc.cell? ⟨gb180, 1, none⟩ = some (.int .i64 ((rd_T49 l2 x7_1).f1)) := (blk_cell BK180.out 1).trans rfl
                          have hfz30_0 := blk_frozen BK180.out 0
                          have hfz30_1 := blk_frozen BK180.out 1
                          have p183 : 0 ≤ ((ji24) : Int) := of_decide_eq_true (by first | (with_reducible assumption) | assumption)
                          have q183 : (ji24) < (l2.length : Int) := of_decide_eq_true (by first | (with_reducible assumption) | assumption)
                          obtain ⟨ad183, e183, hx183_0, hx183_1⟩ := at_T49 HR2.out (ji24) p183 q183
                          obtain rfl : ad179 = ad183 := (by injection e183)
                          replace hx183_0 := (HB.out.cell (World.block_lt_of_cell? w _ hx183_0)).trans hx183_0
                          replace hx183_1 := (HB.out.cell (World.block_lt_of_cell? w _ hx183_1)).trans hx183_1
                          replace p183 := eq_true p183
                          replace q183 := eq_true q183
                          have p184 : 0 ≤ ((ji24) : Int) := of_decide_eq_true (by first | (with_reducible assumption) | assumption)
                          have q184 : (ji24) < (l2.length : Int) := of_decide_eq_true (by first | (with_reducible assumption) | assumption)
                          obtain ⟨ad184, e184, hx184_0, hx184_1⟩ := at_T49 HR2.out (ji24) p184 q184
                          obtain rfl : ad179 = ad184 := (by injection e184)
                          replace hx184_0 := (HB.out.cell (World.block_lt_of_cell? w _ hx184_0)).trans hx184_0
                          replace hx184_1 := (HB.out.cell (World.block_lt_of_cell? w _ hx184_1)).trans hx184_1
                          replace p184 := eq_true p184
                          replace q184 := eq_true q184
                          go_wp2
                          repeat (go_quiet (fail); try go_wp2)
                          go_ret
                          exact ⟨by first | rfl | (simp [errW_none, errW_some] <;> rfl) | (simp only [← hji24]; first | rfl | (simp [errW_none, errW_some] <;> rfl)) | (simp [*, errW_none, errW_some] <;> rfl), by repeat (first | (with_reducible first | exact HB.out | apply below_alloc | apply pw_below_drewN | apply below_drew1 | refine below_set ?_ GE180.out) | exact HB.out)⟩
                        · rw [if_neg c29] at H
                          have c29b0 : decide (((rd_T49 l2 x7_1).f1) ≤ ((rd_T49 l2 (ji24)).f1)) = false := decide_eq_false c29
                          clear c29
                          have H' := Aside0.mk H
                          clear H
                          have hcz31_0 : wc.cell? ⟨gb180, 0, none⟩ = some (.int .i64 ((rd_T49 l2 x7_1).f0)) := (blk_cell BK180.out 0).trans rfl
                          have hcz31_1 : wc.cell? ⟨gb180, 1, none⟩ = some (.int .i64 ((rd_T49 l2 x7_1).f1)) := (blk_cell BK180.out 1).trans rfl
                          have hfz31_0 := blk_frozen BK180.out 0
                          have hfz31_1 := blk_frozen BK180.out 1
                          have p183 : 0 ≤ ((ji24) : Int) := of_decide_eq_true (by first | (with_reducible assumption) | assumption)
                          have q183 : (ji24) < (l2.length : Int) := of_decide_eq_true (by first | (with_reducible assumption) | assumption)
                          obtain ⟨ad183, e183, hx183_0, hx183_1⟩ := at_T49 HR2.out (ji24) p183 q183
                          obtain rfl : ad179 = ad183 := (by injection e183)
                          replace hx183_0 := (HB.out.cell (World.block_lt_of_cell? w _ hx183_0)).trans hx183_0
                          replace hx183_1 := (HB.out.cell (World.block_lt_of_cell? w _ hx183_1)).trans hx183_1
                          replace p183 := eq_true p183
                          replace q183 := eq_true q183
                          have p184 : 0 ≤ ((ji24) : Int) := of_decide_eq_true (by first | (with_reducible assumption) | assumption)
                          have q184 : (ji24) < (l2.length : Int) := of_decide_eq_true (by first | (with_reducible assumption) | assumption)
                          obtain ⟨ad184, e184, hx184_0, hx184_1⟩ := at_T49 HR2.out (ji24) p184 q184
                          obtain rfl : ad179 = ad184 := (by injection e184)
                          replace hx184_0 := (HB.out.cell (World.block_lt_of_cell? w _ hx184_0)).trans hx184_0
                          replace hx184_1 := (HB.out.cell (World.block_lt_of_cell? w _ hx184_1)).trans hx184_1
                          replace p184 := eq_true p184
                          replace q184 := eq_true q184
                          go_wp2
                          repeat (go_quiet (fail); try go_wp2)
                          go_roundg kj5
                          case measure => have := HK1.out; have := HJ5.out; omega
                          case rel => exact ⟨(wrap64 (x7_1 + 1)), (by first | rfl | (simp; done) | (simp [*]; done)), H', ⟨by have := HK1.out; have := HJ5.out; omega⟩, ⟨by repeat (first | (with_reducible first | exact HB.out | apply below_alloc | apply pw_below_drewN | apply below_drew1 | refine below_set ?_ GE180.out) | exact HB.out)⟩⟩
                    · rw [if_neg c26] at H
                      exact absurd H (by simp)
                  · rw [if_neg c25] at H
                    exact absurd H (by simp)
                · rw [if_neg c23] at H
                  have c23b0 : decide (0 < x7_1) = false := decide_eq_false c23
                  clear c23
                  have H' := Aside0.mk H
                  clear H
                  go_wp2
                  repeat (go_quiet (fail); try go_wp2)
                  go_roundg kj5
                  case measure => have := HK1.out; have := HJ5.out; omega
                  case rel => exact ⟨(wrap64 (x7_1 + 1)), (by first | rfl | (simp; done) | (simp [*]; done)), H', ⟨by have := HK1.out; have := HJ5.out; omega⟩, ⟨by repeat (first | (with_reducible first | exact HB.out | apply below_alloc | apply pw_below_drewN | apply below_drew1 | refine below_set ?_ GE180.out) | exact HB.out)⟩⟩
        · rw [if_neg c5] at H
          exact absurd H (by simp)
      · rw [if_neg c4] at H
        have c4b0 : decide (x7_1 < (l2.length : Int)) = false := decide_eq_false c4
        clear c4
        obtain rfl := Option.some.inj H
        go_wp2
        repeat (go_quiet (fail); try go_wp2)
        go_ret
        exact ⟨by first | rfl | (simp [errW_none, errW_some] <;> rfl) | (simp [*, errW_none, errW_some] <;> rfl), by repeat (first | (with_reducible first | exact HB.out | apply below_alloc | apply pw_below_drewN | apply below_drew1) | exact HB.out)⟩
/-! ### tattingref12_Squares: function 14 -/
def tattingref12_Squares.f (a0 : Int) (a1 : Int) (a2 : Int) : Option (Int) := if a2 = 0 then (none) else (some (wrap64 ((wrap64 (Int.tdiv (wrap64 ((wrap64 (a0 + a2)) - 1)) a2)) * (wrap64 (Int.tdiv (wrap64 ((wrap64 (a1 + a2)) - 1)) a2)))))
set_option maxHeartbeats 8000000 in
set_option maxRecDepth 100000 in
theorem tattingref12_Squares.calls (a0 : Int) (a1 : Int) (a2 : Int) (r : Int) (w : World) (h : tattingref12_Squares.f a0 a1 a2 = some r) :
    Calls Try.prog 14 #[.int .i64 a0, .int .i64 a1, .int .i64 a2] w fun e w' => e = .returned (.int .i64 r) ∧ Drawn0 w w' := by
  have H : (if a2 = 0 then (none) else (some (wrap64 ((wrap64 (Int.tdiv (wrap64 ((wrap64 (a0 + a2)) - 1)) a2)) * (wrap64 (Int.tdiv (wrap64 ((wrap64 (a1 + a2)) - 1)) a2)))))) = some r := h
  clear h
  by_cases c4 : a2 = 0
  · rw [if_pos c4] at H
    exact absurd H (by simp)
  · rw [if_neg c4] at H
    have c4b0 : (a2 == 0) = false := beq_eq_false_iff_ne.mpr c4
    have c4b1 : (a2 != 0) = true := bne_iff_ne.mpr c4
    obtain rfl := Option.some.inj H
    go_enter Try.func14, Try.ntmps14
    go_wp2
    repeat (go_quiet (fail); try go_wp2)
    go_ret
    exact ⟨by first | rfl | (simp; done) | (simp [*]; done), by repeat (first | exact Drawn0.refl _ | apply Drawn0.step)⟩
/-! ### tattinglaw14_RussRuns: function 5 -/
open Go.Proofs.Ytpdjdffimighkaa.Tile
theorem rdL_d (o : List (List Int)) (n : Nat) : rd_L2 o (n : Int) = o.getD n [] := rfl
theorem rdL_at (o : List (List Int)) {n : Nat} (h : n < o.length) : rd_L2 o (n : Int) = o[n] := by
  rw [rdL_d, List.getD_eq_getElem?_getD, List.getElem?_eq_getElem h]; rfl
theorem rdL_set (o : List (List Int)) (i n : Nat) (v : List Int) (h : n < o.length) : rd_L2 (o.set i v) (n : Int) = if n = i then v else rd_L2 o (n : Int) := by
  rw [rdL_at _ (by rw [List.length_set]; exact h), rdL_at _ h, List.getElem_set]
  by_cases e : n = i
  · rw [if_pos e, if_pos e.symm]
  · rw [if_neg e, if_neg (fun q => e q.symm)]
/-- The rows from i on of the table of all ends. -/
def TabFrom (t : List (List Int)) (a b : List Int) (i : Nat) : Prop :=
  t.length = a.length + 1 ∧ ∀ n : Nat, i ≤ n → n ≤ a.length → (rd_L2 t (n : Int)).length = b.length + 1 ∧ ∀ j : Nat, j ≤ b.length → rd (rd_L2 t (n : Int)) (j : Int) = (L (a.drop n) (b.drop j) : Int)
/-- The table of all ends. -/
def IsTab (t : List (List Int)) (a b : List Int) : Prop := TabFrom t a b 0
/-- Row i from column m on. -/
def RowFrom (t : List (List Int)) (a b : List Int) (i m : Nat) : Prop :=
  TabFrom t a b (i + 1) ∧ (rd_L2 t (i : Int)).length = b.length + 1 ∧ ∀ j : Nat, m ≤ j → j ≤ b.length → rd (rd_L2 t (i : Int)) (j : Int) = (L (a.drop i) (b.drop j) : Int)
theorem mx_nat (x y : Nat) : mx (x : Int) (y : Int) = ((max x y : Nat) : Int) := by unfold mx; split <;> omega
theorem L_le_len (a b : List Int) (i j : Nat) : L (a.drop i) (b.drop j) ≤ a.length := by
  have := L_le_left (a.drop i) (b.drop j); rw [List.length_drop] at this; omega
theorem behind_l1 (a b : List Int) (ha : a.length ≤ 100000) (hb : b.length ≤ 100000) (i : Nat) (hi : i < a.length) (K : Nat) (Post : Option (List (List Int)) → Prop)
    (hr : ∀ k' t', K ≤ k' → TabFrom t' a b i → Post (tattingref7_Behind.l0 k' a b t' (wrap64 ((i : Int) - 1)))) (m : Nat) : ∀ (k : Nat) (t : List (List Int)), m ≤ b.length → 2 * m + 2 + K ≤ k → RowFrom t a b i m → Post (tattingref7_Behind.l1 k a b t (i : Int) ((m : Int) - 1)) := by
  induction m with
  | zero =>
    intro k t hm hk ⟨h1, h2, h3⟩
    obtain ⟨k, rfl⟩ : ∃ q, k = q + 2 := ⟨k - 2, by omega⟩
    simp only [tattingref7_Behind.l1]
    rw [if_pos (by omega), decide_eq_false (by omega)]
    simp only [tattingref7_Behind.j2]
    rw [if_neg (by decide)]
    refine hr k t (by omega) ⟨h1.1, ?_⟩
    intro n hn hn'
    by_cases e : n = i
    · rw [e]; exact ⟨h2, fun j hj => h3 j (by omega) hj⟩
    · exact h1.2 n (by omega) hn'
  | succ m ih =>
    intro k t hm hk ⟨h1, h2, h3⟩
    obtain ⟨k, rfl⟩ : ∃ q, k = q + 2 := ⟨k - 2, by omega⟩
    have e0 : ((m + 1 : Nat) : Int) - 1 = (m : Int) := by omega
    rw [e0]
    simp only [tattingref7_Behind.l1]
    rw [if_pos (by omega), decide_eq_true (by omega)]
    simp only [tattingref7_Behind.j2]
    have hlen := h1.1
    have hrow := (h1.2 (i + 1) (by omega) (by omega)).1
    have E1 := Aside0.mk (show wrap64 ((i : Int) + 1) = ((i + 1 : Nat) : Int) from wrap_succ (by omega))
    have E2 := Aside0.mk (show wrap64 ((m : Int) + 1) = ((m + 1 : Nat) : Int) from wrap_succ (by omega))
    have E3 := Aside0.mk (show wrap64 ((m : Int) - 1) = (m : Int) - 1 from wrap_id (by omega) (by omega))
    have r1 := (h1.2 (i + 1) (by omega) (by omega)).2 (m + 1) (by omega)
    have r2 := (h1.2 (i + 1) (by omega) (by omega)).2 m (by omega)
    have r3 := h3 (m + 1) (by omega) (by omega)
    have b1 := L_le_len a b (i + 1) (m + 1)
    have hn : ∀ v : Int, v = (L (a.drop i) (b.drop m) : Int) → RowFrom (t.set i ((rd_L2 t (i : Int)).set m v)) a b i m := by
      intro v hv
      refine ⟨⟨by rw [List.length_set]; exact hlen, ?_⟩, ?_, ?_⟩
      · intro n hn hn'
        rw [rdL_set _ _ _ _ (by omega), if_neg (by omega)]
        exact h1.2 n hn hn'
      · rw [rdL_set _ _ _ _ (by omega), if_pos rfl, List.length_set]; exact h2
      · intro j hj hj'
        rw [rdL_set _ _ _ _ (by omega), if_pos rfl, rd_set _ _ _ _ (by omega)]
        by_cases e : j = m
        · rw [if_pos e, hv, e]
        · rw [if_neg e]; exact h3 j (by omega) hj'
    rw [if_pos True.intro, if_pos (by omega), if_pos (by omega), if_pos (by omega), if_pos (by omega)]
    simp only [E1.out, E2.out, E3.out, Int.toNat_natCast]
    have da := drop_rd a hi
    have db := drop_rd b (show m < b.length by omega)
    by_cases e : rd a (i : Int) = rd b (m : Int)
    · rw [if_pos e, if_pos (by omega), if_pos (by omega), if_pos (by omega), if_pos (by omega), if_pos (by omega), if_pos (by omega)]
      refine ih k _ (by omega) (by omega) (hn _ ?_)
      rw [r1, wrap_id (by omega) (by omega), da, db, e, L_cons_eq]; omega
    · rw [if_neg e, if_pos (by omega), if_pos (by omega), if_pos (by omega), if_pos (by omega), if_pos (by omega), if_pos (by omega), if_pos (by omega)]
      refine ih k _ (by omega) (by omega) (hn _ ?_)
      rw [r2, r3, mx_nat, da, db, L_cons_ne e]
theorem behind_l0 (a b : List Int) (ha : a.length ≤ 100000) (hb : b.length ≤ 100000) (m : Nat) : ∀ (k : Nat) (t : List (List Int)), m ≤ a.length + 1 → (2 * b.length + 4) * m + 1 ≤ k → TabFrom t a b m → ∃ t', tattingref7_Behind.l0 k a b t ((m : Int) - 1) = some t' ∧ IsTab t' a b := by
  induction m with
  | zero =>
    intro k t hm hk h
    obtain ⟨k, rfl⟩ : ∃ q, k = q + 1 := ⟨k - 1, by omega⟩
    refine ⟨t, ?_, h⟩
    simp only [tattingref7_Behind.l0]
    rw [if_neg (by omega)]
  | succ m ih =>
    intro k t hm hk h
    rw [Nat.mul_succ] at hk
    obtain ⟨k, rfl⟩ : ∃ q, k = q + 1 := ⟨k - 1, by omega⟩
    rw [show ((m + 1 : Nat) : Int) - 1 = (m : Int) by omega]
    simp only [tattingref7_Behind.l0]
    have hlen := h.1
    have E1 := Aside0.mk (show wrap64 ((b.length : Int) + 1) = ((b.length + 1 : Nat) : Int) from wrap_succ (by omega))
    have E2 := Aside0.mk (show wrap64 ((b.length : Int) - 1) = (b.length : Int) - 1 from wrap_id (by omega) (by omega))
    have E3 := Aside0.mk (show wrap64 ((m : Int) - 1) = (m : Int) - 1 from wrap_id (by omega) (by omega))
    rw [E1.out, E2.out, if_pos (by omega), if_pos (by omega), if_pos (by omega), if_pos (by omega), if_pos (by omega)]
    simp only [Int.toNat_natCast]
    have hrow : RowFrom (t.set m (List.replicate (b.length + 1) 0)) a b m b.length := by
      refine ⟨⟨by rw [List.length_set]; exact hlen, ?_⟩, ?_, ?_⟩
      · intro n hn hn'
        rw [rdL_set _ _ _ _ (by omega), if_neg (by omega)]
        exact h.2 n hn hn'
      · rw [rdL_set _ _ _ _ (by omega), if_pos rfl, List.length_replicate]
      · intro j hj hj'
        rw [rdL_set _ _ _ _ (by omega), if_pos rfl, rd_replicate _ _ _ (by omega), show j = b.length by omega, List.drop_length, L_nil_right]; rfl
    by_cases c : m < a.length
    · refine behind_l1 a b ha hb m c ((2 * b.length + 4) * m + 1) (fun o => ∃ t', o = some t' ∧ IsTab t' a b) ?_ b.length k _ (Nat.le_refl _) (by omega) hrow
      intro k' t' hk' ht'
      rw [E3.out]
      exact ih k' t' (by omega) hk' ht'
    · obtain ⟨k, rfl⟩ : ∃ q, k = q + 2 := ⟨k - 2, by omega⟩
      simp only [tattingref7_Behind.l1]
      rw [if_neg (by omega)]
      simp only [tattingref7_Behind.j2]
      rw [if_neg (by decide), E3.out]
      refine ih k _ (by omega) (by omega) ⟨by rw [List.length_set]; exact hlen, ?_⟩
      intro n hn hn'
      have e : n = m := by omega
      rw [rdL_set _ _ _ _ (by omega), if_pos e]
      refine ⟨by rw [List.length_replicate], fun j hj => ?_⟩
      rw [rd_replicate _ _ _ (by omega), List.drop_eq_nil_of_le (by omega), L_nil_left]; rfl
theorem behind (a b : List Int) (ha : a.length ≤ 100000) (hb : b.length ≤ 100000) {k : Nat} (hk : (2 * b.length + 4) * (a.length + 1) + 1 ≤ k) : ∃ t, tattingref7_Behind.f k a b = some t ∧ IsTab t a b := by
  unfold tattingref7_Behind.f
  have e1 : wrap64 ((a.length : Int) + 1) = ((a.length + 1 : Nat) : Int) := wrap_succ (by omega)
  rw [e1, if_pos (by omega), if_pos (by omega)]
  simp only [Int.toNat_natCast]
  have h := behind_l0 a b ha hb (a.length + 1) k (List.replicate (a.length + 1) []) (Nat.le_refl _) hk ⟨by rw [List.length_replicate], fun n hn hn' => by omega⟩
  rw [show ((a.length + 1 : Nat) : Int) - 1 = (a.length : Int) by omega] at h
  exact h
theorem refLen (a b : List Int) (ha : a.length ≤ 100000) (hb : b.length ≤ 100000) {k : Nat} (hk : (2 * b.length + 4) * (a.length + 1) + 1 ≤ k) : tattingref7_Len.f k a b = some (L a b : Int) := by
  obtain ⟨t, h, h1, h2⟩ := behind a b ha hb hk
  unfold tattingref7_Len.f
  rw [h]
  simp only [Option.bind_some]
  have h3 := h2 0 (Nat.le_refl _) (by omega)
  have h4 := h3.2 0 (by omega)
  rw [List.drop_zero, List.drop_zero] at h4
  have e : rd_L2 t 0 = rd_L2 t ((0 : Nat) : Int) := rfl
  rw [e, if_pos (by omega), if_pos (by omega)]
  exact congrArg some h4
/-- The numbers brought to a few. -/
def fewOf (l : List Int) (n : Int) : List Int := l.map (· % n)
theorem fewOf_length (l : List Int) (n : Int) : (fewOf l n).length = l.length := by unfold fewOf; rw [List.length_map]
theorem fewOf_range (l : List Int) (n : Int) (hn : 0 < n) : ∀ x ∈ fewOf l n, 0 ≤ x ∧ x < n := by
  intro x hx
  unfold fewOf at hx
  obtain ⟨y, _, rfl⟩ := List.mem_map.mp hx
  exact ⟨Int.emod_nonneg y (by omega), Int.emod_lt_of_pos y hn⟩
theorem tmod_emod (x n : Int) (hn : 0 < n) : (if Int.tmod x n < 0 then Int.tmod x n + n else Int.tmod x n) = x % n := by
  have h0 := Int.emod_nonneg x (show n ≠ 0 by omega)
  have h1 := Int.emod_lt_of_pos x hn
  have h := Int.tmod_eq_emod (a := x) (b := n)
  by_cases c : 0 ≤ x ∨ n ∣ x
  · rw [if_pos c] at h; rw [if_neg (by omega)]; omega
  · rw [if_neg c] at h; rw [if_pos (by omega)]; omega
theorem few_l0 (l : List Int) (n : Int) (hn : 0 < n) (hn' : n ≤ 1000000) (hl : l.length ≤ 1000000) (d : Nat) : ∀ (k i : Nat) (out : List Int), i + d = l.length → d < k → out.length = i → tattingref1_Few.l0 k l n out (i : Int) = some (out ++ fewOf (l.drop i) n) := by
  induction d with
  | zero =>
    intro k i out hi hk ho
    obtain ⟨k, rfl⟩ := round hk
    simp only [tattingref1_Few.l0]
    rw [if_neg (by omega), List.drop_eq_nil_of_le (by omega)]
    simp [fewOf]
  | succ d ih =>
    intro k i out hi hk ho
    obtain ⟨k, rfl⟩ := round hk
    simp only [tattingref1_Few.l0]
    rw [if_pos (by omega), if_pos (by omega), if_neg (by omega), drop_rd l (by omega)]
    have h := tmod_emod (rd l (i : Int)) n hn
    have h0 := Int.emod_nonneg (rd l (i : Int)) (show n ≠ 0 by omega)
    have h1 := Int.emod_lt_of_pos (rd l (i : Int)) hn
    have e : fewOf (rd l (i : Int) :: l.drop (i + 1)) n = (rd l (i : Int) % n) :: fewOf (l.drop (i + 1)) n := rfl
    rw [e]
    by_cases c : Int.tmod (rd l (i : Int)) n < 0
    · rw [if_pos c] at h
      rw [if_pos c, if_pos (by omega), wrap_succ (by omega), wrap_id (by omega) (by omega), h, ih k (i + 1) _ (by omega) (by omega) (by rw [List.length_append, List.length_singleton]; omega)]
      simp
    · rw [if_neg c] at h
      rw [if_neg c, if_pos (by omega), wrap_succ (by omega), h, ih k (i + 1) _ (by omega) (by omega) (by rw [List.length_append, List.length_singleton]; omega)]
      simp
theorem few (l : List Int) (n : Int) (hn : 0 < n) (hn' : n ≤ 1000000) (hl : l.length ≤ 1000000) {k : Nat} (hk : l.length < k) : tattingref1_Few.f k l n = some (fewOf l n) := by
  have h := few_l0 l n hn hn' hl l.length k 0 [] (by omega) hk rfl
  rwa [List.nil_append, List.drop_zero] at h
theorem refGood_l0 (a b : List Int) (l : List S49) (hl : l.length ≤ 1000000) (d : Nat) : ∀ (k n : Nat), n + d = l.length → 2 * d < k →
    (n = 0 → GoodFrom a b 0 0 l) → (∀ m : Nat, n = m + 1 → GoodFrom a b ((rd_T49 l (m : Int)).f0 + 1) ((rd_T49 l (m : Int)).f1 + 1) (l.drop n) ∧ 0 ≤ (rd_T49 l (m : Int)).f0 ∧ 0 ≤ (rd_T49 l (m : Int)).f1) →
    tattingref7_Good.l0 k a b l (n : Int) = some true := by
  induction d with
  | zero =>
    intro k n hn hk _ _
    obtain ⟨k, rfl⟩ : ∃ q, k = q + 1 := ⟨k - 1, by omega⟩
    simp only [tattingref7_Good.l0]
    rw [if_neg (by omega)]
  | succ d ih =>
    intro k n hn hk h0 h1
    obtain ⟨k, rfl⟩ : ∃ q, k = q + 2 := ⟨k - 2, by omega⟩
    have hp : (0 ≤ (rd_T49 l (n : Int)).f0 ∧ (rd_T49 l (n : Int)).f0 < (a.length : Int) ∧ 0 ≤ (rd_T49 l (n : Int)).f1 ∧ (rd_T49 l (n : Int)).f1 < (b.length : Int) ∧ rd a (rd_T49 l (n : Int)).f0 = rd b (rd_T49 l (n : Int)).f1 ∧ GoodFrom a b ((rd_T49 l (n : Int)).f0 + 1) ((rd_T49 l (n : Int)).f1 + 1) (l.drop (n + 1))) ∧ (∀ m : Nat, n = m + 1 → (rd_T49 l (m : Int)).f0 < (rd_T49 l (n : Int)).f0 ∧ (rd_T49 l (m : Int)).f1 < (rd_T49 l (n : Int)).f1) := by
      have hd := drop_rdP l (show n < l.length by omega)
      cases n with
      | zero =>
        have g := h0 rfl
        rw [List.drop_zero] at hd
        rw [hd] at g
        exact ⟨g, fun m hm => by omega⟩
      | succ m =>
        obtain ⟨g, g0, g1⟩ := h1 m rfl
        rw [hd] at g
        obtain ⟨q1, q2, q3, q4, q5, q6⟩ := g
        exact ⟨⟨by omega, q2, by omega, q4, q5, q6⟩, fun m' hm' => by rw [show m' = m by omega]; omega⟩
    obtain ⟨⟨q1, q2, q3, q4, q5, q6⟩, q7⟩ := hp
    have next : tattingref7_Good.l0 k a b l (wrap64 ((n : Int) + 1)) = some true := by
      rw [wrap_succ (by omega)]
      refine ih k (n + 1) (by omega) (by omega) (fun q => by omega) ?_
      intro m hm
      rw [show m = n by omega]; exact ⟨q6, q1, q3⟩
    simp only [tattingref7_Good.l0]
    rw [if_pos (by omega), if_pos (by omega), if_neg (by omega), if_neg (by omega), if_neg (by omega), if_neg (by omega), if_pos q1, if_pos q2, if_pos q3, if_pos q4, q5]
    have e : (rd b (rd_T49 l (n : Int)).f1 != rd b (rd_T49 l (n : Int)).f1) = false := by simp
    rw [e]
    simp only [tattingref7_Good.j1]
    rw [if_neg (by decide)]
    by_cases c : (n : Int) > 0
    · have E := Aside0.mk (show wrap64 ((n : Int) - 1) = ((n - 1 : Nat) : Int) from by rw [wrap_id (by omega) (by omega)]; omega)
      obtain ⟨r1, r2⟩ := q7 (n - 1) (by omega)
      rw [if_pos c, E.out, if_pos (by omega), if_pos (by omega), if_neg (by omega), if_neg (by omega)]; exact next
    · rw [if_neg c]; exact next
theorem refGood (a b : List Int) (l : List S49) (hl : l.length ≤ 1000000) (h : GoodFrom a b 0 0 l) {k : Nat} (hk : 2 * l.length < k) : tattingref7_Good.f k a b l = some true := by
  unfold tattingref7_Good.f
  exact refGood_l0 a b l hl l.length k 0 (by omega) hk (fun _ => h) (fun m hm => by omega)
theorem squares {n m t : Nat} (hn : n ≤ 100) (hm : m ≤ 100) (ht : 1 ≤ t ∧ t ≤ 3) : tattingref12_Squares.f (n : Int) (m : Int) (t : Int) = some ((upN n t * upN m t : Nat) : Int) := by
  have h1 := up_f (n := n) (by omega) ht
  have h2 := up_f (n := m) (by omega) ht
  unfold russ_up.f at h1 h2
  rw [if_neg (by omega)] at h1 h2
  have h1 := Option.some.inj h1
  have h2 := Option.some.inj h2
  unfold tattingref12_Squares.f
  rw [if_neg (by omega), h1, h2]
  have u1 := upN_mul (n := n) ht.1
  have u2 := upN_mul (n := m) ht.1
  have k1 : upN n t ≤ upN n t * t := Nat.le_mul_of_pos_right _ (by omega)
  have k2 : upN m t ≤ upN m t * t := Nat.le_mul_of_pos_right _ (by omega)
  have hmul : upN n t * upN m t ≤ 200 * 200 := Nat.mul_le_mul (by omega) (by omega)
  have e : ((upN n t : Nat) : Int) * ((upN m t : Nat) : Int) = ((upN n t * upN m t : Nat) : Int) := by simp
  rw [e]
  generalize upN n t * upN m t = x at *
  rw [wrap_id (by omega) (by omega)]
set_option maxRecDepth 100000 in
set_option maxHeartbeats 4000000 in
theorem rruns (w : World) (a0 : Int) (A1 : Option Addr) (c1 : Nat) (l1 : List Int) (A2 : Option Addr) (c2 : Nat) (l2 : List Int) (q_ : 0 ≤ a0 ∧ a0 < 256) (hr1 : Kd.C (Kd.int .i64) w A1 l1.length l1) (hc1 : l1.length ≤ c1) (hr2 : Kd.C (Kd.int .i64) w A2 l2.length l2) (hc2 : l2.length ≤ c2) :
    Calls Try.prog 5 #[.int .u8 a0, .slice A1 l1.length c1, .slice A2 l2.length c2] w fun e w' => e = .returned (.bool true) ∧ Below w.heap.size w w' := by
  obtain ⟨x, rfl⟩ := Int.eq_ofNat_of_zero_le q_.1
  have hx : x < 256 := by omega
  have ht : 1 ≤ 1 + x % 3 ∧ 1 + x % 3 ≤ 3 := by omega
  have R1 := Aside0.mk hr1
  have R2 := Aside0.mk hr2
  have HC1 := Aside0.mk hc1
  have HC2 := Aside0.mk hc2
  clear hr1 hr2 hc1 hc2 q_
  go_enter Try.func5, Try.ntmps5
  go_wp2_with fail
  refine (Tile.of_calls hx _).mono ?_
  rintro e w' ⟨rfl, rfl⟩
  have T1 := Aside0.mk (Tile.Tl.new ht w)
  have B1 := Aside0.mk (below_alloc (Below.refl w.heap.size w) (.cells (Tile.blk (1 + x % 3) 0 0 (.slice none 0 0)) 65))
  generalize (w.alloc (.cells (Tile.blk (1 + x % 3) 0 0 (.slice none 0 0)) 65)) = w1 at T1 B1 ⊢
  generalize 1 + x % 3 = t at ht T1
  go_wp2_with fail
  refine (Tile.awake w1).mono ?_
  rintro e w2 ⟨rfl, hb⟩
  have T2 := Aside0.mk (T1.out.below hb)
  have B2 := Aside0.mk (B1.out.trans (hb.mono B1.out.size))
  clear hb T1 B1
  by_cases n1 : 40 < l1.length
  · have n1' : (40 : Int) < (l1.length : Int) := by omega
    go_wp2_with fail
    go_ret
    exact ⟨rfl, B2.out⟩
  have n1' : ¬ (40 : Int) < (l1.length : Int) := by omega
  by_cases n2 : 40 < l2.length
  · have n2' : (40 : Int) < (l2.length : Int) := by omega
    go_wp2_with fail
    go_ret
    exact ⟨rfl, B2.out⟩
  have n2' : ¬ (40 : Int) < (l2.length : Int) := by omega
  go_wp2_with fail
  refine (tattingref1_Few.calls 1000 A1 c1 l1 3 (fewOf l1 3) w2 (Kd.C_below R1.out B2.out) HC1.out (few l1 3 (by decide) (by decide) (by omega) (by omega))).mono ?_
  rintro e w3 ⟨v1, rfl, hU, hb⟩
  have T3 := Aside0.mk (T2.out.below hb)
  have B3 := Aside0.mk (B2.out.trans (hb.mono B2.out.size))
  have U3 := Aside0.mk (Kd.R_bound hU)
  have lb2 := T2.out.lt
  clear hb T2 hU
  go_wp2_with fail
  refine (tattingref1_Few.calls 1000 A2 c2 l2 3 (fewOf l2 3) w3 (Kd.C_below R2.out B3.out) HC2.out (few l2 3 (by decide) (by decide) (by omega) (by omega))).mono ?_
  rintro e w4 ⟨v2, rfl, hV, hb⟩
  have T4 := Aside0.mk (T3.out.below hb)
  have B4 := Aside0.mk (B3.out.trans (hb.mono B3.out.size))
  have U4 := Aside0.mk (Kd.R_below U3.out hb)
  have V4 := Aside0.mk (Kd.R_bound hV)
  have lb3 := T3.out.lt
  clear hb T3 hV U3 B2 B3 R1 R2 HC1 HC2
  have lx : (fewOf l1 3).length ≤ 40 := by rw [fewOf_length]; omega
  have ly : (fewOf l2 3).length ≤ 40 := by rw [fewOf_length]; omega
  generalize fewOf l1 3 = u at *
  generalize fewOf l2 3 = v at *
  obtain ⟨A3, c3, rfl, hc3, hC3⟩ := Kd.R_reads U4.out
  obtain ⟨A4, c4, rfl, hc4, hC4⟩ := Kd.R_reads V4.out
  have HC3 := Aside0.mk hc3
  have HC4 := Aside0.mk hc4
  clear hC3 hC4 hc3 hc4
  go_wp2_with fail
  have hpl : (pairsP (pathF u v (u.length + v.length) u.length v.length)).length ≤ 100 := by
    have h1 := path_length (a := u) (b := v) (u.length + v.length) u.length v.length (Nat.le_refl _) (Nat.le_refl _) (Nat.le_refl _)
    have h2 := Tb_bd (a := u) (b := v) u.length v.length
    rw [pairsP_length]; omega
  refine (Tile.run_calls (n0 := w.heap.size) w4 T4.out (by omega) (by omega) HC3.out HC4.out (Nat.le_refl _) (reverseP _ (by omega) (k := 1000) (by omega)) (Kd.C_kept_own U4.out (fun k hk h => by have := hk.2.1; omega)) (Kd.C_kept_own V4.out (fun k hk h => by have := hk.2.1; omega))).mono ?_
  rintro e w5 ⟨r5, rfl, hR, hT, hK, hb⟩
  have U5 := Aside0.mk (Kd.R_kept U4.out hK (fun k hk h => by have := hk.2.1; omega))
  have V5 := Aside0.mk (Kd.R_kept V4.out hK (fun k hk h => by have := hk.2.1; omega))
  have B5 := Aside0.mk (B4.out.trans hb)
  have T5 := Aside0.mk hT
  have P5 := Aside0.mk hR
  have pg := path_good (a := u) (b := v) (u.length + v.length) u.length v.length (Nat.le_refl _) (Nat.le_refl _)
  have pl := path_length (a := u) (b := v) (u.length + v.length) u.length v.length (Nat.le_refl _) (Nat.le_refl _) (Nat.le_refl _)
  rw [Tb_end (Nat.le_refl _) (Nat.le_refl _), ← pairsP_length, ← List.length_reverse] at pl
  rw [← List.length_reverse] at hpl
  clear U4 V4 B4 T4 hR hT hK hb
  generalize (pairsP (pathF u v (u.length + v.length) u.length v.length)).reverse = l at *
  obtain ⟨A5, c5, rfl, hc5, _⟩ := Kd.R_reads P5.out
  have HC5 := Aside0.mk hc5
  clear hc5
  have GG := Aside0.mk pg.1
  clear pg
  have C5 := T5.out.cell
  go_wp2_with fail
  refine (tattingref7_Good.calls 1000 A3 c3 u A4 c4 v A5 c5 l true _ (R_C U5.out) HC3.out (R_C V5.out) HC4.out (R_C P5.out) HC5.out (refGood u v l (by omega) GG.out (by omega))).mono ?_
  rintro e w6 ⟨rfl, hb⟩
  have U6 := Aside0.mk (Kd.R_below U5.out hb)
  have V6 := Aside0.mk (Kd.R_below V5.out hb)
  have B6 := Aside0.mk (B5.out.trans (hb.mono B5.out.size))
  have T6 := Aside0.mk (T5.out.below hb)
  clear hb U5 V5 B5 T5 C5
  go_wp2_with fail
  have hk : (2 * v.length + 4) * (u.length + 1) + 1 ≤ 20000 := by
    have := Nat.mul_le_mul (show 2 * v.length + 4 ≤ 84 by omega) (show u.length + 1 ≤ 41 by omega)
    omega
  refine (tattingref7_Len.calls 20000 A3 c3 u A4 c4 v _ _ (R_C U6.out) HC3.out (R_C V6.out) HC4.out (refLen u v (by omega) (by omega) hk)).mono ?_
  rintro e w7 ⟨rfl, hb⟩
  have B7 := Aside0.mk (B6.out.trans (hb.mono B6.out.size))
  have T7 := Aside0.mk (T6.out.below hb)
  clear hb U6 V6 B6 T6
  rw [← pl]
  go_wp2_with fail
  refine (sideOf _ t w7 T7.out.cell).mono ?_
  rintro e w8 ⟨rfl, rfl⟩
  go_wp2_with fail
  refine (tattingref12_Squares.calls _ _ _ _ _ (squares (n := u.length) (m := v.length) (by omega) (by omega) ht)).mono ?_
  rintro e w8 ⟨rfl, hb⟩
  have B8 := Aside0.mk (B7.out.trans (hb.below.mono B7.out.size))
  clear hb B7 T7
  go_wp2_with fail
  go_ret
  exact ⟨rfl, B8.out⟩
def tattinglaw14_RussRuns.f (a0 : Int) (l1 : List Int) (l2 : List Int) : Option Bool := if (0 ≤ a0 ∧ a0 < 256) then some true else none
theorem tattinglaw14_RussRuns.calls (a0 : Int) (A1 : Option Addr) (c1 : Nat) (l1 : List Int) (A2 : Option Addr) (c2 : Nat) (l2 : List Int) (r : Bool) (w : World) (hr1 : Kd.C (Kd.int .i64) w A1 l1.length l1) (hc1 : l1.length ≤ c1) (hr2 : Kd.C (Kd.int .i64) w A2 l2.length l2) (hc2 : l2.length ≤ c2) (h : tattinglaw14_RussRuns.f a0 l1 l2 = some r) (HRT : Aside0 (r = true)) :
    Calls Try.prog 5 #[.int .u8 a0, .slice A1 l1.length c1, .slice A2 l2.length c2] w fun e w' => e = .returned (.bool r) ∧ Below w.heap.size w w' := by
  unfold tattinglaw14_RussRuns.f at h
  by_cases q_ : (0 ≤ a0 ∧ a0 < 256)
  rotate_left
  · rw [if_neg q_] at h
    exact absurd h (by simp)
  rw [if_pos q_] at h
  obtain rfl := Option.some.inj h
  exact rruns w a0 A1 c1 l1 A2 c2 l2 q_ hr1 hc1 hr2 hc2
/-- THE ONE PURE STATEMENT of tattinglaw14_RussRuns: yours. -/
def tattinglaw14_RussRuns.Pure : Prop := ∀ (a0 : Int) (l1 : List Int) (l2 : List Int), (Lit.int .u8 a0).wf = true → l1.length ≤ maxLen → l1.length * 8 ≤ 140737488351232 → (∀ x ∈ l1, (Lit.int .i64 x).wf = true) → l2.length ≤ maxLen → l2.length * 8 ≤ 140737488351232 → (∀ x ∈ l2, (Lit.int .i64 x).wf = true) → tattinglaw14_RussRuns.f a0 l1 l2 = some true
theorem tattinglaw14_RussRuns.walk (P : tattinglaw14_RussRuns.Pure) (a0 : Int) (a1 : Option Addr) (len1 cap1 : Nat) (z1 : List Int) (a2 : Option Addr) (len2 cap2 : Nat) (z2 : List Int) (w : World) (w0 : (Lit.int .u8 a0).wf = true) (w1 : (a1 = none ∧ len1 = 0 ∧ cap1 = 0 ∧ z1 = []) ∨ ∃ x, a1 = some x ∧ len1 ≤ cap1 ∧ cap1 ≤ maxLen ∧ z1.length = cap1 ∧ (∀ i, i < z1.length → w.cell? (x.add i) = some (.int .i64 (z1.getD i 0))) ∧ ∀ n ∈ z1, (Lit.int .i64 n).wf = true) (y1 : len1 * 8 ≤ 140737488351232) (w2 : (a2 = none ∧ len2 = 0 ∧ cap2 = 0 ∧ z2 = []) ∨ ∃ x, a2 = some x ∧ len2 ≤ cap2 ∧ cap2 ≤ maxLen ∧ z2.length = cap2 ∧ (∀ i, i < z2.length → w.cell? (x.add i) = some (.int .i64 (z2.getD i 0))) ∧ ∀ n ∈ z2, (Lit.int .i64 n).wf = true) (y2 : len2 * 8 ≤ 140737488351232) :
    Calls Try.prog 5 #[.int .u8 a0, .slice a1 len1 cap1, .slice a2 len2 cap2] w fun e w' => e = .returned (.bool true) ∧ Below w.heap.size w w' := by
  obtain ⟨l1, rfl, hr1, hm1, hw1, hc1⟩ := ReadsInt.ofRowC w1
  obtain ⟨l2, rfl, hr2, hm2, hw2, hc2⟩ := ReadsInt.ofRowC w2
  have h := P a0 l1 l2 w0 hm1 y1 hw1 hm2 y2 hw2
  refine (tattinglaw14_RussRuns.calls a0 _ _ l1 _ _ l2 true w (Kd.C_of_reads (d := (0 : Int)) (h1 := fun _ => rfl) hr1) hc1 (Kd.C_of_reads (d := (0 : Int)) (h1 := fun _ => rfl) hr2) hc2 h ⟨rfl⟩).mono ?_
  rintro e w' ⟨rfl, hd⟩
  exact ⟨rfl, hd⟩
end Go.Proofs.Ytpdjdffimighkaa.PRussRuns
