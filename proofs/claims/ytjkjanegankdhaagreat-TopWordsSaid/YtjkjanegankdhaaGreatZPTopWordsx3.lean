/- Words of the printer, those that are used. -/
import Derived.Test.YtjkjanegankdhaaGreatZPTopWordsx0
import Derived.Test.YtjkjanegankdhaaGreatZPTopWordsx1
import Derived.Test.YtjkjanegankdhaaGreatZPTopWordsx2
import Derived.Test.YtjkjanegankdhaaGreatZHAwc
import Derived.Test.YtjkjanegankdhaaGreatZHRow
namespace Go.Proofs.YtjkjanegankdhaaGreat.PTopWords
open Go.RowKit Go.Proofs.YtjkjanegankdhaaGreatW.PrintWords Go.Proofs.YtjkjanegankdhaaGreatW.PrintLast Go.Proofs.YtjkjanegankdhaaGreatW.PrintMore
attribute [local go_sem] max2_int min2_int max_two min_two max_three min_three max_four min_four   -- for this text's walks alone
set_option linter.unusedVariables false
set_option linter.unusedSimpArgs false
attribute [local go_sem high] eqA71
/-! ### tattingtop_awake: function 9 -/
def tattingtop_awake.f : Option Bool := some true
theorem tattingtop_awake.calls  (r : Bool) (w : World) (h : tattingtop_awake.f  = some r) :
    Calls Tryz.prog 9 #[] w fun e w' => e = .returned (.bool r) ∧ Below w.heap.size w w' := by
  obtain rfl := Option.some.inj h
  exact Go.Proofs.YtjkjanegankdhaaGreat.Top.awake_true w
/-! ### tattingref1_Few: function 10 -/
def tattingref1_Few.l0 : Nat → List Int → Int → List Int → Int → Option (List Int)
  | 0, _, _, _, _ => none
  | k + 1, x0, x1, x5, x6 => if x6 < (x0.length : Int) then (if 0 ≤ x6 then (if x1 = 0 then (none) else (if (Int.tmod (rd x0 x6) x1) < 0 then (if x5.length < 17592186044416 then (tattingref1_Few.l0 k x0 x1 (x5 ++ [wrap64 ((Int.tmod (rd x0 x6) x1) + x1)]) (wrap64 (x6 + 1))) else (none)) else (if x5.length < 17592186044416 then (tattingref1_Few.l0 k x0 x1 (x5 ++ [Int.tmod (rd x0 x6) x1]) (wrap64 (x6 + 1))) else (none)))) else (none)) else (some x5)
def tattingref1_Few.f (k : Nat) (l0 : List Int) (a1 : Int) : Option (List Int) := tattingref1_Few.l0 k l0 a1 ([] : List Int) 0
theorem tattingref1_Few.mono_l : ∀ k, (∀ y0 y1 y2 y3, LeO (tattingref1_Few.l0 k y0 y1 y2 y3) (tattingref1_Few.l0 (k + 1) y0 y1 y2 y3))
  | 0 => fun _ _ _ _ r h => by simp [tattingref1_Few.l0] at h
  | k + 1 => by
    have ih0 := tattingref1_Few.mono_l k
    · intro y0 y1 y2 y3
      unfold tattingref1_Few.l0
      repeat' first
      | (with_reducible exact ih0 _ _ _ _)
      | (with_reducible exact LeO.refl _)
      | (with_reducible exact LeO.none _)
      | (with_reducible refine LeO.ite ?_ ?_)
      | (with_reducible refine LeO.bind ?_ (fun _ => ?_))
      | exact ih0 _ _ _ _
      | exact LeO.none _
      | refine LeO.ite ?_ ?_
      | refine LeO.bind ?_ (fun _ => ?_)
theorem tattingref1_Few.mono : ∀ a0 a1 k, LeO (tattingref1_Few.f k a0 a1) (tattingref1_Few.f (k + 1) a0 a1) := by
  intro a0 a1 k
  have ih0 := tattingref1_Few.mono_l k
  unfold tattingref1_Few.f
  repeat' first
      | (with_reducible exact ih0 _ _ _ _)
      | (with_reducible exact LeO.refl _)
      | (with_reducible exact LeO.none _)
      | (with_reducible refine LeO.ite ?_ ?_)
      | (with_reducible refine LeO.bind ?_ (fun _ => ?_))
      | exact ih0 _ _ _ _
      | exact LeO.none _
      | refine LeO.ite ?_ ?_
      | refine LeO.bind ?_ (fun _ => ?_)
set_option maxHeartbeats 8000000 in
set_option maxRecDepth 100000 in
theorem tattingref1_Few.calls (k : Nat) (A0 : Option Addr) (c0 : Nat) (l0 : List Int) (a1 : Int) (r : List Int) (w : World) (hr0 : Kd.C (Kd.int .i64) w A0 l0.length l0) (hc0 : l0.length ≤ c0) (h : tattingref1_Few.f k l0 a1 = some r) :
    Calls Tryz.prog 10 #[.slice A0 l0.length c0, .int .i64 a1] w fun e w' => ∃ v0_ : Value, e = .returned (v0_) ∧ Kd.R (Kd.int .i64) 3 w' w.heap.size (fun _ => True) v0_ r ∧ Below w.heap.size w w' := by
  have HR0 := Aside0.mk hr0
  have HC0 := Aside0.mk hc0
  clear hr0 hc0
  have HB := Aside0.mk (Below.refl w.heap.size w)
  have H : (tattingref1_Few.l0 k l0 a1 ([] : List Int) 0) = some r := h
  clear h
  have H' := Aside0.mk H
  clear H
  go_enter Tryz.func10, Tryz.ntmps10
  go_wp2
  go_loopg [5, 6] k (fun kq v5 v6 w' => ∃ (x5_1 : List Int) (x6_1 : Int), v6 = .int .i64 x6_1 ∧ Aside0 (tattingref1_Few.l0 kq l0 a1 x5_1 x6_1 = some r) ∧ Aside0 (kq ≤ k) ∧ Aside0 (Kd.R (Kd.int .i64) 3 w' w.heap.size (fun _ => True) v5 x5_1) ∧ Aside0 (Below w.heap.size w w'))
  case atStart => exact ⟨(([] : List Int)), (0), (by first | rfl | (simp; done) | (simp [*]; done)), H', ⟨Nat.le_refl _⟩, ⟨by first | exact Kd.R_nil _ _ _ _ _ | exact Kd.N_nil _ _ _ _ _ | exact Kd.V_nil _ _ _ _ _ | exact Kd.Q_nil _ _ _ _ _ | exact Kd.S_nil _ _ _ _ _⟩, ⟨by repeat (first | (with_reducible first | exact HB.out | apply below_alloc | apply pw_below_drewN | apply below_drew1) | exact HB.out)⟩⟩
  case round =>
    clear H'
    try clear c1
    try clear p2
    obtain ⟨x5_1, x6_1, rfl, HA, HK1, HO_5, HB⟩ := hrel
    cases gk with
    | zero => exact absurd HA.out (by simp [tattingref1_Few.l0])
    | succ k1 =>
      have H := HA.out
      clear HA
      simp only [tattingref1_Few.l0] at H
      by_cases c3 : x6_1 < (l0.length : Int)
      · rw [if_pos c3] at H
        have c3b0 : decide (x6_1 < (l0.length : Int)) = true := decide_eq_true c3
        clear c3
        by_cases c4 : 0 ≤ x6_1
        · rw [if_pos c4] at H
          have c4b0 : decide (0 ≤ x6_1) = true := decide_eq_true c4
          clear c4
          by_cases c5 : a1 = 0
          · rw [if_pos c5] at H
            exact absurd H (by simp)
          · rw [if_neg c5] at H
            have c5b0 : (a1 == 0) = false := beq_eq_false_iff_ne.mpr c5
            have c5b1 : (a1 != 0) = true := bne_iff_ne.mpr c5
            by_cases c6 : (Int.tmod (rd l0 x6_1) a1) < 0
            · rw [if_pos c6] at H
              have c6b0 : decide ((Int.tmod (rd l0 x6_1) a1) < 0) = true := decide_eq_true c6
              clear c6
              by_cases c7 : x5_1.length < 17592186044416
              · rw [if_pos c7] at H
                have LMc7 := Aside0.mk c7
                clear c7
                obtain ⟨y139, hy139⟩ : ∃ y_ : List Int, y_ = (x5_1 ++ [wrap64 ((Int.tmod (rd l0 x6_1) a1) + a1)]) := ⟨_, rfl⟩
                replace H : (tattingref1_Few.l0 k1 l0 a1 y139 (wrap64 (x6_1 + 1))) = some r := by first | (rw [hy139]; with_reducible exact H) | (have H2_ := (Option.bind_some _ _).symm.trans H; rw [hy139]; with_reducible exact H2_) | (have H2_ := (Option.bind_some _ _).symm.trans H; with_reducible exact H2_) | with_reducible exact H | (rw [hy139]; exact H) | exact H
                have Ny139 := Aside0.mk hy139
                clear hy139
                have H' := Aside0.mk H
                clear H
                have p138 : 0 ≤ (x6_1 : Int) := of_decide_eq_true (by first | (with_reducible assumption) | assumption)
                have q138 : x6_1 < (l0.length : Int) := of_decide_eq_true (by first | (with_reducible assumption) | assumption)
                obtain ⟨ad138, e138, hx138_0⟩ := Kd.at_int HR0.out x6_1 p138 q138
                cases e138
                replace hx138_0 := (HB.out.cell (World.block_lt_of_cell? w _ hx138_0)).trans hx138_0
                replace p138 := eq_true p138
                replace q138 := eq_true q138
                go_wp2_with (first | ((with_reducible refine gate_builtin (b := .append) (xs := #[.tmp 25, .tmp 27]) rfl ?_); at_builtin; refine Kd.R_append (Kd.int .i64) (w0 := w) w.heap.size rfl (.tmp 25) (.tmp 27) 22 3 (.int .i64 0) 8 rfl Tryz.underlying22 info3 rfl (by decide) (by omega) u5 x5_1 (wrap64 ((Int.tmod (rd l0 x6_1) a1) + a1)) [.int .i64 (wrap64 ((Int.tmod (rd l0 x6_1) a1) + a1))] (fun _ => True) (fun _ => False) rfl rfl ?aP (fun _ hk => hk.elim) ?aF ?aO ?aB ?aS ?aL ?_; (case aP => exact rfl); (case aB => exact (by repeat (first | (with_reducible first | exact HB.out | apply below_alloc | apply pw_below_drewN | apply below_drew1) | exact HB.out))); (case aF => exact (fun _ _ => trivial)); (case aO => exact (by (with_reducible repeat (first | apply Kd.R_alloc | apply Kd.R_drewN | apply Kd.R_drew)); exact HO_5.out)); (case aS => exact (below_size (by repeat (first | (with_reducible first | exact HB.out | apply below_alloc | apply pw_below_drewN | apply below_drew1) | exact HB.out)))); (case aL => have := LMc7.out; omega); intro v140 w8 ho hb hg hat; rw [← Ny139.out] at ho; have n0_ := Aside0.mk (hb); have n1_ := Aside0.mk (ho); clear HB; clear HO_5; have HB := n0_; have HO141 := n1_; clear n0_ n1_; clear ho hb hg hat))
                go_roundg k1
                case measure => have := HK1.out; omega
                case rel => exact ⟨(y139), (wrap64 (x6_1 + 1)), (by first | rfl | (simp; done) | (simp [*]; done)), H', ⟨by have := HK1.out; omega⟩, ⟨by (with_reducible repeat (first | apply Kd.R_alloc | apply Kd.R_drewN | apply Kd.R_drew)); exact HO141.out⟩, ⟨by repeat (first | (with_reducible first | exact HB.out | apply below_alloc | apply pw_below_drewN | apply below_drew1) | exact HB.out)⟩⟩
              · rw [if_neg c7] at H
                exact absurd H (by simp)
            · rw [if_neg c6] at H
              have c6b0 : decide ((Int.tmod (rd l0 x6_1) a1) < 0) = false := decide_eq_false c6
              clear c6
              by_cases c9 : x5_1.length < 17592186044416
              · rw [if_pos c9] at H
                have LMc9 := Aside0.mk c9
                clear c9
                obtain ⟨y142, hy142⟩ : ∃ y_ : List Int, y_ = (x5_1 ++ [Int.tmod (rd l0 x6_1) a1]) := ⟨_, rfl⟩
                replace H : (tattingref1_Few.l0 k1 l0 a1 y142 (wrap64 (x6_1 + 1))) = some r := by first | (rw [hy142]; with_reducible exact H) | (have H2_ := (Option.bind_some _ _).symm.trans H; rw [hy142]; with_reducible exact H2_) | (have H2_ := (Option.bind_some _ _).symm.trans H; with_reducible exact H2_) | with_reducible exact H | (rw [hy142]; exact H) | exact H
                have Ny142 := Aside0.mk hy142
                clear hy142
                have H' := Aside0.mk H
                clear H
                have p138 : 0 ≤ (x6_1 : Int) := of_decide_eq_true (by first | (with_reducible assumption) | assumption)
                have q138 : x6_1 < (l0.length : Int) := of_decide_eq_true (by first | (with_reducible assumption) | assumption)
                obtain ⟨ad138, e138, hx138_0⟩ := Kd.at_int HR0.out x6_1 p138 q138
                cases e138
                replace hx138_0 := (HB.out.cell (World.block_lt_of_cell? w _ hx138_0)).trans hx138_0
                replace p138 := eq_true p138
                replace q138 := eq_true q138
                go_wp2_with (first | ((with_reducible refine gate_builtin (b := .append) (xs := #[.tmp 25, .tmp 27]) rfl ?_); at_builtin; refine Kd.R_append (Kd.int .i64) (w0 := w) w.heap.size rfl (.tmp 25) (.tmp 27) 22 3 (.int .i64 0) 8 rfl Tryz.underlying22 info3 rfl (by decide) (by omega) u5 x5_1 (Int.tmod (rd l0 x6_1) a1) [.int .i64 (Int.tmod (rd l0 x6_1) a1)] (fun _ => True) (fun _ => False) rfl rfl ?aP (fun _ hk => hk.elim) ?aF ?aO ?aB ?aS ?aL ?_; (case aP => exact rfl); (case aB => exact (by repeat (first | (with_reducible first | exact HB.out | apply below_alloc | apply pw_below_drewN | apply below_drew1) | exact HB.out))); (case aF => exact (fun _ _ => trivial)); (case aO => exact (by (with_reducible repeat (first | apply Kd.R_alloc | apply Kd.R_drewN | apply Kd.R_drew)); exact HO_5.out)); (case aS => exact (below_size (by repeat (first | (with_reducible first | exact HB.out | apply below_alloc | apply pw_below_drewN | apply below_drew1) | exact HB.out)))); (case aL => have := LMc9.out; omega); intro v143 w10 ho hb hg hat; rw [← Ny142.out] at ho; have n0_ := Aside0.mk (hb); have n1_ := Aside0.mk (ho); clear HB; clear HO_5; have HB := n0_; have HO144 := n1_; clear n0_ n1_; clear ho hb hg hat))
                go_roundg k1
                case measure => have := HK1.out; omega
                case rel => exact ⟨(y142), (wrap64 (x6_1 + 1)), (by first | rfl | (simp; done) | (simp [*]; done)), H', ⟨by have := HK1.out; omega⟩, ⟨by (with_reducible repeat (first | apply Kd.R_alloc | apply Kd.R_drewN | apply Kd.R_drew)); exact HO144.out⟩, ⟨by repeat (first | (with_reducible first | exact HB.out | apply below_alloc | apply pw_below_drewN | apply below_drew1) | exact HB.out)⟩⟩
              · rw [if_neg c9] at H
                exact absurd H (by simp)
        · rw [if_neg c4] at H
          exact absurd H (by simp)
      · rw [if_neg c3] at H
        have c3b0 : decide (x6_1 < (l0.length : Int)) = false := decide_eq_false c3
        clear c3
        obtain rfl := Option.some.inj H
        go_wp2
        go_ret
        exact ⟨_, by first | rfl | (simp [errW_none, errW_some] <;> rfl) | (simp [*, errW_none, errW_some] <;> rfl), by (with_reducible repeat (first | apply Kd.R_alloc | apply Kd.R_drewN | apply Kd.R_drew)); exact HO_5.out, by repeat (first | (with_reducible first | exact HB.out | apply below_alloc | apply pw_below_drewN | apply below_drew1) | exact HB.out)⟩
/-! ### tattingref7_Good: function 14 -/
mutual
def tattingref7_Good.l0 : Nat → List Int → List Int → List (S71) → Int → Option (Bool)
  | 0, _, _, _, _ => none
  | k + 1, x0, x1, x2, x7 => if x7 < (x2.length : Int) then (if 0 ≤ x7 then (if ((rd_T71 x2 x7).f0) < 0 then (tattingref7_Good.j1 k x0 x1 x2 x7 true ((rd_T71 x2 x7).f0) ((rd_T71 x2 x7).f1)) else (if ((rd_T71 x2 x7).f0) ≥ (x0.length : Int) then (tattingref7_Good.j1 k x0 x1 x2 x7 true ((rd_T71 x2 x7).f0) ((rd_T71 x2 x7).f1)) else (if ((rd_T71 x2 x7).f1) < 0 then (tattingref7_Good.j1 k x0 x1 x2 x7 true ((rd_T71 x2 x7).f0) ((rd_T71 x2 x7).f1)) else (if ((rd_T71 x2 x7).f1) ≥ (x1.length : Int) then (tattingref7_Good.j1 k x0 x1 x2 x7 true ((rd_T71 x2 x7).f0) ((rd_T71 x2 x7).f1)) else (if 0 ≤ ((rd_T71 x2 x7).f0) then (if ((rd_T71 x2 x7).f0) < (x0.length : Int) then (if 0 ≤ ((rd_T71 x2 x7).f1) then (if ((rd_T71 x2 x7).f1) < (x1.length : Int) then (tattingref7_Good.j1 k x0 x1 x2 x7 ((rd x0 ((rd_T71 x2 x7).f0)) != (rd x1 ((rd_T71 x2 x7).f1))) ((rd_T71 x2 x7).f0) ((rd_T71 x2 x7).f1)) else (none)) else (none)) else (none)) else (none)))))) else (none)) else (some true)
def tattingref7_Good.j1 : Nat → List Int → List Int → List (S71) → Int → Bool → Int → Int → Option (Bool)
  | 0, _, _, _, _, _, _, _ => none
  | k + 1, x0, x1, x2, x7, x53, x147000, x147001 => if x53 = true then (some false) else (if x7 > 0 then (if 0 ≤ (wrap64 (x7 - 1)) then (if (wrap64 (x7 - 1)) < (x2.length : Int) then (if x147000 ≤ ((rd_T71 x2 (wrap64 (x7 - 1))).f0) then (some false) else (if x147001 ≤ ((rd_T71 x2 (wrap64 (x7 - 1))).f1) then (some false) else (tattingref7_Good.l0 k x0 x1 x2 (wrap64 (x7 + 1))))) else (none)) else (none)) else (tattingref7_Good.l0 k x0 x1 x2 (wrap64 (x7 + 1))))
end
def tattingref7_Good.f (k : Nat) (l0 : List Int) (l1 : List Int) (l2 : List (S71)) : Option (Bool) := tattingref7_Good.l0 k l0 l1 l2 0
theorem tattingref7_Good.mono_l : ∀ k, (∀ y0 y1 y2 y3, LeO (tattingref7_Good.l0 k y0 y1 y2 y3) (tattingref7_Good.l0 (k + 1) y0 y1 y2 y3)) ∧ (∀ y0 y1 y2 y3 y4 y5 y6, LeO (tattingref7_Good.j1 k y0 y1 y2 y3 y4 y5 y6) (tattingref7_Good.j1 (k + 1) y0 y1 y2 y3 y4 y5 y6))
  | 0 => ⟨fun _ _ _ _ r h => by simp [tattingref7_Good.l0] at h, fun _ _ _ _ _ _ _ r h => by simp [tattingref7_Good.j1] at h⟩
  | k + 1 => by
    obtain ⟨ih0, ih1⟩ := tattingref7_Good.mono_l k
    refine ⟨?_, ?_⟩
    · intro y0 y1 y2 y3
      unfold tattingref7_Good.l0
      repeat' first
      | (with_reducible exact ih0 _ _ _ _)
      | (with_reducible exact ih1 _ _ _ _ _ _ _)
      | (with_reducible exact LeO.refl _)
      | (with_reducible exact LeO.none _)
      | (with_reducible refine LeO.ite ?_ ?_)
      | (with_reducible refine LeO.bind ?_ (fun _ => ?_))
      | exact ih0 _ _ _ _
      | exact ih1 _ _ _ _ _ _ _
      | exact LeO.none _
      | refine LeO.ite ?_ ?_
      | refine LeO.bind ?_ (fun _ => ?_)
    · intro y0 y1 y2 y3 y4 y5 y6
      unfold tattingref7_Good.j1
      repeat' first
      | (with_reducible exact ih0 _ _ _ _)
      | (with_reducible exact ih1 _ _ _ _ _ _ _)
      | (with_reducible exact LeO.refl _)
      | (with_reducible exact LeO.none _)
      | (with_reducible refine LeO.ite ?_ ?_)
      | (with_reducible refine LeO.bind ?_ (fun _ => ?_))
      | exact ih0 _ _ _ _
      | exact ih1 _ _ _ _ _ _ _
      | exact LeO.none _
      | refine LeO.ite ?_ ?_
      | refine LeO.bind ?_ (fun _ => ?_)
theorem tattingref7_Good.mono : ∀ a0 a1 a2 k, LeO (tattingref7_Good.f k a0 a1 a2) (tattingref7_Good.f (k + 1) a0 a1 a2) := by
  intro a0 a1 a2 k
  obtain ⟨ih0, ih1⟩ := tattingref7_Good.mono_l k
  unfold tattingref7_Good.f
  repeat' first
      | (with_reducible exact ih0 _ _ _ _)
      | (with_reducible exact ih1 _ _ _ _ _ _ _)
      | (with_reducible exact LeO.refl _)
      | (with_reducible exact LeO.none _)
      | (with_reducible refine LeO.ite ?_ ?_)
      | (with_reducible refine LeO.bind ?_ (fun _ => ?_))
      | exact ih0 _ _ _ _
      | exact ih1 _ _ _ _ _ _ _
      | exact LeO.none _
      | refine LeO.ite ?_ ?_
      | refine LeO.bind ?_ (fun _ => ?_)
set_option maxHeartbeats 8000000 in
set_option maxRecDepth 100000 in
theorem tattingref7_Good.calls (k : Nat) (A0 : Option Addr) (c0 : Nat) (l0 : List Int) (A1 : Option Addr) (c1 : Nat) (l1 : List Int) (A2 : Option Addr) (c2 : Nat) (l2 : List (S71)) (r : Bool) (w : World) (hr0 : Kd.C (Kd.int .i64) w A0 l0.length l0) (hc0 : l0.length ≤ c0) (hr1 : Kd.C (Kd.int .i64) w A1 l1.length l1) (hc1 : l1.length ≤ c1) (hr2 : Kd.C k71 w A2 l2.length l2) (hc2 : l2.length ≤ c2) (h : tattingref7_Good.f k l0 l1 l2 = some r) :
    Calls Tryz.prog 14 #[.slice A0 l0.length c0, .slice A1 l1.length c1, .slice A2 l2.length c2] w fun e w' => e = .returned (.bool r) ∧ Below w.heap.size w w' := by
  have hu71 := Tryz.underlying71
  have HR0 := Aside0.mk hr0
  have HC0 := Aside0.mk hc0
  clear hr0 hc0
  have HR1 := Aside0.mk hr1
  have HC1 := Aside0.mk hc1
  clear hr1 hc1
  have HR2 := Aside0.mk hr2
  have HC2 := Aside0.mk hc2
  clear hr2 hc2
  have HB := Aside0.mk (Below.refl w.heap.size w)
  have H : (tattingref7_Good.l0 k l0 l1 l2 0) = some r := h
  clear h
  have H' := Aside0.mk H
  clear H
  go_enter Tryz.func14, Tryz.ntmps14
  go_wp2
  repeat (go_quiet (fail); try go_wp2)
  go_loopg [7] k (fun kq v7 w' => ∃ (x7_1 : Int), v7 = .int .i64 x7_1 ∧ Aside0 (tattingref7_Good.l0 kq l0 l1 l2 x7_1 = some r) ∧ Aside0 (kq ≤ k) ∧ Aside0 (Below w.heap.size w w'))
  case atStart => exact ⟨(0), (by first | rfl | (simp; done) | (simp [*]; done)), H', ⟨Nat.le_refl _⟩, ⟨by repeat (first | (with_reducible first | exact HB.out | apply below_alloc | apply pw_below_drewN | apply below_drew1) | exact HB.out)⟩⟩
  case round =>
    clear H'
    try clear c1
    try clear c2
    try clear p2
    obtain ⟨x7_1, rfl, HA, HK1, HB⟩ := hrel
    cases gk with
    | zero => exact absurd HA.out (by simp [tattingref7_Good.l0])
    | succ k1 =>
      have H := HA.out
      clear HA
      simp only [tattingref7_Good.l0] at H
      by_cases c4 : x7_1 < (l2.length : Int)
      · rw [if_pos c4] at H
        have c4b0 : decide (x7_1 < (l2.length : Int)) = true := decide_eq_true c4
        clear c4
        by_cases c5 : 0 ≤ x7_1
        · rw [if_pos c5] at H
          have c5b0 : decide (0 ≤ x7_1) = true := decide_eq_true c5
          clear c5
          have HC6 := Aside0.mk H
          clear H
          have p145 : 0 ≤ (x7_1 : Int) := of_decide_eq_true (by first | (with_reducible assumption) | assumption)
          have q145 : x7_1 < (l2.length : Int) := of_decide_eq_true (by first | (with_reducible assumption) | assumption)
          obtain ⟨ad145, e145, hx145_0, hx145_1⟩ := at_T71 HR2.out x7_1 p145 q145
          cases e145
          replace hx145_0 := (HB.out.cell (World.block_lt_of_cell? w _ hx145_0)).trans hx145_0
          replace hx145_1 := (HB.out.cell (World.block_lt_of_cell? w _ hx145_1)).trans hx145_1
          replace p145 := eq_true p145
          replace q145 := eq_true q145
          go_upto_region 5 with (first | ((with_reducible refine gate_dst (N := 8) rfl ?_); (try (refine gate_guard (by rfl) ?_; dsimp only)); refine box_event ?hg (N := 8) ?hd (cs := #[.int .i64 0, .int .i64 0]) (t := 71) ?hr ?_; (case hd => rfl); (case hg => rfl); (case hr => first | (go_simp; done) | (go_simp; rfl)); intro gb146 hg w7 hbox hb; have n0_ := Aside0.mk (below_step (by repeat (first | (with_reducible first | exact HB.out | apply below_alloc | apply pw_below_drewN | apply below_drew1) | exact HB.out)) hb); have n1_ := Aside0.mk (hbox); have n2_ := Aside0.mk ((by rw [hg]; exact (below_size (by repeat (first | (with_reducible first | exact HB.out | apply below_alloc | apply pw_below_drewN | apply below_drew1) | exact HB.out))) : w.heap.size ≤ gb146)); have n3_ := Aside0.mk ((by rw [hg]; exact (below_size (by repeat (first | (with_reducible first | exact HB.out | apply below_alloc | apply pw_below_drewN | apply below_drew1) | exact HB.out))) : w.heap.size ≤ gb146)); clear HB; have HB := n0_; have BK146 := n1_; have GW146 := n2_; have GE146 := n3_; clear n0_ n1_ n2_ n3_; clear hb hbox hg; have hcz8_0 : w7.cell? ⟨gb146, 0, none⟩ = some (.int .i64 0) := (blk_cell BK146.out 0).trans rfl; have hcz8_1 : w7.cell? ⟨gb146, 1, none⟩ = some (.int .i64 0) := (blk_cell BK146.out 1).trans rfl; have hfz8_0 := blk_frozen BK146.out 0; have hfz8_1 := blk_frozen BK146.out 1))
          repeat (go_quiet (first | ((with_reducible refine gate_dst (N := 8) rfl ?_); (try (refine gate_guard (by rfl) ?_; dsimp only)); refine box_event ?hg (N := 8) ?hd (cs := #[.int .i64 0, .int .i64 0]) (t := 71) ?hr ?_; (case hd => rfl); (case hg => rfl); (case hr => first | (go_simp; done) | (go_simp; rfl)); intro gb146 hg w7 hbox hb; have n0_ := Aside0.mk (below_step (by repeat (first | (with_reducible first | exact HB.out | apply below_alloc | apply pw_below_drewN | apply below_drew1) | exact HB.out)) hb); have n1_ := Aside0.mk (hbox); have n2_ := Aside0.mk ((by rw [hg]; exact (below_size (by repeat (first | (with_reducible first | exact HB.out | apply below_alloc | apply pw_below_drewN | apply below_drew1) | exact HB.out))) : w.heap.size ≤ gb146)); have n3_ := Aside0.mk ((by rw [hg]; exact (below_size (by repeat (first | (with_reducible first | exact HB.out | apply below_alloc | apply pw_below_drewN | apply below_drew1) | exact HB.out))) : w.heap.size ≤ gb146)); clear HB; have HB := n0_; have BK146 := n1_; have GW146 := n2_; have GE146 := n3_; clear n0_ n1_ n2_ n3_; clear hb hbox hg; have hcz8_0 : w7.cell? ⟨gb146, 0, none⟩ = some (.int .i64 0) := (blk_cell BK146.out 0).trans rfl; have hcz8_1 : w7.cell? ⟨gb146, 1, none⟩ = some (.int .i64 0) := (blk_cell BK146.out 1).trans rfl; have hfz8_0 := blk_frozen BK146.out 0; have hfz8_1 := blk_frozen BK146.out 1)); go_upto_region 5 with (first | ((with_reducible refine gate_dst (N := 8) rfl ?_); (try (refine gate_guard (by rfl) ?_; dsimp only)); refine box_event ?hg (N := 8) ?hd (cs := #[.int .i64 0, .int .i64 0]) (t := 71) ?hr ?_; (case hd => rfl); (case hg => rfl); (case hr => first | (go_simp; done) | (go_simp; rfl)); intro gb146 hg w7 hbox hb; have n0_ := Aside0.mk (below_step (by repeat (first | (with_reducible first | exact HB.out | apply below_alloc | apply pw_below_drewN | apply below_drew1) | exact HB.out)) hb); have n1_ := Aside0.mk (hbox); have n2_ := Aside0.mk ((by rw [hg]; exact (below_size (by repeat (first | (with_reducible first | exact HB.out | apply below_alloc | apply pw_below_drewN | apply below_drew1) | exact HB.out))) : w.heap.size ≤ gb146)); have n3_ := Aside0.mk ((by rw [hg]; exact (below_size (by repeat (first | (with_reducible first | exact HB.out | apply below_alloc | apply pw_below_drewN | apply below_drew1) | exact HB.out))) : w.heap.size ≤ gb146)); clear HB; have HB := n0_; have BK146 := n1_; have GW146 := n2_; have GE146 := n3_; clear n0_ n1_ n2_ n3_; clear hb hbox hg; have hcz8_0 : w7.cell? ⟨gb146, 0, none⟩ = some (.int .i64 0) := (blk_cell BK146.out 0).trans rfl; have hcz8_1 : w7.cell? ⟨gb146, 1, none⟩ = some (.int .i64 0) := (blk_cell BK146.out 1).trans rfl; have hfz8_0 := blk_frozen BK146.out 0; have hfz8_1 := blk_frozen BK146.out 1)))
          (try simp only [Act.put, List.setIfInBounds_toArray, List.set_cons_zero, List.set_cons_succ])
          go_cut [53] (fun v53 wc => ∃ (kq : Nat) (x53_5 : Bool), v53 = .bool x53_5 ∧ Aside0 (tattingref7_Good.j1 kq l0 l1 l2 x7_1 x53_5 ((rd_T71 l2 x7_1).f0) ((rd_T71 l2 x7_1).f1) = some r) ∧ Aside0 (kq ≤ k1) ∧ Aside0 (wc.heap[gb146]? = some (.cells #[.int .i64 ((rd_T71 l2 x7_1).f0), .int .i64 ((rd_T71 l2 x7_1).f1)] 71 (0, 0))) ∧ Aside0 (Below w.heap.size w wc))
          case first =>
            have H := HC6.out
            clear HC6
            by_cases c9 : ((rd_T71 l2 x7_1).f0) < 0
            · rw [if_pos c9] at H
              have c9b0 : decide (((rd_T71 l2 x7_1).f0) < 0) = true := decide_eq_true c9
              clear c9
              (first | rw [c9b0] | (simp only [i64_w, i32_w]; rw [c9b0]) | skip)
              have H' := Aside0.mk H
              clear H
              have hcz10_0 : w7.cell? ⟨gb146, 0, none⟩ = some (.int .i64 0) := (blk_cell BK146.out 0).trans rfl
              have hcz10_1 : w7.cell? ⟨gb146, 1, none⟩ = some (.int .i64 0) := (blk_cell BK146.out 1).trans rfl
              have hfz10_0 := blk_frozen BK146.out 0
              have hfz10_1 := blk_frozen BK146.out 1
              go_wp2
              repeat (go_quiet (fail); try go_wp2)
              go_meet
              case rel => exact ⟨_, (true), (by first | rfl | (simp; done) | (simp [*]; done)), H', ⟨by have := HK1.out; first | omega | exact Nat.le_refl _⟩, ⟨by (with_reducible repeat (first | refine blk_drewN ?_ _ | refine blk_drew ?_ | refine blk_alloc ?_ _)); refine blk_put (cs := #[.int .i64 ((rd_T71 l2 x7_1).f0), .int .i64 0]) ?_ 1 _ rfl; (with_reducible repeat (first | refine blk_drewN ?_ _ | refine blk_drew ?_ | refine blk_alloc ?_ _)); refine blk_put (cs := #[.int .i64 0, .int .i64 0]) ?_ 0 _ rfl; (with_reducible repeat (first | refine blk_drewN ?_ _ | refine blk_drew ?_ | refine blk_alloc ?_ _)); exact BK146.out⟩, ⟨by repeat (first | (with_reducible first | exact HB.out | apply below_alloc | apply pw_below_drewN | apply below_drew1 | refine below_set ?_ GE146.out) | exact HB.out)⟩⟩
            · rw [if_neg c9] at H
              have c9b0 : decide (((rd_T71 l2 x7_1).f0) < 0) = false := decide_eq_false c9
              clear c9
              (first | rw [c9b0] | (simp only [i64_w, i32_w]; rw [c9b0]) | skip)
              by_cases c11 : ((rd_T71 l2 x7_1).f0) ≥ (l0.length : Int)
              · rw [if_pos c11] at H
                have c11b0 : decide ((l0.length : Int) ≤ ((rd_T71 l2 x7_1).f0)) = true := decide_eq_true c11
                clear c11
                have H' := Aside0.mk H
                clear H
                have hcz12_0 : w7.cell? ⟨gb146, 0, none⟩ = some (.int .i64 0) := (blk_cell BK146.out 0).trans rfl
                have hcz12_1 : w7.cell? ⟨gb146, 1, none⟩ = some (.int .i64 0) := (blk_cell BK146.out 1).trans rfl
                have hfz12_0 := blk_frozen BK146.out 0
                have hfz12_1 := blk_frozen BK146.out 1
                go_wp2
                repeat (go_quiet (fail); try go_wp2)
                go_meet
                case rel => exact ⟨_, (true), (by first | rfl | (simp; done) | (simp [*]; done)), H', ⟨by have := HK1.out; first | omega | exact Nat.le_refl _⟩, ⟨by (with_reducible repeat (first | refine blk_drewN ?_ _ | refine blk_drew ?_ | refine blk_alloc ?_ _)); refine blk_put (cs := #[.int .i64 ((rd_T71 l2 x7_1).f0), .int .i64 0]) ?_ 1 _ rfl; (with_reducible repeat (first | refine blk_drewN ?_ _ | refine blk_drew ?_ | refine blk_alloc ?_ _)); refine blk_put (cs := #[.int .i64 0, .int .i64 0]) ?_ 0 _ rfl; (with_reducible repeat (first | refine blk_drewN ?_ _ | refine blk_drew ?_ | refine blk_alloc ?_ _)); exact BK146.out⟩, ⟨by repeat (first | (with_reducible first | exact HB.out | apply below_alloc | apply pw_below_drewN | apply below_drew1 | refine below_set ?_ GE146.out) | exact HB.out)⟩⟩
              · rw [if_neg c11] at H
                have c11b0 : decide ((l0.length : Int) ≤ ((rd_T71 l2 x7_1).f0)) = false := decide_eq_false c11
                clear c11
                by_cases c13 : ((rd_T71 l2 x7_1).f1) < 0
                · rw [if_pos c13] at H
                  have c13b0 : decide (((rd_T71 l2 x7_1).f1) < 0) = true := decide_eq_true c13
                  clear c13
                  have H' := Aside0.mk H
                  clear H
                  have hcz14_0 : w7.cell? ⟨gb146, 0, none⟩ = some (.int .i64 0) := (blk_cell BK146.out 0).trans rfl
                  have hcz14_1 : w7.cell? ⟨gb146, 1, none⟩ = some (.int .i64 0) := (blk_cell BK146.out 1).trans rfl
                  have hfz14_0 := blk_frozen BK146.out 0
                  have hfz14_1 := blk_frozen BK146.out 1
                  go_wp2
                  repeat (go_quiet (fail); try go_wp2)
                  go_meet
                  case rel => exact ⟨_, (true), (by first | rfl | (simp; done) | (simp [*]; done)), H', ⟨by have := HK1.out; first | omega | exact Nat.le_refl _⟩, ⟨by (with_reducible repeat (first | refine blk_drewN ?_ _ | refine blk_drew ?_ | refine blk_alloc ?_ _)); refine blk_put (cs := #[.int .i64 ((rd_T71 l2 x7_1).f0), .int .i64 0]) ?_ 1 _ rfl; (with_reducible repeat (first | refine blk_drewN ?_ _ | refine blk_drew ?_ | refine blk_alloc ?_ _)); refine blk_put (cs := #[.int .i64 0, .int .i64 0]) ?_ 0 _ rfl; (with_reducible repeat (first | refine blk_drewN ?_ _ | refine blk_drew ?_ | refine blk_alloc ?_ _)); exact BK146.out⟩, ⟨by repeat (first | (with_reducible first | exact HB.out | apply below_alloc | apply pw_below_drewN | apply below_drew1 | refine below_set ?_ GE146.out) | exact HB.out)⟩⟩
                · rw [if_neg c13] at H
                  have c13b0 : decide (((rd_T71 l2 x7_1).f1) < 0) = false := decide_eq_false c13
                  clear c13
                  by_cases c15 : ((rd_T71 l2 x7_1).f1) ≥ (l1.length : Int)
                  · rw [if_pos c15] at H
                    have c15b0 : decide ((l1.length : Int) ≤ ((rd_T71 l2 x7_1).f1)) = true := decide_eq_true c15
                    clear c15
                    have H' := Aside0.mk H
                    clear H
                    have hcz16_0 : w7.cell? ⟨gb146, 0, none⟩ = some (.int .i64 0) := (blk_cell BK146.out 0).trans rfl
                    have hcz16_1 : w7.cell? ⟨gb146, 1, none⟩ = some (.int .i64 0) := (blk_cell BK146.out 1).trans rfl
                    have hfz16_0 := blk_frozen BK146.out 0
                    have hfz16_1 := blk_frozen BK146.out 1
                    go_wp2
                    repeat (go_quiet (fail); try go_wp2)
                    go_meet
                    case rel => exact ⟨_, (true), (by first | rfl | (simp; done) | (simp [*]; done)), H', ⟨by have := HK1.out; first | omega | exact Nat.le_refl _⟩, ⟨by (with_reducible repeat (first | refine blk_drewN ?_ _ | refine blk_drew ?_ | refine blk_alloc ?_ _)); refine blk_put (cs := #[.int .i64 ((rd_T71 l2 x7_1).f0), .int .i64 0]) ?_ 1 _ rfl; (with_reducible repeat (first | refine blk_drewN ?_ _ | refine blk_drew ?_ | refine blk_alloc ?_ _)); refine blk_put (cs := #[.int .i64 0, .int .i64 0]) ?_ 0 _ rfl; (with_reducible repeat (first | refine blk_drewN ?_ _ | refine blk_drew ?_ | refine blk_alloc ?_ _)); exact BK146.out⟩, ⟨by repeat (first | (with_reducible first | exact HB.out | apply below_alloc | apply pw_below_drewN | apply below_drew1 | refine below_set ?_ GE146.out) | exact HB.out)⟩⟩
                  · rw [if_neg c15] at H
                    have c15b0 : decide ((l1.length : Int) ≤ ((rd_T71 l2 x7_1).f1)) = false := decide_eq_false c15
                    clear c15
                    by_cases c17 : 0 ≤ ((rd_T71 l2 x7_1).f0)
                    · rw [if_pos c17] at H
                      have c17b0 : decide (0 ≤ ((rd_T71 l2 x7_1).f0)) = true := decide_eq_true c17
                      clear c17
                      by_cases c18 : ((rd_T71 l2 x7_1).f0) < (l0.length : Int)
                      · rw [if_pos c18] at H
                        have c18b0 : decide (((rd_T71 l2 x7_1).f0) < (l0.length : Int)) = true := decide_eq_true c18
                        clear c18
                        by_cases c19 : 0 ≤ ((rd_T71 l2 x7_1).f1)
                        · rw [if_pos c19] at H
                          have c19b0 : decide (0 ≤ ((rd_T71 l2 x7_1).f1)) = true := decide_eq_true c19
                          clear c19
                          by_cases c20 : ((rd_T71 l2 x7_1).f1) < (l1.length : Int)
                          · rw [if_pos c20] at H
                            have c20b0 : decide (((rd_T71 l2 x7_1).f1) < (l1.length : Int)) = true := decide_eq_true c20
                            clear c20
                            have H' := Aside0.mk H
                            clear H
                            have hcz21_0 : w7.cell? ⟨gb146, 0, none⟩ = some (.int .i64 0) := (blk_cell BK146.out 0).trans rfl
                            have hcz21_1 : w7.cell? ⟨gb146, 1, none⟩ = some (.int .i64 0) := (blk_cell BK146.out 1).trans rfl
                            have hfz21_0 := blk_frozen BK146.out 0
                            have hfz21_1 := blk_frozen BK146.out 1
                            have p147 : 0 ≤ (((rd_T71 l2 x7_1).f0) : Int) := of_decide_eq_true (by first | (with_reducible assumption) | assumption)
                            have q147 : ((rd_T71 l2 x7_1).f0) < (l0.length : Int) := of_decide_eq_true (by first | (with_reducible assumption) | assumption)
                            obtain ⟨ad147, e147, hx147_0⟩ := Kd.at_int HR0.out ((rd_T71 l2 x7_1).f0) p147 q147
                            cases e147
                            have hn147_0 : ad147.block ≠ gb146 := Nat.ne_of_lt (Nat.lt_of_lt_of_le (by have := World.block_lt_of_cell? _ _ hx147_0; first | rwa [add_block] at this | exact this) GW146.out)
                            have hn147_1 : ad147.block ≠ gb146 := Nat.ne_of_lt (Nat.lt_of_lt_of_le (by have := World.block_lt_of_cell? _ _ hx147_0; first | rwa [add_block] at this | exact this) GW146.out)
                            replace hx147_0 := (HB.out.cell (World.block_lt_of_cell? w _ hx147_0)).trans hx147_0
                            replace hx147_0 := (cell_far (p := ⟨gb146, 0, none⟩) (by first | (rw [add_block]; exact hn147_0) | (show (Addr.add _ _).block ≠ _; rw [add_block]; exact hn147_0) | exact hn147_0) (.int .i64 ((rd_T71 l2 x7_1).f0))).trans hx147_0
                            replace hx147_0 := (cell_far (p := ⟨gb146, 1, none⟩) (by first | (rw [add_block]; exact hn147_1) | (show (Addr.add _ _).block ≠ _; rw [add_block]; exact hn147_1) | exact hn147_1) (.int .i64 ((rd_T71 l2 x7_1).f1))).trans hx147_0
                            (try have hy147_0 := fun (n_ : Nat) => (show ((((w7.drewN n_).setCell ⟨gb146, 0, none⟩ (.int .i64 ((rd_T71 l2 x7_1).f0))).setCell ⟨gb146, 1, none⟩ (.int .i64 ((rd_T71 l2 x7_1).f1)))).cell? _ = some _ from hx147_0))
                            clear hn147_0
                            clear hn147_1
                            replace p147 := eq_true p147
                            replace q147 := eq_true q147
                            have p148 : 0 ≤ (((rd_T71 l2 x7_1).f1) : Int) := of_decide_eq_true (by first | (with_reducible assumption) | assumption)
                            have q148 : ((rd_T71 l2 x7_1).f1) < (l1.length : Int) := of_decide_eq_true (by first | (with_reducible assumption) | assumption)
                            obtain ⟨ad148, e148, hx148_0⟩ := Kd.at_int HR1.out ((rd_T71 l2 x7_1).f1) p148 q148
                            cases e148
                            have hn148_0 : ad148.block ≠ gb146 := Nat.ne_of_lt (Nat.lt_of_lt_of_le (by have := World.block_lt_of_cell? _ _ hx148_0; first | rwa [add_block] at this | exact this) GW146.out)
                            have hn148_1 : ad148.block ≠ gb146 := Nat.ne_of_lt (Nat.lt_of_lt_of_le (by have := World.block_lt_of_cell? _ _ hx148_0; first | rwa [add_block] at this | exact this) GW146.out)
                            replace hx148_0 := (HB.out.cell (World.block_lt_of_cell? w _ hx148_0)).trans hx148_0
                            replace hx148_0 := (cell_far (p := ⟨gb146, 0, none⟩) (by first | (rw [add_block]; exact hn148_0) | (show (Addr.add _ _).block ≠ _; rw [add_block]; exact hn148_0) | exact hn148_0) (.int .i64 ((rd_T71 l2 x7_1).f0))).trans hx148_0
                            replace hx148_0 := (cell_far (p := ⟨gb146, 1, none⟩) (by first | (rw [add_block]; exact hn148_1) | (show (Addr.add _ _).block ≠ _; rw [add_block]; exact hn148_1) | exact hn148_1) (.int .i64 ((rd_T71 l2 x7_1).f1))).trans hx148_0
                            (try have hy148_0 := fun (n_ : Nat) => (show ((((w7.drewN n_).setCell ⟨gb146, 0, none⟩ (.int .i64 ((rd_T71 l2 x7_1).f0))).setCell ⟨gb146, 1, none⟩ (.int .i64 ((rd_T71 l2 x7_1).f1)))).cell? _ = some _ from hx148_0))
                            clear hn148_0
                            clear hn148_1
                            replace p148 := eq_true p148
                            replace q148 := eq_true q148
                            go_wp2
                            repeat (go_quiet (fail); try go_wp2)
                            go_meet
                            case rel => exact ⟨_, (((rd l0 ((rd_T71 l2 x7_1).f0)) != (rd l1 ((rd_T71 l2 x7_1).f1)))), (by first | rfl | (simp; done) | (simp [*]; done)), H', ⟨by have := HK1.out; first | omega | exact Nat.le_refl _⟩, ⟨by (with_reducible repeat (first | refine blk_drewN ?_ _ | refine blk_drew ?_ | refine blk_alloc ?_ _)); refine blk_put (cs := #[.int .i64 ((rd_T71 l2 x7_1).f0), .int .i64 0]) ?_ 1 _ rfl; (with_reducible repeat (first | refine blk_drewN ?_ _ | refine blk_drew ?_ | refine blk_alloc ?_ _)); refine blk_put (cs := #[.int .i64 0, .int .i64 0]) ?_ 0 _ rfl; (with_reducible repeat (first | refine blk_drewN ?_ _ | refine blk_drew ?_ | refine blk_alloc ?_ _)); exact BK146.out⟩, ⟨by repeat (first | (with_reducible first | exact HB.out | apply below_alloc | apply pw_below_drewN | apply below_drew1 | refine below_set ?_ GE146.out) | exact HB.out)⟩⟩
                          · rw [if_neg c20] at H
                            exact absurd H (by simp)
                        · rw [if_neg c19] at H
                          exact absurd H (by simp)
                      · rw [if_neg c18] at H
                        exact absurd H (by simp)
                    · rw [if_neg c17] at H
                      exact absurd H (by simp)
          case rest =>
            clear HC6
            try clear c1
            try clear p1
            try clear q1
            try clear hx1
            try clear c2
            try clear p2
            try clear c4
            try clear c4b0
            try clear c5
            try clear c5b0
            try clear c9
            try clear c9b0
            try clear c11
            try clear c11b0
            try clear c13
            try clear c13b0
            try clear c14
            try clear p14
            try clear q14
            try clear hx14
            try clear c15
            try clear c15b0
            try clear c17
            try clear c17b0
            try clear c18
            try clear c18b0
            try clear c19
            try clear c19b0
            try clear c20
            try clear c20b0
            try clear hcz10_0
            try clear hcz10_1
            try clear hcz12_0
            try clear hcz12_1
            try clear hcz14_0
            try clear hcz14_1
            try clear hcz16_0
            try clear hcz16_1
            try clear hcz21_0
            try clear hcz21_1
            try clear hcz8_0
            try clear hcz8_1
            try clear hfz10_0
            try clear hfz10_1
            try clear hfz12_0
            try clear hfz12_1
            try clear hfz14_0
            try clear hfz14_1
            try clear hfz16_0
            try clear hfz16_1
            try clear hfz21_0
            try clear hfz21_1
            try clear hfz8_0
            try clear hfz8_1
            try clear hx145_0
            try clear hx145_1
            try clear hx147_0
            try clear hx148_0
            try clear p145
            try clear p147
            try clear p148
            try clear p2
            try clear q145
            try clear q147
            try clear q148
            obtain ⟨kq, x53_5, rfl, HA, HJ5, BK146, HB⟩ := hcut
            cases kq with
            | zero => exact absurd HA.out (by simp [tattingref7_Good.j1])
            | succ kj5 =>
              have H := HA.out
              clear HA
              simp only [tattingref7_Good.j1] at H
              by_cases c22 : x53_5 = true
              · subst c22
                have H1 : (some false) = some r := by rw [if_pos rfl] at H; exact H
                clear H
                have H := H1
                clear H1
                obtain rfl := Option.some.inj H
                go_wp2
                repeat (go_quiet (fail); try go_wp2)
                go_ret
                exact ⟨by first | rfl | (simp [errW_none, errW_some] <;> rfl) | (simp [*, errW_none, errW_some] <;> rfl), by repeat (first | (with_reducible first | exact HB.out | apply below_alloc | apply pw_below_drewN | apply below_drew1 | refine below_set ?_ GE146.out) | exact HB.out)⟩
              · replace c22 := Bool.eq_false_iff.mpr c22
                subst c22
                have H1 : (if x7_1 > 0 then (if 0 ≤ (wrap64 (x7_1 - 1)) then (if (wrap64 (x7_1 - 1)) < (l2.length : Int) then (if ((rd_T71 l2 x7_1).f0) ≤ ((rd_T71 l2 (wrap64 (x7_1 - 1))).f0) then (some false) else (if ((rd_T71 l2 x7_1).f1) ≤ ((rd_T71 l2 (wrap64 (x7_1 - 1))).f1) then (some false) else (tattingref7_Good.l0 kj5 l0 l1 l2 (wrap64 (x7_1 + 1))))) else (none)) else (none)) else (tattingref7_Good.l0 kj5 l0 l1 l2 (wrap64 (x7_1 + 1)))) = some r := by rw [if_neg (show ¬ (false = true) by decide)] at H; exact H
                clear H
                have H := H1
                clear H1
                by_cases c23 : x7_1 > 0
                · rw [if_pos c23] at H
                  have c23b0 : decide (0 < x7_1) = true := decide_eq_true c23
                  clear c23
                  obtain ⟨ji24, hji24⟩ : ∃ j_ : Int, (wrap64 (x7_1 - 1)) = j_ := ⟨_, rfl⟩
                  replace H : (if 0 ≤ (ji24) then (if (ji24) < (l2.length : Int) then (if ((rd_T71 l2 x7_1).f0) ≤ ((rd_T71 l2 (ji24)).f0) then (some false) else (if ((rd_T71 l2 x7_1).f1) ≤ ((rd_T71 l2 (ji24)).f1) then (some false) else (tattingref7_Good.l0 kj5 l0 l1 l2 (wrap64 (x7_1 + 1))))) else (none)) else (none)) = some r := by first | (rw [hji24] at H; exact H) | (simp only [hji24] at H ⊢; exact H)
                  have hji24w : (IntKind.i64.wrap (x7_1 - 1)) = ji24 := (i64_w _).trans hji24
                  by_cases c25 : 0 ≤ (ji24)
                  · rw [if_pos c25] at H
                    have c25b0 : decide (0 ≤ (ji24)) = true := decide_eq_true c25
                    clear c25
                    by_cases c26 : (ji24) < (l2.length : Int)
                    · rw [if_pos c26] at H
                      have c26b0 : decide ((ji24) < (l2.length : Int)) = true := decide_eq_true c26
                      clear c26
                      by_cases c27 : ((rd_T71 l2 x7_1).f0) ≤ ((rd_T71 l2 (ji24)).f0)
                      · rw [if_pos c27] at H
                        have c27b0 : decide (((rd_T71 l2 x7_1).f0) ≤ ((rd_T71 l2 (ji24)).f0)) = true := decide_eq_true c27
                        clear c27
                        obtain rfl := Option.some.inj H
                        have hcz28_0 : wc.cell? ⟨gb146, 0, none⟩ = some (.int .i64 ((rd_T71 l2 x7_1).f0)) := (blk_cell BK146.out 0).trans rfl
                        have hcz28_1 : wc.cell? ⟨gb146, 1, none⟩ = some (.int .i64 ((rd_T71 l2 x7_1).f1)) := (blk_cell BK146.out 1).trans rfl
                        have hfz28_0 := blk_frozen BK146.out 0
                        have hfz28_1 := blk_frozen BK146.out 1
                        have p149 : 0 ≤ ((ji24) : Int) := of_decide_eq_true (by first | (with_reducible assumption) | assumption)
                        have q149 : (ji24) < (l2.length : Int) := of_decide_eq_true (by first | (with_reducible assumption) | assumption)
                        obtain ⟨ad149, e149, hx149_0, hx149_1⟩ := at_T71 HR2.out (ji24) p149 q149
                        obtain rfl : ad145 = ad149 := (by injection e149)
                        replace hx149_0 := (HB.out.cell (World.block_lt_of_cell? w _ hx149_0)).trans hx149_0
                        replace hx149_1 := (HB.out.cell (World.block_lt_of_cell? w _ hx149_1)).trans hx149_1
                        replace p149 := eq_true p149
                        replace q149 := eq_true q149
                        go_wp2
                        repeat (go_quiet (fail); try go_wp2)
                        go_ret
                        exact ⟨by first | rfl | (simp [errW_none, errW_some] <;> rfl) | (simp only [← hji24]; first | rfl | (simp [errW_none, errW_some] <;> rfl)) | (simp [*, errW_none, errW_some] <;> rfl), by repeat (first | (with_reducible first | exact HB.out | apply below_alloc | apply pw_below_drewN | apply below_drew1 | refine below_set ?_ GE146.out) | exact HB.out)⟩
                      · rw [if_neg c27] at H
                        have c27b0 : decide (((rd_T71 l2 x7_1).f0) ≤ ((rd_T71 l2 (ji24)).f0)) = false := decide_eq_false c27
                        clear c27
                        by_cases c29 : ((rd_T71 l2 x7_1).f1) ≤ ((rd_T71 l2 (ji24)).f1)
                        · rw [if_pos c29] at H
                          have c29b0 : decide (((rd_T71 l2 x7_1).f1) ≤ ((rd_T71 l2 (ji24)).f1)) = true := decide_eq_true c29
                          clear c29
                          obtain rfl := Option.some.inj H
                          have hcz30_0 : wc.cell? ⟨gb146, 0, none⟩ = some (.int .i64 ((rd_T71 l2 x7_1).f0)) := (blk_cell BK146.out 0).trans rfl
                          have hcz30_1 : wc.cell? ⟨gb146, 1, none⟩ = some (.int .i64 ((rd_T71 l2 x7_1).f1)) := (blk_cell BK146.out 1).trans rfl
                          have hfz30_0 := blk_frozen BK146.out 0
                          have hfz30_1 := blk_frozen BK146.out 1
                          have p149 : 0 ≤ ((ji24) : Int) := of_decide_eq_true (by first | (with_reducible assumption) | assumption)
                          have q149 : (ji24) < (l2.length : Int) := of_decide_eq_true (by first | (with_reducible assumption) | assumption)
                          obtain ⟨ad149, e149, hx149_0, hx149_1⟩ := at_T71 HR2.out (ji24) p149 q149
                          obtain rfl : ad145 = ad149 := (by injection e149)
                          replace hx149_0 := (HB.out.cell (World.block_lt_of_cell? w _ hx149_0)).trans hx149_0
                          replace hx149_1 := (HB.out.cell (World.block_lt_of_cell? w _ hx149_1)).trans hx149_1
                          replace p149 := eq_true p149
                          replace q149 := eq_true q149
                          have p150 : 0 ≤ ((ji24) : Int) := of_decide_eq_true (by first | (with_reducible assumption) | assumption)
                          have q150 : (ji24) < (l2.length : Int) := of_decide_eq_true (by first | (with_reducible assumption) | assumption)
                          obtain ⟨ad150, e150, hx150_0, hx150_1⟩ := at_T71 HR2.out (ji24) p150 q150
                          obtain rfl : ad145 = ad150 := (by injection e150)
                          replace hx150_0 := (HB.out.cell (World.block_lt_of_cell? w _ hx150_0)).trans hx150_0
                          replace hx150_1 := (HB.out.cell (World.block_lt_of_cell? w _ hx150_1)).trans hx150_1
                          replace p150 := eq_true p150
                          replace q150 := eq_true q150
                          go_wp2
                          repeat (go_quiet (fail); try go_wp2)
                          go_ret
                          exact ⟨by first | rfl | (simp [errW_none, errW_some] <;> rfl) | (simp only [← hji24]; first | rfl | (simp [errW_none, errW_some] <;> rfl)) | (simp [*, errW_none, errW_some] <;> rfl), by repeat (first | (with_reducible first | exact HB.out | apply below_alloc | apply pw_below_drewN | apply below_drew1 | refine below_set ?_ GE146.out) | exact HB.out)⟩
                        · rw [if_neg c29] at H
                          have c29b0 : decide (((rd_T71 l2 x7_1).f1) ≤ ((rd_T71 l2 (ji24)).f1)) = false := decide_eq_false c29
                          clear c29
                          have H' := Aside0.mk H
                          clear H
                          have hcz31_0 : wc.cell? ⟨gb146, 0, none⟩ = some (.int .i64 ((rd_T71 l2 x7_1).f0)) := (blk_cell BK146.out 0).trans rfl
                          have hcz31_1 : wc.cell? ⟨gb146, 1, none⟩ = some (.int .i64 ((rd_T71 l2 x7_1).f1)) := (blk_cell BK146.out 1).trans rfl
                          have hfz31_0 := blk_frozen BK146.out 0
                          have hfz31_1 := blk_frozen BK146.out 1
                          have p149 : 0 ≤ ((ji24) : Int) := of_decide_eq_true (by first | (with_reducible assumption) | assumption)
                          have q149 : (ji24) < (l2.length : Int) := of_decide_eq_true (by first | (with_reducible assumption) | assumption)
                          obtain ⟨ad149, e149, hx149_0, hx149_1⟩ := at_T71 HR2.out (ji24) p149 q149
                          obtain rfl : ad145 = ad149 := (by injection e149)
                          replace hx149_0 := (HB.out.cell (World.block_lt_of_cell? w _ hx149_0)).trans hx149_0
                          replace hx149_1 := (HB.out.cell (World.block_lt_of_cell? w _ hx149_1)).trans hx149_1
                          replace p149 := eq_true p149
                          replace q149 := eq_true q149
                          have p150 : 0 ≤ ((ji24) : Int) := of_decide_eq_true (by first | (with_reducible assumption) | assumption)
                          have q150 : (ji24) < (l2.length : Int) := of_decide_eq_true (by first | (with_reducible assumption) | assumption)
                          obtain ⟨ad150, e150, hx150_0, hx150_1⟩ := at_T71 HR2.out (ji24) p150 q150
                          obtain rfl : ad145 = ad150 := (by injection e150)
                          replace hx150_0 := (HB.out.cell (World.block_lt_of_cell? w _ hx150_0)).trans hx150_0
                          replace hx150_1 := (HB.out.cell (World.block_lt_of_cell? w _ hx150_1)).trans hx150_1
                          replace p150 := eq_true p150
                          replace q150 := eq_true q150
                          go_wp2
                          repeat (go_quiet (fail); try go_wp2)
                          go_roundg kj5
                          case measure => have := HK1.out; have := HJ5.out; omega
                          case rel => exact ⟨(wrap64 (x7_1 + 1)), (by first | rfl | (simp; done) | (simp [*]; done)), H', ⟨by have := HK1.out; have := HJ5.out; omega⟩, ⟨by repeat (first | (with_reducible first | exact HB.out | apply below_alloc | apply pw_below_drewN | apply below_drew1 | refine below_set ?_ GE146.out) | exact HB.out)⟩⟩
                    · rw [if_neg c26] at H
                      exact absurd H (by simp)
                  · rw [if_neg c25] at H
                    exact absurd H (by simp)
                · rw [if_neg c23] at H
                  have c23b0 : decide (0 < x7_1) = false := decide_eq_false c23
                  clear c23
                  have H' := Aside0.mk H
                  clear H
                  go_wp2
                  repeat (go_quiet (fail); try go_wp2)
                  go_roundg kj5
                  case measure => have := HK1.out; have := HJ5.out; omega
                  case rel => exact ⟨(wrap64 (x7_1 + 1)), (by first | rfl | (simp; done) | (simp [*]; done)), H', ⟨by have := HK1.out; have := HJ5.out; omega⟩, ⟨by repeat (first | (with_reducible first | exact HB.out | apply below_alloc | apply pw_below_drewN | apply below_drew1 | refine below_set ?_ GE146.out) | exact HB.out)⟩⟩
        · rw [if_neg c5] at H
          exact absurd H (by simp)
      · rw [if_neg c4] at H
        have c4b0 : decide (x7_1 < (l2.length : Int)) = false := decide_eq_false c4
        clear c4
        obtain rfl := Option.some.inj H
        go_wp2
        repeat (go_quiet (fail); try go_wp2)
        go_ret
        exact ⟨by first | rfl | (simp [errW_none, errW_some] <;> rfl) | (simp [*, errW_none, errW_some] <;> rfl), by repeat (first | (with_reducible first | exact HB.out | apply below_alloc | apply pw_below_drewN | apply below_drew1) | exact HB.out)⟩
/-! ### tattingref1_SamePairs: function 15 -/
def tattingref1_SamePairs.l0 : Nat → List (S71) → List (S71) → Int → Option (Bool)
  | 0, _, _, _ => none
  | k + 1, x0, x1, x5 => if x5 < (x0.length : Int) then (if 0 ≤ x5 then (if x5 < (x1.length : Int) then (if (!(((rd_T71 x0 x5).f0) == ((rd_T71 x1 x5).f0)) || (!(((rd_T71 x0 x5).f1) == ((rd_T71 x1 x5).f1)))) = true then (some false) else (tattingref1_SamePairs.l0 k x0 x1 (wrap64 (x5 + 1)))) else (none)) else (none)) else (some true)
def tattingref1_SamePairs.f (k : Nat) (l0 : List (S71)) (l1 : List (S71)) : Option (Bool) := if (l0.length : Int) = (l1.length : Int) then (tattingref1_SamePairs.l0 k l0 l1 0) else (some false)
theorem tattingref1_SamePairs.mono_l : ∀ k, (∀ y0 y1 y2, LeO (tattingref1_SamePairs.l0 k y0 y1 y2) (tattingref1_SamePairs.l0 (k + 1) y0 y1 y2))
  | 0 => fun _ _ _ r h => by simp [tattingref1_SamePairs.l0] at h
  | k + 1 => by
    have ih0 := tattingref1_SamePairs.mono_l k
    · intro y0 y1 y2
      unfold tattingref1_SamePairs.l0
      repeat' first
      | (with_reducible exact ih0 _ _ _)
      | (with_reducible exact LeO.refl _)
      | (with_reducible exact LeO.none _)
      | (with_reducible refine LeO.ite ?_ ?_)
      | (with_reducible refine LeO.bind ?_ (fun _ => ?_))
      | exact ih0 _ _ _
      | exact LeO.none _
      | refine LeO.ite ?_ ?_
      | refine LeO.bind ?_ (fun _ => ?_)
theorem tattingref1_SamePairs.mono : ∀ a0 a1 k, LeO (tattingref1_SamePairs.f k a0 a1) (tattingref1_SamePairs.f (k + 1) a0 a1) := by
  intro a0 a1 k
  have ih0 := tattingref1_SamePairs.mono_l k
  unfold tattingref1_SamePairs.f
  repeat' first
      | (with_reducible exact ih0 _ _ _)
      | (with_reducible exact LeO.refl _)
      | (with_reducible exact LeO.none _)
      | (with_reducible refine LeO.ite ?_ ?_)
      | (with_reducible refine LeO.bind ?_ (fun _ => ?_))
      | exact ih0 _ _ _
      | exact LeO.none _
      | refine LeO.ite ?_ ?_
      | refine LeO.bind ?_ (fun _ => ?_)
set_option maxHeartbeats 8000000 in
set_option maxRecDepth 100000 in
theorem tattingref1_SamePairs.calls (k : Nat) (A0 : Option Addr) (c0 : Nat) (l0 : List (S71)) (A1 : Option Addr) (c1 : Nat) (l1 : List (S71)) (r : Bool) (w : World) (hr0 : Kd.C k71 w A0 l0.length l0) (hc0 : l0.length ≤ c0) (hr1 : Kd.C k71 w A1 l1.length l1) (hc1 : l1.length ≤ c1) (h : tattingref1_SamePairs.f k l0 l1 = some r) :
    Calls Tryz.prog 15 #[.slice A0 l0.length c0, .slice A1 l1.length c1] w fun e w' => e = .returned (.bool r) ∧ Drawn0 w w' := by
  have hu71 := Tryz.underlying71
  have HR0 := Aside0.mk hr0
  have HC0 := Aside0.mk hc0
  clear hr0 hc0
  have HR1 := Aside0.mk hr1
  have HC1 := Aside0.mk hc1
  clear hr1 hc1
  have H : (if (l0.length : Int) = (l1.length : Int) then (tattingref1_SamePairs.l0 k l0 l1 0) else (some false)) = some r := h
  clear h
  by_cases c3 : (l0.length : Int) = (l1.length : Int)
  · rw [if_pos c3] at H
    have c3b0 : ((l0.length : Int) == (l1.length : Int)) = true := beq_iff_eq.mpr c3
    have c3b1 : ((l0.length : Int) != (l1.length : Int)) = false := bne_eq_false_iff_eq.mpr c3
    have c3b2 : (l0.length == l1.length) = true := by first | simpa using c3 | (simp at c3 ⊢; omega)
    clear c3
    have H' := Aside0.mk H
    clear H
    go_enter Tryz.func15, Tryz.ntmps15
    go_wp2
    repeat (go_quiet (fail); try go_wp2)
    go_loopg [5] k (fun kq v5 w' => ∃ (x5_1 : Int), v5 = .int .i64 x5_1 ∧ Aside0 (tattingref1_SamePairs.l0 kq l0 l1 x5_1 = some r) ∧ Aside0 (kq ≤ k) ∧ Drawn0 w w')
    case atStart => exact ⟨(0), (by first | rfl | (simp; done) | (simp [*]; done)), H', ⟨Nat.le_refl _⟩, by repeat (first | exact Drawn0.refl _ | apply Drawn0.step)⟩
    case round =>
      clear H'
      try clear c1
      try clear p2
      try clear c3
      try clear c3b0
      try clear c3b1
      try clear c3b2
      obtain ⟨x5_1, rfl, HA, HK1, ⟨m1, rfl⟩⟩ := hrel
      cases gk with
      | zero => exact absurd HA.out (by simp [tattingref1_SamePairs.l0])
      | succ k1 =>
        have H := HA.out
        clear HA
        simp only [tattingref1_SamePairs.l0] at H
        by_cases c4 : x5_1 < (l0.length : Int)
        · rw [if_pos c4] at H
          have c4b0 : decide (x5_1 < (l0.length : Int)) = true := decide_eq_true c4
          clear c4
          by_cases c5 : 0 ≤ x5_1
          · rw [if_pos c5] at H
            have c5b0 : decide (0 ≤ x5_1) = true := decide_eq_true c5
            clear c5
            by_cases c6 : x5_1 < (l1.length : Int)
            · rw [if_pos c6] at H
              have c6b0 : decide (x5_1 < (l1.length : Int)) = true := decide_eq_true c6
              clear c6
              by_cases c7 : (!(((rd_T71 l0 x5_1).f0) == ((rd_T71 l1 x5_1).f0)) || (!(((rd_T71 l0 x5_1).f1) == ((rd_T71 l1 x5_1).f1)))) = true
              · rw [if_pos c7] at H
                have c7b0 : (!(((rd_T71 l0 x5_1).f0) == ((rd_T71 l1 x5_1).f0)) || (!(((rd_T71 l0 x5_1).f1) == ((rd_T71 l1 x5_1).f1)))) = true := c7
                clear c7
                obtain rfl := Option.some.inj H
                have p151 : 0 ≤ (x5_1 : Int) := of_decide_eq_true (by first | (with_reducible assumption) | assumption)
                have q151 : x5_1 < (l0.length : Int) := of_decide_eq_true (by first | (with_reducible assumption) | assumption)
                obtain ⟨ad151, e151, hx151_0, hx151_1⟩ := at_T71 HR0.out x5_1 p151 q151
                cases e151
                replace p151 := eq_true p151
                replace q151 := eq_true q151
                have p152 : 0 ≤ (x5_1 : Int) := of_decide_eq_true (by first | (with_reducible assumption) | assumption)
                have q152 : x5_1 < (l1.length : Int) := of_decide_eq_true (by first | (with_reducible assumption) | assumption)
                obtain ⟨ad152, e152, hx152_0, hx152_1⟩ := at_T71 HR1.out x5_1 p152 q152
                cases e152
                replace p152 := eq_true p152
                replace q152 := eq_true q152
                go_wp2
                repeat (go_quiet (fail); try go_wp2)
                go_ret
                exact ⟨by first | rfl | (simp; done) | (simp [*]; done), by repeat (first | exact Drawn0.refl _ | apply Drawn0.step)⟩
              · rw [if_neg c7] at H
                have c7b0 : (!(((rd_T71 l0 x5_1).f0) == ((rd_T71 l1 x5_1).f0)) || (!(((rd_T71 l0 x5_1).f1) == ((rd_T71 l1 x5_1).f1)))) = false := by simpa using c7
                clear c7
                have H' := Aside0.mk H
                clear H
                have p151 : 0 ≤ (x5_1 : Int) := of_decide_eq_true (by first | (with_reducible assumption) | assumption)
                have q151 : x5_1 < (l0.length : Int) := of_decide_eq_true (by first | (with_reducible assumption) | assumption)
                obtain ⟨ad151, e151, hx151_0, hx151_1⟩ := at_T71 HR0.out x5_1 p151 q151
                cases e151
                replace p151 := eq_true p151
                replace q151 := eq_true q151
                have p152 : 0 ≤ (x5_1 : Int) := of_decide_eq_true (by first | (with_reducible assumption) | assumption)
                have q152 : x5_1 < (l1.length : Int) := of_decide_eq_true (by first | (with_reducible assumption) | assumption)
                obtain ⟨ad152, e152, hx152_0, hx152_1⟩ := at_T71 HR1.out x5_1 p152 q152
                cases e152
                replace p152 := eq_true p152
                replace q152 := eq_true q152
                go_wp2
                repeat (go_quiet (fail); try go_wp2)
                go_roundg k1
                case measure => have := HK1.out; omega
                case rel => exact ⟨(wrap64 (x5_1 + 1)), (by first | rfl | (simp; done) | (simp [*]; done)), H', ⟨by have := HK1.out; omega⟩, by repeat (first | exact Drawn0.refl _ | apply Drawn0.step)⟩
            · rw [if_neg c6] at H
              exact absurd H (by simp)
          · rw [if_neg c5] at H
            exact absurd H (by simp)
        · rw [if_neg c4] at H
          have c4b0 : decide (x5_1 < (l0.length : Int)) = false := decide_eq_false c4
          clear c4
          obtain rfl := Option.some.inj H
          go_wp2
          repeat (go_quiet (fail); try go_wp2)
          go_ret
          exact ⟨by first | rfl | (simp; done) | (simp [*]; done), by repeat (first | exact Drawn0.refl _ | apply Drawn0.step)⟩
  · rw [if_neg c3] at H
    have c3b0 : ((l0.length : Int) == (l1.length : Int)) = false := beq_eq_false_iff_ne.mpr c3
    have c3b1 : ((l0.length : Int) != (l1.length : Int)) = true := bne_iff_ne.mpr c3
    have c3b2 : (l0.length == l1.length) = false := by first | simpa using c3 | (simp at c3 ⊢; omega)
    obtain rfl := Option.some.inj H
    go_enter Tryz.func15, Tryz.ntmps15
    go_wp2
    repeat (go_quiet (fail); try go_wp2)
    go_ret
    exact ⟨by first | rfl | (simp; done) | (simp [*]; done), by repeat (first | exact Drawn0.refl _ | apply Drawn0.step)⟩
/-! ### hyyro_Rows: function 28 -/
def hyyro_Rows.f (l0 : List Int) (l1 : List Int) : Option (List (List Int)) := if l0.length ≤ 1000000 ∧ l1.length ≤ 1000000 ∧ l0.all (fun x => (Lit.int .i64 x).wf) = true ∧ l1.all (fun x => (Lit.int .i64 x).wf) = true then some (Go.Proofs.YtjkjanegankdhaaGreat.Vx.Vec.rows Go.Proofs.YtjkjanegankdhaaGreat.Vx.Vec.hyRow l0 l1 l0.length) else none
theorem hyyro_Rows.calls (A0 : Option Addr) (c0 : Nat) (l0 : List Int) (A1 : Option Addr) (c1 : Nat) (l1 : List Int) (r : List (List Int)) (w : World) (hr0 : Kd.C (Kd.int .i64) w A0 l0.length l0) (hc0 : l0.length ≤ c0) (hr1 : Kd.C (Kd.int .i64) w A1 l1.length l1) (hc1 : l1.length ≤ c1) (h : hyyro_Rows.f l0 l1 = some r) :
    Calls Tryz.prog 28 #[.slice A0 l0.length c0, .slice A1 l1.length c1] w fun e w' => ∃ v0_ : Value, e = .returned (v0_) ∧ Kd.S (Kd.slice 104 (Kd.int .u64)) 62 w' w.heap.size (fun _ => True) v0_ r ∧ Below w.heap.size w w' := by
  unfold hyyro_Rows.f at h
  by_cases c : l0.length ≤ 1000000 ∧ l1.length ≤ 1000000 ∧ l0.all (fun x => (Lit.int .i64 x).wf) = true ∧ l1.all (fun x => (Lit.int .i64 x).wf) = true
  · rw [if_pos c] at h
    obtain rfl := Option.some.inj h
    obtain ⟨q0, q1, q2, q3⟩ := c
    exact Go.Proofs.YtjkjanegankdhaaGreat.Vx.Vec.hyRows_calls A0 c0 l0 A1 c1 l1 w hr0 hr1 hc1 q0 q1 (List.all_eq_true.mp q2) (List.all_eq_true.mp q3)
  · rw [if_neg c] at h
    exact absurd h (by simp)
/-! ### croch_Rows: function 29 -/
def croch_Rows.f (l0 : List Int) (l1 : List Int) : Option (List (List Int)) := if l0.length ≤ 1000000 ∧ l1.length ≤ 1000000 ∧ l0.all (fun x => (Lit.int .i64 x).wf) = true ∧ l1.all (fun x => (Lit.int .i64 x).wf) = true then some (Go.Proofs.YtjkjanegankdhaaGreat.Vx.Vec.rows Go.Proofs.YtjkjanegankdhaaGreat.Vx.Vec.crRow l0 l1 l0.length) else none
theorem croch_Rows.calls (A0 : Option Addr) (c0 : Nat) (l0 : List Int) (A1 : Option Addr) (c1 : Nat) (l1 : List Int) (r : List (List Int)) (w : World) (hr0 : Kd.C (Kd.int .i64) w A0 l0.length l0) (hc0 : l0.length ≤ c0) (hr1 : Kd.C (Kd.int .i64) w A1 l1.length l1) (hc1 : l1.length ≤ c1) (h : croch_Rows.f l0 l1 = some r) :
    Calls Tryz.prog 29 #[.slice A0 l0.length c0, .slice A1 l1.length c1] w fun e w' => ∃ v0_ : Value, e = .returned (v0_) ∧ Kd.S (Kd.slice 104 (Kd.int .u64)) 62 w' w.heap.size (fun _ => True) v0_ r ∧ Below w.heap.size w w' := by
  unfold croch_Rows.f at h
  by_cases c : l0.length ≤ 1000000 ∧ l1.length ≤ 1000000 ∧ l0.all (fun x => (Lit.int .i64 x).wf) = true ∧ l1.all (fun x => (Lit.int .i64 x).wf) = true
  · rw [if_pos c] at h
    obtain rfl := Option.some.inj h
    obtain ⟨q0, q1, q2, q3⟩ := c
    exact Go.Proofs.YtjkjanegankdhaaGreat.Vx.Vec.crRows_calls A0 c0 l0 A1 c1 l1 w hr0 hr1 hc1 q0 q1 (List.all_eq_true.mp q2) (List.all_eq_true.mp q3)
  · rw [if_neg c] at h
    exact absurd h (by simp)
/-! ### croch_is: function 81 -/
def croch_is.f (a0 : Int) : Option (Bool) := if a0 ≥ 0 then (some (decide (a0 ≤ 1048576))) else (some false)
set_option maxHeartbeats 8000000 in
set_option maxRecDepth 100000 in
theorem croch_is.calls (a0 : Int) (r : Bool) (w : World) (h : croch_is.f a0 = some r) :
    Calls Tryz.prog 81 #[.int .i64 a0] w fun e w' => e = .returned (.bool r) ∧ Drawn0 w w' := by
  have H : (if a0 ≥ 0 then (some (decide (a0 ≤ 1048576))) else (some false)) = some r := h
  clear h
  by_cases c2 : a0 ≥ 0
  · rw [if_pos c2] at H
    have c2b0 : decide (0 ≤ a0) = true := decide_eq_true c2
    clear c2
    obtain rfl := Option.some.inj H
    go_enter Tryz.func81, Tryz.ntmps81
    go_wp2
    go_ret
    exact ⟨by first | rfl | (simp; done) | (simp [*]; done), by repeat (first | exact Drawn0.refl _ | apply Drawn0.step)⟩
  · rw [if_neg c2] at H
    have c2b0 : decide (0 ≤ a0) = false := decide_eq_false c2
    clear c2
    obtain rfl := Option.some.inj H
    go_enter Tryz.func81, Tryz.ntmps81
    go_wp2
    go_ret
    exact ⟨by first | rfl | (simp; done) | (simp [*]; done), by repeat (first | exact Drawn0.refl _ | apply Drawn0.step)⟩
end Go.Proofs.YtjkjanegankdhaaGreat.PTopWords
