/- Words of the printer, those that are used. -/
import Derived.Test.YtpdjdffimighkaaZPRussSidesx0
import Derived.Test.YtpdjdffimighkaaZHRx
namespace Go.Proofs.Ytpdjdffimighkaa.PRussSides
open Go.RowKit Go.Proofs.YtpdjdffimighkaaW.PrintWords Go.Proofs.YtpdjdffimighkaaW.PrintLast Go.Proofs.YtpdjdffimighkaaW.PrintMore
attribute [local go_sem] max2_int min2_int max_two min_two max_three min_three max_four min_four   -- for this text's walks alone
set_option linter.unusedVariables false
set_option linter.unusedSimpArgs false
/-! ### tattingref1_Few: function 12 -/
def tattingref1_Few.l0 : Nat → List Int → Int → List Int → Int → Option (List Int)
  | 0, _, _, _, _ => none
  | k + 1, x0, x1, x5, x6 => if x6 < (x0.length : Int) then (if 0 ≤ x6 then (if x1 = 0 then (none) else (if (Int.tmod (rd x0 x6) x1) < 0 then (if x5.length < 17592186044416 then (tattingref1_Few.l0 k x0 x1 (x5 ++ [wrap64 ((Int.tmod (rd x0 x6) x1) + x1)]) (wrap64 (x6 + 1))) else (none)) else (if x5.length < 17592186044416 then (tattingref1_Few.l0 k x0 x1 (x5 ++ [Int.tmod (rd x0 x6) x1]) (wrap64 (x6 + 1))) else (none)))) else (none)) else (some x5)
def tattingref1_Few.f (k : Nat) (l0 : List Int) (a1 : Int) : Option (List Int) := tattingref1_Few.l0 k l0 a1 ([] : List Int) 0
theorem tattingref1_Few.mono_l : ∀ k, (∀ y0 y1 y2 y3, LeO (tattingref1_Few.l0 k y0 y1 y2 y3) (tattingref1_Few.l0 (k + 1) y0 y1 y2 y3))
  | 0 => fun _ _ _ _ r h => by simp [tattingref1_Few.l0] at h
  | k + 1 => by
    have ih0 := tattingref1_Few.mono_l k
    · intro y0 y1 y2 y3
      unfold tattingref1_Few.l0
      repeat' first
      | (with_reducible exact ih0 _ _ _ _)
      | (with_reducible exact LeO.refl _)
      | (with_reducible exact LeO.none _)
      | (with_reducible refine LeO.ite ?_ ?_)
      | (with_reducible refine LeO.bind ?_ (fun _ => ?_))
      | exact ih0 _ _ _ _
      | exact LeO.none _
      | refine LeO.ite ?_ ?_
      | refine LeO.bind ?_ (fun _ => ?_)
theorem tattingref1_Few.mono : ∀ a0 a1 k, LeO (tattingref1_Few.f k a0 a1) (tattingref1_Few.f (k + 1) a0 a1) := by
  intro a0 a1 k
  have ih0 := tattingref1_Few.mono_l k
  unfold tattingref1_Few.f
  repeat' first
      | (with_reducible exact ih0 _ _ _ _)
      | (with_reducible exact LeO.refl _)
      | (with_reducible exact LeO.none _)
      | (with_reducible refine LeO.ite ?_ ?_)
      | (with_reducible refine LeO.bind ?_ (fun _ => ?_))
      | exact ih0 _ _ _ _
      | exact LeO.none _
      | refine LeO.ite ?_ ?_
      | refine LeO.bind ?_ (fun _ => ?_)
set_option maxHeartbeats 8000000 in
set_option maxRecDepth 100000 in
theorem tattingref1_Few.calls (k : Nat) (A0 : Option Addr) (c0 : Nat) (l0 : List Int) (a1 : Int) (r : List Int) (w : World) (hr0 : Kd.C (Kd.int .i64) w A0 l0.length l0) (hc0 : l0.length ≤ c0) (h : tattingref1_Few.f k l0 a1 = some r) :
    Calls Try.prog 12 #[.slice A0 l0.length c0, .int .i64 a1] w fun e w' => ∃ v0_ : Value, e = .returned (v0_) ∧ Kd.R (Kd.int .i64) 3 w' w.heap.size (fun _ => True) v0_ r ∧ Below w.heap.size w w' := by
  have HR0 := Aside0.mk hr0
  have HC0 := Aside0.mk hc0
  clear hr0 hc0
  have HB := Aside0.mk (Below.refl w.heap.size w)
  have H : (tattingref1_Few.l0 k l0 a1 ([] : List Int) 0) = some r := h
  clear h
  have H' := Aside0.mk H
  clear H
  go_enter Try.func12, Try.ntmps12
  go_wp2
  go_loopg [5, 6] k (fun kq v5 v6 w' => ∃ (x5_1 : List Int) (x6_1 : Int), v6 = .int .i64 x6_1 ∧ Aside0 (tattingref1_Few.l0 kq l0 a1 x5_1 x6_1 = some r) ∧ Aside0 (kq ≤ k) ∧ Aside0 (Kd.R (Kd.int .i64) 3 w' w.heap.size (fun _ => True) v5 x5_1) ∧ Aside0 (Below w.heap.size w w'))
  case atStart => exact ⟨(([] : List Int)), (0), (by first | rfl | (simp; done) | (simp [*]; done)), H', ⟨Nat.le_refl _⟩, ⟨by first | exact Kd.R_nil _ _ _ _ _ | exact Kd.N_nil _ _ _ _ _ | exact Kd.V_nil _ _ _ _ _ | exact Kd.Q_nil _ _ _ _ _ | exact Kd.S_nil _ _ _ _ _⟩, ⟨by repeat (first | (with_reducible first | exact HB.out | apply below_alloc | apply pw_below_drewN | apply below_drew1) | exact HB.out)⟩⟩
  case round =>
    clear H'
    try clear c1
    try clear p2
    obtain ⟨x5_1, x6_1, rfl, HA, HK1, HO_5, HB⟩ := hrel
    cases gk with
    | zero => exact absurd HA.out (by simp [tattingref1_Few.l0])
    | succ k1 =>
      have H := HA.out
      clear HA
      simp only [tattingref1_Few.l0] at H
      by_cases c3 : x6_1 < (l0.length : Int)
      · rw [if_pos c3] at H
        have c3b0 : decide (x6_1 < (l0.length : Int)) = true := decide_eq_true c3
        clear c3
        by_cases c4 : 0 ≤ x6_1
        · rw [if_pos c4] at H
          have c4b0 : decide (0 ≤ x6_1) = true := decide_eq_true c4
          clear c4
          by_cases c5 : a1 = 0
          · rw [if_pos c5] at H
            exact absurd H (by simp)
          · rw [if_neg c5] at H
            have c5b0 : (a1 == 0) = false := beq_eq_false_iff_ne.mpr c5
            have c5b1 : (a1 != 0) = true := bne_iff_ne.mpr c5
            by_cases c6 : (Int.tmod (rd l0 x6_1) a1) < 0
            · rw [if_pos c6] at H
              have c6b0 : decide ((Int.tmod (rd l0 x6_1) a1) < 0) = true := decide_eq_true c6
              clear c6
              by_cases c7 : x5_1.length < 17592186044416
              · rw [if_pos c7] at H
                have LMc7 := Aside0.mk c7
                clear c7
                obtain ⟨y145, hy145⟩ : ∃ y_ : List Int, y_ = (x5_1 ++ [wrap64 ((Int.tmod (rd l0 x6_1) a1) + a1)]) := ⟨_, rfl⟩
                replace H : (tattingref1_Few.l0 k1 l0 a1 y145 (wrap64 (x6_1 + 1))) = some r := by first | (rw [hy145]; with_reducible exact H) | (have H2_ := (Option.bind_some _ _).symm.trans H; rw [hy145]; with_reducible exact H2_) | (have H2_ := (Option.bind_some _ _).symm.trans H; with_reducible exact H2_) | with_reducible exact H | (rw [hy145]; exact H) | exact H
                have Ny145 := Aside0.mk hy145
                clear hy145
                have H' := Aside0.mk H
                clear H
                have p144 : 0 ≤ (x6_1 : Int) := of_decide_eq_true (by first | (with_reducible assumption) | assumption)
                have q144 : x6_1 < (l0.length : Int) := of_decide_eq_true (by first | (with_reducible assumption) | assumption)
                obtain ⟨ad144, e144, hx144_0⟩ := Kd.at_int HR0.out x6_1 p144 q144
                cases e144
                replace hx144_0 := (HB.out.cell (World.block_lt_of_cell? w _ hx144_0)).trans hx144_0
                replace p144 := eq_true p144
                replace q144 := eq_true q144
                go_wp2_with (first | ((with_reducible refine gate_builtin (b := .append) (xs := #[.tmp 25, .tmp 27]) rfl ?_); at_builtin; refine Kd.R_append (Kd.int .i64) (w0 := w) w.heap.size rfl (.tmp 25) (.tmp 27) 31 3 (.int .i64 0) 8 rfl Try.underlying31 info3 rfl (by decide) (by omega) u5 x5_1 (wrap64 ((Int.tmod (rd l0 x6_1) a1) + a1)) [.int .i64 (wrap64 ((Int.tmod (rd l0 x6_1) a1) + a1))] (fun _ => True) (fun _ => False) rfl rfl ?aP (fun _ hk => hk.elim) ?aF ?aO ?aB ?aS ?aL ?_; (case aP => exact rfl); (case aB => exact (by repeat (first | (with_reducible first | exact HB.out | apply below_alloc | apply pw_below_drewN | apply below_drew1) | exact HB.out))); (case aF => exact (fun _ _ => trivial)); (case aO => exact (by (with_reducible repeat (first | apply Kd.R_alloc | apply Kd.R_drewN | apply Kd.R_drew)); exact HO_5.out)); (case aS => exact (below_size (by repeat (first | (with_reducible first | exact HB.out | apply below_alloc | apply pw_below_drewN | apply below_drew1) | exact HB.out)))); (case aL => have := LMc7.out; omega); intro v146 w8 ho hb hg hat; rw [← Ny145.out] at ho; have n0_ := Aside0.mk (hb); have n1_ := Aside0.mk (ho); clear HB; clear HO_5; have HB := n0_; have HO147 := n1_; clear n0_ n1_; clear ho hb hg hat))
                go_roundg k1
                case measure => have := HK1.out; omega
                case rel => exact ⟨(y145), (wrap64 (x6_1 + 1)), (by first | rfl | (simp; done) | (simp [*]; done)), H', ⟨by have := HK1.out; omega⟩, ⟨by (with_reducible repeat (first | apply Kd.R_alloc | apply Kd.R_drewN | apply Kd.R_drew)); exact HO147.out⟩, ⟨by repeat (first | (with_reducible first | exact HB.out | apply below_alloc | apply pw_below_drewN | apply below_drew1) | exact HB.out)⟩⟩
              · rw [if_neg c7] at H
                exact absurd H (by simp)
            · rw [if_neg c6] at H
              have c6b0 : decide ((Int.tmod (rd l0 x6_1) a1) < 0) = false := decide_eq_false c6
              clear c6
              by_cases c9 : x5_1.length < 17592186044416
              · rw [if_pos c9] at H
                have LMc9 := Aside0.mk c9
                clear c9
                obtain ⟨y148, hy148⟩ : ∃ y_ : List Int, y_ = (x5_1 ++ [Int.tmod (rd l0 x6_1) a1]) := ⟨_, rfl⟩
                replace H : (tattingref1_Few.l0 k1 l0 a1 y148 (wrap64 (x6_1 + 1))) = some r := by first | (rw [hy148]; with_reducible exact H) | (have H2_ := (Option.bind_some _ _).symm.trans H; rw [hy148]; with_reducible exact H2_) | (have H2_ := (Option.bind_some _ _).symm.trans H; with_reducible exact H2_) | with_reducible exact H | (rw [hy148]; exact H) | exact H
                have Ny148 := Aside0.mk hy148
                clear hy148
                have H' := Aside0.mk H
                clear H
                have p144 : 0 ≤ (x6_1 : Int) := of_decide_eq_true (by first | (with_reducible assumption) | assumption)
                have q144 : x6_1 < (l0.length : Int) := of_decide_eq_true (by first | (with_reducible assumption) | assumption)
                obtain ⟨ad144, e144, hx144_0⟩ := Kd.at_int HR0.out x6_1 p144 q144
                cases e144
                replace hx144_0 := (HB.out.cell (World.block_lt_of_cell? w _ hx144_0)).trans hx144_0
                replace p144 := eq_true p144
                replace q144 := eq_true q144
                go_wp2_with (first | ((with_reducible refine gate_builtin (b := .append) (xs := #[.tmp 25, .tmp 27]) rfl ?_); at_builtin; refine Kd.R_append (Kd.int .i64) (w0 := w) w.heap.size rfl (.tmp 25) (.tmp 27) 31 3 (.int .i64 0) 8 rfl Try.underlying31 info3 rfl (by decide) (by omega) u5 x5_1 (Int.tmod (rd l0 x6_1) a1) [.int .i64 (Int.tmod (rd l0 x6_1) a1)] (fun _ => True) (fun _ => False) rfl rfl ?aP (fun _ hk => hk.elim) ?aF ?aO ?aB ?aS ?aL ?_; (case aP => exact rfl); (case aB => exact (by repeat (first | (with_reducible first | exact HB.out | apply below_alloc | apply pw_below_drewN | apply below_drew1) | exact HB.out))); (case aF => exact (fun _ _ => trivial)); (case aO => exact (by (with_reducible repeat (first | apply Kd.R_alloc | apply Kd.R_drewN | apply Kd.R_drew)); exact HO_5.out)); (case aS => exact (below_size (by repeat (first | (with_reducible first | exact HB.out | apply below_alloc | apply pw_below_drewN | apply below_drew1) | exact HB.out)))); (case aL => have := LMc9.out; omega); intro v149 w10 ho hb hg hat; rw [← Ny148.out] at ho; have n0_ := Aside0.mk (hb); have n1_ := Aside0.mk (ho); clear HB; clear HO_5; have HB := n0_; have HO150 := n1_; clear n0_ n1_; clear ho hb hg hat))
                go_roundg k1
                case measure => have := HK1.out; omega
                case rel => exact ⟨(y148), (wrap64 (x6_1 + 1)), (by first | rfl | (simp; done) | (simp [*]; done)), H', ⟨by have := HK1.out; omega⟩, ⟨by (with_reducible repeat (first | apply Kd.R_alloc | apply Kd.R_drewN | apply Kd.R_drew)); exact HO150.out⟩, ⟨by repeat (first | (with_reducible first | exact HB.out | apply below_alloc | apply pw_below_drewN | apply below_drew1) | exact HB.out)⟩⟩
              · rw [if_neg c9] at H
                exact absurd H (by simp)
        · rw [if_neg c4] at H
          exact absurd H (by simp)
      · rw [if_neg c3] at H
        have c3b0 : decide (x6_1 < (l0.length : Int)) = false := decide_eq_false c3
        clear c3
        obtain rfl := Option.some.inj H
        go_wp2
        go_ret
        exact ⟨_, by first | rfl | (simp [errW_none, errW_some] <;> rfl) | (simp [*, errW_none, errW_some] <;> rfl), by (with_reducible repeat (first | apply Kd.R_alloc | apply Kd.R_drewN | apply Kd.R_drew)); exact HO_5.out, by repeat (first | (with_reducible first | exact HB.out | apply below_alloc | apply pw_below_drewN | apply below_drew1) | exact HB.out)⟩
/-! ### tattinglaw14_RussSides: function 6 -/
open Go.Proofs.Ytpdjdffimighkaa.Tile
/-- The numbers brought to a few. -/
def fewOf (l : List Int) (n : Int) : List Int := l.map (· % n)
theorem fewOf_length (l : List Int) (n : Int) : (fewOf l n).length = l.length := by unfold fewOf; rw [List.length_map]
theorem fewOf_range (l : List Int) (n : Int) (hn : 0 < n) : ∀ x ∈ fewOf l n, 0 ≤ x ∧ x < n := by
  intro x hx
  unfold fewOf at hx
  obtain ⟨y, _, rfl⟩ := List.mem_map.mp hx
  exact ⟨Int.emod_nonneg y (by omega), Int.emod_lt_of_pos y hn⟩
theorem tmod_emod (x n : Int) (hn : 0 < n) : (if Int.tmod x n < 0 then Int.tmod x n + n else Int.tmod x n) = x % n := by
  have h0 := Int.emod_nonneg x (show n ≠ 0 by omega)
  have h1 := Int.emod_lt_of_pos x hn
  have h := Int.tmod_eq_emod (a := x) (b := n)
  by_cases c : 0 ≤ x ∨ n ∣ x
  · rw [if_pos c] at h; rw [if_neg (by omega)]; omega
  · rw [if_neg c] at h; rw [if_pos (by omega)]; omega
theorem few_l0 (l : List Int) (n : Int) (hn : 0 < n) (hn' : n ≤ 1000000) (hl : l.length ≤ 1000000) (d : Nat) : ∀ (k i : Nat) (out : List Int), i + d = l.length → d < k → out.length = i → tattingref1_Few.l0 k l n out (i : Int) = some (out ++ fewOf (l.drop i) n) := by
  induction d with
  | zero =>
    intro k i out hi hk ho
    obtain ⟨k, rfl⟩ := round hk
    simp only [tattingref1_Few.l0]
    rw [if_neg (by omega), List.drop_eq_nil_of_le (by omega)]
    simp [fewOf]
  | succ d ih =>
    intro k i out hi hk ho
    obtain ⟨k, rfl⟩ := round hk
    simp only [tattingref1_Few.l0]
    rw [if_pos (by omega), if_pos (by omega), if_neg (by omega), drop_rd l (by omega)]
    have h := tmod_emod (rd l (i : Int)) n hn
    have h0 := Int.emod_nonneg (rd l (i : Int)) (show n ≠ 0 by omega)
    have h1 := Int.emod_lt_of_pos (rd l (i : Int)) hn
    have e : fewOf (rd l (i : Int) :: l.drop (i + 1)) n = (rd l (i : Int) % n) :: fewOf (l.drop (i + 1)) n := rfl
    rw [e]
    by_cases c : Int.tmod (rd l (i : Int)) n < 0
    · rw [if_pos c] at h
      rw [if_pos c, if_pos (by omega), wrap_succ (by omega), wrap_id (by omega) (by omega), h, ih k (i + 1) _ (by omega) (by omega) (by rw [List.length_append, List.length_singleton]; omega)]
      simp
    · rw [if_neg c] at h
      rw [if_neg c, if_pos (by omega), wrap_succ (by omega), h, ih k (i + 1) _ (by omega) (by omega) (by rw [List.length_append, List.length_singleton]; omega)]
      simp
theorem few (l : List Int) (n : Int) (hn : 0 < n) (hn' : n ≤ 1000000) (hl : l.length ≤ 1000000) {k : Nat} (hk : l.length < k) : tattingref1_Few.f k l n = some (fewOf l n) := by
  have h := few_l0 l n hn hn' hl l.length k 0 [] (by omega) hk rfl
  rwa [List.nil_append, List.drop_zero] at h
theorem L_swap (a b : List Int) : L a b = L b a := by
  obtain ⟨s, h1, h2, h3⟩ := L_has a b
  obtain ⟨t, k1, k2, k3⟩ := L_has b a
  have := L_ub b a s h2 h1
  have := L_ub a b t k2 k1
  omega
theorem L_both (a b : List Int) : L a b ≤ a.length ∧ L a b ≤ b.length := by
  obtain ⟨s, h1, h2, h3⟩ := L_has a b
  have := h1.length_le
  have := h2.length_le
  omega
theorem up_less (n : Nat) : upN n 3 ≤ upN n 2 := by unfold upN; omega
theorem of1 (w : World) : Calls Try.prog 7 #[.int .u8 0] w fun e w' => e = .returned (.pointer (some ⟨w.heap.size, 0, none⟩)) ∧ w' = w.alloc (.cells (blk 1 0 0 (.slice none 0 0)) 65) := of_calls (x := 0) (by decide) w
theorem of3 (w : World) : Calls Try.prog 7 #[.int .u8 2] w fun e w' => e = .returned (.pointer (some ⟨w.heap.size, 0, none⟩)) ∧ w' = w.alloc (.cells (blk 3 0 0 (.slice none 0 0)) 65) := of_calls (x := 2) (by decide) w
set_option maxRecDepth 100000 in
set_option maxHeartbeats 8000000 in
theorem rsides (w : World) (A1 : Option Addr) (c1 : Nat) (l1 : List Int) (A2 : Option Addr) (c2 : Nat) (l2 : List Int) (hr1 : Kd.C (Kd.int .i64) w A1 l1.length l1) (hc1 : l1.length ≤ c1) (hr2 : Kd.C (Kd.int .i64) w A2 l2.length l2) (hc2 : l2.length ≤ c2) :
    Calls Try.prog 6 #[.slice A1 l1.length c1, .slice A2 l2.length c2] w fun e w' => e = .returned (.bool true) ∧ Below w.heap.size w w' := by
  have R1 := Aside0.mk hr1
  have R2 := Aside0.mk hr2
  have HC1 := Aside0.mk hc1
  have HC2 := Aside0.mk hc2
  clear hr1 hr2 hc1 hc2
  go_enter Try.func6, Try.ntmps6
  go_wp2_with fail
  refine (of1 _).mono ?_
  rintro e w' ⟨rfl, rfl⟩
  have T1 := Aside0.mk (Tl.new (t := 1) (by decide) w)
  have B1 := Aside0.mk (below_alloc (Below.refl w.heap.size w) (.cells (blk 1 0 0 (.slice none 0 0)) 65))
  generalize (w.alloc (.cells (blk 1 0 0 (.slice none 0 0)) 65)) = w1 at T1 B1 ⊢
  generalize hb1 : w.heap.size = b1 at T1 ⊢
  have hb1 := Aside0.mk hb1
  go_wp2_with fail
  refine (of2 _).mono ?_
  rintro e w' ⟨rfl, rfl⟩
  have hb := below_alloc (Below.refl w1.heap.size w1) (.cells (blk 2 0 0 (.slice none 0 0)) 65)
  have T2 := Aside0.mk (Tl.new (t := 2) (by decide) w1)
  have D1 := Aside0.mk T1.out.lt
  have S1 := Aside0.mk (T1.out.below hb)
  have B2 := Aside0.mk (B1.out.trans (hb.mono B1.out.size))
  clear hb T1 
  generalize (w1.alloc (.cells (blk 2 0 0 (.slice none 0 0)) 65)) = w2 at T2 S1 B2 ⊢
  generalize hb2 : w1.heap.size = b2 at T2 D1 ⊢
  clear hb2
  go_wp2_with fail
  refine (of3 _).mono ?_
  rintro e w' ⟨rfl, rfl⟩
  have hb := below_alloc (Below.refl w2.heap.size w2) (.cells (blk 3 0 0 (.slice none 0 0)) 65)
  have T3 := Aside0.mk (Tl.new (t := 3) (by decide) w2)
  have D2 := Aside0.mk T2.out.lt
  have S2 := Aside0.mk (T2.out.below hb)
  have Q1 := Aside0.mk (S1.out.below hb)
  have B3 := Aside0.mk (B2.out.trans (hb.mono B2.out.size))
  clear hb T2 S1
  generalize (w2.alloc (.cells (blk 3 0 0 (.slice none 0 0)) 65)) = w3 at T3 S2 Q1 B3 ⊢
  generalize hb3 : w2.heap.size = b3 at T3 D2 ⊢
  clear hb3
  go_wp2_with fail
  refine (awake w3).mono ?_
  rintro e w4 ⟨rfl, hb⟩
  have T41 := Aside0.mk (Q1.out.below hb)
  have T42 := Aside0.mk (S2.out.below hb)
  have T43 := Aside0.mk (T3.out.below hb)
  have B4 := Aside0.mk (B3.out.trans (hb.mono B3.out.size))
  clear hb Q1 S2 T3 B1 B2 B3
  by_cases n1 : 40 < l1.length
  · have n1' : (40 : Int) < (l1.length : Int) := by omega
    go_wp2_with fail
    go_ret
    exact ⟨rfl, hb1.out ▸ B4.out⟩
  have n1' : ¬ (40 : Int) < (l1.length : Int) := by omega
  by_cases n2 : 40 < l2.length
  · have n2' : (40 : Int) < (l2.length : Int) := by omega
    go_wp2_with fail
    go_ret
    exact ⟨rfl, hb1.out ▸ B4.out⟩
  have n2' : ¬ (40 : Int) < (l2.length : Int) := by omega
  go_wp2_with fail
  refine (tattingref1_Few.calls 1000 A1 c1 l1 4 (fewOf l1 4) w4 (Kd.C_below R1.out B4.out) HC1.out (few l1 4 (by decide) (by decide) (by omega) (by omega))).mono ?_
  rintro e w5 ⟨v1, rfl, hU, hb⟩
  have T51 := Aside0.mk (T41.out.below hb)
  have T52 := Aside0.mk (T42.out.below hb)
  have T53 := Aside0.mk (T43.out.below hb)
  have B5 := Aside0.mk (B4.out.trans (hb.mono B4.out.size))
  have U5 := Aside0.mk (Kd.R_bound hU)
  have lb2 := T43.out.lt
  clear hb T41 T42 T43 hU
  go_wp2_with fail
  refine (tattingref1_Few.calls 1000 A2 c2 l2 4 (fewOf l2 4) w5 (Kd.C_below R2.out B5.out) HC2.out (few l2 4 (by decide) (by decide) (by omega) (by omega))).mono ?_
  rintro e w6 ⟨v2, rfl, hV, hb⟩
  have T61 := Aside0.mk (T51.out.below hb)
  have T62 := Aside0.mk (T52.out.below hb)
  have T63 := Aside0.mk (T53.out.below hb)
  have B6 := Aside0.mk (B5.out.trans (hb.mono B5.out.size))
  have U6 := Aside0.mk (Kd.R_below U5.out hb)
  have V6 := Aside0.mk (Kd.R_bound hV)
  have lb3 := T53.out.lt
  clear hb T51 T52 T53 hV U5 B4 B5 R1 R2 HC1 HC2
  have lx : (fewOf l1 4).length ≤ 40 := by rw [fewOf_length]; omega
  have ly : (fewOf l2 4).length ≤ 40 := by rw [fewOf_length]; omega
  generalize fewOf l1 4 = u at *
  generalize fewOf l2 4 = v at *
  obtain ⟨A3, c3, rfl, hc3, hC3⟩ := Kd.R_reads U6.out
  obtain ⟨A4, c4, rfl, hc4, hC4⟩ := Kd.R_reads V6.out
  have HC3 := Aside0.mk hc3
  have HC4 := Aside0.mk hc4
  have LL := Aside0.mk (L_both u v)
  have hb12 := D1.out
  have hb23 := D2.out
  have hbw := Aside0.mk (show w.heap.size ≤ b1 by have := hb1.out; omega)
  have UU := fun (t : Nat) (ht : 1 ≤ t) => upN_mul (n := u.length) ht
  have VV := fun (t : Nat) (ht : 1 ≤ t) => upN_mul (n := v.length) ht
  have UU := Aside0.mk UU
  have VV := Aside0.mk VV
  clear hC3 hC4 hc3 hc4 D1 D2 n1 n2
  go_wp2_with fail
  refine (len_calls (n0 := w.heap.size) (b := b1) (t := 1) w6 T61.out (by omega) (by omega) HC3.out HC4.out (by have := hbw.out; omega) (Kd.C_kept_own U6.out (fun k hk h => by have := hk.2.1; omega)) (Kd.C_kept_own V6.out (fun k hk h => by have := hk.2.1; omega))).mono ?_
  rintro e w7 ⟨rfl, hT, hK, hb⟩
  rw [Tb_end ((UU).out 1 (by decide)).1 ((VV).out 1 (by decide)).1]
  have T71 := Aside0.mk (hT)
  have T72 := Aside0.mk (T62.out.other T61.out hK (by omega))
  have T73 := Aside0.mk (T63.out.other T61.out hK (by omega))
  have U7 := Aside0.mk (Kd.R_kept U6.out hK (fun k hk h => by have := hk.2.1; omega))
  have V7 := Aside0.mk (Kd.R_kept V6.out hK (fun k hk h => by have := hk.2.1; omega))
  have B7 := Aside0.mk (B6.out.trans hb)
  clear hT hK hb T61 T62 T63 U6 V6 B6
  go_wp2_with fail
  refine (len_calls (n0 := w.heap.size) (b := b2) (t := 2) w7 T72.out (by omega) (by omega) HC4.out HC3.out (by have := hbw.out; omega) (Kd.C_kept_own V7.out (fun k hk h => by have := hk.2.1; omega)) (Kd.C_kept_own U7.out (fun k hk h => by have := hk.2.1; omega))).mono ?_
  rintro e w8 ⟨rfl, hT, hK, hb⟩
  rw [Tb_end ((VV).out 2 (by decide)).1 ((UU).out 2 (by decide)).1]
  rw [L_swap v u]
  have T81 := Aside0.mk (T71.out.other T72.out hK (by omega))
  have T82 := Aside0.mk (hT)
  have T83 := Aside0.mk (T73.out.other T72.out hK (by omega))
  have U8 := Aside0.mk (Kd.R_kept U7.out hK (fun k hk h => by have := hk.2.1; omega))
  have V8 := Aside0.mk (Kd.R_kept V7.out hK (fun k hk h => by have := hk.2.1; omega))
  have B8 := Aside0.mk (B7.out.trans hb)
  clear hT hK hb T71 T72 T73 U7 V7 B7
  go_wp2_with fail
  refine (len_calls (n0 := w.heap.size) (b := b3) (t := 3) w8 T83.out (by omega) (by omega) HC3.out HC4.out (by have := hbw.out; omega) (Kd.C_kept_own U8.out (fun k hk h => by have := hk.2.1; omega)) (Kd.C_kept_own V8.out (fun k hk h => by have := hk.2.1; omega))).mono ?_
  rintro e w9 ⟨rfl, hT, hK, hb⟩
  rw [Tb_end ((UU).out 3 (by decide)).1 ((VV).out 3 (by decide)).1]
  have T91 := Aside0.mk (T81.out.other T83.out hK (by omega))
  have T92 := Aside0.mk (T82.out.other T83.out hK (by omega))
  have T93 := Aside0.mk (hT)
  have U9 := Aside0.mk (Kd.R_kept U8.out hK (fun k hk h => by have := hk.2.1; omega))
  have V9 := Aside0.mk (Kd.R_kept V8.out hK (fun k hk h => by have := hk.2.1; omega))
  have B9 := Aside0.mk (B8.out.trans hb)
  clear hT hK hb T81 T82 T83 U8 V8 B8
  go_wp2_with fail
  have hpl : (pairsP (pathF u v (u.length + v.length) u.length v.length)).length ≤ 100 := by
    have h1 := path_length (a := u) (b := v) (u.length + v.length) u.length v.length (Nat.le_refl _) (Nat.le_refl _) (Nat.le_refl _)
    have h2 := Tb_bd (a := u) (b := v) u.length v.length
    rw [pairsP_length]; omega
  refine (run_calls (n0 := w.heap.size) (b := b2) (t := 2) w9 T92.out (by omega) (by omega) HC3.out HC4.out (by have := hbw.out; omega) (reverseP _ (by omega) (k := 1000) (by omega)) (Kd.C_kept_own U9.out (fun k hk h => by have := hk.2.1; omega)) (Kd.C_kept_own V9.out (fun k hk h => by have := hk.2.1; omega))).mono ?_
  rintro e w10 ⟨r10, rfl, hR, hT, hK, hb⟩
  clear hpl hR
  generalize hG2 : ((upN u.length 2 * upN v.length 2 : Nat) : Int) = G2
  have hG2 := Aside0.mk hG2
  have T101 := Aside0.mk (T91.out.other T92.out hK (by omega))
  have T102 := Aside0.mk (hT)
  have T103 := Aside0.mk (T93.out.other T92.out hK (by omega))
  have U10 := Aside0.mk (Kd.R_kept U9.out hK (fun k hk h => by have := hk.2.1; omega))
  have V10 := Aside0.mk (Kd.R_kept V9.out hK (fun k hk h => by have := hk.2.1; omega))
  have B10 := Aside0.mk (B9.out.trans hb)
  clear hT hK hb T91 T92 T93 U9 V9 B9
  go_wp2_with fail
  have hpl : (pairsP (pathF u v (u.length + v.length) u.length v.length)).length ≤ 100 := by
    have h1 := path_length (a := u) (b := v) (u.length + v.length) u.length v.length (Nat.le_refl _) (Nat.le_refl _) (Nat.le_refl _)
    have h2 := Tb_bd (a := u) (b := v) u.length v.length
    rw [pairsP_length]; omega
  refine (run_calls (n0 := w.heap.size) (b := b3) (t := 3) w10 T103.out (by omega) (by omega) HC3.out HC4.out (by have := hbw.out; omega) (reverseP _ (by omega) (k := 1000) (by omega)) (Kd.C_kept_own U10.out (fun k hk h => by have := hk.2.1; omega)) (Kd.C_kept_own V10.out (fun k hk h => by have := hk.2.1; omega))).mono ?_
  rintro e w11 ⟨r11, rfl, hR, hT, hK, hb⟩
  clear hpl hR
  generalize hG3 : ((upN u.length 3 * upN v.length 3 : Nat) : Int) = G3
  have hG3 := Aside0.mk hG3
  have T111 := Aside0.mk (T101.out.other T103.out hK (by omega))
  have T112 := Aside0.mk (T102.out.other T103.out hK (by omega))
  have T113 := Aside0.mk (hT)
  have U11 := Aside0.mk (Kd.R_kept U10.out hK (fun k hk h => by have := hk.2.1; omega))
  have V11 := Aside0.mk (Kd.R_kept V10.out hK (fun k hk h => by have := hk.2.1; omega))
  have B11 := Aside0.mk (B10.out.trans hb)
  clear hT hK hb T101 T102 T103 U10 V10 B10
  have hmk : G3 ≤ G2 := by
    rw [← hG3.out, ← hG2.out]
    have := Nat.mul_le_mul (up_less u.length) (up_less v.length)
    omega
  have hp1 : ((L u v : Nat) : Int) ≤ (u.length : Int) := by have := LL.out.1; omega
  have hp2 : ((L u v : Nat) : Int) ≤ (v.length : Int) := by have := LL.out.2; omega
  have hp3 : ((L u v : Nat) : Int) ≤ min (u.length : Int) (v.length : Int) := by omega
  generalize ((L u v : Nat) : Int) = P at *
  go_wp2_with fail
  all_goals
    go_ret
    exact ⟨rfl, hb1.out ▸ B11.out⟩
def tattinglaw14_RussSides.f (l0 : List Int) (l1 : List Int) : Option Bool := some true
theorem tattinglaw14_RussSides.calls (A0 : Option Addr) (c0 : Nat) (l0 : List Int) (A1 : Option Addr) (c1 : Nat) (l1 : List Int) (r : Bool) (w : World) (hr0 : Kd.C (Kd.int .i64) w A0 l0.length l0) (hc0 : l0.length ≤ c0) (hr1 : Kd.C (Kd.int .i64) w A1 l1.length l1) (hc1 : l1.length ≤ c1) (h : tattinglaw14_RussSides.f l0 l1 = some r) (HRT : Aside0 (r = true)) :
    Calls Try.prog 6 #[.slice A0 l0.length c0, .slice A1 l1.length c1] w fun e w' => e = .returned (.bool r) ∧ Below w.heap.size w w' := by
  unfold tattinglaw14_RussSides.f at h
  obtain rfl := Option.some.inj h
  exact rsides w A0 c0 l0 A1 c1 l1 hr0 hc0 hr1 hc1
/-- THE ONE PURE STATEMENT of tattinglaw14_RussSides: yours. -/
def tattinglaw14_RussSides.Pure : Prop := ∀ (l0 : List Int) (l1 : List Int), l0.length ≤ maxLen → l0.length * 8 ≤ 140737488351232 → (∀ x ∈ l0, (Lit.int .i64 x).wf = true) → l1.length ≤ maxLen → l1.length * 8 ≤ 140737488351232 → (∀ x ∈ l1, (Lit.int .i64 x).wf = true) → tattinglaw14_RussSides.f l0 l1 = some true
theorem tattinglaw14_RussSides.walk (P : tattinglaw14_RussSides.Pure) (a0 : Option Addr) (len0 cap0 : Nat) (z0 : List Int) (a1 : Option Addr) (len1 cap1 : Nat) (z1 : List Int) (w : World) (w0 : (a0 = none ∧ len0 = 0 ∧ cap0 = 0 ∧ z0 = []) ∨ ∃ x, a0 = some x ∧ len0 ≤ cap0 ∧ cap0 ≤ maxLen ∧ z0.length = cap0 ∧ (∀ i, i < z0.length → w.cell? (x.add i) = some (.int .i64 (z0.getD i 0))) ∧ ∀ n ∈ z0, (Lit.int .i64 n).wf = true) (y0 : len0 * 8 ≤ 140737488351232) (w1 : (a1 = none ∧ len1 = 0 ∧ cap1 = 0 ∧ z1 = []) ∨ ∃ x, a1 = some x ∧ len1 ≤ cap1 ∧ cap1 ≤ maxLen ∧ z1.length = cap1 ∧ (∀ i, i < z1.length → w.cell? (x.add i) = some (.int .i64 (z1.getD i 0))) ∧ ∀ n ∈ z1, (Lit.int .i64 n).wf = true) (y1 : len1 * 8 ≤ 140737488351232) :
    Calls Try.prog 6 #[.slice a0 len0 cap0, .slice a1 len1 cap1] w fun e w' => e = .returned (.bool true) ∧ Below w.heap.size w w' := by
  obtain ⟨l0, rfl, hr0, hm0, hw0, hc0⟩ := ReadsInt.ofRowC w0
  obtain ⟨l1, rfl, hr1, hm1, hw1, hc1⟩ := ReadsInt.ofRowC w1
  have h := P l0 l1 hm0 y0 hw0 hm1 y1 hw1
  refine (tattinglaw14_RussSides.calls _ _ l0 _ _ l1 true w (Kd.C_of_reads (d := (0 : Int)) (h1 := fun _ => rfl) hr0) hc0 (Kd.C_of_reads (d := (0 : Int)) (h1 := fun _ => rfl) hr1) hc1 h ⟨rfl⟩).mono ?_
  rintro e w' ⟨rfl, hd⟩
  exact ⟨rfl, hd⟩
end Go.Proofs.Ytpdjdffimighkaa.PRussSides
