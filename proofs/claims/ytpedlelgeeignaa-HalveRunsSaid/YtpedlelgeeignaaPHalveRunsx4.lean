-- Laid by wip/myprint.py: the kit's print, with contracts typed by hand for what it does not take.
import Derived.Test.YtpedlelgeeignaaPHalveRunsx0
import Derived.Test.YtpedlelgeeignaaPHalveRunsx2
import Derived.Test.YtpedlelgeeignaaPHalveRunsx3
namespace Go.Proofs.Ytpedlelgeeignaa.PHalveRuns
open Go.RowKit Go.Proofs.YtpedlelgeeignaaW.PrintWords Go.Proofs.YtpedlelgeeignaaW.PrintLast Go.Proofs.YtpedlelgeeignaaW.PrintMore
attribute [local go_sem] max2_int min2_int max_two min_two max_three min_three max_four min_four   -- for this text's walks alone
set_option linter.unusedVariables false
set_option linter.unusedSimpArgs false

/-! ### halve_Run: function 8 -/
mutual
def halve_Run.l0 : Nat → List Int → List Int → List (S28) → Int → List (S38) → Option ((List (S28)) × Int)
  | 0, _, _, _, _, _ => none
  | k + 1, x0, x1, x6, x7, x8 => if (x8.length : Int) > 0 then (if 0 ≤ (wrap64 ((x8.length : Int) - 1)) then (if (wrap64 ((x8.length : Int) - 1)) < (x8.length : Int) then (if (wrap64 ((x8.length : Int) - 1)) ≤ (x8.length : Int) then ((some (x8.take ((wrap64 ((x8.length : Int) - 1)) : Int).toNat : List (S38))).bind fun y153 => (if 0 ≤ ((rd_T38 x8 (wrap64 ((x8.length : Int) - 1))).f0) then (if ((rd_T38 x8 (wrap64 ((x8.length : Int) - 1))).f0) ≤ ((rd_T38 x8 (wrap64 ((x8.length : Int) - 1))).f1) then (if ((rd_T38 x8 (wrap64 ((x8.length : Int) - 1))).f1) ≤ (x0.length : Int) then (if 0 ≤ ((rd_T38 x8 (wrap64 ((x8.length : Int) - 1))).f2) then (if ((rd_T38 x8 (wrap64 ((x8.length : Int) - 1))).f2) ≤ ((rd_T38 x8 (wrap64 ((x8.length : Int) - 1))).f3) then (if ((rd_T38 x8 (wrap64 ((x8.length : Int) - 1))).f3) ≤ (x1.length : Int) then (if (((x0.take (((rd_T38 x8 (wrap64 ((x8.length : Int) - 1))).f1) : Int).toNat).drop (((rd_T38 x8 (wrap64 ((x8.length : Int) - 1))).f0) : Int).toNat).length : Int) = 0 then (halve_Run.j1 k x0 x1 x6 x7 y153 ((x0.take (((rd_T38 x8 (wrap64 ((x8.length : Int) - 1))).f1) : Int).toNat).drop (((rd_T38 x8 (wrap64 ((x8.length : Int) - 1))).f0) : Int).toNat) ((x1.take (((rd_T38 x8 (wrap64 ((x8.length : Int) - 1))).f3) : Int).toNat).drop (((rd_T38 x8 (wrap64 ((x8.length : Int) - 1))).f2) : Int).toNat) true ((rd_T38 x8 (wrap64 ((x8.length : Int) - 1))).f0) ((rd_T38 x8 (wrap64 ((x8.length : Int) - 1))).f1) ((rd_T38 x8 (wrap64 ((x8.length : Int) - 1))).f2) ((rd_T38 x8 (wrap64 ((x8.length : Int) - 1))).f3)) else (halve_Run.j1 k x0 x1 x6 x7 y153 ((x0.take (((rd_T38 x8 (wrap64 ((x8.length : Int) - 1))).f1) : Int).toNat).drop (((rd_T38 x8 (wrap64 ((x8.length : Int) - 1))).f0) : Int).toNat) ((x1.take (((rd_T38 x8 (wrap64 ((x8.length : Int) - 1))).f3) : Int).toNat).drop (((rd_T38 x8 (wrap64 ((x8.length : Int) - 1))).f2) : Int).toNat) ((((x1.take (((rd_T38 x8 (wrap64 ((x8.length : Int) - 1))).f3) : Int).toNat).drop (((rd_T38 x8 (wrap64 ((x8.length : Int) - 1))).f2) : Int).toNat).length : Int) == 0) ((rd_T38 x8 (wrap64 ((x8.length : Int) - 1))).f0) ((rd_T38 x8 (wrap64 ((x8.length : Int) - 1))).f1) ((rd_T38 x8 (wrap64 ((x8.length : Int) - 1))).f2) ((rd_T38 x8 (wrap64 ((x8.length : Int) - 1))).f3))) else (none)) else (none)) else (none)) else (none)) else (none)) else (none))) else (none)) else (none)) else (none)) else (some (x6, x7))
def halve_Run.j1 : Nat → List Int → List Int → List (S28) → Int → List (S38) → List Int → List Int → Bool → Int → Int → Int → Int → Option ((List (S28)) × Int)
  | 0, _, _, _, _, _, _, _, _, _, _, _, _ => none
  | k + 1, x0, x1, x6, x7, x8, x10, x11, x55, x153000, x153001, x153002, x153003 => if x55 = true then (halve_Run.l0 k x0 x1 x6 x7 x8) else (if (x10.length : Int) = 1 then (if 0 < (x10.length : Int) then ((slices_Index_int_int.f k x11 (rd x10 0)).bind fun t159 => (if t159 ≥ 0 then (if x6.length < 8796093022208 then (halve_Run.l0 k x0 x1 (x6 ++ [(⟨x153000, wrap64 (x153002 + t159)⟩ : S28)]) (wrap64 (x7 + (wrap64 ((x10.length : Int) * (x11.length : Int))))) x8) else (none)) else (halve_Run.l0 k x0 x1 x6 (wrap64 (x7 + (wrap64 ((x10.length : Int) * (x11.length : Int))))) x8))) else (none)) else (if 0 ≤ (wrap64 ((x10.length : Int) / 2)) then (if (wrap64 ((x10.length : Int) / 2)) ≤ (x10.length : Int) then ((rows_Front.f k (x10.take ((wrap64 ((x10.length : Int) / 2)) : Int).toNat) x11).bind fun t164 => ((rows_Back.f k (x10.drop ((wrap64 ((x10.length : Int) / 2)) : Int).toNat) x11).bind fun t168 => ((rows_Split.f k t164 t168).bind fun bt171 => ((some (([(⟨wrap64 (x153000 + (wrap64 ((x10.length : Int) / 2))), x153001, wrap64 (x153002 + bt171.1), x153003⟩ : S38), (⟨x153000, wrap64 (x153000 + (wrap64 ((x10.length : Int) / 2))), x153002, wrap64 (x153002 + bt171.1)⟩ : S38)] : List (S38)) : List (S38))).bind fun y173 => (if x8.length + y173.length < 4398046511104 then (halve_Run.l0 k x0 x1 x6 (wrap64 (x7 + (wrap64 ((x10.length : Int) * (x11.length : Int))))) (x8 ++ y173)) else (none)))))) else (none)) else (none)))
end
def halve_Run.f (k : Nat) (l0 : List Int) (l1 : List Int) : Option ((List (S28)) × Int) := halve_Run.l0 k l0 l1 ([] : List (S28)) 0 (([(⟨0, (l0.length : Int), 0, (l1.length : Int)⟩ : S38)] : List (S38)))
theorem halve_Run.mono_l : ∀ k, (∀ y0 y1 y2 y3 y4, LeO (halve_Run.l0 k y0 y1 y2 y3 y4) (halve_Run.l0 (k + 1) y0 y1 y2 y3 y4)) ∧ (∀ y0 y1 y2 y3 y4 y5 y6 y7 y8 y9 y10 y11, LeO (halve_Run.j1 k y0 y1 y2 y3 y4 y5 y6 y7 y8 y9 y10 y11) (halve_Run.j1 (k + 1) y0 y1 y2 y3 y4 y5 y6 y7 y8 y9 y10 y11))
  | 0 => ⟨fun _ _ _ _ _ r h => by simp [halve_Run.l0] at h, fun _ _ _ _ _ _ _ _ _ _ _ _ r h => by simp [halve_Run.j1] at h⟩
  | k + 1 => by
    obtain ⟨ih0, ih1⟩ := halve_Run.mono_l k
    refine ⟨?_, ?_⟩
    · intro y0 y1 y2 y3 y4
      unfold halve_Run.l0
      repeat' first
      | (with_reducible exact ih0 _ _ _ _ _)
      | (with_reducible exact ih1 _ _ _ _ _ _ _ _ _ _ _ _)
      | (with_reducible exact rows_Back.mono _ _ _)
      | (with_reducible exact rows_Front.mono _ _ _)
      | (with_reducible exact rows_Split.mono _ _ _)
      | (with_reducible exact slices_Index_int_int.mono _ _ _)
      | (with_reducible exact LeO.refl _)
      | (with_reducible exact LeO.none _)
      | (with_reducible refine LeO.ite ?_ ?_)
      | (with_reducible refine LeO.bind ?_ (fun _ => ?_))
      | exact ih0 _ _ _ _ _
      | exact ih1 _ _ _ _ _ _ _ _ _ _ _ _
      | exact rows_Back.mono _ _ _
      | exact rows_Front.mono _ _ _
      | exact rows_Split.mono _ _ _
      | exact slices_Index_int_int.mono _ _ _
      | exact LeO.none _
      | refine LeO.ite ?_ ?_
      | refine LeO.bind ?_ (fun _ => ?_)
    · intro y0 y1 y2 y3 y4 y5 y6 y7 y8 y9 y10 y11
      unfold halve_Run.j1
      repeat' first
      | (with_reducible exact ih0 _ _ _ _ _)
      | (with_reducible exact ih1 _ _ _ _ _ _ _ _ _ _ _ _)
      | (with_reducible exact rows_Back.mono _ _ _)
      | (with_reducible exact rows_Front.mono _ _ _)
      | (with_reducible exact rows_Split.mono _ _ _)
      | (with_reducible exact slices_Index_int_int.mono _ _ _)
      | (with_reducible exact LeO.refl _)
      | (with_reducible exact LeO.none _)
      | (with_reducible refine LeO.ite ?_ ?_)
      | (with_reducible refine LeO.bind ?_ (fun _ => ?_))
      | exact ih0 _ _ _ _ _
      | exact ih1 _ _ _ _ _ _ _ _ _ _ _ _
      | exact rows_Back.mono _ _ _
      | exact rows_Front.mono _ _ _
      | exact rows_Split.mono _ _ _
      | exact slices_Index_int_int.mono _ _ _
      | exact LeO.none _
      | refine LeO.ite ?_ ?_
      | refine LeO.bind ?_ (fun _ => ?_)
theorem halve_Run.mono : ∀ a0 a1 k, LeO (halve_Run.f k a0 a1) (halve_Run.f (k + 1) a0 a1) := by
  intro a0 a1 k
  obtain ⟨ih0, ih1⟩ := halve_Run.mono_l k
  unfold halve_Run.f
  repeat' first
      | (with_reducible exact ih0 _ _ _ _ _)
      | (with_reducible exact ih1 _ _ _ _ _ _ _ _ _ _ _ _)
      | (with_reducible exact rows_Back.mono _ _ _)
      | (with_reducible exact rows_Front.mono _ _ _)
      | (with_reducible exact rows_Split.mono _ _ _)
      | (with_reducible exact slices_Index_int_int.mono _ _ _)
      | (with_reducible exact LeO.refl _)
      | (with_reducible exact LeO.none _)
      | (with_reducible refine LeO.ite ?_ ?_)
      | (with_reducible refine LeO.bind ?_ (fun _ => ?_))
      | exact ih0 _ _ _ _ _
      | exact ih1 _ _ _ _ _ _ _ _ _ _ _ _
      | exact rows_Back.mono _ _ _
      | exact rows_Front.mono _ _ _
      | exact rows_Split.mono _ _ _
      | exact slices_Index_int_int.mono _ _ _
      | exact LeO.none _
      | refine LeO.ite ?_ ?_
      | refine LeO.bind ?_ (fun _ => ?_)
def halve_Run.T7 : Bool × List (List Nat × List Nat) := (true, [([], []), ([], []), ([1], [1]), ([], []), ([3], [3]), ([0, 2, 4], [0, 2, 4]), ([], []), ([], []), ([7], [7]), ([], []), ([9], [9]), ([6, 8, 10], [6, 8, 10]), ([5, 0, 1, 2, 3, 4, 5], [5]), ([11, 12, 0, 1, 2, 3, 4, 5, 6, 7, 8, 9, 10, 11, 12], [11])])
def halve_Run.B7 : List Nat := [0, 0, 2, 0, 8, 31, 0, 0, 128, 0, 512, 1984, 63, 8191]
theorem halve_Run.tab7 : rtab .any (opsOf Try.f8 7) = halve_Run.T7 := by kernel_rfl
theorem halve_Run.bits7 : waitsOk halve_Run.T7.2 halve_Run.B7 = true := by kernel_rfl
def halve_Run.T15 : Bool × List (List Nat × List Nat) := (true, [([], []), ([], []), ([0, 1], [0, 1]), ([], []), ([2, 3], [2, 3]), ([], []), ([], []), ([5, 6], [5, 6]), ([], []), ([7, 8, 4], [7, 8]), ([4, 9, 9], [4, 9]), ([10], [10]), ([11], [11]), ([11], [11]), ([12, 10, 0, 1, 2, 3, 4, 5, 6, 7, 8, 9, 10, 11, 12], [12]), ([13, 14, 0, 1, 2, 3, 4, 5, 6, 7, 8, 9, 10, 11, 12, 13, 14], [13])])
def halve_Run.B15 : List Nat := [0, 0, 3, 0, 15, 0, 0, 96, 0, 511, 1023, 2047, 4095, 4095, 8191, 32767]
theorem halve_Run.tab15 : rtab .any (opsOf Try.f8 15) = halve_Run.T15 := by kernel_rfl
theorem halve_Run.bits15 : waitsOk halve_Run.T15.2 halve_Run.B15 = true := by kernel_rfl
set_option maxHeartbeats 8000000 in
set_option maxRecDepth 100000 in
theorem halve_Run.calls (k : Nat) (A0 : Option Addr) (c0 : Nat) (l0 : List Int) (A1 : Option Addr) (c1 : Nat) (l1 : List Int) (r1 : List (S28)) (r2 : Int) (w : World) (hr0 : Kd.C (Kd.int .i64) w A0 l0.length l0) (hc0 : l0.length ≤ c0) (hr1 : Kd.C (Kd.int .i64) w A1 l1.length l1) (hc1 : l1.length ≤ c1) (h : halve_Run.f k l0 l1 = some (r1, r2)) :
    Calls Try.prog 8 #[.slice A0 l0.length c0, .slice A1 l1.length c1] w fun e w' => ∃ v0_ : Value, e = .returned (.tuple #[v0_, .int .i64 r2]) ∧ Kd.R k28 28 w' w.heap.size (fun _ => True) v0_ r1 ∧ Below w.heap.size w w' := by
  have hu38 := Try.underlying38
  have hu28 := Try.underlying28
  have HR0 := Aside0.mk hr0
  have HC0 := Aside0.mk hc0
  clear hr0 hc0
  have HR1 := Aside0.mk hr1
  have HC1 := Aside0.mk hc1
  clear hr1 hc1
  have HB := Aside0.mk (Below.refl w.heap.size w)
  have H : (halve_Run.l0 k l0 l1 ([] : List (S28)) 0 (([(⟨0, (l0.length : Int), 0, (l1.length : Int)⟩ : S38)] : List (S38)))) = some (r1, r2) := h
  clear h
  obtain ⟨y148, hy148⟩ : ∃ y_ : List (S38), y_ = (([(⟨0, (l0.length : Int), 0, (l1.length : Int)⟩ : S38)] : List (S38))) := ⟨_, rfl⟩
  replace H : (halve_Run.l0 k l0 l1 ([] : List (S28)) 0 y148) = some (r1, r2) := by first | (rw [hy148]; with_reducible exact H) | (have H2_ := (Option.bind_some _ _).symm.trans H; rw [hy148]; with_reducible exact H2_) | (have H2_ := (Option.bind_some _ _).symm.trans H; with_reducible exact H2_) | with_reducible exact H | (rw [hy148]; exact H) | exact H
  have Ny148 := Aside0.mk hy148
  clear hy148
  have H' := Aside0.mk H
  clear H
  go_enter Try.func8, Try.ntmps8
  go_wp2_with (first | ((with_reducible refine gate_dst (N := 21) rfl ?_); (try (refine gate_guard (by rfl) ?_; dsimp only)); refine Kd.R_lit k38 _ 38 ?hg (N := 21) ?hd (xs := ([(⟨0, (l0.length : Int), 0, (l1.length : Int)⟩ : S38)] : List (S38))) (inner := [.int .i64 0, .int .i64 (l0.length : Int), .int .i64 0, .int .i64 (l1.length : Int)]) (ok := fun _ => True) (okp := fun _ => True) ?hr ?hp (fun _ hk => hk) trivial (Below.refl _ _) (Nat.le_refl _) (by simp) ?_; (case hd => rfl); (case hg => rfl); (case hr => first | (go_simp; done) | (go_simp; rfl)); (case hp => exact (Reps.c4 (show Kd.M k38 _ _ _ (⟨0, (l0.length : Int), 0, (l1.length : Int)⟩ : S38) [.int .i64 0, .int .i64 (l0.length : Int), .int .i64 0, .int .i64 (l1.length : Int)] from (k38_mkM _ _ _ (⟨0, (l0.length : Int), 0, (l1.length : Int)⟩ : S38) )) (Reps.none _ _))); intro v149 w3 ho4 hb hg_ hnew_; clear hg_ hnew_; (first | rw [← Ny148.out] at ho4 | (simp only [Int.reduceToNat] at ho4; rw [← Ny148.out] at ho4)); have n0_ := Aside0.mk (Kd.R_lower ho4 (below_size (by repeat (first | (with_reducible first | exact HB.out | apply below_alloc | apply pw_below_drewN | apply below_drew1) | exact HB.out)))); have n1_ := Aside0.mk (below_step (by repeat (first | (with_reducible first | exact HB.out | apply below_alloc | apply pw_below_drewN | apply below_drew1) | exact HB.out)) hb); clear HB; have HO150 := n0_; have HB := n1_; clear n0_ n1_; clear hb ho4))
  go_loopg [6, 7, 8] k (fun kq v6 v7 v8 w' => ∃ (x6_1 : List (S28)) (x7_1 : Int) (x8_1 : List (S38)), v7 = .int .i64 x7_1 ∧ Aside0 (halve_Run.l0 kq l0 l1 x6_1 x7_1 x8_1 = some (r1, r2)) ∧ Aside0 (kq ≤ k) ∧ Aside0 (Kd.R k28 28 w' w.heap.size (fun _ => True) v6 x6_1) ∧ Aside0 (Kd.R k38 38 w' w.heap.size (fun _ => True) v8 x8_1) ∧ Aside0 (Below w.heap.size w w'))
  case atStart => exact ⟨(([] : List (S28))), (0), (y148), (by first | rfl | (simp; done) | (simp [*]; done)), H', ⟨Nat.le_refl _⟩, ⟨by first | exact Kd.R_nil _ _ _ _ _ | exact Kd.N_nil _ _ _ _ _ | exact Kd.V_nil _ _ _ _ _ | exact Kd.Q_nil _ _ _ _ _ | exact Kd.S_nil _ _ _ _ _⟩, ⟨by (with_reducible repeat (first | apply Kd.R_alloc | apply Kd.R_drewN | apply Kd.R_drew)); exact HO150.out⟩, ⟨by repeat (first | (with_reducible first | exact HB.out | apply below_alloc | apply pw_below_drewN | apply below_drew1) | exact HB.out)⟩⟩
  case round =>
    clear H'
    try clear c1
    try clear p2
    try clear c4
    obtain ⟨x6_1, x7_1, x8_1, rfl, HA, HK1, HO_6, HO_8, HB⟩ := hrel
    cases gk with
    | zero => exact absurd HA.out (by simp [halve_Run.l0])
    | succ k1 =>
      have H := HA.out
      clear HA
      simp only [halve_Run.l0] at H
      by_cases c5 : (x8_1.length : Int) > 0
      · rw [if_pos c5] at H
        have c5b0 : decide (0 < (x8_1.length : Int)) = true := decide_eq_true c5
        have c5b1 : decide (0 < x8_1.length) = true := decide_eq_true (by omega)
        clear c5
        obtain ⟨ji6, hji6⟩ : ∃ j_ : Int, (wrap64 ((x8_1.length : Int) - 1)) = j_ := ⟨_, rfl⟩
        replace H : (if 0 ≤ (ji6) then (if (ji6) < (x8_1.length : Int) then (if (ji6) ≤ (x8_1.length : Int) then ((some (x8_1.take ((ji6) : Int).toNat : List (S38))).bind fun y153 => (if 0 ≤ ((rd_T38 x8_1 (ji6)).f0) then (if ((rd_T38 x8_1 (ji6)).f0) ≤ ((rd_T38 x8_1 (ji6)).f1) then (if ((rd_T38 x8_1 (ji6)).f1) ≤ (l0.length : Int) then (if 0 ≤ ((rd_T38 x8_1 (ji6)).f2) then (if ((rd_T38 x8_1 (ji6)).f2) ≤ ((rd_T38 x8_1 (ji6)).f3) then (if ((rd_T38 x8_1 (ji6)).f3) ≤ (l1.length : Int) then (if (((l0.take (((rd_T38 x8_1 (ji6)).f1) : Int).toNat).drop (((rd_T38 x8_1 (ji6)).f0) : Int).toNat).length : Int) = 0 then (halve_Run.j1 k1 l0 l1 x6_1 x7_1 y153 ((l0.take (((rd_T38 x8_1 (ji6)).f1) : Int).toNat).drop (((rd_T38 x8_1 (ji6)).f0) : Int).toNat) ((l1.take (((rd_T38 x8_1 (ji6)).f3) : Int).toNat).drop (((rd_T38 x8_1 (ji6)).f2) : Int).toNat) true ((rd_T38 x8_1 (ji6)).f0) ((rd_T38 x8_1 (ji6)).f1) ((rd_T38 x8_1 (ji6)).f2) ((rd_T38 x8_1 (ji6)).f3)) else (halve_Run.j1 k1 l0 l1 x6_1 x7_1 y153 ((l0.take (((rd_T38 x8_1 (ji6)).f1) : Int).toNat).drop (((rd_T38 x8_1 (ji6)).f0) : Int).toNat) ((l1.take (((rd_T38 x8_1 (ji6)).f3) : Int).toNat).drop (((rd_T38 x8_1 (ji6)).f2) : Int).toNat) ((((l1.take (((rd_T38 x8_1 (ji6)).f3) : Int).toNat).drop (((rd_T38 x8_1 (ji6)).f2) : Int).toNat).length : Int) == 0) ((rd_T38 x8_1 (ji6)).f0) ((rd_T38 x8_1 (ji6)).f1) ((rd_T38 x8_1 (ji6)).f2) ((rd_T38 x8_1 (ji6)).f3))) else (none)) else (none)) else (none)) else (none)) else (none)) else (none))) else (none)) else (none)) else (none)) = some (r1, r2) := by first | (rw [hji6] at H; exact H) | (simp only [hji6] at H ⊢; exact H)
        have hji6w : (IntKind.i64.wrap ((x8_1.length : Int) - 1)) = ji6 := (i64_w _).trans hji6
        by_cases c7 : 0 ≤ (ji6)
        · rw [if_pos c7] at H
          have c7b0 : decide (0 ≤ (ji6)) = true := decide_eq_true c7
          clear c7
          by_cases c8 : (ji6) < (x8_1.length : Int)
          · rw [if_pos c8] at H
            have c8b0 : decide ((ji6) < (x8_1.length : Int)) = true := decide_eq_true c8
            clear c8
            by_cases c9 : (ji6) ≤ (x8_1.length : Int)
            · rw [if_pos c9] at H
              have c9b0 := eq_true c9
              have c9b1 : decide ((ji6) ≤ (x8_1.length : Int)) = true := decide_eq_true c9
              clear c9
              obtain ⟨y153, hy153⟩ : ∃ y_ : List (S38), y_ = (x8_1.take ((ji6) : Int).toNat) := ⟨_, rfl⟩
              replace H : (if 0 ≤ ((rd_T38 x8_1 (ji6)).f0) then (if ((rd_T38 x8_1 (ji6)).f0) ≤ ((rd_T38 x8_1 (ji6)).f1) then (if ((rd_T38 x8_1 (ji6)).f1) ≤ (l0.length : Int) then (if 0 ≤ ((rd_T38 x8_1 (ji6)).f2) then (if ((rd_T38 x8_1 (ji6)).f2) ≤ ((rd_T38 x8_1 (ji6)).f3) then (if ((rd_T38 x8_1 (ji6)).f3) ≤ (l1.length : Int) then (if (((l0.take (((rd_T38 x8_1 (ji6)).f1) : Int).toNat).drop (((rd_T38 x8_1 (ji6)).f0) : Int).toNat).length : Int) = 0 then (halve_Run.j1 k1 l0 l1 x6_1 x7_1 y153 ((l0.take (((rd_T38 x8_1 (ji6)).f1) : Int).toNat).drop (((rd_T38 x8_1 (ji6)).f0) : Int).toNat) ((l1.take (((rd_T38 x8_1 (ji6)).f3) : Int).toNat).drop (((rd_T38 x8_1 (ji6)).f2) : Int).toNat) true ((rd_T38 x8_1 (ji6)).f0) ((rd_T38 x8_1 (ji6)).f1) ((rd_T38 x8_1 (ji6)).f2) ((rd_T38 x8_1 (ji6)).f3)) else (halve_Run.j1 k1 l0 l1 x6_1 x7_1 y153 ((l0.take (((rd_T38 x8_1 (ji6)).f1) : Int).toNat).drop (((rd_T38 x8_1 (ji6)).f0) : Int).toNat) ((l1.take (((rd_T38 x8_1 (ji6)).f3) : Int).toNat).drop (((rd_T38 x8_1 (ji6)).f2) : Int).toNat) ((((l1.take (((rd_T38 x8_1 (ji6)).f3) : Int).toNat).drop (((rd_T38 x8_1 (ji6)).f2) : Int).toNat).length : Int) == 0) ((rd_T38 x8_1 (ji6)).f0) ((rd_T38 x8_1 (ji6)).f1) ((rd_T38 x8_1 (ji6)).f2) ((rd_T38 x8_1 (ji6)).f3))) else (none)) else (none)) else (none)) else (none)) else (none)) else (none)) = some (r1, r2) := by first | (rw [hy153]; with_reducible exact H) | (have H2_ := (Option.bind_some _ _).symm.trans H; rw [hy153]; with_reducible exact H2_) | (have H2_ := (Option.bind_some _ _).symm.trans H; with_reducible exact H2_) | with_reducible exact H | (rw [hy153]; exact H) | exact H
              have Ny153 := Aside0.mk hy153
              clear hy153
              by_cases c10 : 0 ≤ ((rd_T38 x8_1 (ji6)).f0)
              · rw [if_pos c10] at H
                have c10b0 := eq_true c10
                have c10b1 : decide (0 ≤ ((rd_T38 x8_1 (ji6)).f0)) = true := decide_eq_true c10
                clear c10
                by_cases c11 : ((rd_T38 x8_1 (ji6)).f0) ≤ ((rd_T38 x8_1 (ji6)).f1)
                · rw [if_pos c11] at H
                  have c11b0 := eq_true c11
                  have c11b1 : decide (((rd_T38 x8_1 (ji6)).f0) ≤ ((rd_T38 x8_1 (ji6)).f1)) = true := decide_eq_true c11
                  clear c11
                  by_cases c12 : ((rd_T38 x8_1 (ji6)).f1) ≤ (l0.length : Int)
                  · rw [if_pos c12] at H
                    have c12b0 := eq_true c12
                    have c12b1 : decide (((rd_T38 x8_1 (ji6)).f1) ≤ (l0.length : Int)) = true := decide_eq_true c12
                    clear c12
                    by_cases c13 : 0 ≤ ((rd_T38 x8_1 (ji6)).f2)
                    · rw [if_pos c13] at H
                      have c13b0 := eq_true c13
                      have c13b1 : decide (0 ≤ ((rd_T38 x8_1 (ji6)).f2)) = true := decide_eq_true c13
                      clear c13
                      by_cases c14 : ((rd_T38 x8_1 (ji6)).f2) ≤ ((rd_T38 x8_1 (ji6)).f3)
                      · rw [if_pos c14] at H
                        have c14b0 := eq_true c14
                        have c14b1 : decide (((rd_T38 x8_1 (ji6)).f2) ≤ ((rd_T38 x8_1 (ji6)).f3)) = true := decide_eq_true c14
                        clear c14
                        by_cases c15 : ((rd_T38 x8_1 (ji6)).f3) ≤ (l1.length : Int)
                        · rw [if_pos c15] at H
                          have c15b0 := eq_true c15
                          have c15b1 : decide (((rd_T38 x8_1 (ji6)).f3) ≤ (l1.length : Int)) = true := decide_eq_true c15
                          clear c15
                          have HC16 := Aside0.mk H
                          clear H
                          obtain ⟨Ao17, co17, eo17⟩ := Kd.R_slice HO_8.out
                          subst eo17
                          have p151 : 0 ≤ ((ji6) : Int) := of_decide_eq_true (by first | (with_reducible assumption) | assumption)
                          have q151 : (ji6) < (x8_1.length : Int) := of_decide_eq_true (by first | (with_reducible assumption) | assumption)
                          obtain ⟨ad151, e151, hx151_0, hx151_1, hx151_2, hx151_3⟩ := at_T38 (Kd.R_reads' HO_8.out).2.2 (ji6) p151 q151
                          cases e151
                          replace p151 := eq_true p151
                          replace q151 := eq_true q151
                          try go_wp2_with (first | ((with_reducible refine gate_dst (N := 9) rfl ?_); (try (refine gate_guard (by rfl) ?_; dsimp only)); refine box_event ?hg (N := 9) ?hd (cs := #[.int .i64 0, .int .i64 0, .int .i64 0, .int .i64 0]) (t := 38) ?hr ?_; (case hd => rfl); (case hg => rfl); (case hr => first | (go_simp; done) | (go_simp; rfl)); intro gb152 hg w18 hbox hb; have n0_ := Aside0.mk (Kd.R_below (by (with_reducible repeat (first | apply Kd.R_alloc | apply Kd.R_drewN | apply Kd.R_drew)); exact HO_6.out) hb); have n1_ := Aside0.mk (Kd.R_below (Kd.R_elderB (by (with_reducible repeat (first | apply Kd.R_alloc | apply Kd.R_drewN | apply Kd.R_drew)); exact HO_8.out) gb152 (Nat.le_of_eq hg.symm)) hb); have n2_ := Aside0.mk (below_step (by repeat (first | (with_reducible first | exact HB.out | apply below_alloc | apply pw_below_drewN | apply below_drew1) | exact HB.out)) hb); have n3_ := Aside0.mk (hbox); have n4_ := Aside0.mk ((by rw [hg]; exact (below_size (by repeat (first | (with_reducible first | exact HB.out | apply below_alloc | apply pw_below_drewN | apply below_drew1) | exact HB.out))) : w.heap.size ≤ gb152)); have n5_ := Aside0.mk ((by rw [hg]; exact (below_size (by repeat (first | (with_reducible first | exact HB.out | apply below_alloc | apply pw_below_drewN | apply below_drew1) | exact HB.out))) : w.heap.size ≤ gb152)); clear HO_6; clear HO_8; clear HB; have HO_6 := n0_; have HO_8 := n1_; have HB := n2_; have BK152 := n3_; have GW152 := n4_; have GE152 := n5_; clear n0_ n1_ n2_ n3_ n4_ n5_; clear hb hbox hg; have hcz19_0 : w18.cell? ⟨gb152, 0, none⟩ = some (.int .i64 0) := (blk_cell BK152.out 0).trans rfl; have hcz19_1 : w18.cell? ⟨gb152, 1, none⟩ = some (.int .i64 0) := (blk_cell BK152.out 1).trans rfl; have hcz19_2 : w18.cell? ⟨gb152, 2, none⟩ = some (.int .i64 0) := (blk_cell BK152.out 2).trans rfl; have hcz19_3 : w18.cell? ⟨gb152, 3, none⟩ = some (.int .i64 0) := (blk_cell BK152.out 3).trans rfl; have hfz19_0 := blk_frozen BK152.out 0; have hfz19_1 := blk_frozen BK152.out 1; have hfz19_2 := blk_frozen BK152.out 2; have hfz19_3 := blk_frozen BK152.out 3) | ((with_reducible refine gate_store (t := 38) (p := 9) rfl ?_); refine store_event (t := 38) (p := 9) (v := ?vo_w20) (w1 := ((((w18.setCell ⟨gb152, 0, none⟩ (.int .i64 ((rd_T38 x8_1 (ji6)).f0))).setCell ⟨gb152, 1, none⟩ (.int .i64 ((rd_T38 x8_1 (ji6)).f1))).setCell ⟨gb152, 2, none⟩ (.int .i64 ((rd_T38 x8_1 (ji6)).f2))).setCell ⟨gb152, 3, none⟩ (.int .i64 ((rd_T38 x8_1 (ji6)).f3)))) ?hg ?ho ?hn ?hr ?_; (case ho => rfl); (case hg => rfl); (case hn => rfl); (case hr => first | (go_simp; done) | (go_simp; rfl)); intro w20 hw; have n0_ : Aside0 (Kd.R k28 28 w20 w.heap.size (fun _ => True) u6 x6_1) := ⟨(by rw [hw]; exact (by (with_reducible repeat (first | apply Kd.R_alloc | apply Kd.R_drewN | apply Kd.R_drew)); exact Kd.R_mono (Kd.R_far (p := ⟨gb152, 3, none⟩) (Kd.R_far (p := ⟨gb152, 2, none⟩) (Kd.R_far (p := ⟨gb152, 1, none⟩) (Kd.R_far (p := ⟨gb152, 0, none⟩) (Kd.R_types HO_6.out BK152.out (by decide)) (fun _ hk => hk.2) (.int .i64 ((rd_T38 x8_1 (ji6)).f0))) (fun _ hk => hk.2) (.int .i64 ((rd_T38 x8_1 (ji6)).f1))) (fun _ hk => hk.2) (.int .i64 ((rd_T38 x8_1 (ji6)).f2))) (fun _ hk => hk.2) (.int .i64 ((rd_T38 x8_1 (ji6)).f3))) (fun _ hk => trivial)))⟩; have n1_ : Aside0 (Kd.R k38 38 w20 w.heap.size (fun k_ => k_ ≠ gb152) (.slice (some ad151) x8_1.length co17) x8_1) := ⟨(by rw [hw]; exact (by (with_reducible repeat (first | apply Kd.R_alloc | apply Kd.R_drewN | apply Kd.R_drew)); exact Kd.R_mono (Kd.R_far (p := ⟨gb152, 3, none⟩) (Kd.R_far (p := ⟨gb152, 2, none⟩) (Kd.R_far (p := ⟨gb152, 1, none⟩) (Kd.R_far (p := ⟨gb152, 0, none⟩) (Kd.R_mono HO_8.out (fun k_ hk => (⟨hk, hk.2⟩ : _ ∧ k_ ≠ gb152))) (fun _ hk => hk.2) (.int .i64 ((rd_T38 x8_1 (ji6)).f0))) (fun _ hk => hk.2) (.int .i64 ((rd_T38 x8_1 (ji6)).f1))) (fun _ hk => hk.2) (.int .i64 ((rd_T38 x8_1 (ji6)).f2))) (fun _ hk => hk.2) (.int .i64 ((rd_T38 x8_1 (ji6)).f3))) (fun _ hk => hk.1.2)))⟩; have n2_ : Aside0 (w20.heap[gb152]? = some (.cells #[.int .i64 ((rd_T38 x8_1 (ji6)).f0), .int .i64 ((rd_T38 x8_1 (ji6)).f1), .int .i64 ((rd_T38 x8_1 (ji6)).f2), .int .i64 ((rd_T38 x8_1 (ji6)).f3)] 38 (0, 0))) := ⟨(by rw [hw]; exact (by (with_reducible repeat (first | refine blk_drewN ?_ _ | refine blk_drew ?_ | refine blk_alloc ?_ _)); refine blk_put (cs := #[.int .i64 ((rd_T38 x8_1 (ji6)).f0), .int .i64 ((rd_T38 x8_1 (ji6)).f1), .int .i64 ((rd_T38 x8_1 (ji6)).f2), .int .i64 0]) ?_ 3 _ rfl; (with_reducible repeat (first | refine blk_drewN ?_ _ | refine blk_drew ?_ | refine blk_alloc ?_ _)); refine blk_put (cs := #[.int .i64 ((rd_T38 x8_1 (ji6)).f0), .int .i64 ((rd_T38 x8_1 (ji6)).f1), .int .i64 0, .int .i64 0]) ?_ 2 _ rfl; (with_reducible repeat (first | refine blk_drewN ?_ _ | refine blk_drew ?_ | refine blk_alloc ?_ _)); refine blk_put (cs := #[.int .i64 ((rd_T38 x8_1 (ji6)).f0), .int .i64 0, .int .i64 0, .int .i64 0]) ?_ 1 _ rfl; (with_reducible repeat (first | refine blk_drewN ?_ _ | refine blk_drew ?_ | refine blk_alloc ?_ _)); refine blk_put (cs := #[.int .i64 0, .int .i64 0, .int .i64 0, .int .i64 0]) ?_ 0 _ rfl; (with_reducible repeat (first | refine blk_drewN ?_ _ | refine blk_drew ?_ | refine blk_alloc ?_ _)); exact BK152.out))⟩; have n3_ : Aside0 (Below w.heap.size w w20) := ⟨(by rw [hw]; exact (by repeat (first | (with_reducible first | exact HB.out | apply below_alloc | apply pw_below_drewN | apply below_drew1 | refine below_set ?_ GE152.out) | exact HB.out)))⟩; clear hw; clear HO_6; clear HO_8; clear BK152; clear HB; have HO_6 := n0_; have HO_8 := n1_; have BK152 := n2_; have HB := n3_; clear n0_ n1_ n2_ n3_; have q21 : ((ji6) : Int) ≤ ((x8_1.length : Int) : Int) := of_decide_eq_true (by first | (with_reducible assumption) | assumption); obtain ⟨i021, hi021, _, hsz21, _⟩ := info_parts info38; have hcut21 := cut_to (P := Try.prog) 39 38 .i64 Try.underlying39 hi021 (some ad151) x8_1.length co17 (ji6) (of_decide_eq_true (by first | (with_reducible assumption) | assumption)) q21 (Kd.R_reads' HO_8.out).2.1; have hr21 := Kd.R_take (m := ((ji6) : Int).toNat) HO_8.out (by omega); have hy21 : y153.length = ((ji6) : Int).toNat := (by rw [Ny153.out, List.length_take]; omega); rw [← Ny153.out] at hr21; rw [← hy21] at hr21 hcut21; clear hy21 hi021 hsz21 HO_8; have HO155 := Aside0.mk hr21; clear hr21; replace q21 := eq_true q21))
                          have n0_ := Aside0.mk (Kd.R_drew HO_6.out)
                          have n1_ := Aside0.mk (Kd.R_drew HO155.out)
                          have n2_ := Aside0.mk (blk_drew BK152.out)
                          have n3_ := Aside0.mk (below_drew1 HB.out)
                          clear HO_6
                          clear HO155
                          clear BK152
                          clear HB
                          have HO_6 := n0_
                          have HO155 := n1_
                          have BK152 := n2_
                          have HB := n3_
                          clear n0_ n1_ n2_ n3_
                          obtain ⟨i023, hi023, _, hsz23, _⟩ := info_parts info3
                          obtain ⟨A23, hcut23, hA23, hC23⟩ := print_mid_of (P := Try.prog) (Value.int .i64) 0 25 3 .i64 .i64 Try.underlying25 hi023 hsz23 A0 c0 l0 ((rd_T38 x8_1 (ji6)).f0) ((rd_T38 x8_1 (ji6)).f1) (of_decide_eq_true (by first | (with_reducible assumption) | assumption)) (by first | omega | exact of_decide_eq_true (by first | (with_reducible assumption) | assumption)) (of_decide_eq_true (by first | (with_reducible assumption) | assumption)) HC0.out
                          have HR156 := Aside0.mk (Kd.C_of_reads (h1 := fun _ => rfl) (hA23 _ (Kd.reads_of_C HR0.out)))
                          have HC156 := Aside0.mk hC23
                          clear hA23 hC23 hi023 hsz23
                          obtain ⟨yk1, hyk1⟩ : ∃ y_ : List Int, y_ = ((l0.take (((rd_T38 x8_1 (ji6)).f1) : Int).toNat).drop (((rd_T38 x8_1 (ji6)).f0) : Int).toNat) := ⟨_, rfl⟩
                          try rw [← hyk1] at hcut23
                          try rw [← hyk1] at HR156
                          try rw [← hyk1] at HC156
                          (try rw [← hyk1] at HC16)
                          (try rw [← hyk1] at A29)
                          (try rw [← hyk1] at A37)
                          (try rw [← hyk1] at A40)
                          (try rw [← hyk1] at A41)
                          (try rw [← hyk1] at H)
                          (try rw [← hyk1] at H')
                          have Nyk1 := Aside0.mk hyk1
                          clear hyk1
                          obtain ⟨i024, hi024, _, hsz24, _⟩ := info_parts info3
                          obtain ⟨A24, hcut24, hA24, hC24⟩ := print_mid_of (P := Try.prog) (Value.int .i64) 0 25 3 .i64 .i64 Try.underlying25 hi024 hsz24 A1 c1 l1 ((rd_T38 x8_1 (ji6)).f2) ((rd_T38 x8_1 (ji6)).f3) (of_decide_eq_true (by first | (with_reducible assumption) | assumption)) (by first | omega | exact of_decide_eq_true (by first | (with_reducible assumption) | assumption)) (of_decide_eq_true (by first | (with_reducible assumption) | assumption)) HC1.out
                          have HR157 := Aside0.mk (Kd.C_of_reads (h1 := fun _ => rfl) (hA24 _ (Kd.reads_of_C HR1.out)))
                          have HC157 := Aside0.mk hC24
                          clear hA24 hC24 hi024 hsz24
                          obtain ⟨yk2, hyk2⟩ : ∃ y_ : List Int, y_ = ((l1.take (((rd_T38 x8_1 (ji6)).f3) : Int).toNat).drop (((rd_T38 x8_1 (ji6)).f2) : Int).toNat) := ⟨_, rfl⟩
                          try rw [← hyk2] at hcut24
                          try rw [← hyk2] at HR157
                          try rw [← hyk2] at HC157
                          (try rw [← hyk2] at HC16)
                          (try rw [← hyk2] at A29)
                          (try rw [← hyk2] at A37)
                          (try rw [← hyk2] at A40)
                          (try rw [← hyk2] at A41)
                          (try rw [← hyk2] at H)
                          (try rw [← hyk2] at H')
                          have Nyk2 := Aside0.mk hyk2
                          clear hyk2
                          refine start_ (n := 14) (S := fun w' => w'.cell? ⟨gb152, 0, none⟩ = some (.int .i64 ((rd_T38 x8_1 (ji6)).f0)) ∧ w'.cell? ⟨gb152, 1, none⟩ = some (.int .i64 ((rd_T38 x8_1 (ji6)).f1)) ∧ w'.cell? ⟨gb152, 2, none⟩ = some (.int .i64 ((rd_T38 x8_1 (ji6)).f2)) ∧ w'.cell? ⟨gb152, 3, none⟩ = some (.int .i64 ((rd_T38 x8_1 (ji6)).f3))) (ds := []) #[false, false, false, false, false, false, false, false, false, false, false, false, false, false] (by kernel_rfl) rfl rfl ⟨(blk_cell BK152.out 0).trans rfl, (blk_cell BK152.out 1).trans rfl, (blk_cell BK152.out 2).trans rfl, (blk_cell BK152.out 3).trans rfl⟩ (fun hHeld => ?_); refine with_tabW halve_Run.tab7 halve_Run.bits7 (fun HT_ HW_ => ?_)
                          generalize w20.drew = w22 at HO_6 HO155 BK152 HB HR156 HR157 hHeld ⊢
                          refine pure_ (i := 0) (N := some 36) (v := ?_) (a' := ?_) #[true, false, false, false, false, false, false, false, false, false, false, false, false, false] rfl rfl (any_of HT_.out (by kernel_rfl)) (fun _ _ _ h => h) (Or.inl ⟨by rfl, ?_⟩) ?_ ?_
                          rotate_left
                          · intro w'
                            go_simp
                            with_reducible rfl
                          rotate_left
                          · simp only [Act.put, List.setIfInBounds_toArray, List.set_cons_zero, List.set_cons_succ, i64_w, i32_w]
                            rfl
                          refine pure_ (i := 1) (N := some 37) (v := ?_) (a' := ?_) #[true, true, false, false, false, false, false, false, false, false, false, false, false, false] rfl rfl (any_of HT_.out (by kernel_rfl)) (fun _ _ _ h => h) (Or.inl ⟨by rfl, ?_⟩) ?_ ?_
                          rotate_left
                          · intro w'
                            go_simp
                            with_reducible rfl
                          rotate_left
                          · simp only [Act.put, List.setIfInBounds_toArray, List.set_cons_zero, List.set_cons_succ, i64_w, i32_w]
                            rfl
                          refine pure_ (i := 3) (N := some 39) (v := ?_) (a' := ?_) #[true, true, false, true, false, false, false, false, false, false, false, false, false, false] rfl rfl (any_of HT_.out (by kernel_rfl)) (fun _ _ _ h => h) (Or.inl ⟨by rfl, ?_⟩) ?_ ?_
                          rotate_left
                          · intro w'
                            go_simp
                            with_reducible rfl
                          rotate_left
                          · simp only [Act.put, List.setIfInBounds_toArray, List.set_cons_zero, List.set_cons_succ, i64_w, i32_w]
                            rfl
                          refine pure_ (i := 6) (N := some 42) (v := ?_) (a' := ?_) #[true, true, false, true, false, false, true, false, false, false, false, false, false, false] rfl rfl (any_of HT_.out (by kernel_rfl)) (fun _ _ _ h => h) (Or.inl ⟨by rfl, ?_⟩) ?_ ?_
                          rotate_left
                          · intro w'
                            go_simp
                            with_reducible rfl
                          rotate_left
                          · simp only [Act.put, List.setIfInBounds_toArray, List.set_cons_zero, List.set_cons_succ, i64_w, i32_w]
                            rfl
                          refine pure_ (i := 7) (N := some 43) (v := ?_) (a' := ?_) #[true, true, false, true, false, false, true, true, false, false, false, false, false, false] rfl rfl (any_of HT_.out (by kernel_rfl)) (fun _ _ _ h => h) (Or.inl ⟨by rfl, ?_⟩) ?_ ?_
                          rotate_left
                          · intro w'
                            go_simp
                            with_reducible rfl
                          rotate_left
                          · simp only [Act.put, List.setIfInBounds_toArray, List.set_cons_zero, List.set_cons_succ, i64_w, i32_w]
                            rfl
                          refine pure_ (i := 9) (N := some 45) (v := ?_) (a' := ?_) #[true, true, false, true, false, false, true, true, false, true, false, false, false, false] rfl rfl (any_of HT_.out (by kernel_rfl)) (fun _ _ _ h => h) (Or.inl ⟨by rfl, ?_⟩) ?_ ?_
                          rotate_left
                          · intro w'
                            go_simp
                            with_reducible rfl
                          rotate_left
                          · simp only [Act.put, List.setIfInBounds_toArray, List.set_cons_zero, List.set_cons_succ, i64_w, i32_w]
                            rfl
                          refine take_ (i := 2) (N := some 38) (v := ?_) (a' := ?_) #[true, true, true, true, false, false, true, true, false, true, false, false, false, false] rfl rfl (take_ofW HT_.out HW_.out (by kernel_rfl)) (fun _ _ _ h => h) (Or.inl ⟨by rfl, ?_⟩) hHeld ?_ ?_
                          rotate_left
                          · rintro w' ⟨s0, s1, s2, s3⟩
                            go_simp
                            with_reducible rfl
                          rotate_left
                          · simp only [Act.put, List.setIfInBounds_toArray, List.set_cons_zero, List.set_cons_succ, i64_w, i32_w]
                            rfl
                          refine take_ (i := 4) (N := some 40) (v := ?_) (a' := ?_) #[true, true, true, true, true, false, true, true, false, true, false, false, false, false] rfl rfl (take_ofW HT_.out HW_.out (by kernel_rfl)) (fun _ _ _ h => h) (Or.inl ⟨by rfl, ?_⟩) hHeld ?_ ?_
                          rotate_left
                          · rintro w' ⟨s0, s1, s2, s3⟩
                            go_simp
                            with_reducible rfl
                          rotate_left
                          · simp only [Act.put, List.setIfInBounds_toArray, List.set_cons_zero, List.set_cons_succ, i64_w, i32_w]
                            rfl
                          refine pure_ (i := 5) (N := some 41) (v := ?_) (a' := ?_) #[true, true, true, true, true, true, true, true, false, true, false, false, false, false] rfl rfl (any_of HT_.out (by kernel_rfl)) (fun _ _ _ h => h) (Or.inl ⟨by rfl, ?_⟩) ?_ ?_
                          rotate_left
                          · intro w'
                            go_simp
                            with_reducible rfl
                          rotate_left
                          · simp only [Act.put, List.setIfInBounds_toArray, List.set_cons_zero, List.set_cons_succ, i64_w, i32_w]
                            rfl
                          refine pure_ (i := 12) (N := some 10) (v := ?_) (a' := ?_) #[true, true, true, true, true, true, true, true, false, true, false, false, true, false] rfl rfl (any_of HT_.out (by kernel_rfl)) (fun _ _ _ h => h) (Or.inl ⟨by rfl, ?_⟩) ?_ ?_
                          rotate_left
                          · intro w'
                            go_simp
                            with_reducible rfl
                          rotate_left
                          · simp only [Act.put, List.setIfInBounds_toArray, List.set_cons_zero, List.set_cons_succ, i64_w, i32_w]
                            rfl
                          refine take_ (i := 8) (N := some 44) (v := ?_) (a' := ?_) #[true, true, true, true, true, true, true, true, true, true, false, false, true, false] rfl rfl (take_ofW HT_.out HW_.out (by kernel_rfl)) (fun _ _ _ h => h) (Or.inl ⟨by rfl, ?_⟩) hHeld ?_ ?_
                          rotate_left
                          · rintro w' ⟨s0, s1, s2, s3⟩
                            go_simp
                            with_reducible rfl
                          rotate_left
                          · simp only [Act.put, List.setIfInBounds_toArray, List.set_cons_zero, List.set_cons_succ, i64_w, i32_w]
                            rfl
                          refine take_ (i := 10) (N := some 46) (v := ?_) (a' := ?_) #[true, true, true, true, true, true, true, true, true, true, true, false, true, false] rfl rfl (take_ofW HT_.out HW_.out (by kernel_rfl)) (fun _ _ _ h => h) (Or.inl ⟨by rfl, ?_⟩) hHeld ?_ ?_
                          rotate_left
                          · rintro w' ⟨s0, s1, s2, s3⟩
                            go_simp
                            with_reducible rfl
                          rotate_left
                          · simp only [Act.put, List.setIfInBounds_toArray, List.set_cons_zero, List.set_cons_succ, i64_w, i32_w]
                            rfl
                          refine pure_ (i := 11) (N := some 47) (v := ?_) (a' := ?_) #[true, true, true, true, true, true, true, true, true, true, true, true, true, false] rfl rfl (any_of HT_.out (by kernel_rfl)) (fun _ _ _ h => h) (Or.inl ⟨by rfl, ?_⟩) ?_ ?_
                          rotate_left
                          · intro w'
                            go_simp
                            with_reducible rfl
                          rotate_left
                          · simp only [Act.put, List.setIfInBounds_toArray, List.set_cons_zero, List.set_cons_succ, i64_w, i32_w]
                            rfl
                          refine pure_ (i := 13) (N := some 11) (v := ?_) (a' := ?_) #[true, true, true, true, true, true, true, true, true, true, true, true, true, true] rfl rfl (any_of HT_.out (by kernel_rfl)) (fun _ _ _ h => h) (Or.inl ⟨by rfl, ?_⟩) ?_ ?_
                          rotate_left
                          · intro w'
                            go_simp
                            with_reducible rfl
                          rotate_left
                          · simp only [Act.put, List.setIfInBounds_toArray, List.set_cons_zero, List.set_cons_succ, i64_w, i32_w]
                            rfl
                          refine done_ (done_of HT_.out (by kernel_rfl)) ?_
                          go_upto_region 8 with (fail)
                          go_cut [55] (fun v55 wc => ∃ (kq : Nat) (x55_15 : Bool), v55 = .bool x55_15 ∧ Aside0 (halve_Run.j1 kq l0 l1 x6_1 x7_1 y153 yk1 yk2 x55_15 ((rd_T38 x8_1 (ji6)).f0) ((rd_T38 x8_1 (ji6)).f1) ((rd_T38 x8_1 (ji6)).f2) ((rd_T38 x8_1 (ji6)).f3) = some (r1, r2)) ∧ Aside0 (kq ≤ k1) ∧ Aside0 (Kd.R k28 28 wc w.heap.size (fun _ => True) u6 x6_1) ∧ Aside0 (Kd.R k38 38 wc w.heap.size (fun k_ => k_ ≠ gb152) (.slice (some ad151) y153.length co17) y153) ∧ Aside0 (wc.heap[gb152]? = some (.cells #[.int .i64 ((rd_T38 x8_1 (ji6)).f0), .int .i64 ((rd_T38 x8_1 (ji6)).f1), .int .i64 ((rd_T38 x8_1 (ji6)).f2), .int .i64 ((rd_T38 x8_1 (ji6)).f3)] 38 (0, 0))) ∧ Aside0 (Below w.heap.size w wc))
                          case first =>
                            have H := HC16.out
                            clear HC16
                            by_cases c25 : (yk1.length : Int) = 0
                            · rw [if_pos c25] at H
                              have c25b0 : ((yk1.length : Int) == 0) = true := beq_iff_eq.mpr c25
                              have c25b1 : ((yk1.length : Int) != 0) = false := bne_eq_false_iff_eq.mpr c25
                              clear c25
                              (first | rw [c25b0] | (simp only [i64_w, i32_w]; rw [c25b0]) | skip)
                              have H' := Aside0.mk H
                              clear H
                              go_wp2
                              go_meet
                              case rel => exact ⟨_, (true), (by first | rfl | (simp; done) | (simp [*]; done)), H', ⟨by have := HK1.out; first | omega | exact Nat.le_refl _⟩, ⟨by (with_reducible repeat (first | apply Kd.R_alloc | apply Kd.R_drewN | apply Kd.R_drew)); exact HO_6.out⟩, ⟨by (with_reducible repeat (first | apply Kd.R_alloc | apply Kd.R_drewN | apply Kd.R_drew)); exact HO155.out⟩, ⟨by (with_reducible repeat (first | refine blk_drewN ?_ _ | refine blk_drew ?_ | refine blk_alloc ?_ _)); exact BK152.out⟩, ⟨by repeat (first | (with_reducible first | exact HB.out | apply below_alloc | apply pw_below_drewN | apply below_drew1 | refine below_set ?_ GE152.out) | exact HB.out)⟩⟩
                            · rw [if_neg c25] at H
                              have c25b0 : ((yk1.length : Int) == 0) = false := beq_eq_false_iff_ne.mpr c25
                              have c25b1 : ((yk1.length : Int) != 0) = true := bne_iff_ne.mpr c25
                              have c25b2 : ¬ (yk1 = []) := fun h_ => c25 (by rw [h_]; rfl)
                              (first | rw [c25b0] | (simp only [i64_w, i32_w]; rw [c25b0]) | skip)
                              have H' := Aside0.mk H
                              clear H
                              go_wp2
                              go_meet
                              case rel => exact ⟨_, (((yk2.length : Int) == 0)), (by first | rfl | (simp; done) | (simp only [← hji6] <;> (first | rfl | simp)) | (simp [*]; done)), H', ⟨by have := HK1.out; first | omega | exact Nat.le_refl _⟩, ⟨by (with_reducible repeat (first | apply Kd.R_alloc | apply Kd.R_drewN | apply Kd.R_drew)); exact HO_6.out⟩, ⟨by (with_reducible repeat (first | apply Kd.R_alloc | apply Kd.R_drewN | apply Kd.R_drew)); exact HO155.out⟩, ⟨by (with_reducible repeat (first | refine blk_drewN ?_ _ | refine blk_drew ?_ | refine blk_alloc ?_ _)); exact BK152.out⟩, ⟨by repeat (first | (with_reducible first | exact HB.out | apply below_alloc | apply pw_below_drewN | apply below_drew1 | refine below_set ?_ GE152.out) | exact HB.out)⟩⟩
                          case rest =>
                            clear HC16
                            try clear c1
                            try clear p1
                            try clear q1
                            try clear hx1
                            try clear c2
                            try clear p2
                            try clear q2
                            try clear c4
                            try clear c5
                            try clear c5b0
                            try clear c5b1
                            try clear p6
                            try clear c7
                            try clear c7b0
                            try clear c8
                            try clear c8b0
                            try clear c9
                            try clear c9b0
                            try clear c9b1
                            try clear c10
                            try clear c10b0
                            try clear c10b1
                            try clear c11
                            try clear c11b0
                            try clear c11b1
                            try clear c12
                            try clear c12b0
                            try clear c12b1
                            try clear c13
                            try clear c13b0
                            try clear c13b1
                            try clear c14
                            try clear c14b0
                            try clear c14b1
                            try clear c15
                            try clear c15b0
                            try clear c15b1
                            try clear p15
                            try clear q15
                            try clear hx15
                            try clear q21
                            try clear c25
                            try clear c25b0
                            try clear c25b1
                            try clear c25b2
                            try clear hcz19_0
                            try clear hcz19_1
                            try clear hcz19_2
                            try clear hcz19_3
                            try clear hfz19_0
                            try clear hfz19_1
                            try clear hfz19_2
                            try clear hfz19_3
                            try clear hx151_0
                            try clear hx151_1
                            try clear hx151_2
                            try clear hx151_3
                            try clear p151
                            try clear p2
                            try clear q151
                            try clear q21
                            obtain ⟨kq, x55_15, rfl, HA, HJ15, HO_6, HO_8, BK152, HB⟩ := hcut
                            cases kq with
                            | zero => exact absurd HA.out (by simp [halve_Run.j1])
                            | succ kj15 =>
                              have H := HA.out
                              clear HA
                              simp only [halve_Run.j1] at H
                              by_cases c26 : x55_15 = true
                              · subst c26
                                have H1 : (halve_Run.l0 kj15 l0 l1 x6_1 x7_1 y153) = some (r1, r2) := by rw [if_pos rfl] at H; exact H
                                clear H
                                have H := H1
                                clear H1
                                have H' := Aside0.mk H
                                clear H
                                go_wp2
                                go_roundg kj15
                                case measure => have := HK1.out; have := HJ15.out; omega
                                case rel => exact ⟨(x6_1), (x7_1), (y153), (by first | rfl | (simp; done) | (simp [*]; done)), H', ⟨by have := HK1.out; have := HJ15.out; omega⟩, ⟨by (with_reducible repeat (first | apply Kd.R_alloc | apply Kd.R_drewN | apply Kd.R_drew)); exact HO_6.out⟩, ⟨by (with_reducible repeat (first | apply Kd.R_alloc | apply Kd.R_drewN | apply Kd.R_drew)); exact Kd.R_mono HO_8.out (fun _ hk => trivial)⟩, ⟨by repeat (first | (with_reducible first | exact HB.out | apply below_alloc | apply pw_below_drewN | apply below_drew1 | refine below_set ?_ GE152.out) | exact HB.out)⟩⟩
                              · replace c26 := Bool.eq_false_iff.mpr c26
                                subst c26
                                have H1 : (if (yk1.length : Int) = 1 then (if 0 < (yk1.length : Int) then ((slices_Index_int_int.f kj15 yk2 (rd yk1 0)).bind fun t159 => (if t159 ≥ 0 then (if x6_1.length < 8796093022208 then (halve_Run.l0 kj15 l0 l1 (x6_1 ++ [(⟨((rd_T38 x8_1 (ji6)).f0), wrap64 (((rd_T38 x8_1 (ji6)).f2) + t159)⟩ : S28)]) (wrap64 (x7_1 + (wrap64 ((yk1.length : Int) * (yk2.length : Int))))) y153) else (none)) else (halve_Run.l0 kj15 l0 l1 x6_1 (wrap64 (x7_1 + (wrap64 ((yk1.length : Int) * (yk2.length : Int))))) y153))) else (none)) else (if 0 ≤ (wrap64 ((yk1.length : Int) / 2)) then (if (wrap64 ((yk1.length : Int) / 2)) ≤ (yk1.length : Int) then ((rows_Front.f kj15 (yk1.take ((wrap64 ((yk1.length : Int) / 2)) : Int).toNat) yk2).bind fun t164 => ((rows_Back.f kj15 (yk1.drop ((wrap64 ((yk1.length : Int) / 2)) : Int).toNat) yk2).bind fun t168 => ((rows_Split.f kj15 t164 t168).bind fun bt171 => ((some (([(⟨wrap64 (((rd_T38 x8_1 (ji6)).f0) + (wrap64 ((yk1.length : Int) / 2))), ((rd_T38 x8_1 (ji6)).f1), wrap64 (((rd_T38 x8_1 (ji6)).f2) + bt171.1), ((rd_T38 x8_1 (ji6)).f3)⟩ : S38), (⟨((rd_T38 x8_1 (ji6)).f0), wrap64 (((rd_T38 x8_1 (ji6)).f0) + (wrap64 ((yk1.length : Int) / 2))), ((rd_T38 x8_1 (ji6)).f2), wrap64 (((rd_T38 x8_1 (ji6)).f2) + bt171.1)⟩ : S38)] : List (S38)) : List (S38))).bind fun y173 => (if y153.length + y173.length < 4398046511104 then (halve_Run.l0 kj15 l0 l1 x6_1 (wrap64 (x7_1 + (wrap64 ((yk1.length : Int) * (yk2.length : Int))))) (y153 ++ y173)) else (none)))))) else (none)) else (none))) = some (r1, r2) := by rw [if_neg (show ¬ (false = true) by decide)] at H; exact H
                                clear H
                                have H := H1
                                clear H1
                                by_cases c27 : (yk1.length : Int) = 1
                                · rw [if_pos c27] at H
                                  have c27b0 : ((yk1.length : Int) == 1) = true := beq_iff_eq.mpr c27
                                  have c27b1 : ((yk1.length : Int) != 1) = false := bne_eq_false_iff_eq.mpr c27
                                  clear c27
                                  by_cases c28 : 0 < (yk1.length : Int)
                                  · rw [if_pos c28] at H
                                    have c28b0 : decide (0 < (yk1.length : Int)) = true := decide_eq_true c28
                                    have c28b1 : decide (0 < yk1.length) = true := decide_eq_true (by omega)
                                    clear c28
                                    replace H := Option.bind_eq_some_iff.mp H
                                    obtain ⟨t159, A290, H⟩ := H
                                    replace H : (if t159 ≥ 0 then (if x6_1.length < 8796093022208 then (halve_Run.l0 kj15 l0 l1 (x6_1 ++ [(⟨((rd_T38 x8_1 (ji6)).f0), wrap64 (((rd_T38 x8_1 (ji6)).f2) + t159)⟩ : S28)]) (wrap64 (x7_1 + (wrap64 ((yk1.length : Int) * (yk2.length : Int))))) y153) else (none)) else (halve_Run.l0 kj15 l0 l1 x6_1 (wrap64 (x7_1 + (wrap64 ((yk1.length : Int) * (yk2.length : Int))))) y153)) = some (r1, r2) := H
                                    have A29 := Aside0.mk A290
                                    clear A290
                                    by_cases c30 : t159 ≥ 0
                                    · rw [if_pos c30] at H
                                      have c30b0 : decide (0 ≤ t159) = true := decide_eq_true c30
                                      clear c30
                                      by_cases c31 : x6_1.length < 8796093022208
                                      · rw [if_pos c31] at H
                                        have LMc31 := Aside0.mk c31
                                        clear c31
                                        obtain ⟨y160, hy160⟩ : ∃ y_ : List (S28), y_ = (x6_1 ++ [(⟨((rd_T38 x8_1 (ji6)).f0), wrap64 (((rd_T38 x8_1 (ji6)).f2) + t159)⟩ : S28)]) := ⟨_, rfl⟩
                                        replace H : (halve_Run.l0 kj15 l0 l1 y160 (wrap64 (x7_1 + (wrap64 ((yk1.length : Int) * (yk2.length : Int))))) y153) = some (r1, r2) := by first | (rw [hy160]; with_reducible exact H) | (have H2_ := (Option.bind_some _ _).symm.trans H; rw [hy160]; with_reducible exact H2_) | (have H2_ := (Option.bind_some _ _).symm.trans H; with_reducible exact H2_) | with_reducible exact H | (rw [hy160]; exact H) | exact H
                                        have Ny160 := Aside0.mk hy160
                                        clear hy160
                                        have H' := Aside0.mk H
                                        clear H
                                        have p158 : 0 ≤ (0 : Int) := (by omega)
                                        have q158 : 0 < (yk1.length : Int) := of_decide_eq_true (by first | (with_reducible assumption) | assumption)
                                        obtain ⟨ad158, e158, hx158_0⟩ := Kd.at_int HR156.out 0 p158 q158
                                        cases e158
                                        have qi158 : (0 < yk1.length) = True := eq_true (by omega)
                                        (try rw [show ((0 : Int)).toNat = 0 from rfl] at hx158_0)
                                        (try rw [Addr.add_zero'] at hx158_0)
                                        replace hx158_0 := (HB.out.cell (World.block_lt_of_cell? w _ hx158_0)).trans hx158_0
                                        replace p158 := eq_true p158
                                        replace q158 := eq_true q158
                                        go_wp2_with (first | ((with_reducible refine gate_callee (f := 17) rfl ?_); refine goesL_ (some 70) rfl rfl Try.func17 (by kernel_rfl) rfl #[.slice A24 yk2.length (c1 - ((rd_T38 x8_1 (ji6)).f2).toNat), .int .i64 (rd yk1 0)] rfl (by (try simp only [List.map_toArray, List.map_cons, List.map_nil]); first | done | (rw [show yk2.length = (((rd_T38 x8_1 (ji6)).f3).toNat - ((rd_T38 x8_1 (ji6)).f2).toNat) from (by rw [List.length_drop, List.length_take]; have h_ : (((rd_T38 x8_1 (ji6)).f3) : Int) ≤ (l1.length : Int) := of_decide_eq_true (by first | (with_reducible assumption) | assumption); omega)] <;> rfl) | (simp only [hji6]; rfl) | rfl | (simp only [List.length_drop, List.length_take]; rfl)) ?_; (with_reducible refine (slices_Index_int_int.calls kj15 _ _ yk2 (rd yk1 0) t159 _ ?side1 ?side2 A29.out).mono ?_); (case side1 => repeat (first | exact (Kd.C_below HR157.out HB.out) | (with_reducible refine Kd.C_alloc ?_ _) | (with_reducible refine Kd.C_drewN ?_ _) | (with_reducible refine Kd.C_drew ?_))); (case side2 => exact HC157.out); rintro e w' ⟨rfl, ⟨nd, rfl⟩⟩; refine ⟨_, rfl, ?_⟩; have hcz32_0 : wc.cell? ⟨gb152, 0, none⟩ = some (.int .i64 ((rd_T38 x8_1 (ji6)).f0)) := (blk_cell BK152.out 0).trans rfl; have hcz32_1 : wc.cell? ⟨gb152, 1, none⟩ = some (.int .i64 ((rd_T38 x8_1 (ji6)).f1)) := (blk_cell BK152.out 1).trans rfl; have hcz32_2 : wc.cell? ⟨gb152, 2, none⟩ = some (.int .i64 ((rd_T38 x8_1 (ji6)).f2)) := (blk_cell BK152.out 2).trans rfl; have hcz32_3 : wc.cell? ⟨gb152, 3, none⟩ = some (.int .i64 ((rd_T38 x8_1 (ji6)).f3)) := (blk_cell BK152.out 3).trans rfl; have hfz32_0 := blk_frozen BK152.out 0; have hfz32_1 := blk_frozen BK152.out 1; have hfz32_2 := blk_frozen BK152.out 2; have hfz32_3 := blk_frozen BK152.out 3) | ((with_reducible refine gate_builtin (b := .append) (xs := #[.tmp 73, .tmp 81]) rfl ?_); (try (refine gate_guard (by rfl) ?_; dsimp only)); at_builtin; refine Kd.R_append k28 (w0 := w) w.heap.size rfl (.tmp 73) (.tmp 81) 22 28 (.agg #[(.int .i64 0), (.int .i64 0)]) 16 rfl Try.underlying22 info28 rfl (by decide) (by omega) u6 x6_1 (⟨((rd_T38 x8_1 (ji6)).f0), wrap64 (((rd_T38 x8_1 (ji6)).f2) + t159)⟩ : S28) [.int .i64 ((rd_T38 x8_1 (ji6)).f0), .int .i64 (wrap64 (((rd_T38 x8_1 (ji6)).f2) + t159))] (fun _ => True) (fun _ => False) rfl rfl ?aP (fun _ hk => hk.elim) ?aF ?aO ?aB ?aS ?aL ?_; (case aP => exact k28_mkM _ _ _ (⟨((rd_T38 x8_1 (ji6)).f0), wrap64 (((rd_T38 x8_1 (ji6)).f2) + t159)⟩ : S28)); (case aB => exact (by repeat (first | (with_reducible first | exact HB.out | apply below_alloc | apply pw_below_drewN | apply below_drew1 | refine below_set ?_ GE152.out) | exact HB.out))); (case aF => exact (fun _ _ => trivial)); (case aO => exact (by (with_reducible repeat (first | apply Kd.R_alloc | apply Kd.R_drewN | apply Kd.R_drew)); exact HO_6.out)); (case aS => exact (below_size (by repeat (first | (with_reducible first | exact HB.out | apply below_alloc | apply pw_below_drewN | apply below_drew1 | refine below_set ?_ GE152.out) | exact HB.out)))); (case aL => have := LMc31.out; omega); intro v161 w33 ho hb hg hat; rw [← Ny160.out] at ho; have n0_ := Aside0.mk (Kd.R_over' (by (with_reducible repeat (first | apply Kd.R_alloc | apply Kd.R_drewN | apply Kd.R_drew)); exact HO_8.out) (Kd.R_typed (by (with_reducible repeat (first | apply Kd.R_alloc | apply Kd.R_drewN | apply Kd.R_drew)); exact HO_6.out)) (by decide) hg); have n1_ := Aside0.mk (blk_grown (g := gb152) (o := .cells #[.int .i64 ((rd_T38 x8_1 (ji6)).f0), .int .i64 ((rd_T38 x8_1 (ji6)).f1), .int .i64 ((rd_T38 x8_1 (ji6)).f2), .int .i64 ((rd_T38 x8_1 (ji6)).f3)] 38 (0, 0)) (by (with_reducible repeat (first | refine blk_drewN ?_ _ | refine blk_drew ?_ | refine blk_alloc ?_ _)); exact BK152.out) hg (Kd.R_ne HO_6.out BK152.out (by decide))); have n2_ := Aside0.mk (hb); have n3_ := Aside0.mk (ho); clear HO_8; clear BK152; clear HB; clear HO_6; have HO_8 := n0_; have BK152 := n1_; have HB := n2_; have HO162 := n3_; clear n0_ n1_ n2_ n3_; clear ho hb hg hat))
                                        go_roundg kj15
                                        case measure => have := HK1.out; have := HJ15.out; omega
                                        case rel => exact ⟨(y160), (wrap64 (x7_1 + (wrap64 ((yk1.length : Int) * (yk2.length : Int))))), (y153), (by first | rfl | (simp; done) | (simp only [← hji6] <;> (first | rfl | simp)) | (simp [*]; done)), H', ⟨by have := HK1.out; have := HJ15.out; omega⟩, ⟨by (with_reducible repeat (first | apply Kd.R_alloc | apply Kd.R_drewN | apply Kd.R_drew)); exact HO162.out⟩, ⟨by (with_reducible repeat (first | apply Kd.R_alloc | apply Kd.R_drewN | apply Kd.R_drew)); exact Kd.R_mono HO_8.out (fun _ hk => trivial)⟩, ⟨by repeat (first | (with_reducible first | exact HB.out | apply below_alloc | apply pw_below_drewN | apply below_drew1 | refine below_set ?_ GE152.out) | exact HB.out)⟩⟩
                                      · rw [if_neg c31] at H
                                        exact absurd H (by simp)
                                    · rw [if_neg c30] at H
                                      have c30b0 : decide (0 ≤ t159) = false := decide_eq_false c30
                                      clear c30
                                      have H' := Aside0.mk H
                                      clear H
                                      have p158 : 0 ≤ (0 : Int) := (by omega)
                                      have q158 : 0 < (yk1.length : Int) := of_decide_eq_true (by first | (with_reducible assumption) | assumption)
                                      obtain ⟨ad158, e158, hx158_0⟩ := Kd.at_int HR156.out 0 p158 q158
                                      cases e158
                                      have qi158 : (0 < yk1.length) = True := eq_true (by omega)
                                      (try rw [show ((0 : Int)).toNat = 0 from rfl] at hx158_0)
                                      (try rw [Addr.add_zero'] at hx158_0)
                                      replace hx158_0 := (HB.out.cell (World.block_lt_of_cell? w _ hx158_0)).trans hx158_0
                                      replace p158 := eq_true p158
                                      replace q158 := eq_true q158
                                      go_wp2_with (first | ((with_reducible refine gate_callee (f := 17) rfl ?_); refine goesL_ (some 70) rfl rfl Try.func17 (by kernel_rfl) rfl #[.slice A24 yk2.length (c1 - ((rd_T38 x8_1 (ji6)).f2).toNat), .int .i64 (rd yk1 0)] rfl (by (try simp only [List.map_toArray, List.map_cons, List.map_nil]); first | done | (rw [show yk2.length = (((rd_T38 x8_1 (ji6)).f3).toNat - ((rd_T38 x8_1 (ji6)).f2).toNat) from (by rw [List.length_drop, List.length_take]; have h_ : (((rd_T38 x8_1 (ji6)).f3) : Int) ≤ (l1.length : Int) := of_decide_eq_true (by first | (with_reducible assumption) | assumption); omega)] <;> rfl) | (simp only [hji6]; rfl) | rfl | (simp only [List.length_drop, List.length_take]; rfl)) ?_; (with_reducible refine (slices_Index_int_int.calls kj15 _ _ yk2 (rd yk1 0) t159 _ ?side1 ?side2 A29.out).mono ?_); (case side1 => repeat (first | exact (Kd.C_below HR157.out HB.out) | (with_reducible refine Kd.C_alloc ?_ _) | (with_reducible refine Kd.C_drewN ?_ _) | (with_reducible refine Kd.C_drew ?_))); (case side2 => exact HC157.out); rintro e w' ⟨rfl, ⟨nd, rfl⟩⟩; refine ⟨_, rfl, ?_⟩))
                                      go_roundg kj15
                                      case measure => have := HK1.out; have := HJ15.out; omega
                                      case rel => exact ⟨(x6_1), (wrap64 (x7_1 + (wrap64 ((yk1.length : Int) * (yk2.length : Int))))), (y153), (by first | rfl | (simp; done) | (simp only [← hji6] <;> (first | rfl | simp)) | (simp [*]; done)), H', ⟨by have := HK1.out; have := HJ15.out; omega⟩, ⟨by (with_reducible repeat (first | apply Kd.R_alloc | apply Kd.R_drewN | apply Kd.R_drew)); exact HO_6.out⟩, ⟨by (with_reducible repeat (first | apply Kd.R_alloc | apply Kd.R_drewN | apply Kd.R_drew)); exact Kd.R_mono HO_8.out (fun _ hk => trivial)⟩, ⟨by repeat (first | (with_reducible first | exact HB.out | apply below_alloc | apply pw_below_drewN | apply below_drew1 | refine below_set ?_ GE152.out) | exact HB.out)⟩⟩
                                  · rw [if_neg c28] at H
                                    exact absurd H (by simp)
                                · rw [if_neg c27] at H
                                  have c27b0 : ((yk1.length : Int) == 1) = false := beq_eq_false_iff_ne.mpr c27
                                  have c27b1 : ((yk1.length : Int) != 1) = true := bne_iff_ne.mpr c27
                                  obtain ⟨ji34, hji34⟩ : ∃ j_ : Int, (wrap64 ((yk1.length : Int) / 2)) = j_ := ⟨_, rfl⟩
                                  replace H : (if 0 ≤ (ji34) then (if (ji34) ≤ (yk1.length : Int) then ((rows_Front.f kj15 (yk1.take ((ji34) : Int).toNat) yk2).bind fun t164 => ((rows_Back.f kj15 (yk1.drop ((ji34) : Int).toNat) yk2).bind fun t168 => ((rows_Split.f kj15 t164 t168).bind fun bt171 => ((some (([(⟨wrap64 (((rd_T38 x8_1 (ji6)).f0) + (ji34)), ((rd_T38 x8_1 (ji6)).f1), wrap64 (((rd_T38 x8_1 (ji6)).f2) + bt171.1), ((rd_T38 x8_1 (ji6)).f3)⟩ : S38), (⟨((rd_T38 x8_1 (ji6)).f0), wrap64 (((rd_T38 x8_1 (ji6)).f0) + (ji34)), ((rd_T38 x8_1 (ji6)).f2), wrap64 (((rd_T38 x8_1 (ji6)).f2) + bt171.1)⟩ : S38)] : List (S38)) : List (S38))).bind fun y173 => (if y153.length + y173.length < 4398046511104 then (halve_Run.l0 kj15 l0 l1 x6_1 (wrap64 (x7_1 + (wrap64 ((yk1.length : Int) * (yk2.length : Int))))) (y153 ++ y173)) else (none)))))) else (none)) else (none)) = some (r1, r2) := by first | (rw [hji34] at H; exact H) | (simp only [hji34] at H ⊢; exact H)
                                  have hji34w : (IntKind.i64.wrap ((yk1.length : Int) / 2)) = ji34 := (i64_w _).trans hji34
                                  by_cases c35 : 0 ≤ (ji34)
                                  · rw [if_pos c35] at H
                                    have c35b0 := eq_true c35
                                    have c35b1 : decide (0 ≤ (ji34)) = true := decide_eq_true c35
                                    clear c35
                                    by_cases c36 : (ji34) ≤ (yk1.length : Int)
                                    · rw [if_pos c36] at H
                                      have c36b0 := eq_true c36
                                      have c36b1 : decide ((ji34) ≤ (yk1.length : Int)) = true := decide_eq_true c36
                                      clear c36
                                      replace H := Option.bind_eq_some_iff.mp H
                                      obtain ⟨t164, A370, H⟩ := H
                                      replace H : ((rows_Back.f kj15 (yk1.drop ((ji34) : Int).toNat) yk2).bind fun t168 => ((rows_Split.f kj15 t164 t168).bind fun bt171 => ((some (([(⟨wrap64 (((rd_T38 x8_1 (ji6)).f0) + (ji34)), ((rd_T38 x8_1 (ji6)).f1), wrap64 (((rd_T38 x8_1 (ji6)).f2) + bt171.1), ((rd_T38 x8_1 (ji6)).f3)⟩ : S38), (⟨((rd_T38 x8_1 (ji6)).f0), wrap64 (((rd_T38 x8_1 (ji6)).f0) + (ji34)), ((rd_T38 x8_1 (ji6)).f2), wrap64 (((rd_T38 x8_1 (ji6)).f2) + bt171.1)⟩ : S38)] : List (S38)) : List (S38))).bind fun y173 => (if y153.length + y173.length < 4398046511104 then (halve_Run.l0 kj15 l0 l1 x6_1 (wrap64 (x7_1 + (wrap64 ((yk1.length : Int) * (yk2.length : Int))))) (y153 ++ y173)) else (none))))) = some (r1, r2) := H
                                      have A37 := Aside0.mk A370
                                      clear A370
                                      have c38b0 := eq_true (of_decide_eq_true (by first | (with_reducible assumption) | assumption) : 0 ≤ (ji34))
                                      have c39b0 := eq_true (of_decide_eq_true (by first | (with_reducible assumption) | assumption) : (ji34) ≤ (yk1.length : Int))
                                      replace H := Option.bind_eq_some_iff.mp H
                                      obtain ⟨t168, A400, H⟩ := H
                                      replace H : ((rows_Split.f kj15 t164 t168).bind fun bt171 => ((some (([(⟨wrap64 (((rd_T38 x8_1 (ji6)).f0) + (ji34)), ((rd_T38 x8_1 (ji6)).f1), wrap64 (((rd_T38 x8_1 (ji6)).f2) + bt171.1), ((rd_T38 x8_1 (ji6)).f3)⟩ : S38), (⟨((rd_T38 x8_1 (ji6)).f0), wrap64 (((rd_T38 x8_1 (ji6)).f0) + (ji34)), ((rd_T38 x8_1 (ji6)).f2), wrap64 (((rd_T38 x8_1 (ji6)).f2) + bt171.1)⟩ : S38)] : List (S38)) : List (S38))).bind fun y173 => (if y153.length + y173.length < 4398046511104 then (halve_Run.l0 kj15 l0 l1 x6_1 (wrap64 (x7_1 + (wrap64 ((yk1.length : Int) * (yk2.length : Int))))) (y153 ++ y173)) else (none)))) = some (r1, r2) := H
                                      have A40 := Aside0.mk A400
                                      clear A400
                                      replace H := Option.bind_eq_some_iff.mp H
                                      obtain ⟨⟨t171, t172⟩, A410, H⟩ := H
                                      replace H : ((some (([(⟨wrap64 (((rd_T38 x8_1 (ji6)).f0) + (ji34)), ((rd_T38 x8_1 (ji6)).f1), wrap64 (((rd_T38 x8_1 (ji6)).f2) + t171), ((rd_T38 x8_1 (ji6)).f3)⟩ : S38), (⟨((rd_T38 x8_1 (ji6)).f0), wrap64 (((rd_T38 x8_1 (ji6)).f0) + (ji34)), ((rd_T38 x8_1 (ji6)).f2), wrap64 (((rd_T38 x8_1 (ji6)).f2) + t171)⟩ : S38)] : List (S38)) : List (S38))).bind fun y173 => (if y153.length + y173.length < 4398046511104 then (halve_Run.l0 kj15 l0 l1 x6_1 (wrap64 (x7_1 + (wrap64 ((yk1.length : Int) * (yk2.length : Int))))) (y153 ++ y173)) else (none))) = some (r1, r2) := H
                                      have A41 := Aside0.mk A410
                                      clear A410
                                      obtain ⟨y173, hy173⟩ : ∃ y_ : List (S38), y_ = (([(⟨wrap64 (((rd_T38 x8_1 (ji6)).f0) + (ji34)), ((rd_T38 x8_1 (ji6)).f1), wrap64 (((rd_T38 x8_1 (ji6)).f2) + t171), ((rd_T38 x8_1 (ji6)).f3)⟩ : S38), (⟨((rd_T38 x8_1 (ji6)).f0), wrap64 (((rd_T38 x8_1 (ji6)).f0) + (ji34)), ((rd_T38 x8_1 (ji6)).f2), wrap64 (((rd_T38 x8_1 (ji6)).f2) + t171)⟩ : S38)] : List (S38))) := ⟨_, rfl⟩
                                      replace H : (if y153.length + y173.length < 4398046511104 then (halve_Run.l0 kj15 l0 l1 x6_1 (wrap64 (x7_1 + (wrap64 ((yk1.length : Int) * (yk2.length : Int))))) (y153 ++ y173)) else (none)) = some (r1, r2) := by first | (rw [hy173]; with_reducible exact H) | (have H2_ := (Option.bind_some _ _).symm.trans H; rw [hy173]; with_reducible exact H2_) | (have H2_ := (Option.bind_some _ _).symm.trans H; with_reducible exact H2_) | with_reducible exact H | (rw [hy173]; exact H) | exact H
                                      have Ny173 := Aside0.mk hy173
                                      clear hy173
                                      by_cases c42 : y153.length + y173.length < 4398046511104
                                      · rw [if_pos c42] at H
                                        have LMc42 := Aside0.mk c42
                                        clear c42
                                        obtain ⟨y176, hy176⟩ : ∃ y_ : List (S38), y_ = (y153 ++ y173) := ⟨_, rfl⟩
                                        replace H : (halve_Run.l0 kj15 l0 l1 x6_1 (wrap64 (x7_1 + (wrap64 ((yk1.length : Int) * (yk2.length : Int))))) y176) = some (r1, r2) := by first | (rw [hy176]; with_reducible exact H) | (have H2_ := (Option.bind_some _ _).symm.trans H; rw [hy176]; with_reducible exact H2_) | (have H2_ := (Option.bind_some _ _).symm.trans H; with_reducible exact H2_) | with_reducible exact H | (rw [hy176]; exact H) | exact H
                                        have Ny176 := Aside0.mk hy176
                                        clear hy176
                                        have H' := Aside0.mk H
                                        clear H
                                        try go_wp2
                                        have n0_ := Aside0.mk (Kd.R_drew HO_6.out)
                                        have n1_ := Aside0.mk (Kd.R_drew HO_8.out)
                                        have n2_ := Aside0.mk (blk_drew BK152.out)
                                        have n3_ := Aside0.mk (below_drew1 HB.out)
                                        clear HO_6
                                        clear HO_8
                                        clear BK152
                                        clear HB
                                        have HO_6 := n0_
                                        have HO_8 := n1_
                                        have BK152 := n2_
                                        have HB := n3_
                                        clear n0_ n1_ n2_ n3_
                                        obtain ⟨i044, hi044, _, hsz44, _⟩ := info_parts info3
                                        obtain ⟨hcut44, hA44, hC44⟩ := print_take_of (P := Try.prog) (Value.int .i64) 0 25 3 .i64 Try.underlying25 hi044 hsz44 A23 (c0 - ((rd_T38 x8_1 (ji6)).f0).toNat) yk1 (ji34) (of_decide_eq_true (by first | (with_reducible assumption) | assumption)) (of_decide_eq_true (by first | (with_reducible assumption) | assumption)) HC156.out
                                        have HR163 := Aside0.mk (Kd.C_of_reads (h1 := fun _ => rfl) (hA44 _ (Kd.reads_of_C HR156.out)))
                                        have HC163 := Aside0.mk hC44
                                        clear hA44 hC44 hi044 hsz44
                                        obtain ⟨yk3, hyk3⟩ : ∃ y_ : List Int, y_ = (yk1.take ((ji34) : Int).toNat) := ⟨_, rfl⟩
                                        try rw [← hyk3] at hcut44
                                        try rw [← hyk3] at HR163
                                        try rw [← hyk3] at HC163
                                        (try rw [← hyk3] at HC16)
                                        (try rw [← hyk3] at A29)
                                        (try rw [← hyk3] at A37)
                                        (try rw [← hyk3] at A40)
                                        (try rw [← hyk3] at A41)
                                        (try rw [← hyk3] at H)
                                        (try rw [← hyk3] at H')
                                        have Nyk3 := Aside0.mk hyk3
                                        clear hyk3
                                        obtain ⟨i045, hi045, _, hsz45, _⟩ := info_parts info3
                                        obtain ⟨A45, hcut45, hA45, hC45⟩ := print_drop_of (P := Try.prog) (Value.int .i64) 0 25 3 .i64 Try.underlying25 hi045 hsz45 A23 (c0 - ((rd_T38 x8_1 (ji6)).f0).toNat) yk1 (ji34) (of_decide_eq_true (by first | (with_reducible assumption) | assumption)) (of_decide_eq_true (by first | (with_reducible assumption) | assumption)) HC156.out
                                        have HR167 := Aside0.mk (Kd.C_of_reads (h1 := fun _ => rfl) (hA45 _ (Kd.reads_of_C HR156.out)))
                                        have HC167 := Aside0.mk hC45
                                        clear hA45 hC45 hi045 hsz45
                                        obtain ⟨yk4, hyk4⟩ : ∃ y_ : List Int, y_ = (yk1.drop ((ji34) : Int).toNat) := ⟨_, rfl⟩
                                        try rw [← hyk4] at hcut45
                                        try rw [← hyk4] at HR167
                                        try rw [← hyk4] at HC167
                                        (try rw [← hyk4] at HC16)
                                        (try rw [← hyk4] at A29)
                                        (try rw [← hyk4] at A37)
                                        (try rw [← hyk4] at A40)
                                        (try rw [← hyk4] at A41)
                                        (try rw [← hyk4] at H)
                                        (try rw [← hyk4] at H')
                                        have Nyk4 := Aside0.mk hyk4
                                        clear hyk4
                                        refine start_ (n := 16) (S := fun w' => True) (ds := []) #[false, false, false, false, false, false, false, false, false, false, false, false, false, false, false, false] (by kernel_rfl) rfl rfl trivial (fun hHeld => ?_); refine with_tabW halve_Run.tab15 halve_Run.bits15 (fun HT_ HW_ => ?_)
                                        generalize wc.drew = w43 at HO_6 HO_8 BK152 HB HR163 HR167 hHeld ⊢
                                        refine pure_ (i := 0) (N := some 87) (v := ?_) (a' := ?_) #[true, false, false, false, false, false, false, false, false, false, false, false, false, false, false, false] rfl rfl (any_of HT_.out (by kernel_rfl)) (fun _ _ _ h => h) (Or.inl ⟨by rfl, ?_⟩) ?_ ?_
                                        rotate_left
                                        · intro w'
                                          go_simp
                                          with_reducible rfl
                                        rotate_left
                                        · simp only [Act.put, List.setIfInBounds_toArray, List.set_cons_zero, List.set_cons_succ, i64_w, i32_w]
                                          rfl
                                        refine pure_ (i := 1) (N := some 88) (v := ?_) (a' := ?_) #[true, true, false, false, false, false, false, false, false, false, false, false, false, false, false, false] rfl rfl (any_of HT_.out (by kernel_rfl)) (fun _ _ _ h => h) (Or.inl ⟨by rfl, ?_⟩) ?_ ?_
                                        rotate_left
                                        · intro w'
                                          go_simp
                                          with_reducible rfl
                                        rotate_left
                                        · simp only [Act.put, List.setIfInBounds_toArray, List.set_cons_zero, List.set_cons_succ, i64_w, i32_w]
                                          rfl
                                        refine pure_ (i := 2) (N := some 89) (v := ?_) (a' := ?_) #[true, true, true, false, false, false, false, false, false, false, false, false, false, false, false, false] rfl rfl (any_of HT_.out (by kernel_rfl)) (fun _ _ _ h => h) (Or.inl ⟨by rfl, ?_⟩) ?_ ?_
                                        rotate_left
                                        · intro w'
                                          go_simp
                                          with_reducible rfl
                                        rotate_left
                                        · simp only [Act.put, List.setIfInBounds_toArray, List.set_cons_zero, List.set_cons_succ, i64_w, i32_w]
                                          rfl
                                        refine pure_ (i := 3) (N := some 90) (v := ?_) (a' := ?_) #[true, true, true, true, false, false, false, false, false, false, false, false, false, false, false, false] rfl rfl (any_of HT_.out (by kernel_rfl)) (fun _ _ _ h => h) (Or.inl ⟨by rfl, ?_⟩) ?_ ?_
                                        rotate_left
                                        · intro w'
                                          go_simp
                                          with_reducible rfl
                                        rotate_left
                                        · simp only [Act.put, List.setIfInBounds_toArray, List.set_cons_zero, List.set_cons_succ, i64_w, i32_w]
                                          rfl
                                        refine pure_ (i := 5) (N := some 92) (v := ?_) (a' := ?_) #[true, true, true, true, false, true, false, false, false, false, false, false, false, false, false, false] rfl rfl (any_of HT_.out (by kernel_rfl)) (fun _ _ _ h => h) (Or.inl ⟨by rfl, ?_⟩) ?_ ?_
                                        rotate_left
                                        · intro w'
                                          go_simp
                                          with_reducible rfl
                                        rotate_left
                                        · simp only [Act.put, List.setIfInBounds_toArray, List.set_cons_zero, List.set_cons_succ, i64_w, i32_w]
                                          rfl
                                        refine pure_ (i := 6) (N := some 93) (v := ?_) (a' := ?_) #[true, true, true, true, false, true, true, false, false, false, false, false, false, false, false, false] rfl rfl (any_of HT_.out (by kernel_rfl)) (fun _ _ _ h => h) (Or.inl ⟨by rfl, ?_⟩) ?_ ?_
                                        rotate_left
                                        · intro w'
                                          go_simp
                                          with_reducible rfl
                                        rotate_left
                                        · simp only [Act.put, List.setIfInBounds_toArray, List.set_cons_zero, List.set_cons_succ, i64_w, i32_w]
                                          rfl
                                        refine pure_ (i := 7) (N := some 94) (v := ?_) (a' := ?_) #[true, true, true, true, false, true, true, true, false, false, false, false, false, false, false, false] rfl rfl (any_of HT_.out (by kernel_rfl)) (fun _ _ _ h => h) (Or.inl ⟨by rfl, ?_⟩) ?_ ?_
                                        rotate_left
                                        · intro w'
                                          go_simp
                                          with_reducible rfl
                                        rotate_left
                                        · simp only [Act.put, List.setIfInBounds_toArray, List.set_cons_zero, List.set_cons_succ, i64_w, i32_w]
                                          rfl
                                        refine pure_ (i := 8) (N := some 95) (v := ?_) (a' := ?_) #[true, true, true, true, false, true, true, true, true, false, false, false, false, false, false, false] rfl rfl (any_of HT_.out (by kernel_rfl)) (fun _ _ _ h => h) (Or.inl ⟨by rfl, ?_⟩) ?_ ?_
                                        rotate_left
                                        · intro w'
                                          go_simp
                                          with_reducible rfl
                                        rotate_left
                                        · simp only [Act.put, List.setIfInBounds_toArray, List.set_cons_zero, List.set_cons_succ, i64_w, i32_w]
                                          rfl
                                        refine one_ (i := 4) (N := some 91) #[true, true, true, true, true, true, true, true, true, false, false, false, false, false, false, false] rfl rfl (one_of HT_.out (by kernel_rfl)) (by decide) (fun K hK => ?_)
                                        refine goes_ Try.func19 (by kernel_rfl) rfl #[.slice A23 yk3.length (c0 - ((rd_T38 x8_1 (ji6)).f0).toNat), .slice A24 yk2.length (c1 - ((rd_T38 x8_1 (ji6)).f2).toNat)] (by rfl) rfl rfl (by (try simp only [List.map_toArray, List.map_cons, List.map_nil]); first | done | (rw [show yk3.length = (ji34).toNat from (by rw [List.length_take]; have h_ : ((ji34) : Int) ≤ (yk1.length : Int) := of_decide_eq_true (by first | (with_reducible assumption) | assumption); omega)] <;> rfl) | (rw [show yk2.length = (((rd_T38 x8_1 (ji6)).f3).toNat - ((rd_T38 x8_1 (ji6)).f2).toNat) from (by rw [List.length_drop, List.length_take]; have h_ : (((rd_T38 x8_1 (ji6)).f3) : Int) ≤ (l1.length : Int) := of_decide_eq_true (by first | (with_reducible assumption) | assumption); omega)] <;> rfl) | (simp only [hji34, hji6]; rfl) | rfl | (simp only [List.length_drop, List.length_take]; rfl)) ?_
                                        with_reducible refine (rows_Front.calls kj15 _ _ yk3 _ _ yk2 t164 _ ?side1 ?side2 ?side3 ?side4 A37.out).mono ?_
                                        (case side1 => repeat (first | exact (Kd.C_below HR163.out HB.out) | (with_reducible refine Kd.C_alloc ?_ _) | (with_reducible refine Kd.C_drewN ?_ _) | (with_reducible refine Kd.C_drew ?_)))
                                        (case side2 => exact HC163.out)
                                        (case side3 => repeat (first | exact (Kd.C_below HR157.out HB.out) | (with_reducible refine Kd.C_alloc ?_ _) | (with_reducible refine Kd.C_drewN ?_ _) | (with_reducible refine Kd.C_drew ?_)))
                                        (case side4 => exact HC157.out)
                                        rintro e w46 ⟨v165, rfl, ho0, hb⟩
                                        refine ⟨_, rfl, ?_⟩
                                        have n0_ := Aside0.mk (Kd.R_below (by (with_reducible repeat (first | apply Kd.R_alloc | apply Kd.R_drewN | apply Kd.R_drew)); exact HO_6.out) hb)
                                        have n1_ := Aside0.mk (Kd.R_below (by (with_reducible repeat (first | apply Kd.R_alloc | apply Kd.R_drewN | apply Kd.R_drew)); exact HO_8.out) hb)
                                        have n2_ := Aside0.mk (Kd.R_lower ho0 (below_size (by repeat (first | (with_reducible first | exact HB.out | apply below_alloc | apply pw_below_drewN | apply below_drew1 | refine below_set ?_ GE152.out) | exact HB.out))))
                                        have n3_ := Aside0.mk (blk_below (g := gb152) (o := .cells #[.int .i64 ((rd_T38 x8_1 (ji6)).f0), .int .i64 ((rd_T38 x8_1 (ji6)).f1), .int .i64 ((rd_T38 x8_1 (ji6)).f2), .int .i64 ((rd_T38 x8_1 (ji6)).f3)] 38 (0, 0)) (by (with_reducible repeat (first | refine blk_drewN ?_ _ | refine blk_drew ?_ | refine blk_alloc ?_ _)); exact BK152.out) hb)
                                        have n4_ := Aside0.mk (below_step (by repeat (first | (with_reducible first | exact HB.out | apply below_alloc | apply pw_below_drewN | apply below_drew1 | refine below_set ?_ GE152.out) | exact HB.out)) hb)
                                        clear HO_6
                                        clear HO_8
                                        clear BK152
                                        clear HB
                                        have HO_6 := n0_
                                        have HO_8 := n1_
                                        have HO166 := n2_
                                        have BK152 := n3_
                                        have HB := n4_
                                        clear n0_ n1_ n2_ n3_ n4_
                                        (try clear hb)
                                        (try clear hb2)
                                        (try clear hk)
                                        (try clear hi)
                                        (try clear ho0)
                                        refine hK.out _ _ trivial (fun hHeld => ?_)
                                        clear hK K
                                        refine norm_ (a' := ?_) ?_ ?_
                                        rotate_left
                                        · show Act.put _ (some 91) _ = _
                                          simp only [Act.put, List.setIfInBounds_toArray, List.set_cons_zero, List.set_cons_succ, i64_w, i32_w]
                                          rfl
                                        refine one_ (i := 9) (N := some 96) #[true, true, true, true, true, true, true, true, true, true, false, false, false, false, false, false] rfl rfl (one_of HT_.out (by kernel_rfl)) (by decide) (fun K hK => ?_)
                                        refine goes_ Try.func20 (by kernel_rfl) rfl #[.slice A45 yk4.length ((c0 - ((rd_T38 x8_1 (ji6)).f0).toNat) - (ji34).toNat), .slice A24 yk2.length (c1 - ((rd_T38 x8_1 (ji6)).f2).toNat)] (by rfl) rfl rfl (by (try simp only [List.map_toArray, List.map_cons, List.map_nil]); first | done | (rw [show yk4.length = (yk1.length - (ji34).toNat) from List.length_drop] <;> rfl) | (rw [show yk2.length = (((rd_T38 x8_1 (ji6)).f3).toNat - ((rd_T38 x8_1 (ji6)).f2).toNat) from (by rw [List.length_drop, List.length_take]; have h_ : (((rd_T38 x8_1 (ji6)).f3) : Int) ≤ (l1.length : Int) := of_decide_eq_true (by first | (with_reducible assumption) | assumption); omega)] <;> rfl) | (simp only [hji34, hji6]; rfl) | rfl | (simp only [List.length_drop, List.length_take]; rfl)) ?_
                                        with_reducible refine (rows_Back.calls kj15 _ _ yk4 _ _ yk2 t168 _ ?side1 ?side2 ?side3 ?side4 A40.out).mono ?_
                                        (case side1 => repeat (first | exact (Kd.C_below HR167.out HB.out) | (with_reducible refine Kd.C_alloc ?_ _) | (with_reducible refine Kd.C_drewN ?_ _) | (with_reducible refine Kd.C_drew ?_)))
                                        (case side2 => exact HC167.out)
                                        (case side3 => repeat (first | exact (Kd.C_below HR157.out HB.out) | (with_reducible refine Kd.C_alloc ?_ _) | (with_reducible refine Kd.C_drewN ?_ _) | (with_reducible refine Kd.C_drew ?_)))
                                        (case side4 => exact HC157.out)
                                        rintro e w47 ⟨v169, rfl, ho0, hb⟩
                                        refine ⟨_, rfl, ?_⟩
                                        have n0_ := Aside0.mk (Kd.R_below (by (with_reducible repeat (first | apply Kd.R_alloc | apply Kd.R_drewN | apply Kd.R_drew)); exact HO_6.out) hb)
                                        have n1_ := Aside0.mk (Kd.R_below (by (with_reducible repeat (first | apply Kd.R_alloc | apply Kd.R_drewN | apply Kd.R_drew)); exact HO_8.out) hb)
                                        have n2_ := Aside0.mk (Kd.R_elder' (by (with_reducible repeat (first | apply Kd.R_alloc | apply Kd.R_drewN | apply Kd.R_drew)); exact HO166.out) (Kd.R_base ho0) hb)
                                        have n3_ := Aside0.mk (Kd.R_lower (Kd.R_new' ho0 (Kd.R_lt (by (with_reducible repeat (first | apply Kd.R_alloc | apply Kd.R_drewN | apply Kd.R_drew)); exact HO166.out))) (below_size (by repeat (first | (with_reducible first | exact HB.out | apply below_alloc | apply pw_below_drewN | apply below_drew1 | refine below_set ?_ GE152.out) | exact HB.out))))
                                        have n4_ := Aside0.mk (blk_below (g := gb152) (o := .cells #[.int .i64 ((rd_T38 x8_1 (ji6)).f0), .int .i64 ((rd_T38 x8_1 (ji6)).f1), .int .i64 ((rd_T38 x8_1 (ji6)).f2), .int .i64 ((rd_T38 x8_1 (ji6)).f3)] 38 (0, 0)) (by (with_reducible repeat (first | refine blk_drewN ?_ _ | refine blk_drew ?_ | refine blk_alloc ?_ _)); exact BK152.out) hb)
                                        have n5_ := Aside0.mk (below_step (by repeat (first | (with_reducible first | exact HB.out | apply below_alloc | apply pw_below_drewN | apply below_drew1 | refine below_set ?_ GE152.out) | exact HB.out)) hb)
                                        clear HO_6
                                        clear HO_8
                                        clear HO166
                                        clear BK152
                                        clear HB
                                        have HO_6 := n0_
                                        have HO_8 := n1_
                                        have HO166 := n2_
                                        have HO170 := n3_
                                        have BK152 := n4_
                                        have HB := n5_
                                        clear n0_ n1_ n2_ n3_ n4_ n5_
                                        (try clear hb)
                                        (try clear hb2)
                                        (try clear hk)
                                        (try clear hi)
                                        (try clear ho0)
                                        obtain ⟨Ao48, co48, eo48⟩ := Kd.R_slice HO166.out
                                        (first | subst eo48 | (injection eo48 with f1_ f2_ f3_; have f4_ := f1_.symm; have f5_ := f3_.symm; clear f1_ f2_ f3_; subst f4_; subst f5_))
                                        obtain ⟨Ao49, co49, eo49⟩ := Kd.R_slice HO170.out
                                        (first | subst eo49 | (injection eo49 with f1_ f2_ f3_; have f4_ := f1_.symm; have f5_ := f3_.symm; clear f1_ f2_ f3_; subst f4_; subst f5_))
                                        refine hK.out _ _ trivial (fun hHeld => ?_)
                                        clear hK K
                                        refine norm_ (a' := ?_) ?_ ?_
                                        rotate_left
                                        · show Act.put _ (some 96) _ = _
                                          simp only [Act.put, List.setIfInBounds_toArray, List.set_cons_zero, List.set_cons_succ, i64_w, i32_w]
                                          rfl
                                        refine one_ (i := 10) (N := some 97) #[true, true, true, true, true, true, true, true, true, true, true, false, false, false, false, false] rfl rfl (one_of HT_.out (by kernel_rfl)) (by decide) (fun K hK => ?_)
                                        refine goes_ Try.func18 (by kernel_rfl) rfl #[.slice Ao48 t164.length co48, .slice Ao49 t168.length co49] (by rfl) rfl rfl (by (try simp only [List.map_toArray, List.map_cons, List.map_nil]); first | done | rfl | (simp only [List.length_drop, List.length_take]; rfl)) ?_
                                        with_reducible refine (rows_Split.calls kj15 _ _ t164 _ _ t168 t171 t172 _ ?side1 ?side2 ?side3 ?side4 A41.out).mono ?_
                                        (case side1 => repeat (first | exact (Kd.R_reads' HO166.out).2.2 | (with_reducible refine Kd.C_alloc ?_ _) | (with_reducible refine Kd.C_drewN ?_ _) | (with_reducible refine Kd.C_drew ?_)))
                                        (case side2 => exact (Kd.R_reads' HO166.out).2.1)
                                        (case side3 => repeat (first | exact (Kd.R_reads' HO170.out).2.2 | (with_reducible refine Kd.C_alloc ?_ _) | (with_reducible refine Kd.C_drewN ?_ _) | (with_reducible refine Kd.C_drew ?_)))
                                        (case side4 => exact (Kd.R_reads' HO170.out).2.1)
                                        rintro e w' ⟨rfl, ⟨nd, rfl⟩⟩
                                        refine ⟨_, rfl, ?_⟩
                                        refine hK.out _ _ trivial (fun hHeld => ?_)
                                        clear hK K
                                        refine norm_ (a' := ?_) ?_ ?_
                                        rotate_left
                                        · show Act.put _ (some 97) _ = _
                                          simp only [Act.put, List.setIfInBounds_toArray, List.set_cons_zero, List.set_cons_succ, i64_w, i32_w]
                                          rfl
                                        refine pure_ (i := 11) (N := some 86) (v := ?_) (a' := ?_) #[true, true, true, true, true, true, true, true, true, true, true, true, false, false, false, false] rfl rfl (any_of HT_.out (by kernel_rfl)) (fun _ _ _ h => h) (Or.inl ⟨by rfl, ?_⟩) ?_ ?_
                                        rotate_left
                                        · intro w'
                                          go_simp
                                          with_reducible rfl
                                        rotate_left
                                        · simp only [Act.put, List.setIfInBounds_toArray, List.set_cons_zero, List.set_cons_succ, i64_w, i32_w]
                                          rfl
                                        refine pure_ (i := 12) (N := some 98) (v := ?_) (a' := ?_) #[true, true, true, true, true, true, true, true, true, true, true, true, true, false, false, false] rfl rfl (any_of HT_.out (by kernel_rfl)) (fun _ _ _ h => h) (Or.inl ⟨by rfl, ?_⟩) ?_ ?_
                                        rotate_left
                                        · intro w'
                                          go_simp
                                          with_reducible rfl
                                        rotate_left
                                        · simp only [Act.put, List.setIfInBounds_toArray, List.set_cons_zero, List.set_cons_succ, i64_w, i32_w]
                                          rfl
                                        refine pure_ (i := 13) (N := some 99) (v := ?_) (a' := ?_) #[true, true, true, true, true, true, true, true, true, true, true, true, true, true, false, false] rfl rfl (any_of HT_.out (by kernel_rfl)) (fun _ _ _ h => h) (Or.inl ⟨by rfl, ?_⟩) ?_ ?_
                                        rotate_left
                                        · intro w'
                                          go_simp
                                          with_reducible rfl
                                        rotate_left
                                        · simp only [Act.put, List.setIfInBounds_toArray, List.set_cons_zero, List.set_cons_succ, i64_w, i32_w]
                                          rfl
                                        refine pure_ (i := 14) (N := some 14) (v := ?_) (a' := ?_) #[true, true, true, true, true, true, true, true, true, true, true, true, true, true, true, false] rfl rfl (any_of HT_.out (by kernel_rfl)) (fun _ _ _ h => h) (Or.inl ⟨by rfl, ?_⟩) ?_ ?_
                                        rotate_left
                                        · intro w'
                                          go_simp
                                          with_reducible rfl
                                        rotate_left
                                        · simp only [Act.put, List.setIfInBounds_toArray, List.set_cons_zero, List.set_cons_succ, i64_w, i32_w]
                                          rfl
                                        refine pure_ (i := 15) (N := some 15) (v := ?_) (a' := ?_) #[true, true, true, true, true, true, true, true, true, true, true, true, true, true, true, true] rfl rfl (any_of HT_.out (by kernel_rfl)) (fun _ _ _ h => h) (Or.inl ⟨by rfl, ?_⟩) ?_ ?_
                                        rotate_left
                                        · intro w'
                                          go_simp
                                          with_reducible rfl
                                        rotate_left
                                        · simp only [Act.put, List.setIfInBounds_toArray, List.set_cons_zero, List.set_cons_succ, i64_w, i32_w]
                                          rfl
                                        refine done_ (done_of HT_.out (by kernel_rfl)) ?_
                                        have hcz50_0 : w47.cell? ⟨gb152, 0, none⟩ = some (.int .i64 ((rd_T38 x8_1 (ji6)).f0)) := (blk_cell BK152.out 0).trans rfl
                                        have hcz50_1 : w47.cell? ⟨gb152, 1, none⟩ = some (.int .i64 ((rd_T38 x8_1 (ji6)).f1)) := (blk_cell BK152.out 1).trans rfl
                                        have hcz50_2 : w47.cell? ⟨gb152, 2, none⟩ = some (.int .i64 ((rd_T38 x8_1 (ji6)).f2)) := (blk_cell BK152.out 2).trans rfl
                                        have hcz50_3 : w47.cell? ⟨gb152, 3, none⟩ = some (.int .i64 ((rd_T38 x8_1 (ji6)).f3)) := (blk_cell BK152.out 3).trans rfl
                                        have hfz50_0 := blk_frozen BK152.out 0
                                        have hfz50_1 := blk_frozen BK152.out 1
                                        have hfz50_2 := blk_frozen BK152.out 2
                                        have hfz50_3 := blk_frozen BK152.out 3
                                        try go_wp2_with (first | ((with_reducible refine gate_dst (N := 127) rfl ?_); (try (refine gate_guard (by rfl) ?_; dsimp only)); refine Kd.R_lit k38 _ 38 ?hg (N := 127) ?hd (xs := ([(⟨wrap64 (((rd_T38 x8_1 (ji6)).f0) + (ji34)), ((rd_T38 x8_1 (ji6)).f1), wrap64 (((rd_T38 x8_1 (ji6)).f2) + t171), ((rd_T38 x8_1 (ji6)).f3)⟩ : S38), (⟨((rd_T38 x8_1 (ji6)).f0), wrap64 (((rd_T38 x8_1 (ji6)).f0) + (ji34)), ((rd_T38 x8_1 (ji6)).f2), wrap64 (((rd_T38 x8_1 (ji6)).f2) + t171)⟩ : S38)] : List (S38))) (inner := [.int .i64 (wrap64 (((rd_T38 x8_1 (ji6)).f0) + (ji34))), .int .i64 ((rd_T38 x8_1 (ji6)).f1), .int .i64 (wrap64 (((rd_T38 x8_1 (ji6)).f2) + t171)), .int .i64 ((rd_T38 x8_1 (ji6)).f3), .int .i64 ((rd_T38 x8_1 (ji6)).f0), .int .i64 (wrap64 (((rd_T38 x8_1 (ji6)).f0) + (ji34))), .int .i64 ((rd_T38 x8_1 (ji6)).f2), .int .i64 (wrap64 (((rd_T38 x8_1 (ji6)).f2) + t171))]) (ok := fun _ => True) (okp := fun _ => True) ?hr ?hp (fun _ hk => hk) trivial (Below.refl _ _) (Nat.le_refl _) (by simp) ?_; (case hd => rfl); (case hg => rfl); (case hr => first | (go_simp; done) | (go_simp; rfl)); (case hp => exact (Reps.c4 (show Kd.M k38 _ _ _ (⟨wrap64 (((rd_T38 x8_1 (ji6)).f0) + (ji34)), ((rd_T38 x8_1 (ji6)).f1), wrap64 (((rd_T38 x8_1 (ji6)).f2) + t171), ((rd_T38 x8_1 (ji6)).f3)⟩ : S38) [.int .i64 (wrap64 (((rd_T38 x8_1 (ji6)).f0) + (ji34))), .int .i64 ((rd_T38 x8_1 (ji6)).f1), .int .i64 (wrap64 (((rd_T38 x8_1 (ji6)).f2) + t171)), .int .i64 ((rd_T38 x8_1 (ji6)).f3)] from (k38_mkM _ _ _ (⟨wrap64 (((rd_T38 x8_1 (ji6)).f0) + (ji34)), ((rd_T38 x8_1 (ji6)).f1), wrap64 (((rd_T38 x8_1 (ji6)).f2) + t171), ((rd_T38 x8_1 (ji6)).f3)⟩ : S38) )) (Reps.c4 (show Kd.M k38 _ _ _ (⟨((rd_T38 x8_1 (ji6)).f0), wrap64 (((rd_T38 x8_1 (ji6)).f0) + (ji34)), ((rd_T38 x8_1 (ji6)).f2), wrap64 (((rd_T38 x8_1 (ji6)).f2) + t171)⟩ : S38) [.int .i64 ((rd_T38 x8_1 (ji6)).f0), .int .i64 (wrap64 (((rd_T38 x8_1 (ji6)).f0) + (ji34))), .int .i64 ((rd_T38 x8_1 (ji6)).f2), .int .i64 (wrap64 (((rd_T38 x8_1 (ji6)).f2) + t171))] from (k38_mkM _ _ _ (⟨((rd_T38 x8_1 (ji6)).f0), wrap64 (((rd_T38 x8_1 (ji6)).f0) + (ji34)), ((rd_T38 x8_1 (ji6)).f2), wrap64 (((rd_T38 x8_1 (ji6)).f2) + t171)⟩ : S38) )) (Reps.none _ _)))); intro v174 w51 ho52 hb hg_ hnew_; clear hg_ hnew_; (first | rw [← Ny173.out] at ho52 | (simp only [Int.reduceToNat] at ho52; rw [← Ny173.out] at ho52)); have n0_ := Aside0.mk (Kd.R_below (by (with_reducible repeat (first | apply Kd.R_alloc | apply Kd.R_drewN | apply Kd.R_drew)); exact HO_6.out) hb); have n1_ := Aside0.mk (Kd.R_elder' (by (with_reducible repeat (first | apply Kd.R_alloc | apply Kd.R_drewN | apply Kd.R_drew)); exact HO_8.out) (Kd.R_base ho52) hb); have n2_ := Aside0.mk (Kd.R_below (by (with_reducible repeat (first | apply Kd.R_alloc | apply Kd.R_drewN | apply Kd.R_drew)); exact HO166.out) hb); have n3_ := Aside0.mk (Kd.R_below (by (with_reducible repeat (first | apply Kd.R_alloc | apply Kd.R_drewN | apply Kd.R_drew)); exact HO170.out) hb); have n4_ := Aside0.mk (Kd.R_lower (Kd.R_newB (Kd.R_new' ho52 (Kd.R_lt (by (with_reducible repeat (first | apply Kd.R_alloc | apply Kd.R_drewN | apply Kd.R_drew)); exact HO_8.out))) (g := gb152) (o := .cells #[.int .i64 ((rd_T38 x8_1 (ji6)).f0), .int .i64 ((rd_T38 x8_1 (ji6)).f1), .int .i64 ((rd_T38 x8_1 (ji6)).f2), .int .i64 ((rd_T38 x8_1 (ji6)).f3)] 38 (0, 0)) (by (with_reducible repeat (first | refine blk_drewN ?_ _ | refine blk_drew ?_ | refine blk_alloc ?_ _)); exact BK152.out)) (below_size (by repeat (first | (with_reducible first | exact HB.out | apply below_alloc | apply pw_below_drewN | apply below_drew1 | refine below_set ?_ GE152.out) | exact HB.out)))); have n5_ := Aside0.mk (blk_below (g := gb152) (o := .cells #[.int .i64 ((rd_T38 x8_1 (ji6)).f0), .int .i64 ((rd_T38 x8_1 (ji6)).f1), .int .i64 ((rd_T38 x8_1 (ji6)).f2), .int .i64 ((rd_T38 x8_1 (ji6)).f3)] 38 (0, 0)) (by (with_reducible repeat (first | refine blk_drewN ?_ _ | refine blk_drew ?_ | refine blk_alloc ?_ _)); exact BK152.out) hb); have n6_ := Aside0.mk (below_step (by repeat (first | (with_reducible first | exact HB.out | apply below_alloc | apply pw_below_drewN | apply below_drew1 | refine below_set ?_ GE152.out) | exact HB.out)) hb); clear HO_6; clear HO_8; clear HO166; clear HO170; clear BK152; clear HB; have HO_6 := n0_; have HO_8 := n1_; have HO166 := n2_; have HO170 := n3_; have HO175 := n4_; have BK152 := n5_; have HB := n6_; clear n0_ n1_ n2_ n3_ n4_ n5_ n6_; clear hb ho52; obtain ⟨Ao54, co54, eo54⟩ := Kd.R_slice HO175.out; subst eo54) | ((with_reducible refine gate_builtin (b := .append) (xs := #[.tmp 100, .tmp 127]) rfl ?_); (try (refine gate_guard (by rfl) ?_; dsimp only)); at_builtin; refine Kd.R_append_rows k38 (w0 := w) w.heap.size rfl (.tmp 100) (.tmp 127) 39 38 (.agg #[(.int .i64 0), (.int .i64 0), (.int .i64 0), (.int .i64 0)]) 32 rfl Try.underlying39 info38 rfl (by decide) (by omega) (.slice (some ad151) y153.length co17) y153 y173 _ _ _ (fun k_ => some k_ ≠ (.slice Ao54 y173.length co54 : Value).ownBlock ∧ k_ ≠ gb152) (fun _ => False) rfl rfl ?aO ?aR (fun _ _ h => h) (fun _ h => h.elim) ?aF ?aB ?aS ?aL ?_; (case aR => repeat (first | exact (Kd.R_reads' HO175.out).2.2 | (with_reducible refine Kd.C_alloc ?_ _) | (with_reducible refine Kd.C_drewN ?_ _) | (with_reducible refine Kd.C_drew ?_))); (case aB => exact (by repeat (first | (with_reducible first | exact HB.out | apply below_alloc | apply pw_below_drewN | apply below_drew1 | refine below_set ?_ GE152.out) | exact HB.out))); (case aF => exact (fun k_ hk => ⟨Kd.fresh' (Kd.R_lt (by (with_reducible repeat (first | apply Kd.R_alloc | apply Kd.R_drewN | apply Kd.R_drew)); exact HO175.out)) k_ hk, Kd.freshB (g := gb152) (o := .cells #[.int .i64 ((rd_T38 x8_1 (ji6)).f0), .int .i64 ((rd_T38 x8_1 (ji6)).f1), .int .i64 ((rd_T38 x8_1 (ji6)).f2), .int .i64 ((rd_T38 x8_1 (ji6)).f3)] 38 (0, 0)) (by (with_reducible repeat (first | refine blk_drewN ?_ _ | refine blk_drew ?_ | refine blk_alloc ?_ _)); exact BK152.out) k_ hk⟩)); (case aO => exact (by (with_reducible repeat (first | apply Kd.R_alloc | apply Kd.R_drewN | apply Kd.R_drew)); exact Kd.R_mono HO_8.out (fun _ hk => ⟨hk.2, hk.1⟩))); (case aS => exact (below_size (by repeat (first | (with_reducible first | exact HB.out | apply below_alloc | apply pw_below_drewN | apply below_drew1 | refine below_set ?_ GE152.out) | exact HB.out)))); (case aL => have := LMc42.out; omega); intro v177 w53 ho hb hg hat; rw [← Ny176.out] at ho; have n0_ := Aside0.mk (Kd.R_over' (by (with_reducible repeat (first | apply Kd.R_alloc | apply Kd.R_drewN | apply Kd.R_drew)); exact HO_6.out) (Kd.R_typed (by (with_reducible repeat (first | apply Kd.R_alloc | apply Kd.R_drewN | apply Kd.R_drew)); exact HO_8.out)) (by decide) hg); have n1_ := Aside0.mk (blk_grown (g := gb152) (o := .cells #[.int .i64 ((rd_T38 x8_1 (ji6)).f0), .int .i64 ((rd_T38 x8_1 (ji6)).f1), .int .i64 ((rd_T38 x8_1 (ji6)).f2), .int .i64 ((rd_T38 x8_1 (ji6)).f3)] 38 (0, 0)) (by (with_reducible repeat (first | refine blk_drewN ?_ _ | refine blk_drew ?_ | refine blk_alloc ?_ _)); exact BK152.out) hg (Kd.R_away HO_8.out (fun _ hk => hk.1))); have n2_ := Aside0.mk (Kd.R_over' (by (with_reducible repeat (first | apply Kd.R_alloc | apply Kd.R_drewN | apply Kd.R_drew)); exact HO166.out) (Kd.R_typed (by (with_reducible repeat (first | apply Kd.R_alloc | apply Kd.R_drewN | apply Kd.R_drew)); exact HO_8.out)) (by decide) hg); have n3_ := Aside0.mk (Kd.R_over' (by (with_reducible repeat (first | apply Kd.R_alloc | apply Kd.R_drewN | apply Kd.R_drew)); exact HO170.out) (Kd.R_typed (by (with_reducible repeat (first | apply Kd.R_alloc | apply Kd.R_drewN | apply Kd.R_drew)); exact HO_8.out)) (by decide) hg); have n4_ := Aside0.mk (Kd.R_after (ok := (fun k_ => k_ ≠ gb152)) (by (with_reducible repeat (first | apply Kd.R_alloc | apply Kd.R_drewN | apply Kd.R_drew)); exact Kd.R_mono HO175.out (fun _ hk => ⟨hk.2, hk.1.2⟩)) hg hat); have n5_ := Aside0.mk (hb); have n6_ := Aside0.mk (ho); clear HO_6; clear BK152; clear HO166; clear HO170; clear HO175; clear HB; clear HO_8; have HO_6 := n0_; have BK152 := n1_; have HO166 := n2_; have HO170 := n3_; have HO175 := n4_; have HB := n5_; have HO178 := n6_; clear n0_ n1_ n2_ n3_ n4_ n5_ n6_; clear ho hb hg hat))
                                        go_roundg kj15
                                        case measure => have := HK1.out; have := HJ15.out; omega
                                        case rel => exact ⟨(x6_1), (wrap64 (x7_1 + (wrap64 ((yk1.length : Int) * (yk2.length : Int))))), (y176), (by first | rfl | (simp; done) | (simp only [← hji6] <;> (first | rfl | simp)) | (simp [*]; done)), H', ⟨by have := HK1.out; have := HJ15.out; omega⟩, ⟨by (with_reducible repeat (first | apply Kd.R_alloc | apply Kd.R_drewN | apply Kd.R_drew)); exact HO_6.out⟩, ⟨by (with_reducible repeat (first | apply Kd.R_alloc | apply Kd.R_drewN | apply Kd.R_drew)); exact Kd.R_mono HO178.out (fun _ hk => trivial)⟩, ⟨by repeat (first | (with_reducible first | exact HB.out | apply below_alloc | apply pw_below_drewN | apply below_drew1 | refine below_set ?_ GE152.out) | exact HB.out)⟩⟩
                                      · rw [if_neg c42] at H
                                        exact absurd H (by simp)
                                    · rw [if_neg c36] at H
                                      exact absurd H (by simp)
                                  · rw [if_neg c35] at H
                                    exact absurd H (by simp)
                        · rw [if_neg c15] at H
                          exact absurd H (by simp)
                      · rw [if_neg c14] at H
                        exact absurd H (by simp)
                    · rw [if_neg c13] at H
                      exact absurd H (by simp)
                  · rw [if_neg c12] at H
                    exact absurd H (by simp)
                · rw [if_neg c11] at H
                  exact absurd H (by simp)
              · rw [if_neg c10] at H
                exact absurd H (by simp)
            · rw [if_neg c9] at H
              exact absurd H (by simp)
          · rw [if_neg c8] at H
            exact absurd H (by simp)
        · rw [if_neg c7] at H
          exact absurd H (by simp)
      · rw [if_neg c5] at H
        have c5b0 : decide (0 < (x8_1.length : Int)) = false := decide_eq_false c5
        have c5b1 : decide (0 < x8_1.length) = false := decide_eq_false (by omega)
        clear c5
        simp only [Option.some.injEq, Prod.mk.injEq] at H
        obtain ⟨rfl, rfl⟩ := H
        obtain ⟨Ao55, co55, eo55⟩ := Kd.R_slice HO_8.out
        subst eo55
        go_wp2
        go_ret2
        exact ⟨_, by first | rfl | (simp [errW_none, errW_some] <;> rfl) | (simp [*, errW_none, errW_some] <;> rfl), by (with_reducible repeat (first | apply Kd.R_alloc | apply Kd.R_drewN | apply Kd.R_drew)); exact HO_6.out, by repeat (first | (with_reducible first | exact HB.out | apply below_alloc | apply pw_below_drewN | apply below_drew1) | exact HB.out)⟩

end Go.Proofs.Ytpedlelgeeignaa.PHalveRuns
