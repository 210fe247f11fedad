-- Laid by wip/myprint.py: the kit's print, with contracts typed by hand for what it does not take.
import Derived.Test.YtjplieecdfbbjaaPDeltaPutsx0
import Derived.Test.YtjplieecdfbbjaaPDeltaPutsx1
namespace Go.Proofs.Ytjplieecdfbbjaa.PDeltaPuts
open Go.RowKit Go.Proofs.YtjplieecdfbbjaaW.PrintWords Go.Proofs.YtjplieecdfbbjaaW.PrintLast Go.Proofs.YtjplieecdfbbjaaW.PrintMore
attribute [local go_sem] max2_int min2_int max_two min_two max_three min_three max_four min_four   -- for this text's walks alone
set_option linter.unusedVariables false
set_option linter.unusedSimpArgs false

/-! ### delta_Put: function 15 -/
def delta_Put.l0 : Nat → Int → Int → Int → List Int → Int → Option (List Int)
  | 0, _, _, _, _, _ => none
  | k + 1, x1, x2, x3, x9, x10 => if x10 < x2 then (if (wrap64 (x1 + x10)) < (x9.length : Int) then (if 0 ≤ x10 then (if 0 ≤ (wrap64 (x1 + x10)) then (delta_Put.l0 k x1 x2 x3 (x9.set ((wrap64 (x1 + x10)) : Int).toNat ((Go.bits .and .i64 (shr .i64 x3 x10) 1) % 256)) (wrap64 (x10 + 1))) else (none)) else (none)) else (some x9)) else (some x9)
def delta_Put.f (k : Nat) (l0 : List Int) (a1 : Int) (a2 : Int) (a3 : Int) : Option (List Int) := (slices_Clone_byte_byte.f l0).bind fun t126 => ((delta_looks.f t126 a1 a2).bind fun t129 => (if t129 = true then (delta_Put.l0 k a1 a2 a3 t126 0) else (some t126)))
theorem delta_Put.mono_l : ∀ k, (∀ y0 y1 y2 y3 y4, LeO (delta_Put.l0 k y0 y1 y2 y3 y4) (delta_Put.l0 (k + 1) y0 y1 y2 y3 y4))
  | 0 => fun _ _ _ _ _ r h => by simp [delta_Put.l0] at h
  | k + 1 => by
    have ih0 := delta_Put.mono_l k
    · intro y0 y1 y2 y3 y4
      unfold delta_Put.l0
      repeat' first
      | (with_reducible exact ih0 _ _ _ _ _)
      | (with_reducible exact LeO.refl _)
      | (with_reducible exact LeO.none _)
      | (with_reducible refine LeO.ite ?_ ?_)
      | (with_reducible refine LeO.bind ?_ (fun _ => ?_))
      | exact ih0 _ _ _ _ _
      | exact LeO.none _
      | refine LeO.ite ?_ ?_
      | refine LeO.bind ?_ (fun _ => ?_)
theorem delta_Put.mono : ∀ a0 a1 a2 a3 k, LeO (delta_Put.f k a0 a1 a2 a3) (delta_Put.f (k + 1) a0 a1 a2 a3) := by
  intro a0 a1 a2 a3 k
  have ih0 := delta_Put.mono_l k
  unfold delta_Put.f
  repeat' first
      | (with_reducible exact ih0 _ _ _ _ _)
      | (with_reducible exact LeO.refl _)
      | (with_reducible exact LeO.none _)
      | (with_reducible refine LeO.ite ?_ ?_)
      | (with_reducible refine LeO.bind ?_ (fun _ => ?_))
      | exact ih0 _ _ _ _ _
      | exact LeO.none _
      | refine LeO.ite ?_ ?_
      | refine LeO.bind ?_ (fun _ => ?_)
set_option maxHeartbeats 8000000 in
set_option maxRecDepth 100000 in
theorem delta_Put.calls (k : Nat) (A0 : Option Addr) (c0 : Nat) (l0 : List Int) (a1 : Int) (a2 : Int) (a3 : Int) (r : List Int) (w : World) (hr0 : Kd.C (Kd.int .u8) w A0 l0.length l0) (hc0 : l0.length ≤ c0) (h : delta_Put.f k l0 a1 a2 a3 = some r) :
    Calls Try.prog 15 #[.slice A0 l0.length c0, .int .i64 a1, .int .i64 a2, .int .i64 a3] w fun e w' => ∃ v0_ : Value, e = .returned (v0_) ∧ Kd.R (Kd.int .u8) 5 w' w.heap.size (fun _ => True) v0_ r ∧ Below w.heap.size w w' := by
  have HR0 := Aside0.mk hr0
  have HC0 := Aside0.mk hc0
  clear hr0 hc0
  have HB := Aside0.mk (Below.refl w.heap.size w)
  have H : ((slices_Clone_byte_byte.f l0).bind fun t126 => ((delta_looks.f t126 a1 a2).bind fun t129 => (if t129 = true then (delta_Put.l0 k a1 a2 a3 t126 0) else (some t126)))) = some r := h
  clear h
  replace H := Option.bind_eq_some_iff.mp H
  obtain ⟨t126, A50, H⟩ := H
  replace H : ((delta_looks.f t126 a1 a2).bind fun t129 => (if t129 = true then (delta_Put.l0 k a1 a2 a3 t126 0) else (some t126))) = some r := H
  have A5 := Aside0.mk A50
  clear A50
  replace H := Option.bind_eq_some_iff.mp H
  obtain ⟨t129, A60, H⟩ := H
  replace H : (if t129 = true then (delta_Put.l0 k a1 a2 a3 t126 0) else (some t126)) = some r := H
  have A6 := Aside0.mk A60
  clear A60
  by_cases c7 : t129 = true
  · subst c7
    have H1 : (delta_Put.l0 k a1 a2 a3 t126 0) = some r := by rw [if_pos rfl] at H; exact H
    clear H
    have H := H1
    clear H1
    have H' := Aside0.mk H
    clear H
    go_enter Try.func15, Try.ntmps15
    go_wp2_with (first | ((with_reducible refine gate_callee (f := 23) rfl ?_); refine goesL_ (some 12) rfl rfl Try.func23 (by kernel_rfl) rfl #[.slice A0 l0.length c0] rfl (by (try simp only [List.map_toArray, List.map_cons, List.map_nil]); first | done | rfl | (simp only [List.length_drop, List.length_take]; rfl)) ?_; (with_reducible refine (slices_Clone_byte_byte.calls _ _ l0 t126 _ ?side1 ?side2 A5.out).mono ?_); (case side1 => repeat (first | exact HR0.out | (with_reducible refine Kd.C_alloc ?_ _) | (with_reducible refine Kd.C_drewN ?_ _) | (with_reducible refine Kd.C_drew ?_))); (case side2 => exact HC0.out); rintro e w8 ⟨v127, rfl, ho0, hb⟩; refine ⟨_, rfl, ?_⟩; have n0_ := Aside0.mk (Kd.R_lower ho0 (below_size (by repeat (first | (with_reducible first | exact HB.out | apply below_alloc | apply pw_below_drewN | apply below_drew1) | exact HB.out)))); have n1_ := Aside0.mk (below_step (by repeat (first | (with_reducible first | exact HB.out | apply below_alloc | apply pw_below_drewN | apply below_drew1) | exact HB.out)) hb); clear HB; have HO128 := n0_; have HB := n1_; clear n0_ n1_; (try clear hb); (try clear hb2); (try clear hk); (try clear hi); (try clear ho0); obtain ⟨Ao9, co9, eo9⟩ := Kd.R_slice HO128.out; subst eo9) | ((with_reducible refine gate_callee (f := 22) rfl ?_); refine goesL_ (some 16) rfl rfl Try.func22 (by kernel_rfl) rfl #[.slice Ao9 t126.length co9, .int .i64 a1, .int .i64 a2] rfl (by (try simp only [List.map_toArray, List.map_cons, List.map_nil]); first | done | rfl | (simp only [List.length_drop, List.length_take]; rfl)) ?_; (with_reducible refine (delta_looks.calls _ _ t126 a1 a2 true _ ?side1 ?side2 A6.out).mono ?_); (case side1 => repeat (first | exact (Kd.R_reads' HO128.out).2.2 | (with_reducible refine Kd.C_alloc ?_ _) | (with_reducible refine Kd.C_drewN ?_ _) | (with_reducible refine Kd.C_drew ?_))); (case side2 => exact (Kd.R_reads' HO128.out).2.1); rintro e w' ⟨rfl, ⟨nd, rfl⟩⟩; refine ⟨_, rfl, ?_⟩))
    go_loopg [10] k (fun kq v10 w' => ∃ (x9_1 : List Int) (x10_1 : Int), v10 = .int .i64 x10_1 ∧ Aside0 (delta_Put.l0 kq a1 a2 a3 x9_1 x10_1 = some r) ∧ Aside0 (kq ≤ k) ∧ Aside0 (Kd.R (Kd.int .u8) 5 w' w.heap.size (fun _ => True) (.slice Ao9 t126.length co9) x9_1) ∧ Aside0 (Below w.heap.size w w'))
    case atStart => exact ⟨(t126), (0), (by first | rfl | (simp; done) | (simp [*]; done)), H', ⟨Nat.le_refl _⟩, ⟨by (with_reducible repeat (first | apply Kd.R_alloc | apply Kd.R_drewN | apply Kd.R_drew)); exact HO128.out⟩, ⟨by repeat (first | (with_reducible first | exact HB.out | apply below_alloc | apply pw_below_drewN | apply below_drew1) | exact HB.out)⟩⟩
    case round =>
      clear H'
      try clear c1
      try clear c2
      try clear p2
      try clear c7
      obtain ⟨x9_1, x10_1, rfl, HA, HK1, HO_9, HB⟩ := hrel
      have hl9_1 := (Kd.R_reads' HO_9.out).1
      rw [hl9_1] at HO_9
      (try simp only [hl9_1])
      cases gk with
      | zero => exact absurd HA.out (by simp [delta_Put.l0])
      | succ k1 =>
        have H := HA.out
        clear HA
        simp only [delta_Put.l0] at H
        by_cases c10 : x10_1 < a2
        · rw [if_pos c10] at H
          have c10b0 : decide (x10_1 < a2) = true := decide_eq_true c10
          clear c10
          by_cases c11 : (wrap64 (a1 + x10_1)) < (x9_1.length : Int)
          · rw [if_pos c11] at H
            have c11b0 : decide ((wrap64 (a1 + x10_1)) < (x9_1.length : Int)) = true := decide_eq_true c11
            clear c11
            by_cases c12 : 0 ≤ x10_1
            · rw [if_pos c12] at H
              have c12b0 := eq_true c12
              have c12b1 : decide (0 ≤ x10_1) = true := decide_eq_true c12
              clear c12
              obtain ⟨ji13, hji13⟩ : ∃ j_ : Int, (shr .i64 a3 x10_1) = j_ := ⟨_, rfl⟩
              replace H : (if 0 ≤ (wrap64 (a1 + x10_1)) then (delta_Put.l0 k1 a1 a2 a3 (x9_1.set ((wrap64 (a1 + x10_1)) : Int).toNat ((Go.bits .and .i64 (ji13) 1) % 256)) (wrap64 (x10_1 + 1))) else (none)) = some r := by first | (rw [hji13] at H; exact H) | (simp only [hji13] at H ⊢; exact H)
              have hji13_ : (a3 / 2 ^ min x10_1.toNat 64) = ji13 := hji13
              have hji13z : x10_1 ≤ 64 → (a3 / 2 ^ x10_1.toNat) = ji13 := shr_small hji13
              obtain ⟨ji14, hji14⟩ : ∃ j_ : Int, (wrap64 (a1 + x10_1)) = j_ := ⟨_, rfl⟩
              replace H : (if 0 ≤ (ji14) then (delta_Put.l0 k1 a1 a2 a3 (x9_1.set ((ji14) : Int).toNat ((Go.bits .and .i64 (ji13) 1) % 256)) (wrap64 (x10_1 + 1))) else (none)) = some r := by first | (rw [hji14] at H; exact H) | (simp only [hji14] at H ⊢; exact H)
              (try rw [hji14] at c11b0)
              have hji14w : (IntKind.i64.wrap (a1 + x10_1)) = ji14 := (i64_w _).trans hji14
              by_cases c15 : 0 ≤ (ji14)
              · rw [if_pos c15] at H
                have c15b0 : decide (0 ≤ (ji14)) = true := decide_eq_true c15
                clear c15
                obtain ⟨y130, hy130⟩ : ∃ y_ : List Int, y_ = (x9_1.set ((ji14) : Int).toNat ((Go.bits .and .i64 (ji13) 1) % 256)) := ⟨_, rfl⟩
                replace H : (delta_Put.l0 k1 a1 a2 a3 y130 (wrap64 (x10_1 + 1))) = some r := by first | (rw [hy130]; with_reducible exact H) | (have H2_ := (Option.bind_some _ _).symm.trans H; rw [hy130]; with_reducible exact H2_) | (have H2_ := (Option.bind_some _ _).symm.trans H; with_reducible exact H2_) | with_reducible exact H | (rw [hy130]; exact H) | exact H
                have Ny130 := Aside0.mk hy130
                clear hy130
                have H' := Aside0.mk H
                clear H
                have p16 : 0 ≤ ((ji14) : Int) := of_decide_eq_true (by first | (with_reducible assumption) | assumption)
                have q16 : ((ji14) : Int) < ((x9_1.length : Int) : Int) := of_decide_eq_true (by first | (with_reducible assumption) | assumption)
                obtain ⟨go16, co16, eo16, gb16, gl16, cl16, HG16⟩ := Kd.R_form HO_9.out (by omega)
                (first | cases eo16 | (injection eo16 with ea_ en_ ec_; (first | subst ea_ | (injection ea_ with ea_; subst ea_)); subst ec_; clear en_))
                have GB16 := Aside0.mk gb16
                have GG16 := Aside0.mk HG16
                clear gb16 gl16 HG16
                obtain ⟨hx16_0, hf16_0⟩ := Kd.R_celln 0 HO_9.out ((ji14) : Int) p16 q16
                replace p16 := eq_true p16
                replace q16 := eq_true q16
                have HP17 := Kd.R_putg HO_9.out ((ji14) : Int) ((Go.bits .and .i64 (ji13) 1) % 256)
                go_wp2_with (first | ((with_reducible refine gate_store (t := 5) (p := 41) rfl ?_); refine store_event (t := 5) (p := 41) (v := ?vo_w18) (w1 := (wr.setCell ⟨go16, ((ji14) : Int).toNat, none⟩ (.int .u8 ((Go.bits .and .i64 (ji13) 1) % 256)))) ?hg ?ho ?hn ?hr ?_; (case ho => rfl); (case hg => rfl); (case hn => rfl); (case hr => first | (go_simp; done) | (go_simp; rfl)); intro w18 hw; have hg : wr.grownBy w18 (some go16) := (by rw [hw]; exact HP17.2); have hp_ : Kd.R (Kd.int .u8) 5 w18 w.heap.size (fun _ => True) (.slice (some ⟨go16, 0, none⟩) x9_1.length co9) y130 := (by rw [hw, Ny130.out]; exact HP17.1); clear HP17; have n0_ := Aside0.mk (hp_); have n1_ := Aside0.mk ((by rw [hw]; exact below_set (HB.out) GB16.out : Below w.heap.size w w18)); clear HO_9; clear HB; have HO_9 := n0_; have HB := n1_; clear n0_ n1_; clear hg hw hp_))
                (try simp only [← hl9_1])
                go_roundg k1
                case measure => have := HK1.out; omega
                case rel => exact ⟨(y130), (wrap64 (x10_1 + 1)), (by first | rfl | (simp; done) | (simp [*]; done)), H', ⟨by have := HK1.out; omega⟩, ⟨by (try simp only [hl9_1]); (with_reducible repeat (first | apply Kd.R_alloc | apply Kd.R_drewN | apply Kd.R_drew)); exact HO_9.out⟩, ⟨by repeat (first | (with_reducible first | exact HB.out | apply below_alloc | apply pw_below_drewN | apply below_drew1) | exact HB.out)⟩⟩
              · rw [if_neg c15] at H
                exact absurd H (by simp)
            · rw [if_neg c12] at H
              exact absurd H (by simp)
          · rw [if_neg c11] at H
            have c11b0 : decide ((wrap64 (a1 + x10_1)) < (x9_1.length : Int)) = false := decide_eq_false c11
            clear c11
            obtain rfl := Option.some.inj H
            go_wp2
            go_ret
            exact ⟨_, by first | rfl | (simp [errW_none, errW_some] <;> rfl) | (simp [*, errW_none, errW_some] <;> rfl), by (with_reducible repeat (first | apply Kd.R_alloc | apply Kd.R_drewN | apply Kd.R_drew)); exact HO_9.out, by repeat (first | (with_reducible first | exact HB.out | apply below_alloc | apply pw_below_drewN | apply below_drew1) | exact HB.out)⟩
        · rw [if_neg c10] at H
          have c10b0 : decide (x10_1 < a2) = false := decide_eq_false c10
          clear c10
          obtain rfl := Option.some.inj H
          go_wp2
          go_ret
          exact ⟨_, by first | rfl | (simp [errW_none, errW_some] <;> rfl) | (simp [*, errW_none, errW_some] <;> rfl), by (with_reducible repeat (first | apply Kd.R_alloc | apply Kd.R_drewN | apply Kd.R_drew)); exact HO_9.out, by repeat (first | (with_reducible first | exact HB.out | apply below_alloc | apply pw_below_drewN | apply below_drew1) | exact HB.out)⟩
  · replace c7 := Bool.eq_false_iff.mpr c7
    subst c7
    have H1 : (some t126) = some r := by rw [if_neg (show ¬ (false = true) by decide)] at H; exact H
    clear H
    have H := H1
    clear H1
    obtain rfl := Option.some.inj H
    go_enter Try.func15, Try.ntmps15
    go_wp2_with (first | ((with_reducible refine gate_callee (f := 23) rfl ?_); refine goesL_ (some 12) rfl rfl Try.func23 (by kernel_rfl) rfl #[.slice A0 l0.length c0] rfl (by (try simp only [List.map_toArray, List.map_cons, List.map_nil]); first | done | rfl | (simp only [List.length_drop, List.length_take]; rfl)) ?_; (with_reducible refine (slices_Clone_byte_byte.calls _ _ l0 t126 _ ?side1 ?side2 A5.out).mono ?_); (case side1 => repeat (first | exact HR0.out | (with_reducible refine Kd.C_alloc ?_ _) | (with_reducible refine Kd.C_drewN ?_ _) | (with_reducible refine Kd.C_drew ?_))); (case side2 => exact HC0.out); rintro e w19 ⟨v127, rfl, ho0, hb⟩; refine ⟨_, rfl, ?_⟩; have n0_ := Aside0.mk (Kd.R_lower ho0 (below_size (by repeat (first | (with_reducible first | exact HB.out | apply below_alloc | apply pw_below_drewN | apply below_drew1) | exact HB.out)))); have n1_ := Aside0.mk (below_step (by repeat (first | (with_reducible first | exact HB.out | apply below_alloc | apply pw_below_drewN | apply below_drew1) | exact HB.out)) hb); clear HB; have HO128 := n0_; have HB := n1_; clear n0_ n1_; (try clear hb); (try clear hb2); (try clear hk); (try clear hi); (try clear ho0); obtain ⟨Ao20, co20, eo20⟩ := Kd.R_slice HO128.out; subst eo20) | ((with_reducible refine gate_callee (f := 22) rfl ?_); refine goesL_ (some 16) rfl rfl Try.func22 (by kernel_rfl) rfl #[.slice Ao20 t126.length co20, .int .i64 a1, .int .i64 a2] rfl (by (try simp only [List.map_toArray, List.map_cons, List.map_nil]); first | done | rfl | (simp only [List.length_drop, List.length_take]; rfl)) ?_; (with_reducible refine (delta_looks.calls _ _ t126 a1 a2 false _ ?side1 ?side2 A6.out).mono ?_); (case side1 => repeat (first | exact (Kd.R_reads' HO128.out).2.2 | (with_reducible refine Kd.C_alloc ?_ _) | (with_reducible refine Kd.C_drewN ?_ _) | (with_reducible refine Kd.C_drew ?_))); (case side2 => exact (Kd.R_reads' HO128.out).2.1); rintro e w' ⟨rfl, ⟨nd, rfl⟩⟩; refine ⟨_, rfl, ?_⟩))
    go_ret
    exact ⟨_, by first | rfl | (simp [errW_none, errW_some] <;> rfl) | (simp [*, errW_none, errW_some] <;> rfl), by (with_reducible repeat (first | apply Kd.R_alloc | apply Kd.R_drewN | apply Kd.R_drew)); exact HO128.out, by repeat (first | (with_reducible first | exact HB.out | apply below_alloc | apply pw_below_drewN | apply below_drew1) | exact HB.out)⟩

/-! ### tattinglaw12_awake: function 9 -/
def tattinglaw12_awake.f (k : Nat)  : Option (Bool) := (delta_Of.f k (([3, 3, 4] : List Int))).bind fun bt134 => (if bt134.2 = 0 then ((tattingref1_Same.f bt134.1 (([0, 1] : List Int))).bind fun t141 => (if t141 = true then ((delta_Key.f k (([1, 0, 1] : List Int)) 0 3).bind fun t145 => (if t145 = 5 then ((delta_Key.f k (([1, 1] : List Int)) 1 3).bind fun t149 => (if t149 = 1 then ((delta_Row.f k 2 ([] : List Int)).bind fun t150 => (if (t150.length : Int) = 1 then ((delta_Put.f k (([0] : List Int)) 0 1 1).bind fun t156 => (some ((t156.length : Int) == 1))) else (some false))) else (some false))) else (some false))) else (some false))) else (some false))
theorem tattinglaw12_awake.mono : ∀ k, LeO (tattinglaw12_awake.f k ) (tattinglaw12_awake.f (k + 1) ) := by
  intro  k
  unfold tattinglaw12_awake.f
  repeat' first
      | (with_reducible exact delta_Key.mono _ _ _ _)
      | (with_reducible exact delta_Of.mono _ _)
      | (with_reducible exact delta_Put.mono _ _ _ _ _)
      | (with_reducible exact delta_Row.mono _ _ _)
      | (with_reducible exact LeO.refl _)
      | (with_reducible exact LeO.none _)
      | (with_reducible refine LeO.ite ?_ ?_)
      | (with_reducible refine LeO.bind ?_ (fun _ => ?_))
      | exact delta_Key.mono _ _ _ _
      | exact delta_Of.mono _ _
      | exact delta_Put.mono _ _ _ _ _
      | exact delta_Row.mono _ _ _
      | exact LeO.none _
      | refine LeO.ite ?_ ?_
      | refine LeO.bind ?_ (fun _ => ?_)
set_option maxHeartbeats 8000000 in
set_option maxRecDepth 100000 in
theorem tattinglaw12_awake.calls (k : Nat)  (r : Bool) (w : World) (h : tattinglaw12_awake.f k  = some r) :
    Calls Try.prog 9 #[] w fun e w' => e = .returned (.bool r) ∧ Below w.heap.size w w' := by
  have HB := Aside0.mk (Below.refl w.heap.size w)
  have H : ((delta_Of.f k (([3, 3, 4] : List Int))).bind fun bt134 => (if bt134.2 = 0 then ((tattingref1_Same.f bt134.1 (([0, 1] : List Int))).bind fun t141 => (if t141 = true then ((delta_Key.f k (([1, 0, 1] : List Int)) 0 3).bind fun t145 => (if t145 = 5 then ((delta_Key.f k (([1, 1] : List Int)) 1 3).bind fun t149 => (if t149 = 1 then ((delta_Row.f k 2 ([] : List Int)).bind fun t150 => (if (t150.length : Int) = 1 then ((delta_Put.f k (([0] : List Int)) 0 1 1).bind fun t156 => (some ((t156.length : Int) == 1))) else (some false))) else (some false))) else (some false))) else (some false))) else (some false))) = some r := h
  clear h
  obtain ⟨y131, hy131⟩ : ∃ y_ : List Int, y_ = (([3, 3, 4] : List Int)) := ⟨_, rfl⟩
  replace H : ((delta_Of.f k y131).bind fun bt134 => (if bt134.2 = 0 then ((tattingref1_Same.f bt134.1 (([0, 1] : List Int))).bind fun t141 => (if t141 = true then ((delta_Key.f k (([1, 0, 1] : List Int)) 0 3).bind fun t145 => (if t145 = 5 then ((delta_Key.f k (([1, 1] : List Int)) 1 3).bind fun t149 => (if t149 = 1 then ((delta_Row.f k 2 ([] : List Int)).bind fun t150 => (if (t150.length : Int) = 1 then ((delta_Put.f k (([0] : List Int)) 0 1 1).bind fun t156 => (some ((t156.length : Int) == 1))) else (some false))) else (some false))) else (some false))) else (some false))) else (some false))) = some r := by first | (rw [hy131]; with_reducible exact H) | (have H2_ := (Option.bind_some _ _).symm.trans H; rw [hy131]; with_reducible exact H2_) | (have H2_ := (Option.bind_some _ _).symm.trans H; with_reducible exact H2_) | with_reducible exact H | (rw [hy131]; exact H) | exact H
  have Ny131 := Aside0.mk hy131
  clear hy131
  replace H := Option.bind_eq_some_iff.mp H
  obtain ⟨⟨t134, t135⟩, A10, H⟩ := H
  replace H : (if t135 = 0 then ((tattingref1_Same.f t134 (([0, 1] : List Int))).bind fun t141 => (if t141 = true then ((delta_Key.f k (([1, 0, 1] : List Int)) 0 3).bind fun t145 => (if t145 = 5 then ((delta_Key.f k (([1, 1] : List Int)) 1 3).bind fun t149 => (if t149 = 1 then ((delta_Row.f k 2 ([] : List Int)).bind fun t150 => (if (t150.length : Int) = 1 then ((delta_Put.f k (([0] : List Int)) 0 1 1).bind fun t156 => (some ((t156.length : Int) == 1))) else (some false))) else (some false))) else (some false))) else (some false))) else (some false)) = some r := H
  have A1 := Aside0.mk A10
  clear A10
  by_cases c2 : t135 = 0
  · rw [if_pos c2] at H
    have c2b0 : (t135 == 0) = true := beq_iff_eq.mpr c2
    have c2b1 : (t135 != 0) = false := bne_eq_false_iff_eq.mpr c2
    clear c2
    obtain ⟨y138, hy138⟩ : ∃ y_ : List Int, y_ = (([0, 1] : List Int)) := ⟨_, rfl⟩
    replace H : ((tattingref1_Same.f t134 y138).bind fun t141 => (if t141 = true then ((delta_Key.f k (([1, 0, 1] : List Int)) 0 3).bind fun t145 => (if t145 = 5 then ((delta_Key.f k (([1, 1] : List Int)) 1 3).bind fun t149 => (if t149 = 1 then ((delta_Row.f k 2 ([] : List Int)).bind fun t150 => (if (t150.length : Int) = 1 then ((delta_Put.f k (([0] : List Int)) 0 1 1).bind fun t156 => (some ((t156.length : Int) == 1))) else (some false))) else (some false))) else (some false))) else (some false))) = some r := by first | (rw [hy138]; with_reducible exact H) | (have H2_ := (Option.bind_some _ _).symm.trans H; rw [hy138]; with_reducible exact H2_) | (have H2_ := (Option.bind_some _ _).symm.trans H; with_reducible exact H2_) | with_reducible exact H | (rw [hy138]; exact H) | exact H
    have Ny138 := Aside0.mk hy138
    clear hy138
    replace H := Option.bind_eq_some_iff.mp H
    obtain ⟨t141, A30, H⟩ := H
    replace H : (if t141 = true then ((delta_Key.f k (([1, 0, 1] : List Int)) 0 3).bind fun t145 => (if t145 = 5 then ((delta_Key.f k (([1, 1] : List Int)) 1 3).bind fun t149 => (if t149 = 1 then ((delta_Row.f k 2 ([] : List Int)).bind fun t150 => (if (t150.length : Int) = 1 then ((delta_Put.f k (([0] : List Int)) 0 1 1).bind fun t156 => (some ((t156.length : Int) == 1))) else (some false))) else (some false))) else (some false))) else (some false)) = some r := H
    have A3 := Aside0.mk A30
    clear A30
    by_cases c4 : t141 = true
    · subst c4
      have H1 : ((delta_Key.f k (([1, 0, 1] : List Int)) 0 3).bind fun t145 => (if t145 = 5 then ((delta_Key.f k (([1, 1] : List Int)) 1 3).bind fun t149 => (if t149 = 1 then ((delta_Row.f k 2 ([] : List Int)).bind fun t150 => (if (t150.length : Int) = 1 then ((delta_Put.f k (([0] : List Int)) 0 1 1).bind fun t156 => (some ((t156.length : Int) == 1))) else (some false))) else (some false))) else (some false))) = some r := by rw [if_pos rfl] at H; exact H
      clear H
      have H := H1
      clear H1
      obtain ⟨y142, hy142⟩ : ∃ y_ : List Int, y_ = (([1, 0, 1] : List Int)) := ⟨_, rfl⟩
      replace H : ((delta_Key.f k y142 0 3).bind fun t145 => (if t145 = 5 then ((delta_Key.f k (([1, 1] : List Int)) 1 3).bind fun t149 => (if t149 = 1 then ((delta_Row.f k 2 ([] : List Int)).bind fun t150 => (if (t150.length : Int) = 1 then ((delta_Put.f k (([0] : List Int)) 0 1 1).bind fun t156 => (some ((t156.length : Int) == 1))) else (some false))) else (some false))) else (some false))) = some r := by first | (rw [hy142]; with_reducible exact H) | (have H2_ := (Option.bind_some _ _).symm.trans H; rw [hy142]; with_reducible exact H2_) | (have H2_ := (Option.bind_some _ _).symm.trans H; with_reducible exact H2_) | with_reducible exact H | (rw [hy142]; exact H) | exact H
      have Ny142 := Aside0.mk hy142
      clear hy142
      replace H := Option.bind_eq_some_iff.mp H
      obtain ⟨t145, A50, H⟩ := H
      replace H : (if t145 = 5 then ((delta_Key.f k (([1, 1] : List Int)) 1 3).bind fun t149 => (if t149 = 1 then ((delta_Row.f k 2 ([] : List Int)).bind fun t150 => (if (t150.length : Int) = 1 then ((delta_Put.f k (([0] : List Int)) 0 1 1).bind fun t156 => (some ((t156.length : Int) == 1))) else (some false))) else (some false))) else (some false)) = some r := H
      have A5 := Aside0.mk A50
      clear A50
      by_cases c6 : t145 = 5
      · rw [if_pos c6] at H
        have c6b0 : (t145 == 5) = true := beq_iff_eq.mpr c6
        have c6b1 : (t145 != 5) = false := bne_eq_false_iff_eq.mpr c6
        clear c6
        obtain ⟨y146, hy146⟩ : ∃ y_ : List Int, y_ = (([1, 1] : List Int)) := ⟨_, rfl⟩
        replace H : ((delta_Key.f k y146 1 3).bind fun t149 => (if t149 = 1 then ((delta_Row.f k 2 ([] : List Int)).bind fun t150 => (if (t150.length : Int) = 1 then ((delta_Put.f k (([0] : List Int)) 0 1 1).bind fun t156 => (some ((t156.length : Int) == 1))) else (some false))) else (some false))) = some r := by first | (rw [hy146]; with_reducible exact H) | (have H2_ := (Option.bind_some _ _).symm.trans H; rw [hy146]; with_reducible exact H2_) | (have H2_ := (Option.bind_some _ _).symm.trans H; with_reducible exact H2_) | with_reducible exact H | (rw [hy146]; exact H) | exact H
        have Ny146 := Aside0.mk hy146
        clear hy146
        replace H := Option.bind_eq_some_iff.mp H
        obtain ⟨t149, A70, H⟩ := H
        replace H : (if t149 = 1 then ((delta_Row.f k 2 ([] : List Int)).bind fun t150 => (if (t150.length : Int) = 1 then ((delta_Put.f k (([0] : List Int)) 0 1 1).bind fun t156 => (some ((t156.length : Int) == 1))) else (some false))) else (some false)) = some r := H
        have A7 := Aside0.mk A70
        clear A70
        by_cases c8 : t149 = 1
        · rw [if_pos c8] at H
          have c8b0 : (t149 == 1) = true := beq_iff_eq.mpr c8
          have c8b1 : (t149 != 1) = false := bne_eq_false_iff_eq.mpr c8
          clear c8
          replace H := Option.bind_eq_some_iff.mp H
          obtain ⟨t150, A90, H⟩ := H
          replace H : (if (t150.length : Int) = 1 then ((delta_Put.f k (([0] : List Int)) 0 1 1).bind fun t156 => (some ((t156.length : Int) == 1))) else (some false)) = some r := H
          have A9 := Aside0.mk A90
          clear A90
          by_cases c10 : (t150.length : Int) = 1
          · rw [if_pos c10] at H
            have c10b0 : ((t150.length : Int) == 1) = true := beq_iff_eq.mpr c10
            have c10b1 : ((t150.length : Int) != 1) = false := bne_eq_false_iff_eq.mpr c10
            clear c10
            obtain ⟨y153, hy153⟩ : ∃ y_ : List Int, y_ = (([0] : List Int)) := ⟨_, rfl⟩
            replace H : ((delta_Put.f k y153 0 1 1).bind fun t156 => (some ((t156.length : Int) == 1))) = some r := by first | (rw [hy153]; with_reducible exact H) | (have H2_ := (Option.bind_some _ _).symm.trans H; rw [hy153]; with_reducible exact H2_) | (have H2_ := (Option.bind_some _ _).symm.trans H; with_reducible exact H2_) | with_reducible exact H | (rw [hy153]; exact H) | exact H
            have Ny153 := Aside0.mk hy153
            clear hy153
            replace H := Option.bind_eq_some_iff.mp H
            obtain ⟨t156, A110, H⟩ := H
            replace H : (some ((t156.length : Int) == 1)) = some r := H
            have A11 := Aside0.mk A110
            clear A110
            obtain rfl := Option.some.inj H
            go_enter Try.func9, Try.ntmps9
            go_wp2_with (first | ((with_reducible refine gate_dst (N := 4) rfl ?_); (try (refine gate_guard (by rfl) ?_; dsimp only)); refine Kd.R_lit (Kd.int .i64) _ 3 ?hg (N := 4) ?hd (xs := ([3, 3, 4] : List Int)) (inner := [.int .i64 3, .int .i64 3, .int .i64 4]) (ok := fun _ => True) (okp := fun _ => True) ?hr ?hp (fun _ hk => hk) trivial (Below.refl _ _) (Nat.le_refl _) (by simp) ?_; (case hd => rfl); (case hg => rfl); (case hr => first | (go_simp; done) | (go_simp; rfl)); (case hp => exact (Reps.one (show Kd.M (Kd.int .i64) _ _ _ 3 [.int .i64 3] from rfl) (Reps.one (show Kd.M (Kd.int .i64) _ _ _ 3 [.int .i64 3] from rfl) (Reps.one (show Kd.M (Kd.int .i64) _ _ _ 4 [.int .i64 4] from rfl) (Reps.none _ _))))); intro v132 w12 ho13 hb hg_ hnew_; clear hg_ hnew_; (first | rw [← Ny131.out] at ho13 | (simp only [Int.reduceToNat] at ho13; rw [← Ny131.out] at ho13)); have n0_ := Aside0.mk (Kd.R_lower ho13 (below_size (by repeat (first | (with_reducible first | exact HB.out | apply below_alloc | apply pw_below_drewN | apply below_drew1) | exact HB.out)))); have n1_ := Aside0.mk (below_step (by repeat (first | (with_reducible first | exact HB.out | apply below_alloc | apply pw_below_drewN | apply below_drew1) | exact HB.out)) hb); clear HB; have HO133 := n0_; have HB := n1_; clear n0_ n1_; clear hb ho13; obtain ⟨Ao14, co14, eo14⟩ := Kd.R_slice HO133.out; subst eo14) | ((with_reducible refine gate_callee (f := 10) rfl ?_); refine goesL_ (some 5) rfl rfl Try.func10 (by kernel_rfl) rfl #[.slice Ao14 y131.length co14] rfl (by (try simp only [List.map_toArray, List.map_cons, List.map_nil]); first | done | rfl | (simp only [List.length_drop, List.length_take]; rfl)) ?_; (with_reducible refine (delta_Of.calls k _ _ y131 t134 t135 _ ?side1 ?side2 A1.out).mono ?_); (case side1 => repeat (first | exact (Kd.R_reads' HO133.out).2.2 | (with_reducible refine Kd.C_alloc ?_ _) | (with_reducible refine Kd.C_drewN ?_ _) | (with_reducible refine Kd.C_drew ?_))); (case side2 => exact (Kd.R_reads' HO133.out).2.1); rintro e w15 ⟨v136, rfl, ho0, hb⟩; refine ⟨_, rfl, ?_⟩; have n0_ := Aside0.mk (Kd.R_below (by (with_reducible repeat (first | apply Kd.R_alloc | apply Kd.R_drewN | apply Kd.R_drew)); exact HO133.out) hb); have n1_ := Aside0.mk (Kd.R_lower ho0 (below_size (by repeat (first | (with_reducible first | exact HB.out | apply below_alloc | apply pw_below_drewN | apply below_drew1) | exact HB.out)))); have n2_ := Aside0.mk (below_step (by repeat (first | (with_reducible first | exact HB.out | apply below_alloc | apply pw_below_drewN | apply below_drew1) | exact HB.out)) hb); clear HO133; clear HB; have HO133 := n0_; have HO137 := n1_; have HB := n2_; clear n0_ n1_ n2_; (try clear hb); (try clear hb2); (try clear hk); (try clear hi); (try clear ho0)) | ((with_reducible refine gate_dst (N := 12) rfl ?_); (try (refine gate_guard (by rfl) ?_; dsimp only)); refine Kd.R_lit (Kd.int .u8) _ 5 ?hg (N := 12) ?hd (xs := ([0, 1] : List Int)) (inner := [.int .u8 0, .int .u8 1]) (ok := fun _ => True) (okp := fun _ => True) ?hr ?hp (fun _ hk => hk) trivial (Below.refl _ _) (Nat.le_refl _) (by simp) ?_; (case hd => rfl); (case hg => rfl); (case hr => first | (go_simp; done) | (go_simp; rfl)); (case hp => exact (Reps.one (show Kd.M (Kd.int .u8) _ _ _ 0 [.int .u8 0] from rfl) (Reps.one (show Kd.M (Kd.int .u8) _ _ _ 1 [.int .u8 1] from rfl) (Reps.none _ _)))); intro v139 w16 ho17 hb hg_ hnew_; clear hg_ hnew_; (first | rw [← Ny138.out] at ho17 | (simp only [Int.reduceToNat] at ho17; rw [← Ny138.out] at ho17)); have n0_ := Aside0.mk (Kd.R_below (by (with_reducible repeat (first | apply Kd.R_alloc | apply Kd.R_drewN | apply Kd.R_drew)); exact HO133.out) hb); have n1_ := Aside0.mk (Kd.R_elder' (by (with_reducible repeat (first | apply Kd.R_alloc | apply Kd.R_drewN | apply Kd.R_drew)); exact HO137.out) (Kd.R_base ho17) hb); have n2_ := Aside0.mk (Kd.R_lower (Kd.R_new' ho17 (Kd.R_lt (by (with_reducible repeat (first | apply Kd.R_alloc | apply Kd.R_drewN | apply Kd.R_drew)); exact HO137.out))) (below_size (by repeat (first | (with_reducible first | exact HB.out | apply below_alloc | apply pw_below_drewN | apply below_drew1) | exact HB.out)))); have n3_ := Aside0.mk (below_step (by repeat (first | (with_reducible first | exact HB.out | apply below_alloc | apply pw_below_drewN | apply below_drew1) | exact HB.out)) hb); clear HO133; clear HO137; clear HB; have HO133 := n0_; have HO137 := n1_; have HO140 := n2_; have HB := n3_; clear n0_ n1_ n2_ n3_; clear hb ho17; obtain ⟨Ao18, co18, eo18⟩ := Kd.R_slice HO137.out; subst eo18; obtain ⟨Ao19, co19, eo19⟩ := Kd.R_slice HO140.out; subst eo19) | (go_at_call 14; (with_reducible refine (tattingref1_Same.calls _ _ t134 _ _ y138 true _ ?side1 ?side2 ?side3 ?side4 A3.out).mono ?_); (case side1 => repeat (first | exact (Kd.R_reads' HO137.out).2.2 | (with_reducible refine Kd.C_alloc ?_ _) | (with_reducible refine Kd.C_drewN ?_ _) | (with_reducible refine Kd.C_drew ?_))); (case side2 => exact (Kd.R_reads' HO137.out).2.1); (case side3 => repeat (first | exact (Kd.R_reads' HO140.out).2.2 | (with_reducible refine Kd.C_alloc ?_ _) | (with_reducible refine Kd.C_drewN ?_ _) | (with_reducible refine Kd.C_drew ?_))); (case side4 => exact (Kd.R_reads' HO140.out).2.1); rintro e w' ⟨rfl, ⟨nd, rfl⟩⟩) | ((with_reducible refine gate_dst (N := 16) rfl ?_); (try (refine gate_guard (by rfl) ?_; dsimp only)); refine Kd.R_lit (Kd.int .u8) _ 5 ?hg (N := 16) ?hd (xs := ([1, 0, 1] : List Int)) (inner := [.int .u8 1, .int .u8 0, .int .u8 1]) (ok := fun _ => True) (okp := fun _ => True) ?hr ?hp (fun _ hk => hk) trivial (Below.refl _ _) (Nat.le_refl _) (by simp) ?_; (case hd => rfl); (case hg => rfl); (case hr => first | (go_simp; done) | (go_simp; rfl)); (case hp => exact (Reps.one (show Kd.M (Kd.int .u8) _ _ _ 1 [.int .u8 1] from rfl) (Reps.one (show Kd.M (Kd.int .u8) _ _ _ 0 [.int .u8 0] from rfl) (Reps.one (show Kd.M (Kd.int .u8) _ _ _ 1 [.int .u8 1] from rfl) (Reps.none _ _))))); intro v143 w20 ho21 hb hg_ hnew_; clear hg_ hnew_; (first | rw [← Ny142.out] at ho21 | (simp only [Int.reduceToNat] at ho21; rw [← Ny142.out] at ho21)); have n0_ := Aside0.mk (Kd.R_below (by (with_reducible repeat (first | apply Kd.R_alloc | apply Kd.R_drewN | apply Kd.R_drew)); exact HO133.out) hb); have n1_ := Aside0.mk (Kd.R_elder' (by (with_reducible repeat (first | apply Kd.R_alloc | apply Kd.R_drewN | apply Kd.R_drew)); exact HO137.out) (Kd.R_base ho21) hb); have n2_ := Aside0.mk (Kd.R_elder' (by (with_reducible repeat (first | apply Kd.R_alloc | apply Kd.R_drewN | apply Kd.R_drew)); exact HO140.out) (Kd.R_base ho21) hb); have n3_ := Aside0.mk (Kd.R_lower (Kd.R_new' (Kd.R_new' ho21 (Kd.R_lt (by (with_reducible repeat (first | apply Kd.R_alloc | apply Kd.R_drewN | apply Kd.R_drew)); exact HO137.out))) (Kd.R_lt (by (with_reducible repeat (first | apply Kd.R_alloc | apply Kd.R_drewN | apply Kd.R_drew)); exact HO140.out))) (below_size (by repeat (first | (with_reducible first | exact HB.out | apply below_alloc | apply pw_below_drewN | apply below_drew1) | exact HB.out)))); have n4_ := Aside0.mk (below_step (by repeat (first | (with_reducible first | exact HB.out | apply below_alloc | apply pw_below_drewN | apply below_drew1) | exact HB.out)) hb); clear HO133; clear HO137; clear HO140; clear HB; have HO133 := n0_; have HO137 := n1_; have HO140 := n2_; have HO144 := n3_; have HB := n4_; clear n0_ n1_ n2_ n3_ n4_; clear hb ho21; obtain ⟨Ao22, co22, eo22⟩ := Kd.R_slice HO144.out; subst eo22) | (go_at_call 13; (with_reducible refine (delta_Key.calls k _ _ y142 0 3 t145 _ ?side1 ?side2 A5.out).mono ?_); (case side1 => repeat (first | exact (Kd.R_reads' HO144.out).2.2 | (with_reducible refine Kd.C_alloc ?_ _) | (with_reducible refine Kd.C_drewN ?_ _) | (with_reducible refine Kd.C_drew ?_))); (case side2 => exact (Kd.R_reads' HO144.out).2.1); rintro e w' ⟨rfl, ⟨nd, rfl⟩⟩) | ((with_reducible refine gate_dst (N := 21) rfl ?_); (try (refine gate_guard (by rfl) ?_; dsimp only)); refine Kd.R_lit (Kd.int .u8) _ 5 ?hg (N := 21) ?hd (xs := ([1, 1] : List Int)) (inner := [.int .u8 1, .int .u8 1]) (ok := fun _ => True) (okp := fun _ => True) ?hr ?hp (fun _ hk => hk) trivial (Below.refl _ _) (Nat.le_refl _) (by simp) ?_; (case hd => rfl); (case hg => rfl); (case hr => first | (go_simp; done) | (go_simp; rfl)); (case hp => exact (Reps.one (show Kd.M (Kd.int .u8) _ _ _ 1 [.int .u8 1] from rfl) (Reps.one (show Kd.M (Kd.int .u8) _ _ _ 1 [.int .u8 1] from rfl) (Reps.none _ _)))); intro v147 w23 ho24 hb hg_ hnew_; clear hg_ hnew_; (first | rw [← Ny146.out] at ho24 | (simp only [Int.reduceToNat] at ho24; rw [← Ny146.out] at ho24)); have n0_ := Aside0.mk (Kd.R_below (by (with_reducible repeat (first | apply Kd.R_alloc | apply Kd.R_drewN | apply Kd.R_drew)); exact HO133.out) hb); have n1_ := Aside0.mk (Kd.R_elder' (by (with_reducible repeat (first | apply Kd.R_alloc | apply Kd.R_drewN | apply Kd.R_drew)); exact HO137.out) (Kd.R_base ho24) hb); have n2_ := Aside0.mk (Kd.R_elder' (by (with_reducible repeat (first | apply Kd.R_alloc | apply Kd.R_drewN | apply Kd.R_drew)); exact HO140.out) (Kd.R_base ho24) hb); have n3_ := Aside0.mk (Kd.R_elder' (by (with_reducible repeat (first | apply Kd.R_alloc | apply Kd.R_drewN | apply Kd.R_drew)); exact HO144.out) (Kd.R_base ho24) hb); have n4_ := Aside0.mk (Kd.R_lower (Kd.R_new' (Kd.R_new' (Kd.R_new' ho24 (Kd.R_lt (by (with_reducible repeat (first | apply Kd.R_alloc | apply Kd.R_drewN | apply Kd.R_drew)); exact HO137.out))) (Kd.R_lt (by (with_reducible repeat (first | apply Kd.R_alloc | apply Kd.R_drewN | apply Kd.R_drew)); exact HO140.out))) (Kd.R_lt (by (with_reducible repeat (first | apply Kd.R_alloc | apply Kd.R_drewN | apply Kd.R_drew)); exact HO144.out))) (below_size (by repeat (first | (with_reducible first | exact HB.out | apply below_alloc | apply pw_below_drewN | apply below_drew1) | exact HB.out)))); have n5_ := Aside0.mk (below_step (by repeat (first | (with_reducible first | exact HB.out | apply below_alloc | apply pw_below_drewN | apply below_drew1) | exact HB.out)) hb); clear HO133; clear HO137; clear HO140; clear HO144; clear HB; have HO133 := n0_; have HO137 := n1_; have HO140 := n2_; have HO144 := n3_; have HO148 := n4_; have HB := n5_; clear n0_ n1_ n2_ n3_ n4_ n5_; clear hb ho24; obtain ⟨Ao25, co25, eo25⟩ := Kd.R_slice HO148.out; subst eo25) | (go_at_call 13; (with_reducible refine (delta_Key.calls k _ _ y146 1 3 t149 _ ?side1 ?side2 A7.out).mono ?_); (case side1 => repeat (first | exact (Kd.R_reads' HO148.out).2.2 | (with_reducible refine Kd.C_alloc ?_ _) | (with_reducible refine Kd.C_drewN ?_ _) | (with_reducible refine Kd.C_drew ?_))); (case side2 => exact (Kd.R_reads' HO148.out).2.1); rintro e w' ⟨rfl, ⟨nd, rfl⟩⟩) | (go_at_call 12; (refine (delta_Row.calls k 2 _ _ ([] : List Int) t150 _ ?side1 ?side2 A9.out).mono ?_); (case side1 => exact Kd.C_nil _ _); (case side2 => exact Nat.le_refl _); rintro e w26 ⟨v151, rfl, ho0, hb⟩; have n0_ := Aside0.mk (Kd.R_elder' (by (with_reducible repeat (first | apply Kd.R_alloc | apply Kd.R_drewN | apply Kd.R_drew)); exact HO133.out) (Kd.R_base ho0) hb); have n1_ := Aside0.mk (Kd.R_below (by (with_reducible repeat (first | apply Kd.R_alloc | apply Kd.R_drewN | apply Kd.R_drew)); exact HO137.out) hb); have n2_ := Aside0.mk (Kd.R_below (by (with_reducible repeat (first | apply Kd.R_alloc | apply Kd.R_drewN | apply Kd.R_drew)); exact HO140.out) hb); have n3_ := Aside0.mk (Kd.R_below (by (with_reducible repeat (first | apply Kd.R_alloc | apply Kd.R_drewN | apply Kd.R_drew)); exact HO144.out) hb); have n4_ := Aside0.mk (Kd.R_below (by (with_reducible repeat (first | apply Kd.R_alloc | apply Kd.R_drewN | apply Kd.R_drew)); exact HO148.out) hb); have n5_ := Aside0.mk (Kd.R_lower (Kd.R_new' ho0 (Kd.R_lt (by (with_reducible repeat (first | apply Kd.R_alloc | apply Kd.R_drewN | apply Kd.R_drew)); exact HO133.out))) (below_size (by repeat (first | (with_reducible first | exact HB.out | apply below_alloc | apply pw_below_drewN | apply below_drew1) | exact HB.out)))); have n6_ := Aside0.mk (below_step (by repeat (first | (with_reducible first | exact HB.out | apply below_alloc | apply pw_below_drewN | apply below_drew1) | exact HB.out)) hb); clear HO133; clear HO137; clear HO140; clear HO144; clear HO148; clear HB; have HO133 := n0_; have HO137 := n1_; have HO140 := n2_; have HO144 := n3_; have HO148 := n4_; have HO152 := n5_; have HB := n6_; clear n0_ n1_ n2_ n3_ n4_ n5_ n6_; (try clear hb); (try clear hb2); (try clear hk); (try clear hi); (try clear ho0); obtain ⟨Ao27, co27, eo27⟩ := Kd.R_slice HO152.out; subst eo27) | ((with_reducible refine gate_dst (N := 31) rfl ?_); (try (refine gate_guard (by rfl) ?_; dsimp only)); refine Kd.R_lit (Kd.int .u8) _ 5 ?hg (N := 31) ?hd (xs := ([0] : List Int)) (inner := [.int .u8 0]) (ok := fun _ => True) (okp := fun _ => True) ?hr ?hp (fun _ hk => hk) trivial (Below.refl _ _) (Nat.le_refl _) (by simp) ?_; (case hd => rfl); (case hg => rfl); (case hr => first | (go_simp; done) | (go_simp; rfl)); (case hp => exact (Reps.one (show Kd.M (Kd.int .u8) _ _ _ 0 [.int .u8 0] from rfl) (Reps.none _ _))); intro v154 w28 ho29 hb hg_ hnew_; clear hg_ hnew_; (first | rw [← Ny153.out] at ho29 | (simp only [Int.reduceToNat] at ho29; rw [← Ny153.out] at ho29)); have n0_ := Aside0.mk (Kd.R_below (by (with_reducible repeat (first | apply Kd.R_alloc | apply Kd.R_drewN | apply Kd.R_drew)); exact HO133.out) hb); have n1_ := Aside0.mk (Kd.R_elder' (by (with_reducible repeat (first | apply Kd.R_alloc | apply Kd.R_drewN | apply Kd.R_drew)); exact HO137.out) (Kd.R_base ho29) hb); have n2_ := Aside0.mk (Kd.R_elder' (by (with_reducible repeat (first | apply Kd.R_alloc | apply Kd.R_drewN | apply Kd.R_drew)); exact HO140.out) (Kd.R_base ho29) hb); have n3_ := Aside0.mk (Kd.R_elder' (by (with_reducible repeat (first | apply Kd.R_alloc | apply Kd.R_drewN | apply Kd.R_drew)); exact HO144.out) (Kd.R_base ho29) hb); have n4_ := Aside0.mk (Kd.R_elder' (by (with_reducible repeat (first | apply Kd.R_alloc | apply Kd.R_drewN | apply Kd.R_drew)); exact HO148.out) (Kd.R_base ho29) hb); have n5_ := Aside0.mk (Kd.R_below (by (with_reducible repeat (first | apply Kd.R_alloc | apply Kd.R_drewN | apply Kd.R_drew)); exact HO152.out) hb); have n6_ := Aside0.mk (Kd.R_lower (Kd.R_new' (Kd.R_new' (Kd.R_new' (Kd.R_new' ho29 (Kd.R_lt (by (with_reducible repeat (first | apply Kd.R_alloc | apply Kd.R_drewN | apply Kd.R_drew)); exact HO137.out))) (Kd.R_lt (by (with_reducible repeat (first | apply Kd.R_alloc | apply Kd.R_drewN | apply Kd.R_drew)); exact HO140.out))) (Kd.R_lt (by (with_reducible repeat (first | apply Kd.R_alloc | apply Kd.R_drewN | apply Kd.R_drew)); exact HO144.out))) (Kd.R_lt (by (with_reducible repeat (first | apply Kd.R_alloc | apply Kd.R_drewN | apply Kd.R_drew)); exact HO148.out))) (below_size (by repeat (first | (with_reducible first | exact HB.out | apply below_alloc | apply pw_below_drewN | apply below_drew1) | exact HB.out)))); have n7_ := Aside0.mk (below_step (by repeat (first | (with_reducible first | exact HB.out | apply below_alloc | apply pw_below_drewN | apply below_drew1) | exact HB.out)) hb); clear HO133; clear HO137; clear HO140; clear HO144; clear HO148; clear HO152; clear HB; have HO133 := n0_; have HO137 := n1_; have HO140 := n2_; have HO144 := n3_; have HO148 := n4_; have HO152 := n5_; have HO155 := n6_; have HB := n7_; clear n0_ n1_ n2_ n3_ n4_ n5_ n6_ n7_; clear hb ho29; obtain ⟨Ao30, co30, eo30⟩ := Kd.R_slice HO155.out; subst eo30) | (go_at_call 15; (with_reducible refine (delta_Put.calls k _ _ y153 0 1 1 t156 _ ?side1 ?side2 A11.out).mono ?_); (case side1 => repeat (first | exact (Kd.R_reads' HO155.out).2.2 | (with_reducible refine Kd.C_alloc ?_ _) | (with_reducible refine Kd.C_drewN ?_ _) | (with_reducible refine Kd.C_drew ?_))); (case side2 => exact (Kd.R_reads' HO155.out).2.1); rintro e w31 ⟨v157, rfl, ho0, hb⟩; have n0_ := Aside0.mk (Kd.R_below (by (with_reducible repeat (first | apply Kd.R_alloc | apply Kd.R_drewN | apply Kd.R_drew)); exact HO133.out) hb); have n1_ := Aside0.mk (Kd.R_elder' (by (with_reducible repeat (first | apply Kd.R_alloc | apply Kd.R_drewN | apply Kd.R_drew)); exact HO137.out) (Kd.R_base ho0) hb); have n2_ := Aside0.mk (Kd.R_elder' (by (with_reducible repeat (first | apply Kd.R_alloc | apply Kd.R_drewN | apply Kd.R_drew)); exact HO140.out) (Kd.R_base ho0) hb); have n3_ := Aside0.mk (Kd.R_elder' (by (with_reducible repeat (first | apply Kd.R_alloc | apply Kd.R_drewN | apply Kd.R_drew)); exact HO144.out) (Kd.R_base ho0) hb); have n4_ := Aside0.mk (Kd.R_elder' (by (with_reducible repeat (first | apply Kd.R_alloc | apply Kd.R_drewN | apply Kd.R_drew)); exact HO148.out) (Kd.R_base ho0) hb); have n5_ := Aside0.mk (Kd.R_below (by (with_reducible repeat (first | apply Kd.R_alloc | apply Kd.R_drewN | apply Kd.R_drew)); exact HO152.out) hb); have n6_ := Aside0.mk (Kd.R_elder' (by (with_reducible repeat (first | apply Kd.R_alloc | apply Kd.R_drewN | apply Kd.R_drew)); exact HO155.out) (Kd.R_base ho0) hb); have n7_ := Aside0.mk (Kd.R_lower (Kd.R_new' (Kd.R_new' (Kd.R_new' (Kd.R_new' (Kd.R_new' ho0 (Kd.R_lt (by (with_reducible repeat (first | apply Kd.R_alloc | apply Kd.R_drewN | apply Kd.R_drew)); exact HO137.out))) (Kd.R_lt (by (with_reducible repeat (first | apply Kd.R_alloc | apply Kd.R_drewN | apply Kd.R_drew)); exact HO140.out))) (Kd.R_lt (by (with_reducible repeat (first | apply Kd.R_alloc | apply Kd.R_drewN | apply Kd.R_drew)); exact HO144.out))) (Kd.R_lt (by (with_reducible repeat (first | apply Kd.R_alloc | apply Kd.R_drewN | apply Kd.R_drew)); exact HO148.out))) (Kd.R_lt (by (with_reducible repeat (first | apply Kd.R_alloc | apply Kd.R_drewN | apply Kd.R_drew)); exact HO155.out))) (below_size (by repeat (first | (with_reducible first | exact HB.out | apply below_alloc | apply pw_below_drewN | apply below_drew1) | exact HB.out)))); have n8_ := Aside0.mk (below_step (by repeat (first | (with_reducible first | exact HB.out | apply below_alloc | apply pw_below_drewN | apply below_drew1) | exact HB.out)) hb); clear HO133; clear HO137; clear HO140; clear HO144; clear HO148; clear HO152; clear HO155; clear HB; have HO133 := n0_; have HO137 := n1_; have HO140 := n2_; have HO144 := n3_; have HO148 := n4_; have HO152 := n5_; have HO155 := n6_; have HO158 := n7_; have HB := n8_; clear n0_ n1_ n2_ n3_ n4_ n5_ n6_ n7_ n8_; (try clear hb); (try clear hb2); (try clear hk); (try clear hi); (try clear ho0); obtain ⟨Ao32, co32, eo32⟩ := Kd.R_slice HO158.out; subst eo32))
            go_ret
            exact ⟨by first | rfl | (simp [errW_none, errW_some] <;> rfl) | (simp [*, errW_none, errW_some] <;> rfl), by repeat (first | (with_reducible first | exact HB.out | apply below_alloc | apply pw_below_drewN | apply below_drew1) | exact HB.out)⟩
          · rw [if_neg c10] at H
            have c10b0 : ((t150.length : Int) == 1) = false := beq_eq_false_iff_ne.mpr c10
            have c10b1 : ((t150.length : Int) != 1) = true := bne_iff_ne.mpr c10
            obtain rfl := Option.some.inj H
            go_enter Try.func9, Try.ntmps9
            go_wp2_with (first | ((with_reducible refine gate_dst (N := 4) rfl ?_); (try (refine gate_guard (by rfl) ?_; dsimp only)); refine Kd.R_lit (Kd.int .i64) _ 3 ?hg (N := 4) ?hd (xs := ([3, 3, 4] : List Int)) (inner := [.int .i64 3, .int .i64 3, .int .i64 4]) (ok := fun _ => True) (okp := fun _ => True) ?hr ?hp (fun _ hk => hk) trivial (Below.refl _ _) (Nat.le_refl _) (by simp) ?_; (case hd => rfl); (case hg => rfl); (case hr => first | (go_simp; done) | (go_simp; rfl)); (case hp => exact (Reps.one (show Kd.M (Kd.int .i64) _ _ _ 3 [.int .i64 3] from rfl) (Reps.one (show Kd.M (Kd.int .i64) _ _ _ 3 [.int .i64 3] from rfl) (Reps.one (show Kd.M (Kd.int .i64) _ _ _ 4 [.int .i64 4] from rfl) (Reps.none _ _))))); intro v132 w33 ho34 hb hg_ hnew_; clear hg_ hnew_; (first | rw [← Ny131.out] at ho34 | (simp only [Int.reduceToNat] at ho34; rw [← Ny131.out] at ho34)); have n0_ := Aside0.mk (Kd.R_lower ho34 (below_size (by repeat (first | (with_reducible first | exact HB.out | apply below_alloc | apply pw_below_drewN | apply below_drew1) | exact HB.out)))); have n1_ := Aside0.mk (below_step (by repeat (first | (with_reducible first | exact HB.out | apply below_alloc | apply pw_below_drewN | apply below_drew1) | exact HB.out)) hb); clear HB; have HO133 := n0_; have HB := n1_; clear n0_ n1_; clear hb ho34; obtain ⟨Ao35, co35, eo35⟩ := Kd.R_slice HO133.out; subst eo35) | ((with_reducible refine gate_callee (f := 10) rfl ?_); refine goesL_ (some 5) rfl rfl Try.func10 (by kernel_rfl) rfl #[.slice Ao35 y131.length co35] rfl (by (try simp only [List.map_toArray, List.map_cons, List.map_nil]); first | done | rfl | (simp only [List.length_drop, List.length_take]; rfl)) ?_; (with_reducible refine (delta_Of.calls k _ _ y131 t134 t135 _ ?side1 ?side2 A1.out).mono ?_); (case side1 => repeat (first | exact (Kd.R_reads' HO133.out).2.2 | (with_reducible refine Kd.C_alloc ?_ _) | (with_reducible refine Kd.C_drewN ?_ _) | (with_reducible refine Kd.C_drew ?_))); (case side2 => exact (Kd.R_reads' HO133.out).2.1); rintro e w36 ⟨v136, rfl, ho0, hb⟩; refine ⟨_, rfl, ?_⟩; have n0_ := Aside0.mk (Kd.R_below (by (with_reducible repeat (first | apply Kd.R_alloc | apply Kd.R_drewN | apply Kd.R_drew)); exact HO133.out) hb); have n1_ := Aside0.mk (Kd.R_lower ho0 (below_size (by repeat (first | (with_reducible first | exact HB.out | apply below_alloc | apply pw_below_drewN | apply below_drew1) | exact HB.out)))); have n2_ := Aside0.mk (below_step (by repeat (first | (with_reducible first | exact HB.out | apply below_alloc | apply pw_below_drewN | apply below_drew1) | exact HB.out)) hb); clear HO133; clear HB; have HO133 := n0_; have HO137 := n1_; have HB := n2_; clear n0_ n1_ n2_; (try clear hb); (try clear hb2); (try clear hk); (try clear hi); (try clear ho0)) | ((with_reducible refine gate_dst (N := 12) rfl ?_); (try (refine gate_guard (by rfl) ?_; dsimp only)); refine Kd.R_lit (Kd.int .u8) _ 5 ?hg (N := 12) ?hd (xs := ([0, 1] : List Int)) (inner := [.int .u8 0, .int .u8 1]) (ok := fun _ => True) (okp := fun _ => True) ?hr ?hp (fun _ hk => hk) trivial (Below.refl _ _) (Nat.le_refl _) (by simp) ?_; (case hd => rfl); (case hg => rfl); (case hr => first | (go_simp; done) | (go_simp; rfl)); (case hp => exact (Reps.one (show Kd.M (Kd.int .u8) _ _ _ 0 [.int .u8 0] from rfl) (Reps.one (show Kd.M (Kd.int .u8) _ _ _ 1 [.int .u8 1] from rfl) (Reps.none _ _)))); intro v139 w37 ho38 hb hg_ hnew_; clear hg_ hnew_; (first | rw [← Ny138.out] at ho38 | (simp only [Int.reduceToNat] at ho38; rw [← Ny138.out] at ho38)); have n0_ := Aside0.mk (Kd.R_below (by (with_reducible repeat (first | apply Kd.R_alloc | apply Kd.R_drewN | apply Kd.R_drew)); exact HO133.out) hb); have n1_ := Aside0.mk (Kd.R_elder' (by (with_reducible repeat (first | apply Kd.R_alloc | apply Kd.R_drewN | apply Kd.R_drew)); exact HO137.out) (Kd.R_base ho38) hb); have n2_ := Aside0.mk (Kd.R_lower (Kd.R_new' ho38 (Kd.R_lt (by (with_reducible repeat (first | apply Kd.R_alloc | apply Kd.R_drewN | apply Kd.R_drew)); exact HO137.out))) (below_size (by repeat (first | (with_reducible first | exact HB.out | apply below_alloc | apply pw_below_drewN | apply below_drew1) | exact HB.out)))); have n3_ := Aside0.mk (below_step (by repeat (first | (with_reducible first | exact HB.out | apply below_alloc | apply pw_below_drewN | apply below_drew1) | exact HB.out)) hb); clear HO133; clear HO137; clear HB; have HO133 := n0_; have HO137 := n1_; have HO140 := n2_; have HB := n3_; clear n0_ n1_ n2_ n3_; clear hb ho38; obtain ⟨Ao39, co39, eo39⟩ := Kd.R_slice HO137.out; subst eo39; obtain ⟨Ao40, co40, eo40⟩ := Kd.R_slice HO140.out; subst eo40) | (go_at_call 14; (with_reducible refine (tattingref1_Same.calls _ _ t134 _ _ y138 true _ ?side1 ?side2 ?side3 ?side4 A3.out).mono ?_); (case side1 => repeat (first | exact (Kd.R_reads' HO137.out).2.2 | (with_reducible refine Kd.C_alloc ?_ _) | (with_reducible refine Kd.C_drewN ?_ _) | (with_reducible refine Kd.C_drew ?_))); (case side2 => exact (Kd.R_reads' HO137.out).2.1); (case side3 => repeat (first | exact (Kd.R_reads' HO140.out).2.2 | (with_reducible refine Kd.C_alloc ?_ _) | (with_reducible refine Kd.C_drewN ?_ _) | (with_reducible refine Kd.C_drew ?_))); (case side4 => exact (Kd.R_reads' HO140.out).2.1); rintro e w' ⟨rfl, ⟨nd, rfl⟩⟩) | ((with_reducible refine gate_dst (N := 16) rfl ?_); (try (refine gate_guard (by rfl) ?_; dsimp only)); refine Kd.R_lit (Kd.int .u8) _ 5 ?hg (N := 16) ?hd (xs := ([1, 0, 1] : List Int)) (inner := [.int .u8 1, .int .u8 0, .int .u8 1]) (ok := fun _ => True) (okp := fun _ => True) ?hr ?hp (fun _ hk => hk) trivial (Below.refl _ _) (Nat.le_refl _) (by simp) ?_; (case hd => rfl); (case hg => rfl); (case hr => first | (go_simp; done) | (go_simp; rfl)); (case hp => exact (Reps.one (show Kd.M (Kd.int .u8) _ _ _ 1 [.int .u8 1] from rfl) (Reps.one (show Kd.M (Kd.int .u8) _ _ _ 0 [.int .u8 0] from rfl) (Reps.one (show Kd.M (Kd.int .u8) _ _ _ 1 [.int .u8 1] from rfl) (Reps.none _ _))))); intro v143 w41 ho42 hb hg_ hnew_; clear hg_ hnew_; (first | rw [← Ny142.out] at ho42 | (simp only [Int.reduceToNat] at ho42; rw [← Ny142.out] at ho42)); have n0_ := Aside0.mk (Kd.R_below (by (with_reducible repeat (first | apply Kd.R_alloc | apply Kd.R_drewN | apply Kd.R_drew)); exact HO133.out) hb); have n1_ := Aside0.mk (Kd.R_elder' (by (with_reducible repeat (first | apply Kd.R_alloc | apply Kd.R_drewN | apply Kd.R_drew)); exact HO137.out) (Kd.R_base ho42) hb); have n2_ := Aside0.mk (Kd.R_elder' (by (with_reducible repeat (first | apply Kd.R_alloc | apply Kd.R_drewN | apply Kd.R_drew)); exact HO140.out) (Kd.R_base ho42) hb); have n3_ := Aside0.mk (Kd.R_lower (Kd.R_new' (Kd.R_new' ho42 (Kd.R_lt (by (with_reducible repeat (first | apply Kd.R_alloc | apply Kd.R_drewN | apply Kd.R_drew)); exact HO137.out))) (Kd.R_lt (by (with_reducible repeat (first | apply Kd.R_alloc | apply Kd.R_drewN | apply Kd.R_drew)); exact HO140.out))) (below_size (by repeat (first | (with_reducible first | exact HB.out | apply below_alloc | apply pw_below_drewN | apply below_drew1) | exact HB.out)))); have n4_ := Aside0.mk (below_step (by repeat (first | (with_reducible first | exact HB.out | apply below_alloc | apply pw_below_drewN | apply below_drew1) | exact HB.out)) hb); clear HO133; clear HO137; clear HO140; clear HB; have HO133 := n0_; have HO137 := n1_; have HO140 := n2_; have HO144 := n3_; have HB := n4_; clear n0_ n1_ n2_ n3_ n4_; clear hb ho42; obtain ⟨Ao43, co43, eo43⟩ := Kd.R_slice HO144.out; subst eo43) | (go_at_call 13; (with_reducible refine (delta_Key.calls k _ _ y142 0 3 t145 _ ?side1 ?side2 A5.out).mono ?_); (case side1 => repeat (first | exact (Kd.R_reads' HO144.out).2.2 | (with_reducible refine Kd.C_alloc ?_ _) | (with_reducible refine Kd.C_drewN ?_ _) | (with_reducible refine Kd.C_drew ?_))); (case side2 => exact (Kd.R_reads' HO144.out).2.1); rintro e w' ⟨rfl, ⟨nd, rfl⟩⟩) | ((with_reducible refine gate_dst (N := 21) rfl ?_); (try (refine gate_guard (by rfl) ?_; dsimp only)); refine Kd.R_lit (Kd.int .u8) _ 5 ?hg (N := 21) ?hd (xs := ([1, 1] : List Int)) (inner := [.int .u8 1, .int .u8 1]) (ok := fun _ => True) (okp := fun _ => True) ?hr ?hp (fun _ hk => hk) trivial (Below.refl _ _) (Nat.le_refl _) (by simp) ?_; (case hd => rfl); (case hg => rfl); (case hr => first | (go_simp; done) | (go_simp; rfl)); (case hp => exact (Reps.one (show Kd.M (Kd.int .u8) _ _ _ 1 [.int .u8 1] from rfl) (Reps.one (show Kd.M (Kd.int .u8) _ _ _ 1 [.int .u8 1] from rfl) (Reps.none _ _)))); intro v147 w44 ho45 hb hg_ hnew_; clear hg_ hnew_; (first | rw [← Ny146.out] at ho45 | (simp only [Int.reduceToNat] at ho45; rw [← Ny146.out] at ho45)); have n0_ := Aside0.mk (Kd.R_below (by (with_reducible repeat (first | apply Kd.R_alloc | apply Kd.R_drewN | apply Kd.R_drew)); exact HO133.out) hb); have n1_ := Aside0.mk (Kd.R_elder' (by (with_reducible repeat (first | apply Kd.R_alloc | apply Kd.R_drewN | apply Kd.R_drew)); exact HO137.out) (Kd.R_base ho45) hb); have n2_ := Aside0.mk (Kd.R_elder' (by (with_reducible repeat (first | apply Kd.R_alloc | apply Kd.R_drewN | apply Kd.R_drew)); exact HO140.out) (Kd.R_base ho45) hb); have n3_ := Aside0.mk (Kd.R_elder' (by (with_reducible repeat (first | apply Kd.R_alloc | apply Kd.R_drewN | apply Kd.R_drew)); exact HO144.out) (Kd.R_base ho45) hb); have n4_ := Aside0.mk (Kd.R_lower (Kd.R_new' (Kd.R_new' (Kd.R_new' ho45 (Kd.R_lt (by (with_reducible repeat (first | apply Kd.R_alloc | apply Kd.R_drewN | apply Kd.R_drew)); exact HO137.out))) (Kd.R_lt (by (with_reducible repeat (first | apply Kd.R_alloc | apply Kd.R_drewN | apply Kd.R_drew)); exact HO140.out))) (Kd.R_lt (by (with_reducible repeat (first | apply Kd.R_alloc | apply Kd.R_drewN | apply Kd.R_drew)); exact HO144.out))) (below_size (by repeat (first | (with_reducible first | exact HB.out | apply below_alloc | apply pw_below_drewN | apply below_drew1) | exact HB.out)))); have n5_ := Aside0.mk (below_step (by repeat (first | (with_reducible first | exact HB.out | apply below_alloc | apply pw_below_drewN | apply below_drew1) | exact HB.out)) hb); clear HO133; clear HO137; clear HO140; clear HO144; clear HB; have HO133 := n0_; have HO137 := n1_; have HO140 := n2_; have HO144 := n3_; have HO148 := n4_; have HB := n5_; clear n0_ n1_ n2_ n3_ n4_ n5_; clear hb ho45; obtain ⟨Ao46, co46, eo46⟩ := Kd.R_slice HO148.out; subst eo46) | (go_at_call 13; (with_reducible refine (delta_Key.calls k _ _ y146 1 3 t149 _ ?side1 ?side2 A7.out).mono ?_); (case side1 => repeat (first | exact (Kd.R_reads' HO148.out).2.2 | (with_reducible refine Kd.C_alloc ?_ _) | (with_reducible refine Kd.C_drewN ?_ _) | (with_reducible refine Kd.C_drew ?_))); (case side2 => exact (Kd.R_reads' HO148.out).2.1); rintro e w' ⟨rfl, ⟨nd, rfl⟩⟩) | (go_at_call 12; (refine (delta_Row.calls k 2 _ _ ([] : List Int) t150 _ ?side1 ?side2 A9.out).mono ?_); (case side1 => exact Kd.C_nil _ _); (case side2 => exact Nat.le_refl _); rintro e w47 ⟨v151, rfl, ho0, hb⟩; have n0_ := Aside0.mk (Kd.R_elder' (by (with_reducible repeat (first | apply Kd.R_alloc | apply Kd.R_drewN | apply Kd.R_drew)); exact HO133.out) (Kd.R_base ho0) hb); have n1_ := Aside0.mk (Kd.R_below (by (with_reducible repeat (first | apply Kd.R_alloc | apply Kd.R_drewN | apply Kd.R_drew)); exact HO137.out) hb); have n2_ := Aside0.mk (Kd.R_below (by (with_reducible repeat (first | apply Kd.R_alloc | apply Kd.R_drewN | apply Kd.R_drew)); exact HO140.out) hb); have n3_ := Aside0.mk (Kd.R_below (by (with_reducible repeat (first | apply Kd.R_alloc | apply Kd.R_drewN | apply Kd.R_drew)); exact HO144.out) hb); have n4_ := Aside0.mk (Kd.R_below (by (with_reducible repeat (first | apply Kd.R_alloc | apply Kd.R_drewN | apply Kd.R_drew)); exact HO148.out) hb); have n5_ := Aside0.mk (Kd.R_lower (Kd.R_new' ho0 (Kd.R_lt (by (with_reducible repeat (first | apply Kd.R_alloc | apply Kd.R_drewN | apply Kd.R_drew)); exact HO133.out))) (below_size (by repeat (first | (with_reducible first | exact HB.out | apply below_alloc | apply pw_below_drewN | apply below_drew1) | exact HB.out)))); have n6_ := Aside0.mk (below_step (by repeat (first | (with_reducible first | exact HB.out | apply below_alloc | apply pw_below_drewN | apply below_drew1) | exact HB.out)) hb); clear HO133; clear HO137; clear HO140; clear HO144; clear HO148; clear HB; have HO133 := n0_; have HO137 := n1_; have HO140 := n2_; have HO144 := n3_; have HO148 := n4_; have HO152 := n5_; have HB := n6_; clear n0_ n1_ n2_ n3_ n4_ n5_ n6_; (try clear hb); (try clear hb2); (try clear hk); (try clear hi); (try clear ho0); obtain ⟨Ao48, co48, eo48⟩ := Kd.R_slice HO152.out; subst eo48))
            go_ret
            exact ⟨by first | rfl | (simp [errW_none, errW_some] <;> rfl) | (simp [*, errW_none, errW_some] <;> rfl), by repeat (first | (with_reducible first | exact HB.out | apply below_alloc | apply pw_below_drewN | apply below_drew1) | exact HB.out)⟩
        · rw [if_neg c8] at H
          have c8b0 : (t149 == 1) = false := beq_eq_false_iff_ne.mpr c8
          have c8b1 : (t149 != 1) = true := bne_iff_ne.mpr c8
          obtain rfl := Option.some.inj H
          go_enter Try.func9, Try.ntmps9
          go_wp2_with (first | ((with_reducible refine gate_dst (N := 4) rfl ?_); (try (refine gate_guard (by rfl) ?_; dsimp only)); refine Kd.R_lit (Kd.int .i64) _ 3 ?hg (N := 4) ?hd (xs := ([3, 3, 4] : List Int)) (inner := [.int .i64 3, .int .i64 3, .int .i64 4]) (ok := fun _ => True) (okp := fun _ => True) ?hr ?hp (fun _ hk => hk) trivial (Below.refl _ _) (Nat.le_refl _) (by simp) ?_; (case hd => rfl); (case hg => rfl); (case hr => first | (go_simp; done) | (go_simp; rfl)); (case hp => exact (Reps.one (show Kd.M (Kd.int .i64) _ _ _ 3 [.int .i64 3] from rfl) (Reps.one (show Kd.M (Kd.int .i64) _ _ _ 3 [.int .i64 3] from rfl) (Reps.one (show Kd.M (Kd.int .i64) _ _ _ 4 [.int .i64 4] from rfl) (Reps.none _ _))))); intro v132 w49 ho50 hb hg_ hnew_; clear hg_ hnew_; (first | rw [← Ny131.out] at ho50 | (simp only [Int.reduceToNat] at ho50; rw [← Ny131.out] at ho50)); have n0_ := Aside0.mk (Kd.R_lower ho50 (below_size (by repeat (first | (with_reducible first | exact HB.out | apply below_alloc | apply pw_below_drewN | apply below_drew1) | exact HB.out)))); have n1_ := Aside0.mk (below_step (by repeat (first | (with_reducible first | exact HB.out | apply below_alloc | apply pw_below_drewN | apply below_drew1) | exact HB.out)) hb); clear HB; have HO133 := n0_; have HB := n1_; clear n0_ n1_; clear hb ho50; obtain ⟨Ao51, co51, eo51⟩ := Kd.R_slice HO133.out; subst eo51) | ((with_reducible refine gate_callee (f := 10) rfl ?_); refine goesL_ (some 5) rfl rfl Try.func10 (by kernel_rfl) rfl #[.slice Ao51 y131.length co51] rfl (by (try simp only [List.map_toArray, List.map_cons, List.map_nil]); first | done | rfl | (simp only [List.length_drop, List.length_take]; rfl)) ?_; (with_reducible refine (delta_Of.calls k _ _ y131 t134 t135 _ ?side1 ?side2 A1.out).mono ?_); (case side1 => repeat (first | exact (Kd.R_reads' HO133.out).2.2 | (with_reducible refine Kd.C_alloc ?_ _) | (with_reducible refine Kd.C_drewN ?_ _) | (with_reducible refine Kd.C_drew ?_))); (case side2 => exact (Kd.R_reads' HO133.out).2.1); rintro e w52 ⟨v136, rfl, ho0, hb⟩; refine ⟨_, rfl, ?_⟩; have n0_ := Aside0.mk (Kd.R_below (by (with_reducible repeat (first | apply Kd.R_alloc | apply Kd.R_drewN | apply Kd.R_drew)); exact HO133.out) hb); have n1_ := Aside0.mk (Kd.R_lower ho0 (below_size (by repeat (first | (with_reducible first | exact HB.out | apply below_alloc | apply pw_below_drewN | apply below_drew1) | exact HB.out)))); have n2_ := Aside0.mk (below_step (by repeat (first | (with_reducible first | exact HB.out | apply below_alloc | apply pw_below_drewN | apply below_drew1) | exact HB.out)) hb); clear HO133; clear HB; have HO133 := n0_; have HO137 := n1_; have HB := n2_; clear n0_ n1_ n2_; (try clear hb); (try clear hb2); (try clear hk); (try clear hi); (try clear ho0)) | ((with_reducible refine gate_dst (N := 12) rfl ?_); (try (refine gate_guard (by rfl) ?_; dsimp only)); refine Kd.R_lit (Kd.int .u8) _ 5 ?hg (N := 12) ?hd (xs := ([0, 1] : List Int)) (inner := [.int .u8 0, .int .u8 1]) (ok := fun _ => True) (okp := fun _ => True) ?hr ?hp (fun _ hk => hk) trivial (Below.refl _ _) (Nat.le_refl _) (by simp) ?_; (case hd => rfl); (case hg => rfl); (case hr => first | (go_simp; done) | (go_simp; rfl)); (case hp => exact (Reps.one (show Kd.M (Kd.int .u8) _ _ _ 0 [.int .u8 0] from rfl) (Reps.one (show Kd.M (Kd.int .u8) _ _ _ 1 [.int .u8 1] from rfl) (Reps.none _ _)))); intro v139 w53 ho54 hb hg_ hnew_; clear hg_ hnew_; (first | rw [← Ny138.out] at ho54 | (simp only [Int.reduceToNat] at ho54; rw [← Ny138.out] at ho54)); have n0_ := Aside0.mk (Kd.R_below (by (with_reducible repeat (first | apply Kd.R_alloc | apply Kd.R_drewN | apply Kd.R_drew)); exact HO133.out) hb); have n1_ := Aside0.mk (Kd.R_elder' (by (with_reducible repeat (first | apply Kd.R_alloc | apply Kd.R_drewN | apply Kd.R_drew)); exact HO137.out) (Kd.R_base ho54) hb); have n2_ := Aside0.mk (Kd.R_lower (Kd.R_new' ho54 (Kd.R_lt (by (with_reducible repeat (first | apply Kd.R_alloc | apply Kd.R_drewN | apply Kd.R_drew)); exact HO137.out))) (below_size (by repeat (first | (with_reducible first | exact HB.out | apply below_alloc | apply pw_below_drewN | apply below_drew1) | exact HB.out)))); have n3_ := Aside0.mk (below_step (by repeat (first | (with_reducible first | exact HB.out | apply below_alloc | apply pw_below_drewN | apply below_drew1) | exact HB.out)) hb); clear HO133; clear HO137; clear HB; have HO133 := n0_; have HO137 := n1_; have HO140 := n2_; have HB := n3_; clear n0_ n1_ n2_ n3_; clear hb ho54; obtain ⟨Ao55, co55, eo55⟩ := Kd.R_slice HO137.out; subst eo55; obtain ⟨Ao56, co56, eo56⟩ := Kd.R_slice HO140.out; subst eo56) | (go_at_call 14; (with_reducible refine (tattingref1_Same.calls _ _ t134 _ _ y138 true _ ?side1 ?side2 ?side3 ?side4 A3.out).mono ?_); (case side1 => repeat (first | exact (Kd.R_reads' HO137.out).2.2 | (with_reducible refine Kd.C_alloc ?_ _) | (with_reducible refine Kd.C_drewN ?_ _) | (with_reducible refine Kd.C_drew ?_))); (case side2 => exact (Kd.R_reads' HO137.out).2.1); (case side3 => repeat (first | exact (Kd.R_reads' HO140.out).2.2 | (with_reducible refine Kd.C_alloc ?_ _) | (with_reducible refine Kd.C_drewN ?_ _) | (with_reducible refine Kd.C_drew ?_))); (case side4 => exact (Kd.R_reads' HO140.out).2.1); rintro e w' ⟨rfl, ⟨nd, rfl⟩⟩) | ((with_reducible refine gate_dst (N := 16) rfl ?_); (try (refine gate_guard (by rfl) ?_; dsimp only)); refine Kd.R_lit (Kd.int .u8) _ 5 ?hg (N := 16) ?hd (xs := ([1, 0, 1] : List Int)) (inner := [.int .u8 1, .int .u8 0, .int .u8 1]) (ok := fun _ => True) (okp := fun _ => True) ?hr ?hp (fun _ hk => hk) trivial (Below.refl _ _) (Nat.le_refl _) (by simp) ?_; (case hd => rfl); (case hg => rfl); (case hr => first | (go_simp; done) | (go_simp; rfl)); (case hp => exact (Reps.one (show Kd.M (Kd.int .u8) _ _ _ 1 [.int .u8 1] from rfl) (Reps.one (show Kd.M (Kd.int .u8) _ _ _ 0 [.int .u8 0] from rfl) (Reps.one (show Kd.M (Kd.int .u8) _ _ _ 1 [.int .u8 1] from rfl) (Reps.none _ _))))); intro v143 w57 ho58 hb hg_ hnew_; clear hg_ hnew_; (first | rw [← Ny142.out] at ho58 | (simp only [Int.reduceToNat] at ho58; rw [← Ny142.out] at ho58)); have n0_ := Aside0.mk (Kd.R_below (by (with_reducible repeat (first | apply Kd.R_alloc | apply Kd.R_drewN | apply Kd.R_drew)); exact HO133.out) hb); have n1_ := Aside0.mk (Kd.R_elder' (by (with_reducible repeat (first | apply Kd.R_alloc | apply Kd.R_drewN | apply Kd.R_drew)); exact HO137.out) (Kd.R_base ho58) hb); have n2_ := Aside0.mk (Kd.R_elder' (by (with_reducible repeat (first | apply Kd.R_alloc | apply Kd.R_drewN | apply Kd.R_drew)); exact HO140.out) (Kd.R_base ho58) hb); have n3_ := Aside0.mk (Kd.R_lower (Kd.R_new' (Kd.R_new' ho58 (Kd.R_lt (by (with_reducible repeat (first | apply Kd.R_alloc | apply Kd.R_drewN | apply Kd.R_drew)); exact HO137.out))) (Kd.R_lt (by (with_reducible repeat (first | apply Kd.R_alloc | apply Kd.R_drewN | apply Kd.R_drew)); exact HO140.out))) (below_size (by repeat (first | (with_reducible first | exact HB.out | apply below_alloc | apply pw_below_drewN | apply below_drew1) | exact HB.out)))); have n4_ := Aside0.mk (below_step (by repeat (first | (with_reducible first | exact HB.out | apply below_alloc | apply pw_below_drewN | apply below_drew1) | exact HB.out)) hb); clear HO133; clear HO137; clear HO140; clear HB; have HO133 := n0_; have HO137 := n1_; have HO140 := n2_; have HO144 := n3_; have HB := n4_; clear n0_ n1_ n2_ n3_ n4_; clear hb ho58; obtain ⟨Ao59, co59, eo59⟩ := Kd.R_slice HO144.out; subst eo59) | (go_at_call 13; (with_reducible refine (delta_Key.calls k _ _ y142 0 3 t145 _ ?side1 ?side2 A5.out).mono ?_); (case side1 => repeat (first | exact (Kd.R_reads' HO144.out).2.2 | (with_reducible refine Kd.C_alloc ?_ _) | (with_reducible refine Kd.C_drewN ?_ _) | (with_reducible refine Kd.C_drew ?_))); (case side2 => exact (Kd.R_reads' HO144.out).2.1); rintro e w' ⟨rfl, ⟨nd, rfl⟩⟩) | ((with_reducible refine gate_dst (N := 21) rfl ?_); (try (refine gate_guard (by rfl) ?_; dsimp only)); refine Kd.R_lit (Kd.int .u8) _ 5 ?hg (N := 21) ?hd (xs := ([1, 1] : List Int)) (inner := [.int .u8 1, .int .u8 1]) (ok := fun _ => True) (okp := fun _ => True) ?hr ?hp (fun _ hk => hk) trivial (Below.refl _ _) (Nat.le_refl _) (by simp) ?_; (case hd => rfl); (case hg => rfl); (case hr => first | (go_simp; done) | (go_simp; rfl)); (case hp => exact (Reps.one (show Kd.M (Kd.int .u8) _ _ _ 1 [.int .u8 1] from rfl) (Reps.one (show Kd.M (Kd.int .u8) _ _ _ 1 [.int .u8 1] from rfl) (Reps.none _ _)))); intro v147 w60 ho61 hb hg_ hnew_; clear hg_ hnew_; (first | rw [← Ny146.out] at ho61 | (simp only [Int.reduceToNat] at ho61; rw [← Ny146.out] at ho61)); have n0_ := Aside0.mk (Kd.R_below (by (with_reducible repeat (first | apply Kd.R_alloc | apply Kd.R_drewN | apply Kd.R_drew)); exact HO133.out) hb); have n1_ := Aside0.mk (Kd.R_elder' (by (with_reducible repeat (first | apply Kd.R_alloc | apply Kd.R_drewN | apply Kd.R_drew)); exact HO137.out) (Kd.R_base ho61) hb); have n2_ := Aside0.mk (Kd.R_elder' (by (with_reducible repeat (first | apply Kd.R_alloc | apply Kd.R_drewN | apply Kd.R_drew)); exact HO140.out) (Kd.R_base ho61) hb); have n3_ := Aside0.mk (Kd.R_elder' (by (with_reducible repeat (first | apply Kd.R_alloc | apply Kd.R_drewN | apply Kd.R_drew)); exact HO144.out) (Kd.R_base ho61) hb); have n4_ := Aside0.mk (Kd.R_lower (Kd.R_new' (Kd.R_new' (Kd.R_new' ho61 (Kd.R_lt (by (with_reducible repeat (first | apply Kd.R_alloc | apply Kd.R_drewN | apply Kd.R_drew)); exact HO137.out))) (Kd.R_lt (by (with_reducible repeat (first | apply Kd.R_alloc | apply Kd.R_drewN | apply Kd.R_drew)); exact HO140.out))) (Kd.R_lt (by (with_reducible repeat (first | apply Kd.R_alloc | apply Kd.R_drewN | apply Kd.R_drew)); exact HO144.out))) (below_size (by repeat (first | (with_reducible first | exact HB.out | apply below_alloc | apply pw_below_drewN | apply below_drew1) | exact HB.out)))); have n5_ := Aside0.mk (below_step (by repeat (first | (with_reducible first | exact HB.out | apply below_alloc | apply pw_below_drewN | apply below_drew1) | exact HB.out)) hb); clear HO133; clear HO137; clear HO140; clear HO144; clear HB; have HO133 := n0_; have HO137 := n1_; have HO140 := n2_; have HO144 := n3_; have HO148 := n4_; have HB := n5_; clear n0_ n1_ n2_ n3_ n4_ n5_; clear hb ho61; obtain ⟨Ao62, co62, eo62⟩ := Kd.R_slice HO148.out; subst eo62) | (go_at_call 13; (with_reducible refine (delta_Key.calls k _ _ y146 1 3 t149 _ ?side1 ?side2 A7.out).mono ?_); (case side1 => repeat (first | exact (Kd.R_reads' HO148.out).2.2 | (with_reducible refine Kd.C_alloc ?_ _) | (with_reducible refine Kd.C_drewN ?_ _) | (with_reducible refine Kd.C_drew ?_))); (case side2 => exact (Kd.R_reads' HO148.out).2.1); rintro e w' ⟨rfl, ⟨nd, rfl⟩⟩))
          go_ret
          exact ⟨by first | rfl | (simp [errW_none, errW_some] <;> rfl) | (simp [*, errW_none, errW_some] <;> rfl), by repeat (first | (with_reducible first | exact HB.out | apply below_alloc | apply pw_below_drewN | apply below_drew1) | exact HB.out)⟩
      · rw [if_neg c6] at H
        have c6b0 : (t145 == 5) = false := beq_eq_false_iff_ne.mpr c6
        have c6b1 : (t145 != 5) = true := bne_iff_ne.mpr c6
        obtain rfl := Option.some.inj H
        go_enter Try.func9, Try.ntmps9
        go_wp2_with (first | ((with_reducible refine gate_dst (N := 4) rfl ?_); (try (refine gate_guard (by rfl) ?_; dsimp only)); refine Kd.R_lit (Kd.int .i64) _ 3 ?hg (N := 4) ?hd (xs := ([3, 3, 4] : List Int)) (inner := [.int .i64 3, .int .i64 3, .int .i64 4]) (ok := fun _ => True) (okp := fun _ => True) ?hr ?hp (fun _ hk => hk) trivial (Below.refl _ _) (Nat.le_refl _) (by simp) ?_; (case hd => rfl); (case hg => rfl); (case hr => first | (go_simp; done) | (go_simp; rfl)); (case hp => exact (Reps.one (show Kd.M (Kd.int .i64) _ _ _ 3 [.int .i64 3] from rfl) (Reps.one (show Kd.M (Kd.int .i64) _ _ _ 3 [.int .i64 3] from rfl) (Reps.one (show Kd.M (Kd.int .i64) _ _ _ 4 [.int .i64 4] from rfl) (Reps.none _ _))))); intro v132 w63 ho64 hb hg_ hnew_; clear hg_ hnew_; (first | rw [← Ny131.out] at ho64 | (simp only [Int.reduceToNat] at ho64; rw [← Ny131.out] at ho64)); have n0_ := Aside0.mk (Kd.R_lower ho64 (below_size (by repeat (first | (with_reducible first | exact HB.out | apply below_alloc | apply pw_below_drewN | apply below_drew1) | exact HB.out)))); have n1_ := Aside0.mk (below_step (by repeat (first | (with_reducible first | exact HB.out | apply below_alloc | apply pw_below_drewN | apply below_drew1) | exact HB.out)) hb); clear HB; have HO133 := n0_; have HB := n1_; clear n0_ n1_; clear hb ho64; obtain ⟨Ao65, co65, eo65⟩ := Kd.R_slice HO133.out; subst eo65) | ((with_reducible refine gate_callee (f := 10) rfl ?_); refine goesL_ (some 5) rfl rfl Try.func10 (by kernel_rfl) rfl #[.slice Ao65 y131.length co65] rfl (by (try simp only [List.map_toArray, List.map_cons, List.map_nil]); first | done | rfl | (simp only [List.length_drop, List.length_take]; rfl)) ?_; (with_reducible refine (delta_Of.calls k _ _ y131 t134 t135 _ ?side1 ?side2 A1.out).mono ?_); (case side1 => repeat (first | exact (Kd.R_reads' HO133.out).2.2 | (with_reducible refine Kd.C_alloc ?_ _) | (with_reducible refine Kd.C_drewN ?_ _) | (with_reducible refine Kd.C_drew ?_))); (case side2 => exact (Kd.R_reads' HO133.out).2.1); rintro e w66 ⟨v136, rfl, ho0, hb⟩; refine ⟨_, rfl, ?_⟩; have n0_ := Aside0.mk (Kd.R_below (by (with_reducible repeat (first | apply Kd.R_alloc | apply Kd.R_drewN | apply Kd.R_drew)); exact HO133.out) hb); have n1_ := Aside0.mk (Kd.R_lower ho0 (below_size (by repeat (first | (with_reducible first | exact HB.out | apply below_alloc | apply pw_below_drewN | apply below_drew1) | exact HB.out)))); have n2_ := Aside0.mk (below_step (by repeat (first | (with_reducible first | exact HB.out | apply below_alloc | apply pw_below_drewN | apply below_drew1) | exact HB.out)) hb); clear HO133; clear HB; have HO133 := n0_; have HO137 := n1_; have HB := n2_; clear n0_ n1_ n2_; (try clear hb); (try clear hb2); (try clear hk); (try clear hi); (try clear ho0)) | ((with_reducible refine gate_dst (N := 12) rfl ?_); (try (refine gate_guard (by rfl) ?_; dsimp only)); refine Kd.R_lit (Kd.int .u8) _ 5 ?hg (N := 12) ?hd (xs := ([0, 1] : List Int)) (inner := [.int .u8 0, .int .u8 1]) (ok := fun _ => True) (okp := fun _ => True) ?hr ?hp (fun _ hk => hk) trivial (Below.refl _ _) (Nat.le_refl _) (by simp) ?_; (case hd => rfl); (case hg => rfl); (case hr => first | (go_simp; done) | (go_simp; rfl)); (case hp => exact (Reps.one (show Kd.M (Kd.int .u8) _ _ _ 0 [.int .u8 0] from rfl) (Reps.one (show Kd.M (Kd.int .u8) _ _ _ 1 [.int .u8 1] from rfl) (Reps.none _ _)))); intro v139 w67 ho68 hb hg_ hnew_; clear hg_ hnew_; (first | rw [← Ny138.out] at ho68 | (simp only [Int.reduceToNat] at ho68; rw [← Ny138.out] at ho68)); have n0_ := Aside0.mk (Kd.R_below (by (with_reducible repeat (first | apply Kd.R_alloc | apply Kd.R_drewN | apply Kd.R_drew)); exact HO133.out) hb); have n1_ := Aside0.mk (Kd.R_elder' (by (with_reducible repeat (first | apply Kd.R_alloc | apply Kd.R_drewN | apply Kd.R_drew)); exact HO137.out) (Kd.R_base ho68) hb); have n2_ := Aside0.mk (Kd.R_lower (Kd.R_new' ho68 (Kd.R_lt (by (with_reducible repeat (first | apply Kd.R_alloc | apply Kd.R_drewN | apply Kd.R_drew)); exact HO137.out))) (below_size (by repeat (first | (with_reducible first | exact HB.out | apply below_alloc | apply pw_below_drewN | apply below_drew1) | exact HB.out)))); have n3_ := Aside0.mk (below_step (by repeat (first | (with_reducible first | exact HB.out | apply below_alloc | apply pw_below_drewN | apply below_drew1) | exact HB.out)) hb); clear HO133; clear HO137; clear HB; have HO133 := n0_; have HO137 := n1_; have HO140 := n2_; have HB := n3_; clear n0_ n1_ n2_ n3_; clear hb ho68; obtain ⟨Ao69, co69, eo69⟩ := Kd.R_slice HO137.out; subst eo69; obtain ⟨Ao70, co70, eo70⟩ := Kd.R_slice HO140.out; subst eo70) | (go_at_call 14; (with_reducible refine (tattingref1_Same.calls _ _ t134 _ _ y138 true _ ?side1 ?side2 ?side3 ?side4 A3.out).mono ?_); (case side1 => repeat (first | exact (Kd.R_reads' HO137.out).2.2 | (with_reducible refine Kd.C_alloc ?_ _) | (with_reducible refine Kd.C_drewN ?_ _) | (with_reducible refine Kd.C_drew ?_))); (case side2 => exact (Kd.R_reads' HO137.out).2.1); (case side3 => repeat (first | exact (Kd.R_reads' HO140.out).2.2 | (with_reducible refine Kd.C_alloc ?_ _) | (with_reducible refine Kd.C_drewN ?_ _) | (with_reducible refine Kd.C_drew ?_))); (case side4 => exact (Kd.R_reads' HO140.out).2.1); rintro e w' ⟨rfl, ⟨nd, rfl⟩⟩) | ((with_reducible refine gate_dst (N := 16) rfl ?_); (try (refine gate_guard (by rfl) ?_; dsimp only)); refine Kd.R_lit (Kd.int .u8) _ 5 ?hg (N := 16) ?hd (xs := ([1, 0, 1] : List Int)) (inner := [.int .u8 1, .int .u8 0, .int .u8 1]) (ok := fun _ => True) (okp := fun _ => True) ?hr ?hp (fun _ hk => hk) trivial (Below.refl _ _) (Nat.le_refl _) (by simp) ?_; (case hd => rfl); (case hg => rfl); (case hr => first | (go_simp; done) | (go_simp; rfl)); (case hp => exact (Reps.one (show Kd.M (Kd.int .u8) _ _ _ 1 [.int .u8 1] from rfl) (Reps.one (show Kd.M (Kd.int .u8) _ _ _ 0 [.int .u8 0] from rfl) (Reps.one (show Kd.M (Kd.int .u8) _ _ _ 1 [.int .u8 1] from rfl) (Reps.none _ _))))); intro v143 w71 ho72 hb hg_ hnew_; clear hg_ hnew_; (first | rw [← Ny142.out] at ho72 | (simp only [Int.reduceToNat] at ho72; rw [← Ny142.out] at ho72)); have n0_ := Aside0.mk (Kd.R_below (by (with_reducible repeat (first | apply Kd.R_alloc | apply Kd.R_drewN | apply Kd.R_drew)); exact HO133.out) hb); have n1_ := Aside0.mk (Kd.R_elder' (by (with_reducible repeat (first | apply Kd.R_alloc | apply Kd.R_drewN | apply Kd.R_drew)); exact HO137.out) (Kd.R_base ho72) hb); have n2_ := Aside0.mk (Kd.R_elder' (by (with_reducible repeat (first | apply Kd.R_alloc | apply Kd.R_drewN | apply Kd.R_drew)); exact HO140.out) (Kd.R_base ho72) hb); have n3_ := Aside0.mk (Kd.R_lower (Kd.R_new' (Kd.R_new' ho72 (Kd.R_lt (by (with_reducible repeat (first | apply Kd.R_alloc | apply Kd.R_drewN | apply Kd.R_drew)); exact HO137.out))) (Kd.R_lt (by (with_reducible repeat (first | apply Kd.R_alloc | apply Kd.R_drewN | apply Kd.R_drew)); exact HO140.out))) (below_size (by repeat (first | (with_reducible first | exact HB.out | apply below_alloc | apply pw_below_drewN | apply below_drew1) | exact HB.out)))); have n4_ := Aside0.mk (below_step (by repeat (first | (with_reducible first | exact HB.out | apply below_alloc | apply pw_below_drewN | apply below_drew1) | exact HB.out)) hb); clear HO133; clear HO137; clear HO140; clear HB; have HO133 := n0_; have HO137 := n1_; have HO140 := n2_; have HO144 := n3_; have HB := n4_; clear n0_ n1_ n2_ n3_ n4_; clear hb ho72; obtain ⟨Ao73, co73, eo73⟩ := Kd.R_slice HO144.out; subst eo73) | (go_at_call 13; (with_reducible refine (delta_Key.calls k _ _ y142 0 3 t145 _ ?side1 ?side2 A5.out).mono ?_); (case side1 => repeat (first | exact (Kd.R_reads' HO144.out).2.2 | (with_reducible refine Kd.C_alloc ?_ _) | (with_reducible refine Kd.C_drewN ?_ _) | (with_reducible refine Kd.C_drew ?_))); (case side2 => exact (Kd.R_reads' HO144.out).2.1); rintro e w' ⟨rfl, ⟨nd, rfl⟩⟩))
        go_ret
        exact ⟨by first | rfl | (simp [errW_none, errW_some] <;> rfl) | (simp [*, errW_none, errW_some] <;> rfl), by repeat (first | (with_reducible first | exact HB.out | apply below_alloc | apply pw_below_drewN | apply below_drew1) | exact HB.out)⟩
    · replace c4 := Bool.eq_false_iff.mpr c4
      subst c4
      have H1 : (some false) = some r := by rw [if_neg (show ¬ (false = true) by decide)] at H; exact H
      clear H
      have H := H1
      clear H1
      obtain rfl := Option.some.inj H
      go_enter Try.func9, Try.ntmps9
      go_wp2_with (first | ((with_reducible refine gate_dst (N := 4) rfl ?_); (try (refine gate_guard (by rfl) ?_; dsimp only)); refine Kd.R_lit (Kd.int .i64) _ 3 ?hg (N := 4) ?hd (xs := ([3, 3, 4] : List Int)) (inner := [.int .i64 3, .int .i64 3, .int .i64 4]) (ok := fun _ => True) (okp := fun _ => True) ?hr ?hp (fun _ hk => hk) trivial (Below.refl _ _) (Nat.le_refl _) (by simp) ?_; (case hd => rfl); (case hg => rfl); (case hr => first | (go_simp; done) | (go_simp; rfl)); (case hp => exact (Reps.one (show Kd.M (Kd.int .i64) _ _ _ 3 [.int .i64 3] from rfl) (Reps.one (show Kd.M (Kd.int .i64) _ _ _ 3 [.int .i64 3] from rfl) (Reps.one (show Kd.M (Kd.int .i64) _ _ _ 4 [.int .i64 4] from rfl) (Reps.none _ _))))); intro v132 w74 ho75 hb hg_ hnew_; clear hg_ hnew_; (first | rw [← Ny131.out] at ho75 | (simp only [Int.reduceToNat] at ho75; rw [← Ny131.out] at ho75)); have n0_ := Aside0.mk (Kd.R_lower ho75 (below_size (by repeat (first | (with_reducible first | exact HB.out | apply below_alloc | apply pw_below_drewN | apply below_drew1) | exact HB.out)))); have n1_ := Aside0.mk (below_step (by repeat (first | (with_reducible first | exact HB.out | apply below_alloc | apply pw_below_drewN | apply below_drew1) | exact HB.out)) hb); clear HB; have HO133 := n0_; have HB := n1_; clear n0_ n1_; clear hb ho75; obtain ⟨Ao76, co76, eo76⟩ := Kd.R_slice HO133.out; subst eo76) | ((with_reducible refine gate_callee (f := 10) rfl ?_); refine goesL_ (some 5) rfl rfl Try.func10 (by kernel_rfl) rfl #[.slice Ao76 y131.length co76] rfl (by (try simp only [List.map_toArray, List.map_cons, List.map_nil]); first | done | rfl | (simp only [List.length_drop, List.length_take]; rfl)) ?_; (with_reducible refine (delta_Of.calls k _ _ y131 t134 t135 _ ?side1 ?side2 A1.out).mono ?_); (case side1 => repeat (first | exact (Kd.R_reads' HO133.out).2.2 | (with_reducible refine Kd.C_alloc ?_ _) | (with_reducible refine Kd.C_drewN ?_ _) | (with_reducible refine Kd.C_drew ?_))); (case side2 => exact (Kd.R_reads' HO133.out).2.1); rintro e w77 ⟨v136, rfl, ho0, hb⟩; refine ⟨_, rfl, ?_⟩; have n0_ := Aside0.mk (Kd.R_below (by (with_reducible repeat (first | apply Kd.R_alloc | apply Kd.R_drewN | apply Kd.R_drew)); exact HO133.out) hb); have n1_ := Aside0.mk (Kd.R_lower ho0 (below_size (by repeat (first | (with_reducible first | exact HB.out | apply below_alloc | apply pw_below_drewN | apply below_drew1) | exact HB.out)))); have n2_ := Aside0.mk (below_step (by repeat (first | (with_reducible first | exact HB.out | apply below_alloc | apply pw_below_drewN | apply below_drew1) | exact HB.out)) hb); clear HO133; clear HB; have HO133 := n0_; have HO137 := n1_; have HB := n2_; clear n0_ n1_ n2_; (try clear hb); (try clear hb2); (try clear hk); (try clear hi); (try clear ho0)) | ((with_reducible refine gate_dst (N := 12) rfl ?_); (try (refine gate_guard (by rfl) ?_; dsimp only)); refine Kd.R_lit (Kd.int .u8) _ 5 ?hg (N := 12) ?hd (xs := ([0, 1] : List Int)) (inner := [.int .u8 0, .int .u8 1]) (ok := fun _ => True) (okp := fun _ => True) ?hr ?hp (fun _ hk => hk) trivial (Below.refl _ _) (Nat.le_refl _) (by simp) ?_; (case hd => rfl); (case hg => rfl); (case hr => first | (go_simp; done) | (go_simp; rfl)); (case hp => exact (Reps.one (show Kd.M (Kd.int .u8) _ _ _ 0 [.int .u8 0] from rfl) (Reps.one (show Kd.M (Kd.int .u8) _ _ _ 1 [.int .u8 1] from rfl) (Reps.none _ _)))); intro v139 w78 ho79 hb hg_ hnew_; clear hg_ hnew_; (first | rw [← Ny138.out] at ho79 | (simp only [Int.reduceToNat] at ho79; rw [← Ny138.out] at ho79)); have n0_ := Aside0.mk (Kd.R_below (by (with_reducible repeat (first | apply Kd.R_alloc | apply Kd.R_drewN | apply Kd.R_drew)); exact HO133.out) hb); have n1_ := Aside0.mk (Kd.R_elder' (by (with_reducible repeat (first | apply Kd.R_alloc | apply Kd.R_drewN | apply Kd.R_drew)); exact HO137.out) (Kd.R_base ho79) hb); have n2_ := Aside0.mk (Kd.R_lower (Kd.R_new' ho79 (Kd.R_lt (by (with_reducible repeat (first | apply Kd.R_alloc | apply Kd.R_drewN | apply Kd.R_drew)); exact HO137.out))) (below_size (by repeat (first | (with_reducible first | exact HB.out | apply below_alloc | apply pw_below_drewN | apply below_drew1) | exact HB.out)))); have n3_ := Aside0.mk (below_step (by repeat (first | (with_reducible first | exact HB.out | apply below_alloc | apply pw_below_drewN | apply below_drew1) | exact HB.out)) hb); clear HO133; clear HO137; clear HB; have HO133 := n0_; have HO137 := n1_; have HO140 := n2_; have HB := n3_; clear n0_ n1_ n2_ n3_; clear hb ho79; obtain ⟨Ao80, co80, eo80⟩ := Kd.R_slice HO137.out; subst eo80; obtain ⟨Ao81, co81, eo81⟩ := Kd.R_slice HO140.out; subst eo81) | (go_at_call 14; (with_reducible refine (tattingref1_Same.calls _ _ t134 _ _ y138 false _ ?side1 ?side2 ?side3 ?side4 A3.out).mono ?_); (case side1 => repeat (first | exact (Kd.R_reads' HO137.out).2.2 | (with_reducible refine Kd.C_alloc ?_ _) | (with_reducible refine Kd.C_drewN ?_ _) | (with_reducible refine Kd.C_drew ?_))); (case side2 => exact (Kd.R_reads' HO137.out).2.1); (case side3 => repeat (first | exact (Kd.R_reads' HO140.out).2.2 | (with_reducible refine Kd.C_alloc ?_ _) | (with_reducible refine Kd.C_drewN ?_ _) | (with_reducible refine Kd.C_drew ?_))); (case side4 => exact (Kd.R_reads' HO140.out).2.1); rintro e w' ⟨rfl, ⟨nd, rfl⟩⟩))
      go_ret
      exact ⟨by first | rfl | (simp [errW_none, errW_some] <;> rfl) | (simp [*, errW_none, errW_some] <;> rfl), by repeat (first | (with_reducible first | exact HB.out | apply below_alloc | apply pw_below_drewN | apply below_drew1) | exact HB.out)⟩
  · rw [if_neg c2] at H
    have c2b0 : (t135 == 0) = false := beq_eq_false_iff_ne.mpr c2
    have c2b1 : (t135 != 0) = true := bne_iff_ne.mpr c2
    obtain rfl := Option.some.inj H
    go_enter Try.func9, Try.ntmps9
    go_wp2_with (first | ((with_reducible refine gate_dst (N := 4) rfl ?_); (try (refine gate_guard (by rfl) ?_; dsimp only)); refine Kd.R_lit (Kd.int .i64) _ 3 ?hg (N := 4) ?hd (xs := ([3, 3, 4] : List Int)) (inner := [.int .i64 3, .int .i64 3, .int .i64 4]) (ok := fun _ => True) (okp := fun _ => True) ?hr ?hp (fun _ hk => hk) trivial (Below.refl _ _) (Nat.le_refl _) (by simp) ?_; (case hd => rfl); (case hg => rfl); (case hr => first | (go_simp; done) | (go_simp; rfl)); (case hp => exact (Reps.one (show Kd.M (Kd.int .i64) _ _ _ 3 [.int .i64 3] from rfl) (Reps.one (show Kd.M (Kd.int .i64) _ _ _ 3 [.int .i64 3] from rfl) (Reps.one (show Kd.M (Kd.int .i64) _ _ _ 4 [.int .i64 4] from rfl) (Reps.none _ _))))); intro v132 w82 ho83 hb hg_ hnew_; clear hg_ hnew_; (first | rw [← Ny131.out] at ho83 | (simp only [Int.reduceToNat] at ho83; rw [← Ny131.out] at ho83)); have n0_ := Aside0.mk (Kd.R_lower ho83 (below_size (by repeat (first | (with_reducible first | exact HB.out | apply below_alloc | apply pw_below_drewN | apply below_drew1) | exact HB.out)))); have n1_ := Aside0.mk (below_step (by repeat (first | (with_reducible first | exact HB.out | apply below_alloc | apply pw_below_drewN | apply below_drew1) | exact HB.out)) hb); clear HB; have HO133 := n0_; have HB := n1_; clear n0_ n1_; clear hb ho83; obtain ⟨Ao84, co84, eo84⟩ := Kd.R_slice HO133.out; subst eo84) | ((with_reducible refine gate_callee (f := 10) rfl ?_); refine goesL_ (some 5) rfl rfl Try.func10 (by kernel_rfl) rfl #[.slice Ao84 y131.length co84] rfl (by (try simp only [List.map_toArray, List.map_cons, List.map_nil]); first | done | rfl | (simp only [List.length_drop, List.length_take]; rfl)) ?_; (with_reducible refine (delta_Of.calls k _ _ y131 t134 t135 _ ?side1 ?side2 A1.out).mono ?_); (case side1 => repeat (first | exact (Kd.R_reads' HO133.out).2.2 | (with_reducible refine Kd.C_alloc ?_ _) | (with_reducible refine Kd.C_drewN ?_ _) | (with_reducible refine Kd.C_drew ?_))); (case side2 => exact (Kd.R_reads' HO133.out).2.1); rintro e w85 ⟨v136, rfl, ho0, hb⟩; refine ⟨_, rfl, ?_⟩; have n0_ := Aside0.mk (Kd.R_below (by (with_reducible repeat (first | apply Kd.R_alloc | apply Kd.R_drewN | apply Kd.R_drew)); exact HO133.out) hb); have n1_ := Aside0.mk (Kd.R_lower ho0 (below_size (by repeat (first | (with_reducible first | exact HB.out | apply below_alloc | apply pw_below_drewN | apply below_drew1) | exact HB.out)))); have n2_ := Aside0.mk (below_step (by repeat (first | (with_reducible first | exact HB.out | apply below_alloc | apply pw_below_drewN | apply below_drew1) | exact HB.out)) hb); clear HO133; clear HB; have HO133 := n0_; have HO137 := n1_; have HB := n2_; clear n0_ n1_ n2_; (try clear hb); (try clear hb2); (try clear hk); (try clear hi); (try clear ho0)))
    go_ret
    exact ⟨by first | rfl | (simp [errW_none, errW_some] <;> rfl) | (simp [*, errW_none, errW_some] <;> rfl), by repeat (first | (with_reducible first | exact HB.out | apply below_alloc | apply pw_below_drewN | apply below_drew1) | exact HB.out)⟩

/-! ### tattinglaw12_DeltaPuts: function 7 -/
mutual
def tattinglaw12_DeltaPuts.j0 : Nat → List Int → Int → Int → Int → Bool → Option (Bool)
  | 0, _, _, _, _, _ => none
  | k + 1, x0, x1, x2, x3, x21 => if x21 = true then (some true) else (if (wrap64 ((wrap64 ((x0.length : Int) - (wrap64 (1 + (Int.tmod (wrap64 (x2)) 3))))) + 1)) = 0 then (none) else ((delta_Put.f k x0 (Int.tmod (wrap64 (x1)) (wrap64 ((wrap64 ((x0.length : Int) - (wrap64 (1 + (Int.tmod (wrap64 (x2)) 3))))) + 1))) (wrap64 (1 + (Int.tmod (wrap64 (x2)) 3))) (wrap64 (x3))).bind fun t160 => (if (t160.length : Int) = (x0.length : Int) then ((delta_Key.f k t160 (Int.tmod (wrap64 (x1)) (wrap64 ((wrap64 ((x0.length : Int) - (wrap64 (1 + (Int.tmod (wrap64 (x2)) 3))))) + 1))) (wrap64 (1 + (Int.tmod (wrap64 (x2)) 3)))).bind fun t163 => (if 0 ≤ (IntKind.u64.wrap (wrap64 (1 + (Int.tmod (wrap64 (x2)) 3)))) then (if (shl .i64 1 (IntKind.u64.wrap (wrap64 (1 + (Int.tmod (wrap64 (x2)) 3))))) = 0 then (none) else (tattinglaw12_DeltaPuts.j1 k x0 (wrap64 (1 + (Int.tmod (wrap64 (x2)) 3))) (Int.tmod (wrap64 (x1)) (wrap64 ((wrap64 ((x0.length : Int) - (wrap64 (1 + (Int.tmod (wrap64 (x2)) 3))))) + 1))) t160 (t163 != (Int.tmod (wrap64 (x3)) (shl .i64 1 (IntKind.u64.wrap (wrap64 (1 + (Int.tmod (wrap64 (x2)) 3))))))))) else (none))) else (tattinglaw12_DeltaPuts.j1 k x0 (wrap64 (1 + (Int.tmod (wrap64 (x2)) 3))) (Int.tmod (wrap64 (x1)) (wrap64 ((wrap64 ((x0.length : Int) - (wrap64 (1 + (Int.tmod (wrap64 (x2)) 3))))) + 1))) t160 true))))
def tattinglaw12_DeltaPuts.j1 : Nat → List Int → Int → Int → List Int → Bool → Option (Bool)
  | 0, _, _, _, _, _ => none
  | k + 1, x0, x9, x10, x11, x57 => if x57 = true then (some false) else (if 0 ≤ x10 then (if x10 ≤ (x11.length : Int) then (if x10 ≤ (x0.length : Int) then ((tattingref1_Same.f (x11.take (x10 : Int).toNat) (x0.take (x10 : Int).toNat)).bind fun t169 => (if t169 = true then (if 0 ≤ (wrap64 (x10 + x9)) then (if (wrap64 (x10 + x9)) ≤ (x11.length : Int) then (if (wrap64 (x10 + x9)) ≤ (x0.length : Int) then ((tattingref1_Same.f (x11.drop ((wrap64 (x10 + x9)) : Int).toNat) (x0.drop ((wrap64 (x10 + x9)) : Int).toNat)).bind fun t175 => (some t175)) else (none)) else (none)) else (none)) else (some false))) else (none)) else (none)) else (none))
end
def tattinglaw12_DeltaPuts.f (k : Nat) (l0 : List Int) (a1 : Int) (a2 : Int) (a3 : Int) : Option (Bool) := (tattinglaw12_awake.f k).bind fun t159 => (if t159 = true then (if (l0.length : Int) < 3 then (tattinglaw12_DeltaPuts.j0 k l0 a1 a2 a3 true) else (tattinglaw12_DeltaPuts.j0 k l0 a1 a2 a3 (decide ((l0.length : Int) > 60)))) else (some false))
theorem tattinglaw12_DeltaPuts.mono_l : ∀ k, (∀ y0 y1 y2 y3 y4, LeO (tattinglaw12_DeltaPuts.j0 k y0 y1 y2 y3 y4) (tattinglaw12_DeltaPuts.j0 (k + 1) y0 y1 y2 y3 y4)) ∧ (∀ y0 y1 y2 y3 y4, LeO (tattinglaw12_DeltaPuts.j1 k y0 y1 y2 y3 y4) (tattinglaw12_DeltaPuts.j1 (k + 1) y0 y1 y2 y3 y4))
  | 0 => ⟨fun _ _ _ _ _ r h => by simp [tattinglaw12_DeltaPuts.j0] at h, fun _ _ _ _ _ r h => by simp [tattinglaw12_DeltaPuts.j1] at h⟩
  | k + 1 => by
    obtain ⟨ih0, ih1⟩ := tattinglaw12_DeltaPuts.mono_l k
    refine ⟨?_, ?_⟩
    · intro y0 y1 y2 y3 y4
      unfold tattinglaw12_DeltaPuts.j0
      repeat' first
      | (with_reducible exact ih0 _ _ _ _ _)
      | (with_reducible exact ih1 _ _ _ _ _)
      | (with_reducible exact delta_Key.mono _ _ _ _)
      | (with_reducible exact delta_Put.mono _ _ _ _ _)
      | (with_reducible exact tattinglaw12_awake.mono _)
      | (with_reducible exact LeO.refl _)
      | (with_reducible exact LeO.none _)
      | (with_reducible refine LeO.ite ?_ ?_)
      | (with_reducible refine LeO.bind ?_ (fun _ => ?_))
      | exact ih0 _ _ _ _ _
      | exact ih1 _ _ _ _ _
      | exact delta_Key.mono _ _ _ _
      | exact delta_Put.mono _ _ _ _ _
      | exact tattinglaw12_awake.mono _
      | exact LeO.none _
      | refine LeO.ite ?_ ?_
      | refine LeO.bind ?_ (fun _ => ?_)
    · intro y0 y1 y2 y3 y4
      unfold tattinglaw12_DeltaPuts.j1
      repeat' first
      | (with_reducible exact ih0 _ _ _ _ _)
      | (with_reducible exact ih1 _ _ _ _ _)
      | (with_reducible exact delta_Key.mono _ _ _ _)
      | (with_reducible exact delta_Put.mono _ _ _ _ _)
      | (with_reducible exact tattinglaw12_awake.mono _)
      | (with_reducible exact LeO.refl _)
      | (with_reducible exact LeO.none _)
      | (with_reducible refine LeO.ite ?_ ?_)
      | (with_reducible refine LeO.bind ?_ (fun _ => ?_))
      | exact ih0 _ _ _ _ _
      | exact ih1 _ _ _ _ _
      | exact delta_Key.mono _ _ _ _
      | exact delta_Put.mono _ _ _ _ _
      | exact tattinglaw12_awake.mono _
      | exact LeO.none _
      | refine LeO.ite ?_ ?_
      | refine LeO.bind ?_ (fun _ => ?_)
theorem tattinglaw12_DeltaPuts.mono : ∀ a0 a1 a2 a3 k, LeO (tattinglaw12_DeltaPuts.f k a0 a1 a2 a3) (tattinglaw12_DeltaPuts.f (k + 1) a0 a1 a2 a3) := by
  intro a0 a1 a2 a3 k
  obtain ⟨ih0, ih1⟩ := tattinglaw12_DeltaPuts.mono_l k
  unfold tattinglaw12_DeltaPuts.f
  repeat' first
      | (with_reducible exact ih0 _ _ _ _ _)
      | (with_reducible exact ih1 _ _ _ _ _)
      | (with_reducible exact delta_Key.mono _ _ _ _)
      | (with_reducible exact delta_Put.mono _ _ _ _ _)
      | (with_reducible exact tattinglaw12_awake.mono _)
      | (with_reducible exact LeO.refl _)
      | (with_reducible exact LeO.none _)
      | (with_reducible refine LeO.ite ?_ ?_)
      | (with_reducible refine LeO.bind ?_ (fun _ => ?_))
      | exact ih0 _ _ _ _ _
      | exact ih1 _ _ _ _ _
      | exact delta_Key.mono _ _ _ _
      | exact delta_Put.mono _ _ _ _ _
      | exact tattinglaw12_awake.mono _
      | exact LeO.none _
      | refine LeO.ite ?_ ?_
      | refine LeO.bind ?_ (fun _ => ?_)
set_option maxHeartbeats 8000000 in
set_option maxRecDepth 100000 in
theorem tattinglaw12_DeltaPuts.calls (k : Nat) (A0 : Option Addr) (c0 : Nat) (l0 : List Int) (a1 : Int) (a2 : Int) (a3 : Int) (r : Bool) (w : World) (hr0 : Kd.C (Kd.int .u8) w A0 l0.length l0) (hc0 : l0.length ≤ c0) (h : tattinglaw12_DeltaPuts.f k l0 a1 a2 a3 = some r) (HRT : Aside0 (r = true)) :
    Calls Try.prog 7 #[.slice A0 l0.length c0, .int .u8 a1, .int .u8 a2, .int .u8 a3] w fun e w' => e = .returned (.bool r) ∧ Below w.heap.size w w' := by
  have HR0 := Aside0.mk hr0
  have HC0 := Aside0.mk hc0
  clear hr0 hc0
  have HB := Aside0.mk (Below.refl w.heap.size w)
  have H : ((tattinglaw12_awake.f k).bind fun t159 => (if t159 = true then (if (l0.length : Int) < 3 then (tattinglaw12_DeltaPuts.j0 k l0 a1 a2 a3 true) else (tattinglaw12_DeltaPuts.j0 k l0 a1 a2 a3 (decide ((l0.length : Int) > 60)))) else (some false))) = some r := h
  clear h
  replace H := Option.bind_eq_some_iff.mp H
  obtain ⟨t159, A50, H⟩ := H
  replace H : (if t159 = true then (if (l0.length : Int) < 3 then (tattinglaw12_DeltaPuts.j0 k l0 a1 a2 a3 true) else (tattinglaw12_DeltaPuts.j0 k l0 a1 a2 a3 (decide ((l0.length : Int) > 60)))) else (some false)) = some r := H
  have A5 := Aside0.mk A50
  clear A50
  by_cases c6 : t159 = true
  · subst c6
    have H1 : (if (l0.length : Int) < 3 then (tattinglaw12_DeltaPuts.j0 k l0 a1 a2 a3 true) else (tattinglaw12_DeltaPuts.j0 k l0 a1 a2 a3 (decide ((l0.length : Int) > 60)))) = some r := by rw [if_pos rfl] at H; exact H
    clear H
    have H := H1
    clear H1
    have HC7 := Aside0.mk H
    clear H
    go_enter Try.func7, Try.ntmps7
    go_upto_region 3 with (first | (go_at_call 9; (with_reducible refine (tattinglaw12_awake.calls k  true _ A5.out).mono ?_); rintro e w8 ⟨rfl, hb⟩; have n0_ := Aside0.mk (below_step (by repeat (first | (with_reducible first | exact HB.out | apply below_alloc | apply pw_below_drewN | apply below_drew1) | exact HB.out)) hb); clear HB; have HB := n0_; clear n0_; (try clear hb); (try clear hb2); (try clear hk); (try clear hi)))
    repeat (go_quiet (first | (go_at_call 9; (with_reducible refine (tattinglaw12_awake.calls k  true _ A5.out).mono ?_); rintro e w8 ⟨rfl, hb⟩; have n0_ := Aside0.mk (below_step (by repeat (first | (with_reducible first | exact HB.out | apply below_alloc | apply pw_below_drewN | apply below_drew1) | exact HB.out)) hb); clear HB; have HB := n0_; clear n0_; (try clear hb); (try clear hb2); (try clear hk); (try clear hi))); go_upto_region 3 with (first | (go_at_call 9; (with_reducible refine (tattinglaw12_awake.calls k  true _ A5.out).mono ?_); rintro e w8 ⟨rfl, hb⟩; have n0_ := Aside0.mk (below_step (by repeat (first | (with_reducible first | exact HB.out | apply below_alloc | apply pw_below_drewN | apply below_drew1) | exact HB.out)) hb); clear HB; have HB := n0_; clear n0_; (try clear hb); (try clear hb2); (try clear hk); (try clear hi))))
    (try simp only [Act.put, List.setIfInBounds_toArray, List.set_cons_zero, List.set_cons_succ])
    go_cut [21] (fun v21 wc => ∃ (kq : Nat) (x21_6 : Bool), v21 = .bool x21_6 ∧ Aside0 (tattinglaw12_DeltaPuts.j0 kq l0 a1 a2 a3 x21_6 = some r) ∧ Aside0 (kq ≤ k) ∧ Aside0 (Below w.heap.size w wc))
    case first =>
      have H := HC7.out
      clear HC7
      by_cases c9 : (l0.length : Int) < 3
      · rw [if_pos c9] at H
        have c9b0 : decide ((l0.length : Int) < 3) = true := decide_eq_true c9
        have c9b1 : decide (l0.length < 3) = true := decide_eq_true (by omega)
        clear c9
        (first | rw [c9b0] | (simp only [i64_w, i32_w]; rw [c9b0]) | skip)
        have H' := Aside0.mk H
        clear H
        go_wp2
        repeat (go_quiet (fail); try go_wp2)
        go_meet
        case rel => exact ⟨_, (true), (by first | rfl | (simp; done) | (simp [*]; done)), H', ⟨by first | omega | exact Nat.le_refl _⟩, ⟨by repeat (first | (with_reducible first | exact HB.out | apply below_alloc | apply pw_below_drewN | apply below_drew1) | exact HB.out)⟩⟩
      · rw [if_neg c9] at H
        have c9b0 : decide ((l0.length : Int) < 3) = false := decide_eq_false c9
        have c9b1 : decide (l0.length < 3) = false := decide_eq_false (by omega)
        clear c9
        (first | rw [c9b0] | (simp only [i64_w, i32_w]; rw [c9b0]) | skip)
        have H' := Aside0.mk H
        clear H
        go_wp2
        repeat (go_quiet (fail); try go_wp2)
        go_meet
        case rel => exact ⟨_, (decide ((l0.length : Int) > 60)), (by first | rfl | (simp; done) | (simp [*]; done)), H', ⟨by first | omega | exact Nat.le_refl _⟩, ⟨by repeat (first | (with_reducible first | exact HB.out | apply below_alloc | apply pw_below_drewN | apply below_drew1) | exact HB.out)⟩⟩
    case rest =>
      clear HC7
      try clear p2
      try clear c6
      try clear c7
      try clear c9
      try clear c9b0
      try clear c9b1
      obtain ⟨kq, x21_6, rfl, HA, HJ6, HB⟩ := hcut
      cases kq with
      | zero => exact absurd HA.out (by simp [tattinglaw12_DeltaPuts.j0])
      | succ kj6 =>
        have H := HA.out
        clear HA
        simp only [tattinglaw12_DeltaPuts.j0] at H
        by_cases c10 : x21_6 = true
        · subst c10
          have H1 : (some true) = some r := by rw [if_pos rfl] at H; exact H
          clear H
          have H := H1
          clear H1
          obtain rfl := Option.some.inj H
          go_wp2
          repeat (go_quiet (fail); try go_wp2)
          go_ret
          exact ⟨by first | rfl | (simp [errW_none, errW_some] <;> rfl) | (simp [*, errW_none, errW_some] <;> rfl), by repeat (first | (with_reducible first | exact HB.out | apply below_alloc | apply pw_below_drewN | apply below_drew1) | exact HB.out)⟩
        · replace c10 := Bool.eq_false_iff.mpr c10
          subst c10
          have H1 : (if (wrap64 ((wrap64 ((l0.length : Int) - (wrap64 (1 + (Int.tmod (wrap64 (a2)) 3))))) + 1)) = 0 then (none) else ((delta_Put.f kj6 l0 (Int.tmod (wrap64 (a1)) (wrap64 ((wrap64 ((l0.length : Int) - (wrap64 (1 + (Int.tmod (wrap64 (a2)) 3))))) + 1))) (wrap64 (1 + (Int.tmod (wrap64 (a2)) 3))) (wrap64 (a3))).bind fun t160 => (if (t160.length : Int) = (l0.length : Int) then ((delta_Key.f kj6 t160 (Int.tmod (wrap64 (a1)) (wrap64 ((wrap64 ((l0.length : Int) - (wrap64 (1 + (Int.tmod (wrap64 (a2)) 3))))) + 1))) (wrap64 (1 + (Int.tmod (wrap64 (a2)) 3)))).bind fun t163 => (if 0 ≤ (IntKind.u64.wrap (wrap64 (1 + (Int.tmod (wrap64 (a2)) 3)))) then (if (shl .i64 1 (IntKind.u64.wrap (wrap64 (1 + (Int.tmod (wrap64 (a2)) 3))))) = 0 then (none) else (tattinglaw12_DeltaPuts.j1 kj6 l0 (wrap64 (1 + (Int.tmod (wrap64 (a2)) 3))) (Int.tmod (wrap64 (a1)) (wrap64 ((wrap64 ((l0.length : Int) - (wrap64 (1 + (Int.tmod (wrap64 (a2)) 3))))) + 1))) t160 (t163 != (Int.tmod (wrap64 (a3)) (shl .i64 1 (IntKind.u64.wrap (wrap64 (1 + (Int.tmod (wrap64 (a2)) 3))))))))) else (none))) else (tattinglaw12_DeltaPuts.j1 kj6 l0 (wrap64 (1 + (Int.tmod (wrap64 (a2)) 3))) (Int.tmod (wrap64 (a1)) (wrap64 ((wrap64 ((l0.length : Int) - (wrap64 (1 + (Int.tmod (wrap64 (a2)) 3))))) + 1))) t160 true)))) = some r := by rw [if_neg (show ¬ (false = true) by decide)] at H; exact H
          clear H
          have H := H1
          clear H1
          by_cases c11 : (wrap64 ((wrap64 ((l0.length : Int) - (wrap64 (1 + (Int.tmod (wrap64 (a2)) 3))))) + 1)) = 0
          · rw [if_pos c11] at H
            exact absurd H (by simp)
          · rw [if_neg c11] at H
            have c11b0 : ((wrap64 ((wrap64 ((l0.length : Int) - (wrap64 (1 + (Int.tmod (wrap64 (a2)) 3))))) + 1)) == 0) = false := beq_eq_false_iff_ne.mpr c11
            have c11b1 : ((wrap64 ((wrap64 ((l0.length : Int) - (wrap64 (1 + (Int.tmod (wrap64 (a2)) 3))))) + 1)) != 0) = true := bne_iff_ne.mpr c11
            replace H := Option.bind_eq_some_iff.mp H
            obtain ⟨t160, A120, H⟩ := H
            replace H : (if (t160.length : Int) = (l0.length : Int) then ((delta_Key.f kj6 t160 (Int.tmod (wrap64 (a1)) (wrap64 ((wrap64 ((l0.length : Int) - (wrap64 (1 + (Int.tmod (wrap64 (a2)) 3))))) + 1))) (wrap64 (1 + (Int.tmod (wrap64 (a2)) 3)))).bind fun t163 => (if 0 ≤ (IntKind.u64.wrap (wrap64 (1 + (Int.tmod (wrap64 (a2)) 3)))) then (if (shl .i64 1 (IntKind.u64.wrap (wrap64 (1 + (Int.tmod (wrap64 (a2)) 3))))) = 0 then (none) else (tattinglaw12_DeltaPuts.j1 kj6 l0 (wrap64 (1 + (Int.tmod (wrap64 (a2)) 3))) (Int.tmod (wrap64 (a1)) (wrap64 ((wrap64 ((l0.length : Int) - (wrap64 (1 + (Int.tmod (wrap64 (a2)) 3))))) + 1))) t160 (t163 != (Int.tmod (wrap64 (a3)) (shl .i64 1 (IntKind.u64.wrap (wrap64 (1 + (Int.tmod (wrap64 (a2)) 3))))))))) else (none))) else (tattinglaw12_DeltaPuts.j1 kj6 l0 (wrap64 (1 + (Int.tmod (wrap64 (a2)) 3))) (Int.tmod (wrap64 (a1)) (wrap64 ((wrap64 ((l0.length : Int) - (wrap64 (1 + (Int.tmod (wrap64 (a2)) 3))))) + 1))) t160 true)) = some r := H
            have A12 := Aside0.mk A120
            clear A120
            have HC13 := Aside0.mk H
            clear H
            go_upto_region 8 with (first | (go_at_call 15; (with_reducible refine (delta_Put.calls kj6 _ _ l0 (Int.tmod (wrap64 (a1)) (wrap64 ((wrap64 ((l0.length : Int) - (wrap64 (1 + (Int.tmod (wrap64 (a2)) 3))))) + 1))) (wrap64 (1 + (Int.tmod (wrap64 (a2)) 3))) (wrap64 (a3)) t160 _ ?side1 ?side2 A12.out).mono ?_); (case side1 => repeat (first | exact (Kd.C_below HR0.out HB.out) | (with_reducible refine Kd.C_alloc ?_ _) | (with_reducible refine Kd.C_drewN ?_ _) | (with_reducible refine Kd.C_drew ?_))); (case side2 => exact HC0.out); rintro e w14 ⟨v161, rfl, ho0, hb⟩; have n0_ := Aside0.mk (Kd.R_lower ho0 (below_size (by repeat (first | (with_reducible first | exact HB.out | apply below_alloc | apply pw_below_drewN | apply below_drew1) | exact HB.out)))); have n1_ := Aside0.mk (below_step (by repeat (first | (with_reducible first | exact HB.out | apply below_alloc | apply pw_below_drewN | apply below_drew1) | exact HB.out)) hb); clear HB; have HO162 := n0_; have HB := n1_; clear n0_ n1_; (try clear hb); (try clear hb2); (try clear hk); (try clear hi); (try clear ho0)))
            repeat (go_quiet (first | (go_at_call 15; (with_reducible refine (delta_Put.calls kj6 _ _ l0 (Int.tmod (wrap64 (a1)) (wrap64 ((wrap64 ((l0.length : Int) - (wrap64 (1 + (Int.tmod (wrap64 (a2)) 3))))) + 1))) (wrap64 (1 + (Int.tmod (wrap64 (a2)) 3))) (wrap64 (a3)) t160 _ ?side1 ?side2 A12.out).mono ?_); (case side1 => repeat (first | exact (Kd.C_below HR0.out HB.out) | (with_reducible refine Kd.C_alloc ?_ _) | (with_reducible refine Kd.C_drewN ?_ _) | (with_reducible refine Kd.C_drew ?_))); (case side2 => exact HC0.out); rintro e w14 ⟨v161, rfl, ho0, hb⟩; have n0_ := Aside0.mk (Kd.R_lower ho0 (below_size (by repeat (first | (with_reducible first | exact HB.out | apply below_alloc | apply pw_below_drewN | apply below_drew1) | exact HB.out)))); have n1_ := Aside0.mk (below_step (by repeat (first | (with_reducible first | exact HB.out | apply below_alloc | apply pw_below_drewN | apply below_drew1) | exact HB.out)) hb); clear HB; have HO162 := n0_; have HB := n1_; clear n0_ n1_; (try clear hb); (try clear hb2); (try clear hk); (try clear hi); (try clear ho0))); go_upto_region 8 with (first | (go_at_call 15; (with_reducible refine (delta_Put.calls kj6 _ _ l0 (Int.tmod (wrap64 (a1)) (wrap64 ((wrap64 ((l0.length : Int) - (wrap64 (1 + (Int.tmod (wrap64 (a2)) 3))))) + 1))) (wrap64 (1 + (Int.tmod (wrap64 (a2)) 3))) (wrap64 (a3)) t160 _ ?side1 ?side2 A12.out).mono ?_); (case side1 => repeat (first | exact (Kd.C_below HR0.out HB.out) | (with_reducible refine Kd.C_alloc ?_ _) | (with_reducible refine Kd.C_drewN ?_ _) | (with_reducible refine Kd.C_drew ?_))); (case side2 => exact HC0.out); rintro e w14 ⟨v161, rfl, ho0, hb⟩; have n0_ := Aside0.mk (Kd.R_lower ho0 (below_size (by repeat (first | (with_reducible first | exact HB.out | apply below_alloc | apply pw_below_drewN | apply below_drew1) | exact HB.out)))); have n1_ := Aside0.mk (below_step (by repeat (first | (with_reducible first | exact HB.out | apply below_alloc | apply pw_below_drewN | apply below_drew1) | exact HB.out)) hb); clear HB; have HO162 := n0_; have HB := n1_; clear n0_ n1_; (try clear hb); (try clear hb2); (try clear hk); (try clear hi); (try clear ho0))))
            (try simp only [Act.put, List.setIfInBounds_toArray, List.set_cons_zero, List.set_cons_succ])
            go_cut [57] (fun v57 wc => ∃ (kq : Nat) (x57_12 : Bool), v57 = .bool x57_12 ∧ Aside0 (tattinglaw12_DeltaPuts.j1 kq l0 (wrap64 (1 + (Int.tmod (wrap64 (a2)) 3))) (Int.tmod (wrap64 (a1)) (wrap64 ((wrap64 ((l0.length : Int) - (wrap64 (1 + (Int.tmod (wrap64 (a2)) 3))))) + 1))) t160 x57_12 = some r) ∧ Aside0 (kq ≤ kj6) ∧ Aside0 (Kd.R (Kd.int .u8) 5 wc w.heap.size (fun _ => True) v161 t160) ∧ Aside0 (Below w.heap.size w wc))
            case first =>
              have H := HC13.out
              clear HC13
              by_cases c15 : (t160.length : Int) = (l0.length : Int)
              · rw [if_pos c15] at H
                have c15b0 : ((t160.length : Int) == (l0.length : Int)) = true := beq_iff_eq.mpr c15
                have c15b1 : ((t160.length : Int) != (l0.length : Int)) = false := bne_eq_false_iff_eq.mpr c15
                have c15b2 : (t160.length == l0.length) = true := by first | simpa using c15 | (simp at c15 ⊢; omega)
                clear c15
                (first | rw [c15b0] | (simp only [i64_w, i32_w]; rw [c15b0]) | skip)
                replace H := Option.bind_eq_some_iff.mp H
                obtain ⟨t163, A160, H⟩ := H
                replace H : (if 0 ≤ (IntKind.u64.wrap (wrap64 (1 + (Int.tmod (wrap64 (a2)) 3)))) then (if (shl .i64 1 (IntKind.u64.wrap (wrap64 (1 + (Int.tmod (wrap64 (a2)) 3))))) = 0 then (none) else (tattinglaw12_DeltaPuts.j1 kj6 l0 (wrap64 (1 + (Int.tmod (wrap64 (a2)) 3))) (Int.tmod (wrap64 (a1)) (wrap64 ((wrap64 ((l0.length : Int) - (wrap64 (1 + (Int.tmod (wrap64 (a2)) 3))))) + 1))) t160 (t163 != (Int.tmod (wrap64 (a3)) (shl .i64 1 (IntKind.u64.wrap (wrap64 (1 + (Int.tmod (wrap64 (a2)) 3))))))))) else (none)) = some r := H
                have A16 := Aside0.mk A160
                clear A160
                obtain ⟨ji17, hji17⟩ : ∃ j_ : Int, (IntKind.u64.wrap (wrap64 (1 + (Int.tmod (wrap64 (a2)) 3)))) = j_ := ⟨_, rfl⟩
                replace H : (if 0 ≤ (ji17) then (if (shl .i64 1 (ji17)) = 0 then (none) else (tattinglaw12_DeltaPuts.j1 kj6 l0 (wrap64 (1 + (Int.tmod (wrap64 (a2)) 3))) (Int.tmod (wrap64 (a1)) (wrap64 ((wrap64 ((l0.length : Int) - (wrap64 (1 + (Int.tmod (wrap64 (a2)) 3))))) + 1))) t160 (t163 != (Int.tmod (wrap64 (a3)) (shl .i64 1 (ji17)))))) else (none)) = some r := by first | (rw [hji17] at H; exact H) | (simp only [hji17] at H ⊢; exact H)
                (try rw [hji17] at A16)
                by_cases c18 : 0 ≤ (ji17)
                · rw [if_pos c18] at H
                  have c18b0 := eq_true c18
                  have c18b1 : decide (0 ≤ (ji17)) = true := decide_eq_true c18
                  clear c18
                  obtain ⟨ji19, hji19⟩ : ∃ j_ : Int, (shl .i64 1 (ji17)) = j_ := ⟨_, rfl⟩
                  replace H : (if (ji19) = 0 then (none) else (tattinglaw12_DeltaPuts.j1 kj6 l0 (wrap64 (1 + (Int.tmod (wrap64 (a2)) 3))) (Int.tmod (wrap64 (a1)) (wrap64 ((wrap64 ((l0.length : Int) - (wrap64 (1 + (Int.tmod (wrap64 (a2)) 3))))) + 1))) t160 (t163 != (Int.tmod (wrap64 (a3)) (ji19))))) = some r := by first | (rw [hji19] at H; exact H) | (simp only [hji19] at H ⊢; exact H)
                  (try rw [hji19] at A16)
                  have hji19_ : (IntKind.i64.wrap (1 * 2 ^ min (ji17).toNat 64)) = ji19 := hji19
                  have hji19z : (ji17) ≤ 64 → (IntKind.i64.wrap (1 * 2 ^ (ji17).toNat)) = ji19 := shl_small hji19
                  have hji19u : (IntKind.i64.wrap (2 ^ min (ji17).toNat 64)) = ji19 := by have h_ := hji19_; rw [Int.one_mul] at h_; exact h_
                  have hji19v : (ji17) ≤ 64 → (IntKind.i64.wrap (2 ^ (ji17).toNat)) = ji19 := fun hle_ => by have h_ := hji19z hle_; rw [Int.one_mul] at h_; exact h_
                  have hji19y : (wrap64 (1 * 2 ^ min (ji17).toNat 64)) = ji19 := (i64_w _).symm.trans hji19_
                  have hji19x : (ji17) ≤ 64 → (wrap64 (1 * 2 ^ (ji17).toNat)) = ji19 := fun h_ => (i64_w _).symm.trans (hji19z h_)
                  by_cases c20 : (ji19) = 0
                  · rw [if_pos c20] at H
                    exact absurd H (by simp)
                  · rw [if_neg c20] at H
                    have c20b0 : ((ji19) == 0) = false := beq_eq_false_iff_ne.mpr c20
                    have c20b1 : ((ji19) != 0) = true := bne_iff_ne.mpr c20
                    have H' := Aside0.mk H
                    clear H
                    obtain ⟨Ao21, co21, eo21⟩ := Kd.R_slice HO162.out
                    subst eo21
                    go_wp2_with (first | (go_at_call 13; (with_reducible refine (delta_Key.calls kj6 _ _ t160 (Int.tmod (wrap64 (a1)) (wrap64 ((wrap64 ((l0.length : Int) - (wrap64 (1 + (Int.tmod (wrap64 (a2)) 3))))) + 1))) (wrap64 (1 + (Int.tmod (wrap64 (a2)) 3))) t163 _ ?side1 ?side2 A16.out).mono ?_); (case side1 => repeat (first | exact (Kd.R_reads' HO162.out).2.2 | (with_reducible refine Kd.C_alloc ?_ _) | (with_reducible refine Kd.C_drewN ?_ _) | (with_reducible refine Kd.C_drew ?_))); (case side2 => exact (Kd.R_reads' HO162.out).2.1); rintro e w' ⟨rfl, ⟨nd, rfl⟩⟩; (try first | exact ⟨rfl, _, World.drewN_drewN _ _ _⟩ | exact ⟨rfl, _, Eq.trans (World.drewN_drewN _ _ _) (congrArg (World.drewN _) (Nat.add_assoc _ _ _))⟩)))
                    repeat (go_quiet (first | (go_at_call 13; (with_reducible refine (delta_Key.calls kj6 _ _ t160 (Int.tmod (wrap64 (a1)) (wrap64 ((wrap64 ((l0.length : Int) - (wrap64 (1 + (Int.tmod (wrap64 (a2)) 3))))) + 1))) (wrap64 (1 + (Int.tmod (wrap64 (a2)) 3))) t163 _ ?side1 ?side2 A16.out).mono ?_); (case side1 => repeat (first | exact (Kd.R_reads' HO162.out).2.2 | (with_reducible refine Kd.C_alloc ?_ _) | (with_reducible refine Kd.C_drewN ?_ _) | (with_reducible refine Kd.C_drew ?_))); (case side2 => exact (Kd.R_reads' HO162.out).2.1); rintro e w' ⟨rfl, ⟨nd, rfl⟩⟩; (try first | exact ⟨rfl, _, World.drewN_drewN _ _ _⟩ | exact ⟨rfl, _, Eq.trans (World.drewN_drewN _ _ _) (congrArg (World.drewN _) (Nat.add_assoc _ _ _))⟩))); try go_wp2_with (first | (go_at_call 13; (with_reducible refine (delta_Key.calls kj6 _ _ t160 (Int.tmod (wrap64 (a1)) (wrap64 ((wrap64 ((l0.length : Int) - (wrap64 (1 + (Int.tmod (wrap64 (a2)) 3))))) + 1))) (wrap64 (1 + (Int.tmod (wrap64 (a2)) 3))) t163 _ ?side1 ?side2 A16.out).mono ?_); (case side1 => repeat (first | exact (Kd.R_reads' HO162.out).2.2 | (with_reducible refine Kd.C_alloc ?_ _) | (with_reducible refine Kd.C_drewN ?_ _) | (with_reducible refine Kd.C_drew ?_))); (case side2 => exact (Kd.R_reads' HO162.out).2.1); rintro e w' ⟨rfl, ⟨nd, rfl⟩⟩; (try first | exact ⟨rfl, _, World.drewN_drewN _ _ _⟩ | exact ⟨rfl, _, Eq.trans (World.drewN_drewN _ _ _) (congrArg (World.drewN _) (Nat.add_assoc _ _ _))⟩))))
                    go_meet
                    case rel => exact ⟨_, ((t163 != (Int.tmod (wrap64 (a3)) (ji19)))), (by first | rfl | (simp; done) | (simp only [← hji19] <;> (first | rfl | simp)) | (simp [*]; done)), H', ⟨by have := HJ6.out; first | omega | exact Nat.le_refl _⟩, ⟨by (with_reducible repeat (first | apply Kd.R_alloc | apply Kd.R_drewN | apply Kd.R_drew)); exact HO162.out⟩, ⟨by repeat (first | (with_reducible first | exact HB.out | apply below_alloc | apply pw_below_drewN | apply below_drew1) | exact HB.out)⟩⟩
                · rw [if_neg c18] at H
                  exact absurd H (by simp)
              · rw [if_neg c15] at H
                have c15b0 : ((t160.length : Int) == (l0.length : Int)) = false := beq_eq_false_iff_ne.mpr c15
                have c15b1 : ((t160.length : Int) != (l0.length : Int)) = true := bne_iff_ne.mpr c15
                have c15b2 : (t160.length == l0.length) = false := by first | simpa using c15 | (simp at c15 ⊢; omega)
                (first | rw [c15b0] | (simp only [i64_w, i32_w]; rw [c15b0]) | skip)
                have H' := Aside0.mk H
                clear H
                obtain ⟨Ao22, co22, eo22⟩ := Kd.R_slice HO162.out
                subst eo22
                go_wp2
                repeat (go_quiet (fail); try go_wp2)
                go_meet
                case rel => exact ⟨_, (true), (by first | rfl | (simp; done) | (simp [*]; done)), H', ⟨by have := HJ6.out; first | omega | exact Nat.le_refl _⟩, ⟨by (with_reducible repeat (first | apply Kd.R_alloc | apply Kd.R_drewN | apply Kd.R_drew)); exact HO162.out⟩, ⟨by repeat (first | (with_reducible first | exact HB.out | apply below_alloc | apply pw_below_drewN | apply below_drew1) | exact HB.out)⟩⟩
            case rest =>
              clear HC13
              try clear c1
              try clear c2
              try clear p2
              try clear c6
              try clear p6
              try clear c7
              try clear c9
              try clear c9b0
              try clear c9b1
              try clear c10
              try clear c11
              try clear c11b0
              try clear c11b1
              try clear c15
              try clear c15b0
              try clear c15b1
              try clear c15b2
              try clear c18
              try clear c18b0
              try clear c18b1
              try clear c20
              try clear c20b0
              try clear c20b1
              try clear p2
              obtain ⟨kq, x57_12, rfl, HA, HJ12, HO_11, HB⟩ := hcut
              cases kq with
              | zero => exact absurd HA.out (by simp [tattinglaw12_DeltaPuts.j1])
              | succ kj12 =>
                have H := HA.out
                clear HA
                simp only [tattinglaw12_DeltaPuts.j1] at H
                by_cases c23 : x57_12 = true
                · subst c23
                  have H1 : (some false) = some r := by rw [if_pos rfl] at H; exact H
                  clear H
                  have H := H1
                  clear H1
                  exact absurd (Option.some.inj H) (by rw [HRT.out]; decide)
                · replace c23 := Bool.eq_false_iff.mpr c23
                  subst c23
                  have H1 : (if 0 ≤ (Int.tmod (wrap64 (a1)) (wrap64 ((wrap64 ((l0.length : Int) - (wrap64 (1 + (Int.tmod (wrap64 (a2)) 3))))) + 1))) then (if (Int.tmod (wrap64 (a1)) (wrap64 ((wrap64 ((l0.length : Int) - (wrap64 (1 + (Int.tmod (wrap64 (a2)) 3))))) + 1))) ≤ (t160.length : Int) then (if (Int.tmod (wrap64 (a1)) (wrap64 ((wrap64 ((l0.length : Int) - (wrap64 (1 + (Int.tmod (wrap64 (a2)) 3))))) + 1))) ≤ (l0.length : Int) then ((tattingref1_Same.f (t160.take ((Int.tmod (wrap64 (a1)) (wrap64 ((wrap64 ((l0.length : Int) - (wrap64 (1 + (Int.tmod (wrap64 (a2)) 3))))) + 1))) : Int).toNat) (l0.take ((Int.tmod (wrap64 (a1)) (wrap64 ((wrap64 ((l0.length : Int) - (wrap64 (1 + (Int.tmod (wrap64 (a2)) 3))))) + 1))) : Int).toNat)).bind fun t169 => (if t169 = true then (if 0 ≤ (wrap64 ((Int.tmod (wrap64 (a1)) (wrap64 ((wrap64 ((l0.length : Int) - (wrap64 (1 + (Int.tmod (wrap64 (a2)) 3))))) + 1))) + (wrap64 (1 + (Int.tmod (wrap64 (a2)) 3))))) then (if (wrap64 ((Int.tmod (wrap64 (a1)) (wrap64 ((wrap64 ((l0.length : Int) - (wrap64 (1 + (Int.tmod (wrap64 (a2)) 3))))) + 1))) + (wrap64 (1 + (Int.tmod (wrap64 (a2)) 3))))) ≤ (t160.length : Int) then (if (wrap64 ((Int.tmod (wrap64 (a1)) (wrap64 ((wrap64 ((l0.length : Int) - (wrap64 (1 + (Int.tmod (wrap64 (a2)) 3))))) + 1))) + (wrap64 (1 + (Int.tmod (wrap64 (a2)) 3))))) ≤ (l0.length : Int) then ((tattingref1_Same.f (t160.drop ((wrap64 ((Int.tmod (wrap64 (a1)) (wrap64 ((wrap64 ((l0.length : Int) - (wrap64 (1 + (Int.tmod (wrap64 (a2)) 3))))) + 1))) + (wrap64 (1 + (Int.tmod (wrap64 (a2)) 3))))) : Int).toNat) (l0.drop ((wrap64 ((Int.tmod (wrap64 (a1)) (wrap64 ((wrap64 ((l0.length : Int) - (wrap64 (1 + (Int.tmod (wrap64 (a2)) 3))))) + 1))) + (wrap64 (1 + (Int.tmod (wrap64 (a2)) 3))))) : Int).toNat)).bind fun t175 => (some t175)) else (none)) else (none)) else (none)) else (some false))) else (none)) else (none)) else (none)) = some r := by rw [if_neg (show ¬ (false = true) by decide)] at H; exact H
                  clear H
                  have H := H1
                  clear H1
                  obtain ⟨ji24, hji24⟩ : ∃ j_ : Int, (Int.tmod (wrap64 (a1)) (wrap64 ((wrap64 ((l0.length : Int) - (wrap64 (1 + (Int.tmod (wrap64 (a2)) 3))))) + 1))) = j_ := ⟨_, rfl⟩
                  replace H : (if 0 ≤ (ji24) then (if (ji24) ≤ (t160.length : Int) then (if (ji24) ≤ (l0.length : Int) then ((tattingref1_Same.f (t160.take ((ji24) : Int).toNat) (l0.take ((ji24) : Int).toNat)).bind fun t169 => (if t169 = true then (if 0 ≤ (wrap64 ((ji24) + (wrap64 (1 + (Int.tmod (wrap64 (a2)) 3))))) then (if (wrap64 ((ji24) + (wrap64 (1 + (Int.tmod (wrap64 (a2)) 3))))) ≤ (t160.length : Int) then (if (wrap64 ((ji24) + (wrap64 (1 + (Int.tmod (wrap64 (a2)) 3))))) ≤ (l0.length : Int) then ((tattingref1_Same.f (t160.drop ((wrap64 ((ji24) + (wrap64 (1 + (Int.tmod (wrap64 (a2)) 3))))) : Int).toNat) (l0.drop ((wrap64 ((ji24) + (wrap64 (1 + (Int.tmod (wrap64 (a2)) 3))))) : Int).toNat)).bind fun t175 => (some t175)) else (none)) else (none)) else (none)) else (some false))) else (none)) else (none)) else (none)) = some r := by first | (rw [hji24] at H; exact H) | (simp only [hji24] at H ⊢; exact H)
                  by_cases c25 : 0 ≤ (ji24)
                  · rw [if_pos c25] at H
                    have c25b0 := eq_true c25
                    have c25b1 : decide (0 ≤ (ji24)) = true := decide_eq_true c25
                    clear c25
                    by_cases c26 : (ji24) ≤ (t160.length : Int)
                    · rw [if_pos c26] at H
                      have c26b0 := eq_true c26
                      have c26b1 : decide ((ji24) ≤ (t160.length : Int)) = true := decide_eq_true c26
                      clear c26
                      obtain ⟨y164, hy164⟩ : ∃ y_ : List Int, y_ = (t160.take ((ji24) : Int).toNat) := ⟨_, rfl⟩
                      replace H : (if (ji24) ≤ (l0.length : Int) then ((tattingref1_Same.f y164 (l0.take ((ji24) : Int).toNat)).bind fun t169 => (if t169 = true then (if 0 ≤ (wrap64 ((ji24) + (wrap64 (1 + (Int.tmod (wrap64 (a2)) 3))))) then (if (wrap64 ((ji24) + (wrap64 (1 + (Int.tmod (wrap64 (a2)) 3))))) ≤ (t160.length : Int) then (if (wrap64 ((ji24) + (wrap64 (1 + (Int.tmod (wrap64 (a2)) 3))))) ≤ (l0.length : Int) then ((tattingref1_Same.f (t160.drop ((wrap64 ((ji24) + (wrap64 (1 + (Int.tmod (wrap64 (a2)) 3))))) : Int).toNat) (l0.drop ((wrap64 ((ji24) + (wrap64 (1 + (Int.tmod (wrap64 (a2)) 3))))) : Int).toNat)).bind fun t175 => (some t175)) else (none)) else (none)) else (none)) else (some false))) else (none)) = some r := by first | (rw [hy164]; with_reducible exact H) | (have H2_ := (Option.bind_some _ _).symm.trans H; rw [hy164]; with_reducible exact H2_) | (have H2_ := (Option.bind_some _ _).symm.trans H; with_reducible exact H2_) | with_reducible exact H | (rw [hy164]; exact H) | exact H
                      have Ny164 := Aside0.mk hy164
                      clear hy164
                      have c27b0 := eq_true (of_decide_eq_true (by first | (with_reducible assumption) | assumption) : 0 ≤ (ji24))
                      by_cases c28 : (ji24) ≤ (l0.length : Int)
                      · rw [if_pos c28] at H
                        have c28b0 := eq_true c28
                        have c28b1 : decide ((ji24) ≤ (l0.length : Int)) = true := decide_eq_true c28
                        clear c28
                        replace H := Option.bind_eq_some_iff.mp H
                        obtain ⟨t169, A290, H⟩ := H
                        replace H : (if t169 = true then (if 0 ≤ (wrap64 ((ji24) + (wrap64 (1 + (Int.tmod (wrap64 (a2)) 3))))) then (if (wrap64 ((ji24) + (wrap64 (1 + (Int.tmod (wrap64 (a2)) 3))))) ≤ (t160.length : Int) then (if (wrap64 ((ji24) + (wrap64 (1 + (Int.tmod (wrap64 (a2)) 3))))) ≤ (l0.length : Int) then ((tattingref1_Same.f (t160.drop ((wrap64 ((ji24) + (wrap64 (1 + (Int.tmod (wrap64 (a2)) 3))))) : Int).toNat) (l0.drop ((wrap64 ((ji24) + (wrap64 (1 + (Int.tmod (wrap64 (a2)) 3))))) : Int).toNat)).bind fun t175 => (some t175)) else (none)) else (none)) else (none)) else (some false)) = some r := H
                        have A29 := Aside0.mk A290
                        clear A290
                        by_cases c30 : t169 = true
                        · subst c30
                          have H1 : (if 0 ≤ (wrap64 ((ji24) + (wrap64 (1 + (Int.tmod (wrap64 (a2)) 3))))) then (if (wrap64 ((ji24) + (wrap64 (1 + (Int.tmod (wrap64 (a2)) 3))))) ≤ (t160.length : Int) then (if (wrap64 ((ji24) + (wrap64 (1 + (Int.tmod (wrap64 (a2)) 3))))) ≤ (l0.length : Int) then ((tattingref1_Same.f (t160.drop ((wrap64 ((ji24) + (wrap64 (1 + (Int.tmod (wrap64 (a2)) 3))))) : Int).toNat) (l0.drop ((wrap64 ((ji24) + (wrap64 (1 + (Int.tmod (wrap64 (a2)) 3))))) : Int).toNat)).bind fun t175 => (some t175)) else (none)) else (none)) else (none)) = some r := by rw [if_pos rfl] at H; exact H
                          clear H
                          have H := H1
                          clear H1
                          obtain ⟨ji31, hji31⟩ : ∃ j_ : Int, (wrap64 ((ji24) + (wrap64 (1 + (Int.tmod (wrap64 (a2)) 3))))) = j_ := ⟨_, rfl⟩
                          replace H : (if 0 ≤ (ji31) then (if (ji31) ≤ (t160.length : Int) then (if (ji31) ≤ (l0.length : Int) then ((tattingref1_Same.f (t160.drop ((ji31) : Int).toNat) (l0.drop ((ji31) : Int).toNat)).bind fun t175 => (some t175)) else (none)) else (none)) else (none)) = some r := by first | (rw [hji31] at H; exact H) | (simp only [hji31] at H ⊢; exact H)
                          (try rw [hji31] at A29)
                          have hji31w : (IntKind.i64.wrap ((ji24) + (wrap64 (1 + (Int.tmod (wrap64 (a2)) 3))))) = ji31 := (i64_w _).trans hji31
                          by_cases c32 : 0 ≤ (ji31)
                          · rw [if_pos c32] at H
                            have c32b0 := eq_true c32
                            have c32b1 : decide (0 ≤ (ji31)) = true := decide_eq_true c32
                            clear c32
                            by_cases c33 : (ji31) ≤ (t160.length : Int)
                            · rw [if_pos c33] at H
                              have c33b0 := eq_true c33
                              have c33b1 : decide ((ji31) ≤ (t160.length : Int)) = true := decide_eq_true c33
                              clear c33
                              obtain ⟨y170, hy170⟩ : ∃ y_ : List Int, y_ = (t160.drop ((ji31) : Int).toNat) := ⟨_, rfl⟩
                              replace H : (if (ji31) ≤ (l0.length : Int) then ((tattingref1_Same.f y170 (l0.drop ((ji31) : Int).toNat)).bind fun t175 => (some t175)) else (none)) = some r := by first | (rw [hy170]; with_reducible exact H) | (have H2_ := (Option.bind_some _ _).symm.trans H; rw [hy170]; with_reducible exact H2_) | (have H2_ := (Option.bind_some _ _).symm.trans H; with_reducible exact H2_) | with_reducible exact H | (rw [hy170]; exact H) | exact H
                              have Ny170 := Aside0.mk hy170
                              clear hy170
                              have c34b0 := eq_true (of_decide_eq_true (by first | (with_reducible assumption) | assumption) : 0 ≤ (ji31))
                              by_cases c35 : (ji31) ≤ (l0.length : Int)
                              · rw [if_pos c35] at H
                                have c35b0 := eq_true c35
                                have c35b1 : decide ((ji31) ≤ (l0.length : Int)) = true := decide_eq_true c35
                                clear c35
                                replace H := Option.bind_eq_some_iff.mp H
                                obtain ⟨t175, A360, H⟩ := H
                                replace H : (some t175) = some r := H
                                have A36 := Aside0.mk A360
                                clear A360
                                obtain rfl := Option.some.inj H
                                obtain ⟨Ao38, co38, eo38⟩ := Kd.R_slice HO_11.out
                                subst eo38
                                have q37 : ((ji24) : Int) ≤ ((t160.length : Int) : Int) := of_decide_eq_true (by first | (with_reducible assumption) | assumption)
                                obtain ⟨i037, hi037, _, hsz37, _⟩ := info_parts info5
                                have hroom37 : t160.length ≤ co38 := (Kd.R_reads' HO_11.out).2.1
                                have hC37 : Kd.C (Kd.int .u8) _ Ao38 t160.length t160 := (Kd.R_reads' HO_11.out).2.2
                                have hcut37 := cut_to (P := Try.prog) 23 5 .i64 Try.underlying23 hi037 Ao38 t160.length co38 (ji24) (of_decide_eq_true (by first | (with_reducible assumption) | assumption)) q37 hroom37
                                have hr37 := Kd.C_take (m := ((ji24) : Int).toNat) hC37 (by omega)
                                have hy37 : y164.length = ((ji24) : Int).toNat := (by rw [Ny164.out, List.length_take]; omega)
                                rw [← Ny164.out] at hr37
                                rw [← hy37] at hcut37
                                have HR167 := Aside0.mk hr37
                                have HC167 := Aside0.mk (show y164.length ≤ co38 from by omega)
                                clear hr37 hC37 hroom37 hi037 hsz37
                                have KY37 := Aside0.mk hy37
                                clear hy37
                                have KL37 := Aside0.mk (show ((ji24) : Int).toNat ≤ t160.length from by omega)
                                replace q37 := eq_true q37
                                obtain ⟨i039, hi039, _, hsz39, _⟩ := info_parts info5
                                obtain ⟨hcut39, hA39, hC39⟩ := print_take_of (P := Try.prog) (Value.int .u8) 0 23 5 .i64 Try.underlying23 hi039 hsz39 A0 c0 l0 (ji24) (of_decide_eq_true (by first | (with_reducible assumption) | assumption)) (of_decide_eq_true (by first | (with_reducible assumption) | assumption)) HC0.out
                                have HR168 := Aside0.mk (Kd.C_of_reads (h1 := fun _ => rfl) (hA39 _ (Kd.reads_of_C HR0.out)))
                                have HC168 := Aside0.mk hC39
                                clear hA39 hC39 hi039 hsz39
                                have q40 : ((ji31) : Int) ≤ ((t160.length : Int) : Int) := of_decide_eq_true (by first | (with_reducible assumption) | assumption); obtain ⟨i040, hi040, _, hsz40, _⟩ := info_parts info5; have hroom40 : t160.length ≤ co38 := (Kd.R_reads' HO_11.out).2.1; have hC40 : Kd.C (Kd.int .u8) _ Ao38 t160.length t160 := (Kd.R_reads' HO_11.out).2.2; have q040 : (0 : Int) ≤ ((ji31) : Int) := of_decide_eq_true (by first | (with_reducible assumption) | assumption); have hcut40 := cut_from (P := Try.prog) 23 5 .i64 Try.underlying23 hi040 1 hsz40 Ao38 t160.length co38 (ji31) q040 q40; have hr40 := Kd.C_drop (m := ((ji31) : Int).toNat) (c := co38) hC40 (by omega) hroom40; obtain ⟨A40, hA40⟩ : ∃ A1, A1 = (if co38 = ((ji31) : Int).toNat then Ao38 else (Ao38 : Option Addr).map (·.add (((ji31) : Int).toNat * 1))) := ⟨_, rfl⟩; obtain ⟨c40, hc40⟩ : ∃ c1, c1 = co38 - ((ji31) : Int).toNat := ⟨_, rfl⟩; have hy40 : y170.length = t160.length - ((ji31) : Int).toNat := (by rw [Ny170.out, List.length_drop] <;> omega); rw [show (t160).drop ((ji31) : Int).toNat = y170 from Ny170.out.symm] at hr40; replace hr40 : Kd.C (Kd.int .u8) _ A40 y170.length y170 := (by rw [hA40]; exact hr40); rw [← hy40, ← hA40, ← hc40] at hcut40; have HR173 := Aside0.mk hr40; have HC173 := Aside0.mk (show y170.length ≤ c40 from by rw [hy40, hc40]; exact Nat.sub_le_sub_right hroom40 _); clear hr40 hC40 hroom40 hi040 hsz40 hc40; have KY40 := Aside0.mk hy40; have KA40 := Aside0.mk hA40; clear hy40 hA40; have KL40 := Aside0.mk (show ((ji31) : Int).toNat ≤ t160.length from by omega); replace q40 := eq_true q40; obtain ⟨i041, hi041, _, hsz41, _⟩ := info_parts info5; obtain ⟨A41, hcut41, hA41, hC41⟩ := print_drop_of (P := Try.prog) (Value.int .u8) 0 23 5 .i64 Try.underlying23 hi041 hsz41 A0 c0 l0 (ji31) (of_decide_eq_true (by first | (with_reducible assumption) | assumption)) (of_decide_eq_true (by first | (with_reducible assumption) | assumption)) HC0.out; have HR174 := Aside0.mk (Kd.C_of_reads (h1 := fun _ => rfl) (hA41 _ (Kd.reads_of_C HR0.out))); have HC174 := Aside0.mk hC41; clear hA41 hC41 hi041 hsz41
                                obtain ⟨yc0, hyc0⟩ : ∃ y_ : List Int, y_ = (l0.take ((ji24) : Int).toNat) := ⟨_, rfl⟩
                                try rw [← hyc0] at HR167
                                try rw [← hyc0] at HC167
                                try rw [← hyc0] at HR168
                                try rw [← hyc0] at HC168
                                try rw [← hyc0] at HR173
                                try rw [← hyc0] at HC173
                                try rw [← hyc0] at HR174
                                try rw [← hyc0] at HC174
                                try rw [← hyc0] at A29
                                try rw [← hyc0] at A36
                                try rw [← hyc0] at hcut37
                                try rw [← hyc0] at hcut37
                                try rw [← hyc0] at hcut39
                                try rw [← hyc0] at hcut40
                                try rw [← hyc0] at hcut40
                                try rw [← hyc0] at hcut41
                                obtain ⟨yc1, hyc1⟩ : ∃ y_ : List Int, y_ = (l0.drop ((ji31) : Int).toNat) := ⟨_, rfl⟩
                                try rw [← hyc1] at HR167
                                try rw [← hyc1] at HC167
                                try rw [← hyc1] at HR168
                                try rw [← hyc1] at HC168
                                try rw [← hyc1] at HR173
                                try rw [← hyc1] at HC173
                                try rw [← hyc1] at HR174
                                try rw [← hyc1] at HC174
                                try rw [← hyc1] at A29
                                try rw [← hyc1] at A36
                                try rw [← hyc1] at hcut37
                                try rw [← hyc1] at hcut37
                                try rw [← hyc1] at hcut39
                                try rw [← hyc1] at hcut40
                                try rw [← hyc1] at hcut40
                                try rw [← hyc1] at hcut41
                                try rw [← hyc1] at hcut37
                                try rw [← hyc1] at hcut37
                                try rw [← hyc1] at hcut39
                                try rw [← hyc1] at hcut40
                                try rw [← hyc1] at hcut40
                                try rw [← hyc1] at hcut41
                                clear hyc0
                                clear hyc1
                                go_wp2_with (first | (go_at_call 14; (with_reducible refine (tattingref1_Same.calls _ _ y164 _ _ yc0 true _ ?side1 ?side2 ?side3 ?side4 A29.out).mono ?_); (case side1 => repeat (first | exact (by repeat (first | (with_reducible exact HR167.out) | (with_reducible refine Kd.C_alloc ?_ _) | (with_reducible refine Kd.C_drewN ?_ _) | (with_reducible refine Kd.C_drew ?_) | exact HR167.out)) | (with_reducible refine Kd.C_alloc ?_ _) | (with_reducible refine Kd.C_drewN ?_ _) | (with_reducible refine Kd.C_drew ?_))); (case side2 => exact HC167.out); (case side3 => repeat (first | exact (Kd.C_below HR168.out HB.out) | (with_reducible refine Kd.C_alloc ?_ _) | (with_reducible refine Kd.C_drewN ?_ _) | (with_reducible refine Kd.C_drew ?_))); (case side4 => exact HC168.out); rintro e w' ⟨rfl, ⟨nd, rfl⟩⟩; (try first | exact ⟨rfl, _, World.drewN_drewN _ _ _⟩ | exact ⟨rfl, _, Eq.trans (World.drewN_drewN _ _ _) (congrArg (World.drewN _) (Nat.add_assoc _ _ _))⟩)) | (go_at_call 14; (with_reducible refine (tattingref1_Same.calls _ _ y170 _ _ yc1 t175 _ ?side1 ?side2 ?side3 ?side4 A36.out).mono ?_); (case side1 => repeat (first | exact (by repeat (first | (with_reducible exact HR173.out) | (with_reducible refine Kd.C_alloc ?_ _) | (with_reducible refine Kd.C_drewN ?_ _) | (with_reducible refine Kd.C_drew ?_) | exact HR173.out)) | (with_reducible refine Kd.C_alloc ?_ _) | (with_reducible refine Kd.C_drewN ?_ _) | (with_reducible refine Kd.C_drew ?_))); (case side2 => exact HC173.out); (case side3 => repeat (first | exact (Kd.C_below HR174.out (by repeat (first | (with_reducible first | exact HB.out | apply below_alloc | apply pw_below_drewN | apply below_drew1) | exact HB.out))) | (with_reducible refine Kd.C_alloc ?_ _) | (with_reducible refine Kd.C_drewN ?_ _) | (with_reducible refine Kd.C_drew ?_))); (case side4 => exact HC174.out); rintro e w' ⟨rfl, ⟨nd, rfl⟩⟩; (try first | exact ⟨rfl, _, World.drewN_drewN _ _ _⟩ | exact ⟨rfl, _, Eq.trans (World.drewN_drewN _ _ _) (congrArg (World.drewN _) (Nat.add_assoc _ _ _))⟩)))
                                repeat (go_quiet (first | (go_at_call 14; (with_reducible refine (tattingref1_Same.calls _ _ y164 _ _ yc0 true _ ?side1 ?side2 ?side3 ?side4 A29.out).mono ?_); (case side1 => repeat (first | exact (by repeat (first | (with_reducible exact HR167.out) | (with_reducible refine Kd.C_alloc ?_ _) | (with_reducible refine Kd.C_drewN ?_ _) | (with_reducible refine Kd.C_drew ?_) | exact HR167.out)) | (with_reducible refine Kd.C_alloc ?_ _) | (with_reducible refine Kd.C_drewN ?_ _) | (with_reducible refine Kd.C_drew ?_))); (case side2 => exact HC167.out); (case side3 => repeat (first | exact (Kd.C_below HR168.out HB.out) | (with_reducible refine Kd.C_alloc ?_ _) | (with_reducible refine Kd.C_drewN ?_ _) | (with_reducible refine Kd.C_drew ?_))); (case side4 => exact HC168.out); rintro e w' ⟨rfl, ⟨nd, rfl⟩⟩; (try first | exact ⟨rfl, _, World.drewN_drewN _ _ _⟩ | exact ⟨rfl, _, Eq.trans (World.drewN_drewN _ _ _) (congrArg (World.drewN _) (Nat.add_assoc _ _ _))⟩)) | (go_at_call 14; (with_reducible refine (tattingref1_Same.calls _ _ y170 _ _ yc1 t175 _ ?side1 ?side2 ?side3 ?side4 A36.out).mono ?_); (case side1 => repeat (first | exact (by repeat (first | (with_reducible exact HR173.out) | (with_reducible refine Kd.C_alloc ?_ _) | (with_reducible refine Kd.C_drewN ?_ _) | (with_reducible refine Kd.C_drew ?_) | exact HR173.out)) | (with_reducible refine Kd.C_alloc ?_ _) | (with_reducible refine Kd.C_drewN ?_ _) | (with_reducible refine Kd.C_drew ?_))); (case side2 => exact HC173.out); (case side3 => repeat (first | exact (Kd.C_below HR174.out (by repeat (first | (with_reducible first | exact HB.out | apply below_alloc | apply pw_below_drewN | apply below_drew1) | exact HB.out))) | (with_reducible refine Kd.C_alloc ?_ _) | (with_reducible refine Kd.C_drewN ?_ _) | (with_reducible refine Kd.C_drew ?_))); (case side4 => exact HC174.out); rintro e w' ⟨rfl, ⟨nd, rfl⟩⟩; (try first | exact ⟨rfl, _, World.drewN_drewN _ _ _⟩ | exact ⟨rfl, _, Eq.trans (World.drewN_drewN _ _ _) (congrArg (World.drewN _) (Nat.add_assoc _ _ _))⟩))); try go_wp2_with (first | (go_at_call 14; (with_reducible refine (tattingref1_Same.calls _ _ y164 _ _ yc0 true _ ?side1 ?side2 ?side3 ?side4 A29.out).mono ?_); (case side1 => repeat (first | exact (by repeat (first | (with_reducible exact HR167.out) | (with_reducible refine Kd.C_alloc ?_ _) | (with_reducible refine Kd.C_drewN ?_ _) | (with_reducible refine Kd.C_drew ?_) | exact HR167.out)) | (with_reducible refine Kd.C_alloc ?_ _) | (with_reducible refine Kd.C_drewN ?_ _) | (with_reducible refine Kd.C_drew ?_))); (case side2 => exact HC167.out); (case side3 => repeat (first | exact (Kd.C_below HR168.out HB.out) | (with_reducible refine Kd.C_alloc ?_ _) | (with_reducible refine Kd.C_drewN ?_ _) | (with_reducible refine Kd.C_drew ?_))); (case side4 => exact HC168.out); rintro e w' ⟨rfl, ⟨nd, rfl⟩⟩; (try first | exact ⟨rfl, _, World.drewN_drewN _ _ _⟩ | exact ⟨rfl, _, Eq.trans (World.drewN_drewN _ _ _) (congrArg (World.drewN _) (Nat.add_assoc _ _ _))⟩)) | (go_at_call 14; (with_reducible refine (tattingref1_Same.calls _ _ y170 _ _ yc1 t175 _ ?side1 ?side2 ?side3 ?side4 A36.out).mono ?_); (case side1 => repeat (first | exact (by repeat (first | (with_reducible exact HR173.out) | (with_reducible refine Kd.C_alloc ?_ _) | (with_reducible refine Kd.C_drewN ?_ _) | (with_reducible refine Kd.C_drew ?_) | exact HR173.out)) | (with_reducible refine Kd.C_alloc ?_ _) | (with_reducible refine Kd.C_drewN ?_ _) | (with_reducible refine Kd.C_drew ?_))); (case side2 => exact HC173.out); (case side3 => repeat (first | exact (Kd.C_below HR174.out (by repeat (first | (with_reducible first | exact HB.out | apply below_alloc | apply pw_below_drewN | apply below_drew1) | exact HB.out))) | (with_reducible refine Kd.C_alloc ?_ _) | (with_reducible refine Kd.C_drewN ?_ _) | (with_reducible refine Kd.C_drew ?_))); (case side4 => exact HC174.out); rintro e w' ⟨rfl, ⟨nd, rfl⟩⟩; (try first | exact ⟨rfl, _, World.drewN_drewN _ _ _⟩ | exact ⟨rfl, _, Eq.trans (World.drewN_drewN _ _ _) (congrArg (World.drewN _) (Nat.add_assoc _ _ _))⟩))))
                                go_ret
                                exact ⟨by first | rfl | (simp [errW_none, errW_some] <;> rfl) | (simp only [← hji24, ← hji31]; first | rfl | (simp [errW_none, errW_some] <;> rfl)) | (simp [*, errW_none, errW_some] <;> rfl), by repeat (first | (with_reducible first | exact HB.out | apply below_alloc | apply pw_below_drewN | apply below_drew1) | exact HB.out)⟩
                              · rw [if_neg c35] at H
                                exact absurd H (by simp)
                            · rw [if_neg c33] at H
                              exact absurd H (by simp)
                          · rw [if_neg c32] at H
                            exact absurd H (by simp)
                        · replace c30 := Bool.eq_false_iff.mpr c30
                          subst c30
                          have H1 : (some false) = some r := by rw [if_neg (show ¬ (false = true) by decide)] at H; exact H
                          clear H
                          have H := H1
                          clear H1
                          exact absurd (Option.some.inj H) (by rw [HRT.out]; decide)
                      · rw [if_neg c28] at H
                        exact absurd H (by simp)
                    · rw [if_neg c26] at H
                      exact absurd H (by simp)
                  · rw [if_neg c25] at H
                    exact absurd H (by simp)
  · replace c6 := Bool.eq_false_iff.mpr c6
    subst c6
    have H1 : (some false) = some r := by rw [if_neg (show ¬ (false = true) by decide)] at H; exact H
    clear H
    have H := H1
    clear H1
    exact absurd (Option.some.inj H) (by rw [HRT.out]; decide)

/-- THE ONE PURE STATEMENT of tattinglaw12_DeltaPuts: yours. -/
def tattinglaw12_DeltaPuts.Pure : Prop := ∀ (l0 : List Int) (a1 : Int) (a2 : Int) (a3 : Int), l0.length ≤ maxLen → l0.length * 1 ≤ 140737488351232 → (∀ x ∈ l0, (Lit.int .u8 x).wf = true) → (Lit.int .u8 a1).wf = true → (Lit.int .u8 a2).wf = true → (Lit.int .u8 a3).wf = true → ∃ k, tattinglaw12_DeltaPuts.f k l0 a1 a2 a3 = some true
theorem tattinglaw12_DeltaPuts.walk (P : tattinglaw12_DeltaPuts.Pure) (a0 : Option Addr) (len0 cap0 : Nat) (z0 : List Int) (a1 : Int) (a2 : Int) (a3 : Int) (w : World) (w0 : (a0 = none ∧ len0 = 0 ∧ cap0 = 0 ∧ z0 = []) ∨ ∃ x, a0 = some x ∧ len0 ≤ cap0 ∧ cap0 ≤ maxLen ∧ z0.length = cap0 ∧ (∀ i, i < z0.length → w.cell? (x.add i) = some (.int .u8 (z0.getD i 0))) ∧ ∀ n ∈ z0, (Lit.int .u8 n).wf = true) (y0 : len0 * 1 ≤ 140737488351232) (w1 : (Lit.int .u8 a1).wf = true) (w2 : (Lit.int .u8 a2).wf = true) (w3 : (Lit.int .u8 a3).wf = true) :
    Calls Try.prog 7 #[.slice a0 len0 cap0, .int .u8 a1, .int .u8 a2, .int .u8 a3] w fun e w' => e = .returned (.bool true) ∧ Below w.heap.size w w' := by
  obtain ⟨l0, rfl, hr0, hm0, hw0, hc0⟩ := ReadsInt.ofRowC w0
  obtain ⟨k, h⟩ := P l0 a1 a2 a3 hm0 y0 hw0 w1 w2 w3
  refine (tattinglaw12_DeltaPuts.calls k _ _ l0 a1 a2 a3 true w (Kd.C_of_reads (d := (0 : Int)) (h1 := fun _ => rfl) hr0) hc0 h ⟨rfl⟩).mono ?_
  rintro e w' ⟨rfl, hd⟩
  exact ⟨rfl, hd⟩

end Go.Proofs.Ytjplieecdfbbjaa.PDeltaPuts
