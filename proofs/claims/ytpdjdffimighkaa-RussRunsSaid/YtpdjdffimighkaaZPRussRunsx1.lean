/- Words of the printer, those that are used. -/
import Derived.Test.YtpdjdffimighkaaZPRussRunsx0
namespace Go.Proofs.Ytpdjdffimighkaa.PRussRuns
open Go.RowKit Go.Proofs.YtpdjdffimighkaaW.PrintWords Go.Proofs.YtpdjdffimighkaaW.PrintLast Go.Proofs.YtpdjdffimighkaaW.PrintMore
attribute [local go_sem] max2_int min2_int max_two min_two max_three min_three max_four min_four   -- for this text's walks alone
set_option linter.unusedVariables false
set_option linter.unusedSimpArgs false
-- NOT PRINTED: function 16 (tile_New)
-- NOT PRINTED: function 7 (tattinglaw14_of)
-- NOT PRINTED: function 15 (tile_Tiles_Side)
/-! ### russ_up: function 19 -/
def russ_up.f (a0 : Int) (a1 : Int) : Option (Int) := if a1 = 0 then (none) else (some (wrap64 (Int.tdiv (wrap64 ((wrap64 (a0 + a1)) - 1)) a1)))
set_option maxHeartbeats 8000000 in
set_option maxRecDepth 100000 in
theorem russ_up.calls (a0 : Int) (a1 : Int) (r : Int) (w : World) (h : russ_up.f a0 a1 = some r) :
    Calls Try.prog 19 #[.int .i64 a0, .int .i64 a1] w fun e w' => e = .returned (.int .i64 r) ∧ Drawn0 w w' := by
  have H : (if a1 = 0 then (none) else (some (wrap64 (Int.tdiv (wrap64 ((wrap64 (a0 + a1)) - 1)) a1)))) = some r := h
  clear h
  by_cases c3 : a1 = 0
  · rw [if_pos c3] at H
    exact absurd H (by simp)
  · rw [if_neg c3] at H
    have c3b0 : (a1 == 0) = false := beq_eq_false_iff_ne.mpr c3
    have c3b1 : (a1 != 0) = true := bne_iff_ne.mpr c3
    obtain rfl := Option.some.inj H
    go_enter Try.func19, Try.ntmps19
    go_wp2
    go_ret
    exact ⟨by first | rfl | (simp; done) | (simp [*]; done), by repeat (first | exact Drawn0.refl _ | apply Drawn0.step)⟩
-- NOT PRINTED: function 34 (atomic_LoadUint32)
-- NOT PRINTED: function 30 (atomic_Bool_Load)
-- NOT PRINTED: function 42 (race_Disable)
-- NOT PRINTED: function 43 (atomic_CompareAndSwapInt32)
-- NOT PRINTED: function 44 (race_Enable)
-- NOT PRINTED: function 45 (race_Acquire)
-- NOT PRINTED: function 48 (atomic_AddInt32)
-- NOT PRINTED: function 50 (sync_runtime_canSpin)
-- NOT PRINTED: function 51 (sync_runtime_doSpin)
-- NOT PRINTED: function 52 (sync_throw)
-- NOT PRINTED: function 53 (sync_runtime_nanotime)
-- NOT PRINTED: function 54 (sync_runtime_SemacquireMutex)
-- NOT PRINTED: function 46 (sync_Mutex_lockSlow)
-- NOT PRINTED: function 38 (sync_Mutex_Lock_38)
-- NOT PRINTED: function 35 (sync_Mutex_Lock_35)
-- NOT PRINTED: function 47 (race_ReleaseMerge)
-- NOT PRINTED: function 55 (sync_fatal)
-- NOT PRINTED: function 56 (sync_runtime_Semrelease)
-- NOT PRINTED: function 49 (sync_Mutex_unlockSlow)
-- NOT PRINTED: function 39 (sync_Mutex_Unlock_39)
-- NOT PRINTED: function 36 (sync_Mutex_Unlock_36)
-- NOT PRINTED: function 40 (atomic_StoreUint32)
/-! ### atomic_b32: function 41 -/
def atomic_b32.f (a0 : Bool) : Option (Int) := if a0 = true then (some 1) else (some 0)
-- NOT PRINTED: function 37 (atomic_Bool_Store)
-- NOT PRINTED: function 31 (sync_Once_doSlow)
-- NOT PRINTED: function 27 (sync_Once_Do)
-- NOT PRINTED: function 32 (tile_Tiles_Size)
-- NOT PRINTED: function 33 (tile_square)
-- NOT PRINTED: function 28 (tile_Tiles_work)
-- NOT PRINTED: function 23 (tile_Tiles_Look)
/-! ### russ_eq: function 24 -/
mutual
def russ_eq.l0 : Nat → List Int → List Int → Int → Int → Int → Int → Int → Option (Int)
  | 0, _, _, _, _, _, _, _ => none
  | k + 1, x0, x1, x2, x3, x4, x11, x12 => if x12 < x4 then (russ_eq.j1 k x0 x1 x2 x3 x4 x11 x12 (decide ((wrap64 (x2 + x12)) < (x0.length : Int)))) else (russ_eq.j1 k x0 x1 x2 x3 x4 x11 x12 false)
def russ_eq.j1 : Nat → List Int → List Int → Int → Int → Int → Int → Int → Bool → Option (Int)
  | 0, _, _, _, _, _, _, _, _ => none
  | k + 1, x0, x1, x2, x3, x4, x11, x12, x24 => if x24 = true then (russ_eq.l1 k x0 x1 x2 x3 x4 x11 x12 0) else (some x11)
def russ_eq.l1 : Nat → List Int → List Int → Int → Int → Int → Int → Int → Int → Option (Int)
  | 0, _, _, _, _, _, _, _, _ => none
  | k + 1, x0, x1, x2, x3, x4, x11, x12, x13 => if x13 < x4 then (russ_eq.j3 k x0 x1 x2 x3 x4 x11 x12 x13 (decide ((wrap64 (x3 + x13)) < (x1.length : Int)))) else (russ_eq.j3 k x0 x1 x2 x3 x4 x11 x12 x13 false)
def russ_eq.j3 : Nat → List Int → List Int → Int → Int → Int → Int → Int → Int → Bool → Option (Int)
  | 0, _, _, _, _, _, _, _, _, _ => none
  | k + 1, x0, x1, x2, x3, x4, x11, x12, x13, x37 => if x37 = true then (if 0 ≤ (wrap64 (x2 + x12)) then (if (wrap64 (x2 + x12)) < (x0.length : Int) then (if 0 ≤ (wrap64 (x3 + x13)) then (if (wrap64 (x3 + x13)) < (x1.length : Int) then (if (rd x0 (wrap64 (x2 + x12))) = (rd x1 (wrap64 (x3 + x13))) then (if 0 ≤ (wrap64 ((wrap64 (x12 * x4)) + x13)) then (russ_eq.l1 k x0 x1 x2 x3 x4 (Go.bits .or .i64 x11 (shl .i64 1 (wrap64 ((wrap64 (x12 * x4)) + x13)))) x12 (wrap64 (x13 + 1))) else (none)) else (russ_eq.l1 k x0 x1 x2 x3 x4 x11 x12 (wrap64 (x13 + 1)))) else (none)) else (none)) else (none)) else (none)) else (russ_eq.l0 k x0 x1 x2 x3 x4 x11 (wrap64 (x12 + 1)))
end
def russ_eq.f (k : Nat) (l0 : List Int) (l1 : List Int) (a2 : Int) (a3 : Int) (a4 : Int) : Option (Int) := russ_eq.l0 k l0 l1 a2 a3 a4 0 0
theorem russ_eq.mono_l : ∀ k, (∀ y0 y1 y2 y3 y4 y5 y6, LeO (russ_eq.l0 k y0 y1 y2 y3 y4 y5 y6) (russ_eq.l0 (k + 1) y0 y1 y2 y3 y4 y5 y6)) ∧ (∀ y0 y1 y2 y3 y4 y5 y6 y7, LeO (russ_eq.j1 k y0 y1 y2 y3 y4 y5 y6 y7) (russ_eq.j1 (k + 1) y0 y1 y2 y3 y4 y5 y6 y7)) ∧ (∀ y0 y1 y2 y3 y4 y5 y6 y7, LeO (russ_eq.l1 k y0 y1 y2 y3 y4 y5 y6 y7) (russ_eq.l1 (k + 1) y0 y1 y2 y3 y4 y5 y6 y7)) ∧ (∀ y0 y1 y2 y3 y4 y5 y6 y7 y8, LeO (russ_eq.j3 k y0 y1 y2 y3 y4 y5 y6 y7 y8) (russ_eq.j3 (k + 1) y0 y1 y2 y3 y4 y5 y6 y7 y8))
  | 0 => ⟨fun _ _ _ _ _ _ _ r h => by simp [russ_eq.l0] at h, fun _ _ _ _ _ _ _ _ r h => by simp [russ_eq.j1] at h, fun _ _ _ _ _ _ _ _ r h => by simp [russ_eq.l1] at h, fun _ _ _ _ _ _ _ _ _ r h => by simp [russ_eq.j3] at h⟩
  | k + 1 => by
    obtain ⟨ih0, ih1, ih2, ih3⟩ := russ_eq.mono_l k
    refine ⟨?_, ?_, ?_, ?_⟩
    · intro y0 y1 y2 y3 y4 y5 y6
      unfold russ_eq.l0
      repeat' first
      | (with_reducible exact ih0 _ _ _ _ _ _ _)
      | (with_reducible exact ih1 _ _ _ _ _ _ _ _)
      | (with_reducible exact ih2 _ _ _ _ _ _ _ _)
      | (with_reducible exact ih3 _ _ _ _ _ _ _ _ _)
      | (with_reducible exact LeO.refl _)
      | (with_reducible exact LeO.none _)
      | (with_reducible refine LeO.ite ?_ ?_)
      | (with_reducible refine LeO.bind ?_ (fun _ => ?_))
      | exact ih0 _ _ _ _ _ _ _
      | exact ih1 _ _ _ _ _ _ _ _
      | exact ih2 _ _ _ _ _ _ _ _
      | exact ih3 _ _ _ _ _ _ _ _ _
      | exact LeO.none _
      | refine LeO.ite ?_ ?_
      | refine LeO.bind ?_ (fun _ => ?_)
    · intro y0 y1 y2 y3 y4 y5 y6 y7
      unfold russ_eq.j1
      repeat' first
      | (with_reducible exact ih0 _ _ _ _ _ _ _)
      | (with_reducible exact ih1 _ _ _ _ _ _ _ _)
      | (with_reducible exact ih2 _ _ _ _ _ _ _ _)
      | (with_reducible exact ih3 _ _ _ _ _ _ _ _ _)
      | (with_reducible exact LeO.refl _)
      | (with_reducible exact LeO.none _)
      | (with_reducible refine LeO.ite ?_ ?_)
      | (with_reducible refine LeO.bind ?_ (fun _ => ?_))
      | exact ih0 _ _ _ _ _ _ _
      | exact ih1 _ _ _ _ _ _ _ _
      | exact ih2 _ _ _ _ _ _ _ _
      | exact ih3 _ _ _ _ _ _ _ _ _
      | exact LeO.none _
      | refine LeO.ite ?_ ?_
      | refine LeO.bind ?_ (fun _ => ?_)
    · intro y0 y1 y2 y3 y4 y5 y6 y7
      unfold russ_eq.l1
      repeat' first
      | (with_reducible exact ih0 _ _ _ _ _ _ _)
      | (with_reducible exact ih1 _ _ _ _ _ _ _ _)
      | (with_reducible exact ih2 _ _ _ _ _ _ _ _)
      | (with_reducible exact ih3 _ _ _ _ _ _ _ _ _)
      | (with_reducible exact LeO.refl _)
      | (with_reducible exact LeO.none _)
      | (with_reducible refine LeO.ite ?_ ?_)
      | (with_reducible refine LeO.bind ?_ (fun _ => ?_))
      | exact ih0 _ _ _ _ _ _ _
      | exact ih1 _ _ _ _ _ _ _ _
      | exact ih2 _ _ _ _ _ _ _ _
      | exact ih3 _ _ _ _ _ _ _ _ _
      | exact LeO.none _
      | refine LeO.ite ?_ ?_
      | refine LeO.bind ?_ (fun _ => ?_)
    · intro y0 y1 y2 y3 y4 y5 y6 y7 y8
      unfold russ_eq.j3
      repeat' first
      | (with_reducible exact ih0 _ _ _ _ _ _ _)
      | (with_reducible exact ih1 _ _ _ _ _ _ _ _)
      | (with_reducible exact ih2 _ _ _ _ _ _ _ _)
      | (with_reducible exact ih3 _ _ _ _ _ _ _ _ _)
      | (with_reducible exact LeO.refl _)
      | (with_reducible exact LeO.none _)
      | (with_reducible refine LeO.ite ?_ ?_)
      | (with_reducible refine LeO.bind ?_ (fun _ => ?_))
      | exact ih0 _ _ _ _ _ _ _
      | exact ih1 _ _ _ _ _ _ _ _
      | exact ih2 _ _ _ _ _ _ _ _
      | exact ih3 _ _ _ _ _ _ _ _ _
      | exact LeO.none _
      | refine LeO.ite ?_ ?_
      | refine LeO.bind ?_ (fun _ => ?_)
theorem russ_eq.mono : ∀ a0 a1 a2 a3 a4 k, LeO (russ_eq.f k a0 a1 a2 a3 a4) (russ_eq.f (k + 1) a0 a1 a2 a3 a4) := by
  intro a0 a1 a2 a3 a4 k
  obtain ⟨ih0, ih1, ih2, ih3⟩ := russ_eq.mono_l k
  unfold russ_eq.f
  repeat' first
      | (with_reducible exact ih0 _ _ _ _ _ _ _)
      | (with_reducible exact ih1 _ _ _ _ _ _ _ _)
      | (with_reducible exact ih2 _ _ _ _ _ _ _ _)
      | (with_reducible exact ih3 _ _ _ _ _ _ _ _ _)
      | (with_reducible exact LeO.refl _)
      | (with_reducible exact LeO.none _)
      | (with_reducible refine LeO.ite ?_ ?_)
      | (with_reducible refine LeO.bind ?_ (fun _ => ?_))
      | exact ih0 _ _ _ _ _ _ _
      | exact ih1 _ _ _ _ _ _ _ _
      | exact ih2 _ _ _ _ _ _ _ _
      | exact ih3 _ _ _ _ _ _ _ _ _
      | exact LeO.none _
      | refine LeO.ite ?_ ?_
      | refine LeO.bind ?_ (fun _ => ?_)
set_option maxHeartbeats 8000000 in
set_option maxRecDepth 100000 in
theorem russ_eq.calls (k : Nat) (A0 : Option Addr) (c0 : Nat) (l0 : List Int) (A1 : Option Addr) (c1 : Nat) (l1 : List Int) (a2 : Int) (a3 : Int) (a4 : Int) (r : Int) (w : World) (hr0 : Kd.C (Kd.int .i64) w A0 l0.length l0) (hc0 : l0.length ≤ c0) (hr1 : Kd.C (Kd.int .i64) w A1 l1.length l1) (hc1 : l1.length ≤ c1) (h : russ_eq.f k l0 l1 a2 a3 a4 = some r) :
    Calls Try.prog 24 #[.slice A0 l0.length c0, .slice A1 l1.length c1, .int .i64 a2, .int .i64 a3, .int .i64 a4] w fun e w' => e = .returned (.int .i64 r) ∧ Drawn0 w w' := by
  have HR0 := Aside0.mk hr0
  have HC0 := Aside0.mk hc0
  clear hr0 hc0
  have HR1 := Aside0.mk hr1
  have HC1 := Aside0.mk hc1
  clear hr1 hc1
  have H : (russ_eq.l0 k l0 l1 a2 a3 a4 0 0) = some r := h
  clear h
  have H' := Aside0.mk H
  clear H
  go_enter Try.func24, Try.ntmps24
  go_wp2
  repeat (go_quiet (fail); try go_wp2)
  go_loopg [11, 12] k (fun kq v11 v12 w' => ∃ (x11_1 : Int) (x12_1 : Int), v11 = .int .i64 x11_1 ∧ v12 = .int .i64 x12_1 ∧ Aside0 (russ_eq.l0 kq l0 l1 a2 a3 a4 x11_1 x12_1 = some r) ∧ Aside0 (kq ≤ k) ∧ Drawn0 w w')
  case atStart => exact ⟨(0), (0), (by first | rfl | (simp; done) | (simp [*]; done)), (by first | rfl | (simp; done) | (simp [*]; done)), H', ⟨Nat.le_refl _⟩, by repeat (first | exact Drawn0.refl _ | apply Drawn0.step)⟩
  case round =>
    clear H'
    try clear c1
    try clear c2
    try clear p2
    obtain ⟨x11_1, x12_1, rfl, rfl, HA, HK1, ⟨m1, rfl⟩⟩ := hrel
    cases gk with
    | zero => exact absurd HA.out (by simp [russ_eq.l0])
    | succ k1 =>
      have H := HA.out
      clear HA
      simp only [russ_eq.l0] at H
      have HC6 := Aside0.mk H
      clear H
      go_upto_region 3 with (fail)
      repeat (go_quiet (fail); go_upto_region 3 with (fail))
      go_cut [24] (fun v24 wc => ∃ (kq : Nat) (x24_5 : Bool), v24 = .bool x24_5 ∧ Aside0 (russ_eq.j1 kq l0 l1 a2 a3 a4 x11_1 x12_1 x24_5 = some r) ∧ Aside0 (kq ≤ k1) ∧ Drawn0 w wc)
      case first =>
        have H := HC6.out
        clear HC6
        by_cases c7 : x12_1 < a4
        · rw [if_pos c7] at H
          have c7b0 : decide (x12_1 < a4) = true := decide_eq_true c7
          clear c7
          (first | rw [c7b0] | (simp only [i64_w, i32_w]; rw [c7b0]) | skip)
          have H' := Aside0.mk H
          clear H
          go_wp2
          repeat (go_quiet (fail); try go_wp2)
          go_meet
          case rel => exact ⟨_, (decide ((wrap64 (a2 + x12_1)) < (l0.length : Int))), (by first | rfl | (simp; done) | (simp [*]; done)), H', ⟨by have := HK1.out; first | omega | exact Nat.le_refl _⟩, by repeat (first | exact Drawn0.refl _ | apply Drawn0.step)⟩
        · rw [if_neg c7] at H
          have c7b0 : decide (x12_1 < a4) = false := decide_eq_false c7
          clear c7
          (first | rw [c7b0] | (simp only [i64_w, i32_w]; rw [c7b0]) | skip)
          have H' := Aside0.mk H
          clear H
          go_wp2
          repeat (go_quiet (fail); try go_wp2)
          go_meet
          case rel => exact ⟨_, (false), (by first | rfl | (simp; done) | (simp [*]; done)), H', ⟨by have := HK1.out; first | omega | exact Nat.le_refl _⟩, by repeat (first | exact Drawn0.refl _ | apply Drawn0.step)⟩
      case rest =>
        clear HC6
        try clear c1
        try clear c2
        try clear p2
        try clear p6
        try clear c7
        try clear c7b0
        try clear p2
        obtain ⟨kq, x24_5, rfl, HA, HJ5, ⟨mc5, rfl⟩⟩ := hcut
        cases kq with
        | zero => exact absurd HA.out (by simp [russ_eq.j1])
        | succ kj5 =>
          have H := HA.out
          clear HA
          simp only [russ_eq.j1] at H
          by_cases c8 : x24_5 = true
          · subst c8
            have H1 : (russ_eq.l1 kj5 l0 l1 a2 a3 a4 x11_1 x12_1 0) = some r := by rw [if_pos rfl] at H; exact H
            clear H
            have H := H1
            clear H1
            have H' := Aside0.mk H
            clear H
            go_wp2
            repeat (go_quiet (fail); try go_wp2)
            go_loopg [11, 13] kj5 (fun kq v11 v13 w' => ∃ (x11_3 : Int) (x13_3 : Int), v11 = .int .i64 x11_3 ∧ v13 = .int .i64 x13_3 ∧ Aside0 (russ_eq.l1 kq l0 l1 a2 a3 a4 x11_3 x12_1 x13_3 = some r) ∧ Aside0 (kq ≤ kj5) ∧ Drawn0 w w')
            case atStart => exact ⟨(x11_1), (0), (by first | rfl | (simp; done) | (simp [*]; done)), (by first | rfl | (simp; done) | (simp [*]; done)), H', ⟨Nat.le_refl _⟩, by repeat (first | exact Drawn0.refl _ | apply Drawn0.step)⟩
            case round =>
              clear H'
              try clear c1
              try clear c2
              try clear p2
              try clear c5
              try clear p6
              try clear c7
              try clear c7b0
              try clear c8
              try clear p2
              try clear p6
              obtain ⟨x11_3, x13_3, rfl, rfl, HA, HK3, ⟨m3, rfl⟩⟩ := hrel
              cases gk with
              | zero => exact absurd HA.out (by simp [russ_eq.l1])
              | succ k3 =>
                have H := HA.out
                clear HA
                simp only [russ_eq.l1] at H
                have HC9 := Aside0.mk H
                clear H
                go_upto_region 6 with (fail)
                repeat (go_quiet (fail); go_upto_region 6 with (fail))
                go_cut [37] (fun v37 wc => ∃ (kq : Nat) (x37_8 : Bool), v37 = .bool x37_8 ∧ Aside0 (russ_eq.j3 kq l0 l1 a2 a3 a4 x11_3 x12_1 x13_3 x37_8 = some r) ∧ Aside0 (kq ≤ k3) ∧ Drawn0 w wc)
                case first =>
                  have H := HC9.out
                  clear HC9
                  by_cases c10 : x13_3 < a4
                  · rw [if_pos c10] at H
                    have c10b0 : decide (x13_3 < a4) = true := decide_eq_true c10
                    clear c10
                    (first | rw [c10b0] | (simp only [i64_w, i32_w]; rw [c10b0]) | skip)
                    have H' := Aside0.mk H
                    clear H
                    go_wp2
                    repeat (go_quiet (fail); try go_wp2)
                    go_meet
                    case rel => exact ⟨_, (decide ((wrap64 (a3 + x13_3)) < (l1.length : Int))), (by first | rfl | (simp; done) | (simp [*]; done)), H', ⟨by have := HK1.out; have := HJ5.out; have := HK3.out; first | omega | exact Nat.le_refl _⟩, by repeat (first | exact Drawn0.refl _ | apply Drawn0.step)⟩
                  · rw [if_neg c10] at H
                    have c10b0 : decide (x13_3 < a4) = false := decide_eq_false c10
                    clear c10
                    (first | rw [c10b0] | (simp only [i64_w, i32_w]; rw [c10b0]) | skip)
                    have H' := Aside0.mk H
                    clear H
                    go_wp2
                    repeat (go_quiet (fail); try go_wp2)
                    go_meet
                    case rel => exact ⟨_, (false), (by first | rfl | (simp; done) | (simp [*]; done)), H', ⟨by have := HK1.out; have := HJ5.out; have := HK3.out; first | omega | exact Nat.le_refl _⟩, by repeat (first | exact Drawn0.refl _ | apply Drawn0.step)⟩
                case rest =>
                  clear HC9
                  try clear c1
                  try clear c2
                  try clear p2
                  try clear c5
                  try clear p6
                  try clear c7
                  try clear c7b0
                  try clear c8
                  try clear c10
                  try clear c10b0
                  try clear p2
                  try clear p6
                  obtain ⟨kq, x37_8, rfl, HA, HJ8, ⟨mc8, rfl⟩⟩ := hcut
                  cases kq with
                  | zero => exact absurd HA.out (by simp [russ_eq.j3])
                  | succ kj8 =>
                    have H := HA.out
                    clear HA
                    simp only [russ_eq.j3] at H
                    by_cases c11 : x37_8 = true
                    · subst c11
                      have H1 : (if 0 ≤ (wrap64 (a2 + x12_1)) then (if (wrap64 (a2 + x12_1)) < (l0.length : Int) then (if 0 ≤ (wrap64 (a3 + x13_3)) then (if (wrap64 (a3 + x13_3)) < (l1.length : Int) then (if (rd l0 (wrap64 (a2 + x12_1))) = (rd l1 (wrap64 (a3 + x13_3))) then (if 0 ≤ (wrap64 ((wrap64 (x12_1 * a4)) + x13_3)) then (russ_eq.l1 kj8 l0 l1 a2 a3 a4 (Go.bits .or .i64 x11_3 (shl .i64 1 (wrap64 ((wrap64 (x12_1 * a4)) + x13_3)))) x12_1 (wrap64 (x13_3 + 1))) else (none)) else (russ_eq.l1 kj8 l0 l1 a2 a3 a4 x11_3 x12_1 (wrap64 (x13_3 + 1)))) else (none)) else (none)) else (none)) else (none)) = some r := by rw [if_pos rfl] at H; exact H
                      clear H
                      have H := H1
                      clear H1
                      obtain ⟨ji12, hji12⟩ : ∃ j_ : Int, (wrap64 (a2 + x12_1)) = j_ := ⟨_, rfl⟩
                      replace H : (if 0 ≤ (ji12) then (if (ji12) < (l0.length : Int) then (if 0 ≤ (wrap64 (a3 + x13_3)) then (if (wrap64 (a3 + x13_3)) < (l1.length : Int) then (if (rd l0 (ji12)) = (rd l1 (wrap64 (a3 + x13_3))) then (if 0 ≤ (wrap64 ((wrap64 (x12_1 * a4)) + x13_3)) then (russ_eq.l1 kj8 l0 l1 a2 a3 a4 (Go.bits .or .i64 x11_3 (shl .i64 1 (wrap64 ((wrap64 (x12_1 * a4)) + x13_3)))) x12_1 (wrap64 (x13_3 + 1))) else (none)) else (russ_eq.l1 kj8 l0 l1 a2 a3 a4 x11_3 x12_1 (wrap64 (x13_3 + 1)))) else (none)) else (none)) else (none)) else (none)) = some r := by first | (rw [hji12] at H; exact H) | (simp only [hji12] at H ⊢; exact H)
                      have hji12w : (IntKind.i64.wrap (a2 + x12_1)) = ji12 := (i64_w _).trans hji12
                      by_cases c13 : 0 ≤ (ji12)
                      · rw [if_pos c13] at H
                        have c13b0 : decide (0 ≤ (ji12)) = true := decide_eq_true c13
                        clear c13
                        by_cases c14 : (ji12) < (l0.length : Int)
                        · rw [if_pos c14] at H
                          have c14b0 : decide ((ji12) < (l0.length : Int)) = true := decide_eq_true c14
                          clear c14
                          obtain ⟨ji15, hji15⟩ : ∃ j_ : Int, (wrap64 (a3 + x13_3)) = j_ := ⟨_, rfl⟩
                          replace H : (if 0 ≤ (ji15) then (if (ji15) < (l1.length : Int) then (if (rd l0 (ji12)) = (rd l1 (ji15)) then (if 0 ≤ (wrap64 ((wrap64 (x12_1 * a4)) + x13_3)) then (russ_eq.l1 kj8 l0 l1 a2 a3 a4 (Go.bits .or .i64 x11_3 (shl .i64 1 (wrap64 ((wrap64 (x12_1 * a4)) + x13_3)))) x12_1 (wrap64 (x13_3 + 1))) else (none)) else (russ_eq.l1 kj8 l0 l1 a2 a3 a4 x11_3 x12_1 (wrap64 (x13_3 + 1)))) else (none)) else (none)) = some r := by first | (rw [hji15] at H; exact H) | (simp only [hji15] at H ⊢; exact H)
                          have hji15w : (IntKind.i64.wrap (a3 + x13_3)) = ji15 := (i64_w _).trans hji15
                          by_cases c16 : 0 ≤ (ji15)
                          · rw [if_pos c16] at H
                            have c16b0 : decide (0 ≤ (ji15)) = true := decide_eq_true c16
                            clear c16
                            by_cases c17 : (ji15) < (l1.length : Int)
                            · rw [if_pos c17] at H
                              have c17b0 : decide ((ji15) < (l1.length : Int)) = true := decide_eq_true c17
                              clear c17
                              by_cases c18 : (rd l0 (ji12)) = (rd l1 (ji15))
                              · rw [if_pos c18] at H
                                have c18b0 : ((rd l0 (ji12)) == (rd l1 (ji15))) = true := beq_iff_eq.mpr c18
                                have c18b1 : ((rd l0 (ji12)) != (rd l1 (ji15))) = false := bne_eq_false_iff_eq.mpr c18
                                clear c18
                                obtain ⟨ji19, hji19⟩ : ∃ j_ : Int, (wrap64 ((wrap64 (x12_1 * a4)) + x13_3)) = j_ := ⟨_, rfl⟩
                                replace H : (if 0 ≤ (ji19) then (russ_eq.l1 kj8 l0 l1 a2 a3 a4 (Go.bits .or .i64 x11_3 (shl .i64 1 (ji19))) x12_1 (wrap64 (x13_3 + 1))) else (none)) = some r := by first | (rw [hji19] at H; exact H) | (simp only [hji19] at H ⊢; exact H)
                                have hji19w : (IntKind.i64.wrap ((wrap64 (x12_1 * a4)) + x13_3)) = ji19 := (i64_w _).trans hji19
                                by_cases c20 : 0 ≤ (ji19)
                                · rw [if_pos c20] at H
                                  have c20b0 := eq_true c20
                                  have c20b1 : decide (0 ≤ (ji19)) = true := decide_eq_true c20
                                  clear c20
                                  obtain ⟨ji21, hji21⟩ : ∃ j_ : Int, (shl .i64 1 (ji19)) = j_ := ⟨_, rfl⟩
                                  replace H : (russ_eq.l1 kj8 l0 l1 a2 a3 a4 (Go.bits .or .i64 x11_3 (ji21)) x12_1 (wrap64 (x13_3 + 1))) = some r := by first | (rw [hji21] at H; exact H) | (simp only [hji21] at H ⊢; exact H)
                                  have hji21_ : (IntKind.i64.wrap (1 * 2 ^ min (ji19).toNat 64)) = ji21 := hji21
                                  have hji21z : (ji19) ≤ 64 → (IntKind.i64.wrap (1 * 2 ^ (ji19).toNat)) = ji21 := shl_small hji21
                                  have hji21u : (IntKind.i64.wrap (2 ^ min (ji19).toNat 64)) = ji21 := by have h_ := hji21_; rw [Int.one_mul] at h_; exact h_
                                  have hji21v : (ji19) ≤ 64 → (IntKind.i64.wrap (2 ^ (ji19).toNat)) = ji21 := fun hle_ => by have h_ := hji21z hle_; rw [Int.one_mul] at h_; exact h_
                                  have hji21y : (wrap64 (1 * 2 ^ min (ji19).toNat 64)) = ji21 := (i64_w _).symm.trans hji21_
                                  have hji21x : (ji19) ≤ 64 → (wrap64 (1 * 2 ^ (ji19).toNat)) = ji21 := fun h_ => (i64_w _).symm.trans (hji21z h_)
                                  have H' := Aside0.mk H
                                  clear H
                                  have p101 : 0 ≤ ((ji12) : Int) := of_decide_eq_true (by first | (with_reducible assumption) | assumption)
                                  have q101 : (ji12) < (l0.length : Int) := of_decide_eq_true (by first | (with_reducible assumption) | assumption)
                                  obtain ⟨ad101, e101, hx101_0⟩ := Kd.at_int HR0.out (ji12) p101 q101
                                  cases e101
                                  replace p101 := eq_true p101
                                  replace q101 := eq_true q101
                                  have p102 : 0 ≤ ((ji15) : Int) := of_decide_eq_true (by first | (with_reducible assumption) | assumption)
                                  have q102 : (ji15) < (l1.length : Int) := of_decide_eq_true (by first | (with_reducible assumption) | assumption)
                                  obtain ⟨ad102, e102, hx102_0⟩ := Kd.at_int HR1.out (ji15) p102 q102
                                  cases e102
                                  replace p102 := eq_true p102
                                  replace q102 := eq_true q102
                                  go_wp2
                                  repeat (go_quiet (fail); try go_wp2)
                                  go_roundg kj8
                                  case measure => have := HK1.out; have := HJ5.out; have := HK3.out; have := HJ8.out; omega
                                  case rel => exact ⟨(Go.bits .or .i64 x11_3 (ji21)), (wrap64 (x13_3 + 1)), (by first | rfl | (simp; done) | (simp only [← hji21] <;> (first | rfl | simp)) | (simp [*]; done)), (by first | rfl | (simp; done) | (simp [*]; done)), H', ⟨by have := HK1.out; have := HJ5.out; have := HK3.out; have := HJ8.out; omega⟩, by repeat (first | exact Drawn0.refl _ | apply Drawn0.step)⟩
                                · rw [if_neg c20] at H
                                  exact absurd H (by simp)
                              · rw [if_neg c18] at H
                                have c18b0 : ((rd l0 (ji12)) == (rd l1 (ji15))) = false := beq_eq_false_iff_ne.mpr c18
                                have c18b1 : ((rd l0 (ji12)) != (rd l1 (ji15))) = true := bne_iff_ne.mpr c18
                                have H' := Aside0.mk H
                                clear H
                                have p101 : 0 ≤ ((ji12) : Int) := of_decide_eq_true (by first | (with_reducible assumption) | assumption)
                                have q101 : (ji12) < (l0.length : Int) := of_decide_eq_true (by first | (with_reducible assumption) | assumption)
                                obtain ⟨ad101, e101, hx101_0⟩ := Kd.at_int HR0.out (ji12) p101 q101
                                cases e101
                                replace p101 := eq_true p101
                                replace q101 := eq_true q101
                                have p102 : 0 ≤ ((ji15) : Int) := of_decide_eq_true (by first | (with_reducible assumption) | assumption)
                                have q102 : (ji15) < (l1.length : Int) := of_decide_eq_true (by first | (with_reducible assumption) | assumption)
                                obtain ⟨ad102, e102, hx102_0⟩ := Kd.at_int HR1.out (ji15) p102 q102
                                cases e102
                                replace p102 := eq_true p102
                                replace q102 := eq_true q102
                                go_wp2
                                repeat (go_quiet (fail); try go_wp2)
                                go_roundg kj8
                                case measure => have := HK1.out; have := HJ5.out; have := HK3.out; have := HJ8.out; omega
                                case rel => exact ⟨(x11_3), (wrap64 (x13_3 + 1)), (by first | rfl | (simp; done) | (simp [*]; done)), (by first | rfl | (simp; done) | (simp [*]; done)), H', ⟨by have := HK1.out; have := HJ5.out; have := HK3.out; have := HJ8.out; omega⟩, by repeat (first | exact Drawn0.refl _ | apply Drawn0.step)⟩
                            · rw [if_neg c17] at H
                              exact absurd H (by simp)
                          · rw [if_neg c16] at H
                            exact absurd H (by simp)
                        · rw [if_neg c14] at H
                          exact absurd H (by simp)
                      · rw [if_neg c13] at H
                        exact absurd H (by simp)
                    · replace c11 := Bool.eq_false_iff.mpr c11
                      subst c11
                      have H1 : (russ_eq.l0 kj8 l0 l1 a2 a3 a4 x11_3 (wrap64 (x12_1 + 1))) = some r := by rw [if_neg (show ¬ (false = true) by decide)] at H; exact H
                      clear H
                      have H := H1
                      clear H1
                      have H' := Aside0.mk H
                      clear H
                      go_wp2
                      repeat (go_quiet (fail); try go_wp2)
                      go_roundg kj8
                      case measure => have := HK1.out; have := HJ5.out; have := HK3.out; have := HJ8.out; omega
                      case rel => exact ⟨(x11_3), (wrap64 (x12_1 + 1)), (by first | rfl | (simp; done) | (simp [*]; done)), (by first | rfl | (simp; done) | (simp [*]; done)), H', ⟨by have := HK1.out; have := HJ5.out; have := HK3.out; have := HJ8.out; omega⟩, by repeat (first | exact Drawn0.refl _ | apply Drawn0.step)⟩
          · replace c8 := Bool.eq_false_iff.mpr c8
            subst c8
            have H1 : (some x11_1) = some r := by rw [if_neg (show ¬ (false = true) by decide)] at H; exact H
            clear H
            have H := H1
            clear H1
            obtain rfl := Option.some.inj H
            go_wp2
            repeat (go_quiet (fail); try go_wp2)
            go_ret
            exact ⟨by first | rfl | (simp; done) | (simp [*]; done), by repeat (first | exact Drawn0.refl _ | apply Drawn0.step)⟩
/-! ### delta_looks: function 29 -/
def delta_looks.f (l0 : List Int) (a1 : Int) (a2 : Int) : Option (Bool) := if a1 ≥ 0 then (if a1 < (l0.length : Int) then (if a2 ≥ 1 then (some (decide (a2 ≤ 3))) else (some false)) else (some false)) else (some false)
set_option maxHeartbeats 8000000 in
set_option maxRecDepth 100000 in
theorem delta_looks.calls (A0 : Option Addr) (c0 : Nat) (l0 : List Int) (a1 : Int) (a2 : Int) (r : Bool) (w : World) (hr0 : Kd.C (Kd.int .u8) w A0 l0.length l0) (hc0 : l0.length ≤ c0) (h : delta_looks.f l0 a1 a2 = some r) :
    Calls Try.prog 29 #[.slice A0 l0.length c0, .int .i64 a1, .int .i64 a2] w fun e w' => e = .returned (.bool r) ∧ Drawn0 w w' := by
  have HR0 := Aside0.mk hr0
  have HC0 := Aside0.mk hc0
  clear hr0 hc0
  have H : (if a1 ≥ 0 then (if a1 < (l0.length : Int) then (if a2 ≥ 1 then (some (decide (a2 ≤ 3))) else (some false)) else (some false)) else (some false)) = some r := h
  clear h
  by_cases c4 : a1 ≥ 0
  · rw [if_pos c4] at H
    have c4b0 : decide (0 ≤ a1) = true := decide_eq_true c4
    clear c4
    by_cases c5 : a1 < (l0.length : Int)
    · rw [if_pos c5] at H
      have c5b0 : decide (a1 < (l0.length : Int)) = true := decide_eq_true c5
      clear c5
      by_cases c6 : a2 ≥ 1
      · rw [if_pos c6] at H
        have c6b0 : decide (1 ≤ a2) = true := decide_eq_true c6
        clear c6
        obtain rfl := Option.some.inj H
        go_enter Try.func29, Try.ntmps29
        go_wp2
        go_ret
        exact ⟨by first | rfl | (simp; done) | (simp [*]; done), by repeat (first | exact Drawn0.refl _ | apply Drawn0.step)⟩
      · rw [if_neg c6] at H
        have c6b0 : decide (1 ≤ a2) = false := decide_eq_false c6
        clear c6
        obtain rfl := Option.some.inj H
        go_enter Try.func29, Try.ntmps29
        go_wp2
        go_ret
        exact ⟨by first | rfl | (simp; done) | (simp [*]; done), by repeat (first | exact Drawn0.refl _ | apply Drawn0.step)⟩
    · rw [if_neg c5] at H
      have c5b0 : decide (a1 < (l0.length : Int)) = false := decide_eq_false c5
      clear c5
      obtain rfl := Option.some.inj H
      go_enter Try.func29, Try.ntmps29
      go_wp2
      go_ret
      exact ⟨by first | rfl | (simp; done) | (simp [*]; done), by repeat (first | exact Drawn0.refl _ | apply Drawn0.step)⟩
  · rw [if_neg c4] at H
    have c4b0 : decide (0 ≤ a1) = false := decide_eq_false c4
    clear c4
    obtain rfl := Option.some.inj H
    go_enter Try.func29, Try.ntmps29
    go_wp2
    go_ret
    exact ⟨by first | rfl | (simp; done) | (simp [*]; done), by repeat (first | exact Drawn0.refl _ | apply Drawn0.step)⟩
/-! ### delta_Key: function 25 -/
mutual
def delta_Key.l0 : Nat → List Int → Int → Int → Int → Int → Option (Int)
  | 0, _, _, _, _, _ => none
  | k + 1, x0, x1, x2, x7, x8 => if x8 < x2 then (delta_Key.j1 k x0 x1 x2 x7 x8 (decide ((wrap64 (x1 + x8)) < (x0.length : Int)))) else (delta_Key.j1 k x0 x1 x2 x7 x8 false)
def delta_Key.j1 : Nat → List Int → Int → Int → Int → Int → Bool → Option (Int)
  | 0, _, _, _, _, _, _ => none
  | k + 1, x0, x1, x2, x7, x8, x24 => if x24 = true then (if 0 ≤ (wrap64 (x1 + x8)) then (if (wrap64 (x1 + x8)) < (x0.length : Int) then (if (rd x0 (wrap64 (x1 + x8))) = 0 then (delta_Key.l0 k x0 x1 x2 x7 (wrap64 (x8 + 1))) else (if 0 ≤ x8 then (delta_Key.l0 k x0 x1 x2 (Go.bits .or .i64 x7 (shl .i64 1 x8)) (wrap64 (x8 + 1))) else (none))) else (none)) else (none)) else (some x7)
end
def delta_Key.f (k : Nat) (l0 : List Int) (a1 : Int) (a2 : Int) : Option (Int) := (delta_looks.f l0 a1 a2).bind fun t103 => (if t103 = true then (delta_Key.l0 k l0 a1 a2 0 0) else (some 0))
theorem delta_Key.mono_l : ∀ k, (∀ y0 y1 y2 y3 y4, LeO (delta_Key.l0 k y0 y1 y2 y3 y4) (delta_Key.l0 (k + 1) y0 y1 y2 y3 y4)) ∧ (∀ y0 y1 y2 y3 y4 y5, LeO (delta_Key.j1 k y0 y1 y2 y3 y4 y5) (delta_Key.j1 (k + 1) y0 y1 y2 y3 y4 y5))
  | 0 => ⟨fun _ _ _ _ _ r h => by simp [delta_Key.l0] at h, fun _ _ _ _ _ _ r h => by simp [delta_Key.j1] at h⟩
  | k + 1 => by
    obtain ⟨ih0, ih1⟩ := delta_Key.mono_l k
    refine ⟨?_, ?_⟩
    · intro y0 y1 y2 y3 y4
      unfold delta_Key.l0
      repeat' first
      | (with_reducible exact ih0 _ _ _ _ _)
      | (with_reducible exact ih1 _ _ _ _ _ _)
      | (with_reducible exact LeO.refl _)
      | (with_reducible exact LeO.none _)
      | (with_reducible refine LeO.ite ?_ ?_)
      | (with_reducible refine LeO.bind ?_ (fun _ => ?_))
      | exact ih0 _ _ _ _ _
      | exact ih1 _ _ _ _ _ _
      | exact LeO.none _
      | refine LeO.ite ?_ ?_
      | refine LeO.bind ?_ (fun _ => ?_)
    · intro y0 y1 y2 y3 y4 y5
      unfold delta_Key.j1
      repeat' first
      | (with_reducible exact ih0 _ _ _ _ _)
      | (with_reducible exact ih1 _ _ _ _ _ _)
      | (with_reducible exact LeO.refl _)
      | (with_reducible exact LeO.none _)
      | (with_reducible refine LeO.ite ?_ ?_)
      | (with_reducible refine LeO.bind ?_ (fun _ => ?_))
      | exact ih0 _ _ _ _ _
      | exact ih1 _ _ _ _ _ _
      | exact LeO.none _
      | refine LeO.ite ?_ ?_
      | refine LeO.bind ?_ (fun _ => ?_)
theorem delta_Key.mono : ∀ a0 a1 a2 k, LeO (delta_Key.f k a0 a1 a2) (delta_Key.f (k + 1) a0 a1 a2) := by
  intro a0 a1 a2 k
  obtain ⟨ih0, ih1⟩ := delta_Key.mono_l k
  unfold delta_Key.f
  repeat' first
      | (with_reducible exact ih0 _ _ _ _ _)
      | (with_reducible exact ih1 _ _ _ _ _ _)
      | (with_reducible exact LeO.refl _)
      | (with_reducible exact LeO.none _)
      | (with_reducible refine LeO.ite ?_ ?_)
      | (with_reducible refine LeO.bind ?_ (fun _ => ?_))
      | exact ih0 _ _ _ _ _
      | exact ih1 _ _ _ _ _ _
      | exact LeO.none _
      | refine LeO.ite ?_ ?_
      | refine LeO.bind ?_ (fun _ => ?_)
set_option maxHeartbeats 8000000 in
set_option maxRecDepth 100000 in
theorem delta_Key.calls (k : Nat) (A0 : Option Addr) (c0 : Nat) (l0 : List Int) (a1 : Int) (a2 : Int) (r : Int) (w : World) (hr0 : Kd.C (Kd.int .u8) w A0 l0.length l0) (hc0 : l0.length ≤ c0) (h : delta_Key.f k l0 a1 a2 = some r) :
    Calls Try.prog 25 #[.slice A0 l0.length c0, .int .i64 a1, .int .i64 a2] w fun e w' => e = .returned (.int .i64 r) ∧ Drawn0 w w' := by
  have HR0 := Aside0.mk hr0
  have HC0 := Aside0.mk hc0
  clear hr0 hc0
  have H : ((delta_looks.f l0 a1 a2).bind fun t103 => (if t103 = true then (delta_Key.l0 k l0 a1 a2 0 0) else (some 0))) = some r := h
  clear h
  replace H := Option.bind_eq_some_iff.mp H
  obtain ⟨t103, A40, H⟩ := H
  replace H : (if t103 = true then (delta_Key.l0 k l0 a1 a2 0 0) else (some 0)) = some r := H
  have A4 := Aside0.mk A40
  clear A40
  by_cases c5 : t103 = true
  · subst c5
    have H1 : (delta_Key.l0 k l0 a1 a2 0 0) = some r := by rw [if_pos rfl] at H; exact H
    clear H
    have H := H1
    clear H1
    have H' := Aside0.mk H
    clear H
    go_enter Try.func25, Try.ntmps25
    go_wp2_with (first | ((with_reducible refine gate_callee (f := 29) rfl ?_); refine goesL_ (some 12) rfl rfl Try.func29 (by kernel_rfl) rfl #[.slice A0 l0.length c0, .int .i64 a1, .int .i64 a2] rfl (by (try simp only [List.map_toArray, List.map_cons, List.map_nil]); first | done | rfl | (simp only [List.length_drop, List.length_take]; rfl)) ?_; (with_reducible refine (delta_looks.calls _ _ l0 a1 a2 true _ ?side1 ?side2 A4.out).mono ?_); (case side1 => repeat (first | exact HR0.out | (with_reducible refine Kd.C_alloc ?_ _) | (with_reducible refine Kd.C_drewN ?_ _) | (with_reducible refine Kd.C_drew ?_))); (case side2 => exact HC0.out); rintro e w' ⟨rfl, ⟨nd, rfl⟩⟩; refine ⟨_, rfl, ?_⟩))
    go_loopg [7, 8] k (fun kq v7 v8 w' => ∃ (x7_1 : Int) (x8_1 : Int), v7 = .int .i64 x7_1 ∧ v8 = .int .i64 x8_1 ∧ Aside0 (delta_Key.l0 kq l0 a1 a2 x7_1 x8_1 = some r) ∧ Aside0 (kq ≤ k) ∧ Drawn0 w w')
    case atStart => exact ⟨(0), (0), (by first | rfl | (simp; done) | (simp [*]; done)), (by first | rfl | (simp; done) | (simp [*]; done)), H', ⟨Nat.le_refl _⟩, by repeat (first | exact Drawn0.refl _ | apply Drawn0.step)⟩
    case round =>
      clear H'
      try clear c2
      try clear p2
      try clear c5
      obtain ⟨x7_1, x8_1, rfl, rfl, HA, HK1, ⟨m1, rfl⟩⟩ := hrel
      cases gk with
      | zero => exact absurd HA.out (by simp [delta_Key.l0])
      | succ k1 =>
        have H := HA.out
        clear HA
        simp only [delta_Key.l0] at H
        have HC6 := Aside0.mk H
        clear H
        go_upto_region 5 with (fail)
        go_cut [24] (fun v24 wc => ∃ (kq : Nat) (x24_5 : Bool), v24 = .bool x24_5 ∧ Aside0 (delta_Key.j1 kq l0 a1 a2 x7_1 x8_1 x24_5 = some r) ∧ Aside0 (kq ≤ k1) ∧ Drawn0 w wc)
        case first =>
          have H := HC6.out
          clear HC6
          by_cases c7 : x8_1 < a2
          · rw [if_pos c7] at H
            have c7b0 : decide (x8_1 < a2) = true := decide_eq_true c7
            clear c7
            (first | rw [c7b0] | (simp only [i64_w, i32_w]; rw [c7b0]) | skip)
            have H' := Aside0.mk H
            clear H
            go_wp2
            go_meet
            case rel => exact ⟨_, (decide ((wrap64 (a1 + x8_1)) < (l0.length : Int))), (by first | rfl | (simp; done) | (simp [*]; done)), H', ⟨by have := HK1.out; first | omega | exact Nat.le_refl _⟩, by repeat (first | exact Drawn0.refl _ | apply Drawn0.step)⟩
          · rw [if_neg c7] at H
            have c7b0 : decide (x8_1 < a2) = false := decide_eq_false c7
            clear c7
            (first | rw [c7b0] | (simp only [i64_w, i32_w]; rw [c7b0]) | skip)
            have H' := Aside0.mk H
            clear H
            go_wp2
            go_meet
            case rel => exact ⟨_, (false), (by first | rfl | (simp; done) | (simp [*]; done)), H', ⟨by have := HK1.out; first | omega | exact Nat.le_refl _⟩, by repeat (first | exact Drawn0.refl _ | apply Drawn0.step)⟩
        case rest =>
          clear HC6
          try clear c2
          try clear p2
          try clear c5
          try clear p6
          try clear c7
          try clear c7b0
          try clear p2
          obtain ⟨kq, x24_5, rfl, HA, HJ5, ⟨mc5, rfl⟩⟩ := hcut
          cases kq with
          | zero => exact absurd HA.out (by simp [delta_Key.j1])
          | succ kj5 =>
            have H := HA.out
            clear HA
            simp only [delta_Key.j1] at H
            by_cases c8 : x24_5 = true
            · subst c8
              have H1 : (if 0 ≤ (wrap64 (a1 + x8_1)) then (if (wrap64 (a1 + x8_1)) < (l0.length : Int) then (if (rd l0 (wrap64 (a1 + x8_1))) = 0 then (delta_Key.l0 kj5 l0 a1 a2 x7_1 (wrap64 (x8_1 + 1))) else (if 0 ≤ x8_1 then (delta_Key.l0 kj5 l0 a1 a2 (Go.bits .or .i64 x7_1 (shl .i64 1 x8_1)) (wrap64 (x8_1 + 1))) else (none))) else (none)) else (none)) = some r := by rw [if_pos rfl] at H; exact H
              clear H
              have H := H1
              clear H1
              obtain ⟨ji9, hji9⟩ : ∃ j_ : Int, (wrap64 (a1 + x8_1)) = j_ := ⟨_, rfl⟩
              replace H : (if 0 ≤ (ji9) then (if (ji9) < (l0.length : Int) then (if (rd l0 (ji9)) = 0 then (delta_Key.l0 kj5 l0 a1 a2 x7_1 (wrap64 (x8_1 + 1))) else (if 0 ≤ x8_1 then (delta_Key.l0 kj5 l0 a1 a2 (Go.bits .or .i64 x7_1 (shl .i64 1 x8_1)) (wrap64 (x8_1 + 1))) else (none))) else (none)) else (none)) = some r := by first | (rw [hji9] at H; exact H) | (simp only [hji9] at H ⊢; exact H)
              have hji9w : (IntKind.i64.wrap (a1 + x8_1)) = ji9 := (i64_w _).trans hji9
              by_cases c10 : 0 ≤ (ji9)
              · rw [if_pos c10] at H
                have c10b0 : decide (0 ≤ (ji9)) = true := decide_eq_true c10
                clear c10
                by_cases c11 : (ji9) < (l0.length : Int)
                · rw [if_pos c11] at H
                  have c11b0 : decide ((ji9) < (l0.length : Int)) = true := decide_eq_true c11
                  clear c11
                  by_cases c12 : (rd l0 (ji9)) = 0
                  · rw [if_pos c12] at H
                    have c12b0 : ((rd l0 (ji9)) == 0) = true := beq_iff_eq.mpr c12
                    have c12b1 : ((rd l0 (ji9)) != 0) = false := bne_eq_false_iff_eq.mpr c12
                    clear c12
                    have H' := Aside0.mk H
                    clear H
                    have p104 : 0 ≤ ((ji9) : Int) := of_decide_eq_true (by first | (with_reducible assumption) | assumption)
                    have q104 : (ji9) < (l0.length : Int) := of_decide_eq_true (by first | (with_reducible assumption) | assumption)
                    obtain ⟨ad104, e104, hx104_0⟩ := Kd.at_int HR0.out (ji9) p104 q104
                    cases e104
                    replace p104 := eq_true p104
                    replace q104 := eq_true q104
                    go_wp2
                    go_roundg kj5
                    case measure => have := HK1.out; have := HJ5.out; omega
                    case rel => exact ⟨(x7_1), (wrap64 (x8_1 + 1)), (by first | rfl | (simp; done) | (simp [*]; done)), (by first | rfl | (simp; done) | (simp [*]; done)), H', ⟨by have := HK1.out; have := HJ5.out; omega⟩, by repeat (first | exact Drawn0.refl _ | apply Drawn0.step)⟩
                  · rw [if_neg c12] at H
                    have c12b0 : ((rd l0 (ji9)) == 0) = false := beq_eq_false_iff_ne.mpr c12
                    have c12b1 : ((rd l0 (ji9)) != 0) = true := bne_iff_ne.mpr c12
                    by_cases c13 : 0 ≤ x8_1
                    · rw [if_pos c13] at H
                      have c13b0 := eq_true c13
                      have c13b1 : decide (0 ≤ x8_1) = true := decide_eq_true c13
                      clear c13
                      obtain ⟨ji14, hji14⟩ : ∃ j_ : Int, (shl .i64 1 x8_1) = j_ := ⟨_, rfl⟩
                      replace H : (delta_Key.l0 kj5 l0 a1 a2 (Go.bits .or .i64 x7_1 (ji14)) (wrap64 (x8_1 + 1))) = some r := by first | (rw [hji14] at H; exact H) | (simp only [hji14] at H ⊢; exact H)
                      have hji14_ : (IntKind.i64.wrap (1 * 2 ^ min x8_1.toNat 64)) = ji14 := hji14
                      have hji14z : x8_1 ≤ 64 → (IntKind.i64.wrap (1 * 2 ^ x8_1.toNat)) = ji14 := shl_small hji14
                      have hji14u : (IntKind.i64.wrap (2 ^ min x8_1.toNat 64)) = ji14 := by have h_ := hji14_; rw [Int.one_mul] at h_; exact h_
                      have hji14v : x8_1 ≤ 64 → (IntKind.i64.wrap (2 ^ x8_1.toNat)) = ji14 := fun hle_ => by have h_ := hji14z hle_; rw [Int.one_mul] at h_; exact h_
                      have hji14y : (wrap64 (1 * 2 ^ min x8_1.toNat 64)) = ji14 := (i64_w _).symm.trans hji14_
                      have hji14x : x8_1 ≤ 64 → (wrap64 (1 * 2 ^ x8_1.toNat)) = ji14 := fun h_ => (i64_w _).symm.trans (hji14z h_)
                      have H' := Aside0.mk H
                      clear H
                      have p104 : 0 ≤ ((ji9) : Int) := of_decide_eq_true (by first | (with_reducible assumption) | assumption)
                      have q104 : (ji9) < (l0.length : Int) := of_decide_eq_true (by first | (with_reducible assumption) | assumption)
                      obtain ⟨ad104, e104, hx104_0⟩ := Kd.at_int HR0.out (ji9) p104 q104
                      cases e104
                      replace p104 := eq_true p104
                      replace q104 := eq_true q104
                      go_wp2
                      go_roundg kj5
                      case measure => have := HK1.out; have := HJ5.out; omega
                      case rel => exact ⟨(Go.bits .or .i64 x7_1 (ji14)), (wrap64 (x8_1 + 1)), (by first | rfl | (simp; done) | (simp only [← hji14] <;> (first | rfl | simp)) | (simp [*]; done)), (by first | rfl | (simp; done) | (simp [*]; done)), H', ⟨by have := HK1.out; have := HJ5.out; omega⟩, by repeat (first | exact Drawn0.refl _ | apply Drawn0.step)⟩
                    · rw [if_neg c13] at H
                      exact absurd H (by simp)
                · rw [if_neg c11] at H
                  exact absurd H (by simp)
              · rw [if_neg c10] at H
                exact absurd H (by simp)
            · replace c8 := Bool.eq_false_iff.mpr c8
              subst c8
              have H1 : (some x7_1) = some r := by rw [if_neg (show ¬ (false = true) by decide)] at H; exact H
              clear H
              have H := H1
              clear H1
              obtain rfl := Option.some.inj H
              go_wp2
              go_ret
              exact ⟨by first | rfl | (simp; done) | (simp [*]; done), by repeat (first | exact Drawn0.refl _ | apply Drawn0.step)⟩
  · replace c5 := Bool.eq_false_iff.mpr c5
    subst c5
    have H1 : (some 0) = some r := by rw [if_neg (show ¬ (false = true) by decide)] at H; exact H
    clear H
    have H := H1
    clear H1
    obtain rfl := Option.some.inj H
    go_enter Try.func25, Try.ntmps25
    go_wp2_with (first | ((with_reducible refine gate_callee (f := 29) rfl ?_); refine goesL_ (some 12) rfl rfl Try.func29 (by kernel_rfl) rfl #[.slice A0 l0.length c0, .int .i64 a1, .int .i64 a2] rfl (by (try simp only [List.map_toArray, List.map_cons, List.map_nil]); first | done | rfl | (simp only [List.length_drop, List.length_take]; rfl)) ?_; (with_reducible refine (delta_looks.calls _ _ l0 a1 a2 false _ ?side1 ?side2 A4.out).mono ?_); (case side1 => repeat (first | exact HR0.out | (with_reducible refine Kd.C_alloc ?_ _) | (with_reducible refine Kd.C_drewN ?_ _) | (with_reducible refine Kd.C_drew ?_))); (case side2 => exact HC0.out); rintro e w' ⟨rfl, ⟨nd, rfl⟩⟩; refine ⟨_, rfl, ?_⟩))
    go_ret
    exact ⟨by first | rfl | (simp; done) | (simp [*]; done), by repeat (first | exact Drawn0.refl _ | apply Drawn0.step)⟩
-- NOT PRINTED: function 17 (russ_steps)
/-! ### russ_sum: function 18 -/
def russ_sum.l0 : Nat → Int → List Int → Int → Int → Option (Int)
  | 0, _, _, _, _ => none
  | k + 1, x3, x6, x7, x8 => if x8 < x7 then (if 0 ≤ x8 then (if x8 < (x6.length : Int) then (russ_sum.l0 k (wrap64 (x3 + (wrap64 (rd x6 x8)))) x6 x7 (wrap64 (x8 + 1))) else (none)) else (none)) else (some x3)
def russ_sum.f (k : Nat) (l0 : List Int) : Option (Int) := russ_sum.l0 k 0 l0 (l0.length : Int) 0
theorem russ_sum.mono_l : ∀ k, (∀ y0 y1 y2 y3, LeO (russ_sum.l0 k y0 y1 y2 y3) (russ_sum.l0 (k + 1) y0 y1 y2 y3))
  | 0 => fun _ _ _ _ r h => by simp [russ_sum.l0] at h
  | k + 1 => by
    have ih0 := russ_sum.mono_l k
    · intro y0 y1 y2 y3
      unfold russ_sum.l0
      repeat' first
      | (with_reducible exact ih0 _ _ _ _)
      | (with_reducible exact LeO.refl _)
      | (with_reducible exact LeO.none _)
      | (with_reducible refine LeO.ite ?_ ?_)
      | (with_reducible refine LeO.bind ?_ (fun _ => ?_))
      | exact ih0 _ _ _ _
      | exact LeO.none _
      | refine LeO.ite ?_ ?_
      | refine LeO.bind ?_ (fun _ => ?_)
theorem russ_sum.mono : ∀ a0 k, LeO (russ_sum.f k a0) (russ_sum.f (k + 1) a0) := by
  intro a0 k
  have ih0 := russ_sum.mono_l k
  unfold russ_sum.f
  repeat' first
      | (with_reducible exact ih0 _ _ _ _)
      | (with_reducible exact LeO.refl _)
      | (with_reducible exact LeO.none _)
      | (with_reducible refine LeO.ite ?_ ?_)
      | (with_reducible refine LeO.bind ?_ (fun _ => ?_))
      | exact ih0 _ _ _ _
      | exact LeO.none _
      | refine LeO.ite ?_ ?_
      | refine LeO.bind ?_ (fun _ => ?_)
set_option maxHeartbeats 8000000 in
set_option maxRecDepth 100000 in
theorem russ_sum.calls (k : Nat) (A0 : Option Addr) (c0 : Nat) (l0 : List Int) (r : Int) (w : World) (hr0 : Kd.C (Kd.int .u8) w A0 l0.length l0) (hc0 : l0.length ≤ c0) (h : russ_sum.f k l0 = some r) :
    Calls Try.prog 18 #[.slice A0 l0.length c0] w fun e w' => e = .returned (.int .i64 r) ∧ Drawn0 w w' := by
  have HR0 := Aside0.mk hr0
  have HC0 := Aside0.mk hc0
  clear hr0 hc0
  have H : (russ_sum.l0 k 0 l0 (l0.length : Int) 0) = some r := h
  clear h
  have H' := Aside0.mk H
  clear H
  go_enter Try.func18, Try.ntmps18
  go_wp2
  go_loopg [3, 8] k (fun kq v3 v8 w' => ∃ (x3_1 : Int) (x8_1 : Int), v3 = .int .i64 x3_1 ∧ v8 = .int .i64 x8_1 ∧ Aside0 (russ_sum.l0 kq x3_1 l0 (l0.length : Int) x8_1 = some r) ∧ Aside0 (kq ≤ k) ∧ Drawn0 w w')
  case atStart => exact ⟨(0), (0), (by first | rfl | (simp; done) | (simp [*]; done)), (by first | rfl | (simp; done) | (simp [*]; done)), H', ⟨Nat.le_refl _⟩, by repeat (first | exact Drawn0.refl _ | apply Drawn0.step)⟩
  case round =>
    clear H'
    try clear c1
    obtain ⟨x3_1, x8_1, rfl, rfl, HA, HK1, ⟨m1, rfl⟩⟩ := hrel
    cases gk with
    | zero => exact absurd HA.out (by simp [russ_sum.l0])
    | succ k1 =>
      have H := HA.out
      clear HA
      simp only [russ_sum.l0] at H
      by_cases c2 : x8_1 < (l0.length : Int)
      · rw [if_pos c2] at H
        have c2b0 : decide (x8_1 < (l0.length : Int)) = true := decide_eq_true c2
        clear c2
        by_cases c3 : 0 ≤ x8_1
        · rw [if_pos c3] at H
          have c3b0 : decide (0 ≤ x8_1) = true := decide_eq_true c3
          clear c3
          by_cases c4 : x8_1 < (l0.length : Int)
          · rw [if_pos c4] at H
            have c4b0 : decide (x8_1 < (l0.length : Int)) = true := decide_eq_true c4
            clear c4
            have H' := Aside0.mk H
            clear H
            have p105 : 0 ≤ (x8_1 : Int) := of_decide_eq_true (by first | (with_reducible assumption) | assumption)
            have q105 : x8_1 < (l0.length : Int) := of_decide_eq_true (by first | (with_reducible assumption) | assumption)
            obtain ⟨ad105, e105, hx105_0⟩ := Kd.at_int HR0.out x8_1 p105 q105
            cases e105
            replace p105 := eq_true p105
            replace q105 := eq_true q105
            go_wp2
            go_roundg k1
            case measure => have := HK1.out; omega
            case rel => exact ⟨(wrap64 (x3_1 + (wrap64 (rd l0 x8_1)))), (wrap64 (x8_1 + 1)), (by first | rfl | (simp; done) | (simp [*]; done)), (by first | rfl | (simp; done) | (simp [*]; done)), H', ⟨by have := HK1.out; omega⟩, by repeat (first | exact Drawn0.refl _ | apply Drawn0.step)⟩
          · rw [if_neg c4] at H
            exact absurd H (by simp)
        · rw [if_neg c3] at H
          exact absurd H (by simp)
      · rw [if_neg c2] at H
        have c2b0 : decide (x8_1 < (l0.length : Int)) = false := decide_eq_false c2
        clear c2
        obtain rfl := Option.some.inj H
        go_wp2
        go_ret
        exact ⟨by first | rfl | (simp; done) | (simp [*]; done), by repeat (first | exact Drawn0.refl _ | apply Drawn0.step)⟩
-- NOT PRINTED: function 9 (russ_Len)
end Go.Proofs.Ytpdjdffimighkaa.PRussRuns
