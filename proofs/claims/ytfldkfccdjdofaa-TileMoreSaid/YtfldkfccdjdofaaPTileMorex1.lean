-- Laid by wip/myprint.py: the kit's print, with contracts typed by hand for what it does not take.
import Derived.Test.YtfldkfccdjdofaaPTileMorex0
import Derived.Test.YtfldkfccdjdofaaHTc
import Derived.Test.YtfldkfccdjdofaaHTm
namespace Go.Proofs.Ytfldkfccdjdofaa.PTileMore
open Go.RowKit Go.Proofs.YtfldkfccdjdofaaW.PrintWords Go.Proofs.YtfldkfccdjdofaaW.PrintLast Go.Proofs.YtfldkfccdjdofaaW.PrintMore
attribute [local go_sem] max2_int min2_int max_two min_two max_three min_three max_four min_four   -- for this text's walks alone
set_option linter.unusedVariables false
set_option linter.unusedSimpArgs false

-- NOT PRINTED: function 8 (tile_New)

-- NOT PRINTED: function 9 (tattinglaw13_of)

-- NOT PRINTED: function 23 (atomic_LoadUint32)

-- NOT PRINTED: function 20 (atomic_Bool_Load)

-- NOT PRINTED: function 31 (race_Disable)

-- NOT PRINTED: function 32 (atomic_CompareAndSwapInt32)

-- NOT PRINTED: function 33 (race_Enable)

-- NOT PRINTED: function 34 (race_Acquire)

-- NOT PRINTED: function 37 (atomic_AddInt32)

-- NOT PRINTED: function 39 (sync_runtime_canSpin)

-- NOT PRINTED: function 40 (sync_runtime_doSpin)

-- NOT PRINTED: function 41 (sync_throw)

-- NOT PRINTED: function 42 (sync_runtime_nanotime)

-- NOT PRINTED: function 43 (sync_runtime_SemacquireMutex)

-- NOT PRINTED: function 35 (sync_Mutex_lockSlow)

-- NOT PRINTED: function 27 (sync_Mutex_Lock_27)

-- NOT PRINTED: function 24 (sync_Mutex_Lock_24)

-- NOT PRINTED: function 36 (race_ReleaseMerge)

-- NOT PRINTED: function 44 (sync_fatal)

-- NOT PRINTED: function 45 (sync_runtime_Semrelease)

-- NOT PRINTED: function 38 (sync_Mutex_unlockSlow)

-- NOT PRINTED: function 28 (sync_Mutex_Unlock_28)

-- NOT PRINTED: function 25 (sync_Mutex_Unlock_25)

-- NOT PRINTED: function 29 (atomic_StoreUint32)

/-! ### atomic_b32: function 30 -/
def atomic_b32.f (a0 : Bool) : Option (Int) := if a0 = true then (some 1) else (some 0)
set_option maxHeartbeats 8000000 in
set_option maxRecDepth 100000 in
theorem atomic_b32.calls (a0 : Bool) (r : Int) (w : World) (h : atomic_b32.f a0 = some r) :
    Calls Try.prog 30 #[.bool a0] w fun e w' => e = .returned (.int .u32 r) ∧ Drawn0 w w' := by
  have H : (if a0 = true then (some 1) else (some 0)) = some r := h
  clear h
  by_cases c2 : a0 = true
  · subst c2
    have H1 : (some 1) = some r := by rw [if_pos rfl] at H; exact H
    clear H
    have H := H1
    clear H1
    obtain rfl := Option.some.inj H
    go_enter Try.func30, Try.ntmps30
    go_wp2
    go_ret
    exact ⟨by first | rfl | (simp; done) | (simp [*]; done), by repeat (first | exact Drawn0.refl _ | apply Drawn0.step)⟩
  · replace c2 := Bool.eq_false_iff.mpr c2
    subst c2
    have H1 : (some 0) = some r := by rw [if_neg (show ¬ (false = true) by decide)] at H; exact H
    clear H
    have H := H1
    clear H1
    obtain rfl := Option.some.inj H
    go_enter Try.func30, Try.ntmps30
    go_wp2
    go_ret
    exact ⟨by first | rfl | (simp; done) | (simp [*]; done), by repeat (first | exact Drawn0.refl _ | apply Drawn0.step)⟩

-- NOT PRINTED: function 26 (atomic_Bool_Store)

-- NOT PRINTED: function 21 (sync_Once_doSlow)

-- NOT PRINTED: function 17 (sync_Once_Do)

-- NOT PRINTED: function 12 (tile_Tiles_Size)

-- NOT PRINTED: function 22 (tile_square)

-- NOT PRINTED: function 18 (tile_Tiles_work)

-- NOT PRINTED: function 11 (tile_Tiles_Look)

-- NOT PRINTED: function 14 (tile_Tiles_Side)

/-! ### tattinglaw13_awake: function 10 -/
def tattinglaw13_awake.f  : Option Bool := some true
theorem tattinglaw13_awake.calls  (r : Bool) (w : World) (h : tattinglaw13_awake.f  = some r) :
    Calls Try.prog 10 #[] w fun e w' => e = .returned (.bool r) ∧ Below w.heap.size w w' := by
  unfold tattinglaw13_awake.f at h
  obtain rfl := Option.some.inj h
  exact Tile.awake w

/-! ### tattingref12_Ones: function 16 -/
def tattingref12_Ones.l0 : Nat → Int → Int → Int → Option (Int)
  | 0, _, _, _ => none
  | k + 1, x0, x3, x4 => if x4 < 62 then (if 0 ≤ (IntKind.u64.wrap (x4)) then (tattingref12_Ones.l0 k x0 (wrap64 (x3 + (Go.bits .and .i64 (shr .i64 x0 (IntKind.u64.wrap (x4))) 1))) (wrap64 (x4 + 1))) else (none)) else (some x3)
def tattingref12_Ones.f (k : Nat) (a0 : Int) : Option (Int) := tattingref12_Ones.l0 k a0 0 0
theorem tattingref12_Ones.mono_l : ∀ k, (∀ y0 y1 y2, LeO (tattingref12_Ones.l0 k y0 y1 y2) (tattingref12_Ones.l0 (k + 1) y0 y1 y2))
  | 0 => fun _ _ _ r h => by simp [tattingref12_Ones.l0] at h
  | k + 1 => by
    have ih0 := tattingref12_Ones.mono_l k
    · intro y0 y1 y2
      unfold tattingref12_Ones.l0
      repeat' first
      | (with_reducible exact ih0 _ _ _)
      | (with_reducible exact LeO.refl _)
      | (with_reducible exact LeO.none _)
      | (with_reducible refine LeO.ite ?_ ?_)
      | (with_reducible refine LeO.bind ?_ (fun _ => ?_))
      | exact ih0 _ _ _
      | exact LeO.none _
      | refine LeO.ite ?_ ?_
      | refine LeO.bind ?_ (fun _ => ?_)
theorem tattingref12_Ones.mono : ∀ a0 k, LeO (tattingref12_Ones.f k a0) (tattingref12_Ones.f (k + 1) a0) := by
  intro a0 k
  have ih0 := tattingref12_Ones.mono_l k
  unfold tattingref12_Ones.f
  repeat' first
      | (with_reducible exact ih0 _ _ _)
      | (with_reducible exact LeO.refl _)
      | (with_reducible exact LeO.none _)
      | (with_reducible refine LeO.ite ?_ ?_)
      | (with_reducible refine LeO.bind ?_ (fun _ => ?_))
      | exact ih0 _ _ _
      | exact LeO.none _
      | refine LeO.ite ?_ ?_
      | refine LeO.bind ?_ (fun _ => ?_)
set_option maxHeartbeats 8000000 in
set_option maxRecDepth 100000 in
theorem tattingref12_Ones.calls (k : Nat) (a0 : Int) (r : Int) (w : World) (h : tattingref12_Ones.f k a0 = some r) :
    Calls Try.prog 16 #[.int .i64 a0] w fun e w' => e = .returned (.int .i64 r) ∧ Drawn0 w w' := by
  have H : (tattingref12_Ones.l0 k a0 0 0) = some r := h
  clear h
  have H' := Aside0.mk H
  clear H
  go_enter Try.func16, Try.ntmps16
  go_wp2
  go_loopg [3, 4] k (fun kq v3 v4 w' => ∃ (x3_1 : Int) (x4_1 : Int), v3 = .int .i64 x3_1 ∧ v4 = .int .i64 x4_1 ∧ Aside0 (tattingref12_Ones.l0 kq a0 x3_1 x4_1 = some r) ∧ Aside0 (kq ≤ k) ∧ Drawn0 w w')
  case atStart => exact ⟨(0), (0), (by first | rfl | (simp; done) | (simp [*]; done)), (by first | rfl | (simp; done) | (simp [*]; done)), H', ⟨Nat.le_refl _⟩, by repeat (first | exact Drawn0.refl _ | apply Drawn0.step)⟩
  case round =>
    clear H'
    try clear c1
    obtain ⟨x3_1, x4_1, rfl, rfl, HA, HK1, ⟨m1, rfl⟩⟩ := hrel
    cases gk with
    | zero => exact absurd HA.out (by simp [tattingref12_Ones.l0])
    | succ k1 =>
      have H := HA.out
      clear HA
      simp only [tattingref12_Ones.l0] at H
      by_cases c2 : x4_1 < 62
      · rw [if_pos c2] at H
        have c2b0 : decide (x4_1 < 62) = true := decide_eq_true c2
        clear c2
        obtain ⟨ji3, hji3⟩ : ∃ j_ : Int, (IntKind.u64.wrap (x4_1)) = j_ := ⟨_, rfl⟩
        replace H : (if 0 ≤ (ji3) then (tattingref12_Ones.l0 k1 a0 (wrap64 (x3_1 + (Go.bits .and .i64 (shr .i64 a0 (ji3)) 1))) (wrap64 (x4_1 + 1))) else (none)) = some r := by first | (rw [hji3] at H; exact H) | (simp only [hji3] at H ⊢; exact H)
        by_cases c4 : 0 ≤ (ji3)
        · rw [if_pos c4] at H
          have c4b0 := eq_true c4
          have c4b1 : decide (0 ≤ (ji3)) = true := decide_eq_true c4
          clear c4
          obtain ⟨ji5, hji5⟩ : ∃ j_ : Int, (shr .i64 a0 (ji3)) = j_ := ⟨_, rfl⟩
          replace H : (tattingref12_Ones.l0 k1 a0 (wrap64 (x3_1 + (Go.bits .and .i64 (ji5) 1))) (wrap64 (x4_1 + 1))) = some r := by first | (rw [hji5] at H; exact H) | (simp only [hji5] at H ⊢; exact H)
          have hji5_ : (a0 / 2 ^ min (ji3).toNat 64) = ji5 := hji5
          have hji5z : (ji3) ≤ 64 → (a0 / 2 ^ (ji3).toNat) = ji5 := shr_small hji5
          have H' := Aside0.mk H
          clear H
          go_wp2
          go_roundg k1
          case measure => have := HK1.out; omega
          case rel => exact ⟨(wrap64 (x3_1 + (Go.bits .and .i64 (ji5) 1))), (wrap64 (x4_1 + 1)), (by first | rfl | (simp; done) | (simp only [← hji5] <;> (first | rfl | simp)) | (simp [*]; done)), (by first | rfl | (simp; done) | (simp [*]; done)), H', ⟨by have := HK1.out; omega⟩, by repeat (first | exact Drawn0.refl _ | apply Drawn0.step)⟩
        · rw [if_neg c4] at H
          exact absurd H (by simp)
      · rw [if_neg c2] at H
        have c2b0 : decide (x4_1 < 62) = false := decide_eq_false c2
        clear c2
        obtain rfl := Option.some.inj H
        go_wp2
        go_ret
        exact ⟨by first | rfl | (simp; done) | (simp [*]; done), by repeat (first | exact Drawn0.refl _ | apply Drawn0.step)⟩

/-! ### tattinglaw13_TileMore: function 7 -/
def tattinglaw13_TileMore.f (a0 : Int) (a1 : Int) (a2 : Int) (a3 : Int) (a4 : Int) : Option Bool := if (0 ≤ a0 ∧ a0 < 256) ∧ (0 ≤ a1 ∧ a1 < 65536) ∧ (0 ≤ a2 ∧ a2 < 65536) ∧ (0 ≤ a3 ∧ a3 < 65536) ∧ (0 ≤ a4 ∧ a4 < 256) then some true else none
theorem tattinglaw13_TileMore.calls (a0 : Int) (a1 : Int) (a2 : Int) (a3 : Int) (a4 : Int) (r : Bool) (w : World) (h : tattinglaw13_TileMore.f a0 a1 a2 a3 a4 = some r) (HRT : Aside0 (r = true)) :
    Calls Try.prog 7 #[.int .u8 a0, .int .u16 a1, .int .u16 a2, .int .u16 a3, .int .u8 a4] w fun e w' => e = .returned (.bool r) ∧ Below w.heap.size w w' := by
  unfold tattinglaw13_TileMore.f at h
  by_cases q_ : (0 ≤ a0 ∧ a0 < 256) ∧ (0 ≤ a1 ∧ a1 < 65536) ∧ (0 ≤ a2 ∧ a2 < 65536) ∧ (0 ≤ a3 ∧ a3 < 65536) ∧ (0 ≤ a4 ∧ a4 < 256)
  rotate_left
  · rw [if_neg q_] at h
    exact absurd h (by simp)
  rw [if_pos q_] at h
  obtain rfl := Option.some.inj h
  obtain ⟨q0, q1, q2, q3, q4⟩ := q_
  exact Tile.more a0 a1 a2 a3 a4 q0 q1 q2 q3 q4 w

/-- THE ONE PURE STATEMENT of tattinglaw13_TileMore: yours. -/
def tattinglaw13_TileMore.Pure : Prop := ∀ (a0 : Int) (a1 : Int) (a2 : Int) (a3 : Int) (a4 : Int), (Lit.int .u8 a0).wf = true → (Lit.int .u16 a1).wf = true → (Lit.int .u16 a2).wf = true → (Lit.int .u16 a3).wf = true → (Lit.int .u8 a4).wf = true → tattinglaw13_TileMore.f a0 a1 a2 a3 a4 = some true
theorem tattinglaw13_TileMore.walk (P : tattinglaw13_TileMore.Pure) (a0 : Int) (a1 : Int) (a2 : Int) (a3 : Int) (a4 : Int) (w : World) (w0 : (Lit.int .u8 a0).wf = true) (w1 : (Lit.int .u16 a1).wf = true) (w2 : (Lit.int .u16 a2).wf = true) (w3 : (Lit.int .u16 a3).wf = true) (w4 : (Lit.int .u8 a4).wf = true) :
    Calls Try.prog 7 #[.int .u8 a0, .int .u16 a1, .int .u16 a2, .int .u16 a3, .int .u8 a4] w fun e w' => e = .returned (.bool true) ∧ Below w.heap.size w w' := by
  have h := P a0 a1 a2 a3 a4 w0 w1 w2 w3 w4
  refine (tattinglaw13_TileMore.calls a0 a1 a2 a3 a4 true w h ⟨rfl⟩).mono ?_
  rintro e w' ⟨rfl, hd⟩
  exact ⟨rfl, hd⟩

end Go.Proofs.Ytfldkfccdjdofaa.PTileMore
