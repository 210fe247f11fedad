-- Laid by wip/myprint.py: the kit's print, with contracts typed by hand for what it does not take.
import Derived.Test.YtfldkfccdjdofaaPTileTurnsx0
import Derived.Test.YtfldkfccdjdofaaHTc
import Derived.Test.YtfldkfccdjdofaaHTt
namespace Go.Proofs.Ytfldkfccdjdofaa.PTileTurns
open Go.RowKit Go.Proofs.YtfldkfccdjdofaaW.PrintWords Go.Proofs.YtfldkfccdjdofaaW.PrintLast Go.Proofs.YtfldkfccdjdofaaW.PrintMore
attribute [local go_sem] max2_int min2_int max_two min_two max_three min_three max_four min_four   -- for this text's walks alone
set_option linter.unusedVariables false
set_option linter.unusedSimpArgs false

-- NOT PRINTED: function 8 (tile_New)

-- NOT PRINTED: function 9 (tattinglaw13_of)

-- NOT PRINTED: function 23 (atomic_LoadUint32)

-- NOT PRINTED: function 20 (atomic_Bool_Load)

-- NOT PRINTED: function 31 (race_Disable)

-- NOT PRINTED: function 32 (atomic_CompareAndSwapInt32)

-- NOT PRINTED: function 33 (race_Enable)

-- NOT PRINTED: function 34 (race_Acquire)

-- NOT PRINTED: function 37 (atomic_AddInt32)

-- NOT PRINTED: function 39 (sync_runtime_canSpin)

-- NOT PRINTED: function 40 (sync_runtime_doSpin)

-- NOT PRINTED: function 41 (sync_throw)

-- NOT PRINTED: function 42 (sync_runtime_nanotime)

-- NOT PRINTED: function 43 (sync_runtime_SemacquireMutex)

-- NOT PRINTED: function 35 (sync_Mutex_lockSlow)

-- NOT PRINTED: function 27 (sync_Mutex_Lock_27)

-- NOT PRINTED: function 24 (sync_Mutex_Lock_24)

-- NOT PRINTED: function 36 (race_ReleaseMerge)

-- NOT PRINTED: function 44 (sync_fatal)

-- NOT PRINTED: function 45 (sync_runtime_Semrelease)

-- NOT PRINTED: function 38 (sync_Mutex_unlockSlow)

-- NOT PRINTED: function 28 (sync_Mutex_Unlock_28)

-- NOT PRINTED: function 25 (sync_Mutex_Unlock_25)

-- NOT PRINTED: function 29 (atomic_StoreUint32)

/-! ### atomic_b32: function 30 -/
def atomic_b32.f (a0 : Bool) : Option (Int) := if a0 = true then (some 1) else (some 0)
set_option maxHeartbeats 8000000 in
set_option maxRecDepth 100000 in
theorem atomic_b32.calls (a0 : Bool) (r : Int) (w : World) (h : atomic_b32.f a0 = some r) :
    Calls Try.prog 30 #[.bool a0] w fun e w' => e = .returned (.int .u32 r) ∧ Drawn0 w w' := by
  have H : (if a0 = true then (some 1) else (some 0)) = some r := h
  clear h
  by_cases c2 : a0 = true
  · subst c2
    have H1 : (some 1) = some r := by rw [if_pos rfl] at H; exact H
    clear H
    have H := H1
    clear H1
    obtain rfl := Option.some.inj H
    go_enter Try.func30, Try.ntmps30
    go_wp2
    go_ret
    exact ⟨by first | rfl | (simp; done) | (simp [*]; done), by repeat (first | exact Drawn0.refl _ | apply Drawn0.step)⟩
  · replace c2 := Bool.eq_false_iff.mpr c2
    subst c2
    have H1 : (some 0) = some r := by rw [if_neg (show ¬ (false = true) by decide)] at H; exact H
    clear H
    have H := H1
    clear H1
    obtain rfl := Option.some.inj H
    go_enter Try.func30, Try.ntmps30
    go_wp2
    go_ret
    exact ⟨by first | rfl | (simp; done) | (simp [*]; done), by repeat (first | exact Drawn0.refl _ | apply Drawn0.step)⟩

-- NOT PRINTED: function 26 (atomic_Bool_Store)

-- NOT PRINTED: function 21 (sync_Once_doSlow)

-- NOT PRINTED: function 17 (sync_Once_Do)

-- NOT PRINTED: function 12 (tile_Tiles_Size)

-- NOT PRINTED: function 22 (tile_square)

-- NOT PRINTED: function 18 (tile_Tiles_work)

-- NOT PRINTED: function 11 (tile_Tiles_Look)

-- NOT PRINTED: function 14 (tile_Tiles_Side)

/-! ### tattinglaw13_awake: function 10 -/
def tattinglaw13_awake.f  : Option Bool := some true
theorem tattinglaw13_awake.calls  (r : Bool) (w : World) (h : tattinglaw13_awake.f  = some r) :
    Calls Try.prog 10 #[] w fun e w' => e = .returned (.bool r) ∧ Below w.heap.size w w' := by
  unfold tattinglaw13_awake.f at h
  obtain rfl := Option.some.inj h
  exact Tile.awake w

/-! ### tattinglaw13_TileTurns: function 6 -/
def tattinglaw13_TileTurns.f (a0 : Int) (a1 : Int) (a2 : Int) (a3 : Int) : Option Bool := if (0 ≤ a0 ∧ a0 < 256) ∧ (0 ≤ a1 ∧ a1 < 65536) ∧ (0 ≤ a2 ∧ a2 < 65536) ∧ (0 ≤ a3 ∧ a3 < 65536) then some true else none
theorem tattinglaw13_TileTurns.calls (a0 : Int) (a1 : Int) (a2 : Int) (a3 : Int) (r : Bool) (w : World) (h : tattinglaw13_TileTurns.f a0 a1 a2 a3 = some r) (HRT : Aside0 (r = true)) :
    Calls Try.prog 6 #[.int .u8 a0, .int .u16 a1, .int .u16 a2, .int .u16 a3] w fun e w' => e = .returned (.bool r) ∧ Below w.heap.size w w' := by
  unfold tattinglaw13_TileTurns.f at h
  by_cases q_ : (0 ≤ a0 ∧ a0 < 256) ∧ (0 ≤ a1 ∧ a1 < 65536) ∧ (0 ≤ a2 ∧ a2 < 65536) ∧ (0 ≤ a3 ∧ a3 < 65536)
  rotate_left
  · rw [if_neg q_] at h
    exact absurd h (by simp)
  rw [if_pos q_] at h
  obtain rfl := Option.some.inj h
  obtain ⟨q0, q1, q2, q3⟩ := q_
  exact Tile.turn a0 a1 a2 a3 q0 q1 q2 q3 w

/-- THE ONE PURE STATEMENT of tattinglaw13_TileTurns: yours. -/
def tattinglaw13_TileTurns.Pure : Prop := ∀ (a0 : Int) (a1 : Int) (a2 : Int) (a3 : Int), (Lit.int .u8 a0).wf = true → (Lit.int .u16 a1).wf = true → (Lit.int .u16 a2).wf = true → (Lit.int .u16 a3).wf = true → tattinglaw13_TileTurns.f a0 a1 a2 a3 = some true
theorem tattinglaw13_TileTurns.walk (P : tattinglaw13_TileTurns.Pure) (a0 : Int) (a1 : Int) (a2 : Int) (a3 : Int) (w : World) (w0 : (Lit.int .u8 a0).wf = true) (w1 : (Lit.int .u16 a1).wf = true) (w2 : (Lit.int .u16 a2).wf = true) (w3 : (Lit.int .u16 a3).wf = true) :
    Calls Try.prog 6 #[.int .u8 a0, .int .u16 a1, .int .u16 a2, .int .u16 a3] w fun e w' => e = .returned (.bool true) ∧ Below w.heap.size w w' := by
  have h := P a0 a1 a2 a3 w0 w1 w2 w3
  refine (tattinglaw13_TileTurns.calls a0 a1 a2 a3 true w h ⟨rfl⟩).mono ?_
  rintro e w' ⟨rfl, hd⟩
  exact ⟨rfl, hd⟩

end Go.Proofs.Ytfldkfccdjdofaa.PTileTurns
