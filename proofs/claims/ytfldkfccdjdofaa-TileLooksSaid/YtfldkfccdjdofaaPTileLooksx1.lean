-- Laid by wip/myprint.py: the kit's print, with contracts typed by hand for what it does not take.
import Derived.Test.YtfldkfccdjdofaaPTileLooksx0
import Derived.Test.YtfldkfccdjdofaaHTc
namespace Go.Proofs.Ytfldkfccdjdofaa.PTileLooks
open Go.RowKit Go.Proofs.YtfldkfccdjdofaaW.PrintWords Go.Proofs.YtfldkfccdjdofaaW.PrintLast Go.Proofs.YtfldkfccdjdofaaW.PrintMore
attribute [local go_sem] max2_int min2_int max_two min_two max_three min_three max_four min_four   -- for this text's walks alone
set_option linter.unusedVariables false
set_option linter.unusedSimpArgs false

-- NOT PRINTED: function 8 (tile_New)

-- NOT PRINTED: function 23 (atomic_LoadUint32)

-- NOT PRINTED: function 20 (atomic_Bool_Load)

-- NOT PRINTED: function 31 (race_Disable)

-- NOT PRINTED: function 32 (atomic_CompareAndSwapInt32)

-- NOT PRINTED: function 33 (race_Enable)

-- NOT PRINTED: function 34 (race_Acquire)

-- NOT PRINTED: function 37 (atomic_AddInt32)

-- NOT PRINTED: function 39 (sync_runtime_canSpin)

-- NOT PRINTED: function 40 (sync_runtime_doSpin)

-- NOT PRINTED: function 41 (sync_throw)

-- NOT PRINTED: function 42 (sync_runtime_nanotime)

-- NOT PRINTED: function 43 (sync_runtime_SemacquireMutex)

-- NOT PRINTED: function 35 (sync_Mutex_lockSlow)

-- NOT PRINTED: function 27 (sync_Mutex_Lock_27)

-- NOT PRINTED: function 24 (sync_Mutex_Lock_24)

-- NOT PRINTED: function 36 (race_ReleaseMerge)

-- NOT PRINTED: function 44 (sync_fatal)

-- NOT PRINTED: function 45 (sync_runtime_Semrelease)

-- NOT PRINTED: function 38 (sync_Mutex_unlockSlow)

-- NOT PRINTED: function 28 (sync_Mutex_Unlock_28)

-- NOT PRINTED: function 25 (sync_Mutex_Unlock_25)

-- NOT PRINTED: function 29 (atomic_StoreUint32)

/-! ### atomic_b32: function 30 -/
def atomic_b32.f (a0 : Bool) : Option (Int) := if a0 = true then (some 1) else (some 0)
set_option maxHeartbeats 8000000 in
set_option maxRecDepth 100000 in
theorem atomic_b32.calls (a0 : Bool) (r : Int) (w : World) (h : atomic_b32.f a0 = some r) :
    Calls Try.prog 30 #[.bool a0] w fun e w' => e = .returned (.int .u32 r) ∧ Drawn0 w w' := by
  have H : (if a0 = true then (some 1) else (some 0)) = some r := h
  clear h
  by_cases c2 : a0 = true
  · subst c2
    have H1 : (some 1) = some r := by rw [if_pos rfl] at H; exact H
    clear H
    have H := H1
    clear H1
    obtain rfl := Option.some.inj H
    go_enter Try.func30, Try.ntmps30
    go_wp2
    go_ret
    exact ⟨by first | rfl | (simp; done) | (simp [*]; done), by repeat (first | exact Drawn0.refl _ | apply Drawn0.step)⟩
  · replace c2 := Bool.eq_false_iff.mpr c2
    subst c2
    have H1 : (some 0) = some r := by rw [if_neg (show ¬ (false = true) by decide)] at H; exact H
    clear H
    have H := H1
    clear H1
    obtain rfl := Option.some.inj H
    go_enter Try.func30, Try.ntmps30
    go_wp2
    go_ret
    exact ⟨by first | rfl | (simp; done) | (simp [*]; done), by repeat (first | exact Drawn0.refl _ | apply Drawn0.step)⟩

-- NOT PRINTED: function 26 (atomic_Bool_Store)

-- NOT PRINTED: function 21 (sync_Once_doSlow)

-- NOT PRINTED: function 17 (sync_Once_Do)

-- NOT PRINTED: function 12 (tile_Tiles_Size)

-- NOT PRINTED: function 22 (tile_square)

-- NOT PRINTED: function 18 (tile_Tiles_work)

-- NOT PRINTED: function 11 (tile_Tiles_Look)

-- NOT PRINTED: function 14 (tile_Tiles_Side)

/-! ### tattinglaw13_awake: function 10 -/
def tattinglaw13_awake.f  : Option Bool := some true
theorem tattinglaw13_awake.calls  (r : Bool) (w : World) (h : tattinglaw13_awake.f  = some r) :
    Calls Try.prog 10 #[] w fun e w' => e = .returned (.bool r) ∧ Below w.heap.size w w' := by
  unfold tattinglaw13_awake.f at h
  obtain rfl := Option.some.inj h
  exact Tile.awake w

end Go.Proofs.Ytfldkfccdjdofaa.PTileLooks
