/- Words of the printer, those that are used. -/
import Derived.Test.YtjkjanegankdhaaGreatZPTopWordsx0
import Derived.Test.YtjkjanegankdhaaGreatZHVec
import Derived.Test.YtjkjanegankdhaaGreatZHWalk
namespace Go.Proofs.YtjkjanegankdhaaGreat.PTopWords
open Go.RowKit Go.Proofs.YtjkjanegankdhaaGreatW.PrintWords Go.Proofs.YtjkjanegankdhaaGreatW.PrintLast Go.Proofs.YtjkjanegankdhaaGreatW.PrintMore
attribute [local go_sem] max2_int min2_int max_two min_two max_three min_three max_four min_four   -- for this text's walks alone
set_option linter.unusedVariables false
set_option linter.unusedSimpArgs false
-- NOT PRINTED: function 33 (grid_Len)
-- NOT PRINTED: function 105 (pairs_is)
-- NOT PRINTED: function 51 (pairs_Good)
-- NOT PRINTED: function 143 (grid_table)
-- NOT PRINTED: function 86 (grid_Behind)
-- NOT PRINTED: function 106 (least_next)
-- NOT PRINTED: function 52 (least_Of)
-- NOT PRINTED: function 13 (canon_Of)
-- NOT PRINTED: function 160 (bytes_Clone)
-- NOT PRINTED: function 188 (slices_Clone_byte_byte)
-- NOT PRINTED: function 125 (bits_Len32)
-- NOT PRINTED: function 126 (bits_Len64)
-- NOT PRINTED: function 67 (bits_Len)
-- NOT PRINTED: function 230 (slices_insertionSortCmpFunc_byte)
-- NOT PRINTED: function 243 (slices_siftDownCmpFunc_byte)
-- NOT PRINTED: function 231 (slices_heapSortCmpFunc_byte)
-- NOT PRINTED: function 220 (slices_nextPowerOfTwo)
-- NOT PRINTED: function 221 (slices_xorshift_Next)
-- NOT PRINTED: function 232 (slices_breakPatternsCmpFunc_byte)
-- NOT PRINTED: function 254 (slices_order2CmpFunc_byte)
-- NOT PRINTED: function 245 (slices_medianCmpFunc_byte)
-- NOT PRINTED: function 244 (slices_medianAdjacentCmpFunc_byte)
-- NOT PRINTED: function 233 (slices_choosePivotCmpFunc_byte)
-- NOT PRINTED: function 234 (slices_reverseRangeCmpFunc_byte)
-- NOT PRINTED: function 235 (slices_partialInsertionSortCmpFunc_byte)
-- NOT PRINTED: function 236 (slices_partitionEqualCmpFunc_byte)
-- NOT PRINTED: function 237 (slices_partitionCmpFunc_byte)
-- NOT PRINTED: function 216 (slices_pdqsortCmpFunc_byte)
-- NOT PRINTED: function 189 (slices_SortFunc_byte_byte)
-- NOT PRINTED: function 217 (bytealg_Compare)
-- NOT PRINTED: function 190 (bytes_Compare)
-- NOT PRINTED: function 191 (slices_CompactFunc_byte_byte)
-- NOT PRINTED: function 192 (bytes_Equal)
-- NOT PRINTED: function 157 (names_Sort)
-- NOT PRINTED: function 193 (slices_Grow_byte_byte)
-- NOT PRINTED: function 158 (slices_Concat_byte_byte)
-- NOT PRINTED: function 218 (slices_BinarySearchFunc_byte_byte_byte)
-- NOT PRINTED: function 194 (names_Find)
-- NOT PRINTED: function 159 (names_Ids)
-- NOT PRINTED: function 112 (names_Two)
-- NOT PRINTED: function 171 (tok_isMode)
-- NOT PRINTED: function 204 (bytealg_IndexByte)
-- NOT PRINTED: function 172 (bytes_IndexByte)
-- NOT PRINTED: function 140 (tok_Cut)
-- NOT PRINTED: function 141 (trim_Of)
-- NOT PRINTED: function 127 (slices_Clone_int_int)
-- NOT PRINTED: function 142 (trim_Mid)
-- NOT PRINTED: function 84 (port_cut)
-- NOT PRINTED: function 211 (utf8_RuneCountInString)
-- NOT PRINTED: function 182 (utf8_RuneCount)
-- NOT PRINTED: function 183 (bytealg_Count)
-- NOT PRINTED: function 212 (bytealg_Index)
-- NOT PRINTED: function 213 (bytealg_Cutover)
-- NOT PRINTED: function 228 (bytealg_hashStr_byte)
-- NOT PRINTED: function 214 (bytealg_IndexRabinKarp_byte)
-- NOT PRINTED: function 184 (bytes_Index)
-- NOT PRINTED: function 154 (bytes_Count)
-- NOT PRINTED: function 107 (tok_Count)
-- NOT PRINTED: function 108 (cost_Of)
-- NOT PRINTED: function 229 (cost_is)
-- NOT PRINTED: function 215 (cost_Right)
-- NOT PRINTED: function 185 (cost_ask)
-- NOT PRINTED: function 186 (cost_up)
-- NOT PRINTED: function 187 (cost_digits)
-- NOT PRINTED: function 155 (cost_Work)
-- NOT PRINTED: function 109 (cost_Choose)
-- NOT PRINTED: function 156 (cost_Room)
-- NOT PRINTED: function 110 (cost_Fits)
-- NOT PRINTED: function 53 (port_ready)
/-! ### hyyro_is: function 79 -/
def hyyro_is.f (a0 : Int) : Option (Bool) := if a0 ≥ 0 then (some (decide (a0 ≤ 1048576))) else (some false)
set_option maxHeartbeats 8000000 in
set_option maxRecDepth 100000 in
theorem hyyro_is.calls (a0 : Int) (r : Bool) (w : World) (h : hyyro_is.f a0 = some r) :
    Calls Tryz.prog 79 #[.int .i64 a0] w fun e w' => e = .returned (.bool r) ∧ Drawn0 w w' := by
  have H : (if a0 ≥ 0 then (some (decide (a0 ≤ 1048576))) else (some false)) = some r := h
  clear h
  by_cases c2 : a0 ≥ 0
  · rw [if_pos c2] at H
    have c2b0 : decide (0 ≤ a0) = true := decide_eq_true c2
    clear c2
    obtain rfl := Option.some.inj H
    go_enter Tryz.func79, Tryz.ntmps79
    go_wp2
    go_ret
    exact ⟨by first | rfl | (simp; done) | (simp [*]; done), by repeat (first | exact Drawn0.refl _ | apply Drawn0.step)⟩
  · rw [if_neg c2] at H
    have c2b0 : decide (0 ≤ a0) = false := decide_eq_false c2
    clear c2
    obtain rfl := Option.some.inj H
    go_enter Tryz.func79, Tryz.ntmps79
    go_wp2
    go_ret
    exact ⟨by first | rfl | (simp; done) | (simp [*]; done), by repeat (first | exact Drawn0.refl _ | apply Drawn0.step)⟩
/-! ### vec_width: function 138 -/
def vec_width.f (a0 : Int) : Option (Int) := some (mn (mx a0 0) 1048576)
set_option maxHeartbeats 8000000 in
set_option maxRecDepth 100000 in
theorem vec_width.calls (a0 : Int) (r : Int) (w : World) (h : vec_width.f a0 = some r) :
    Calls Tryz.prog 138 #[.int .i64 a0] w fun e w' => e = .returned (.int .i64 r) ∧ Below w.heap.size w w' := by
  have HB := Aside0.mk (Below.refl w.heap.size w)
  have H : (some (mn (mx a0 0) 1048576)) = some r := h
  clear h
  obtain ⟨ji2, hji2⟩ : ∃ j_ : Int, (mx a0 0) = j_ := ⟨_, rfl⟩
  replace H : (some (mn (ji2) 1048576)) = some r := by first | (rw [hji2] at H; exact H) | (simp only [hji2] at H ⊢; exact H)
  (try (have hji2l : 0 ≤ ji2 := by (rw [← hji2]; unfold mx; (repeat' split) <;> omega)))
  (try (have hji2m : 0 ≤ ji2 := by omega))
  have hji2_ : (if a0 < 0 then 0 else a0) = ji2 := hji2
  obtain ⟨ji3, hji3⟩ : ∃ j_ : Int, (mn (ji2) 1048576) = j_ := ⟨_, rfl⟩
  replace H : (some ji3) = some r := by first | (rw [hji3] at H; exact H) | (simp only [hji3] at H ⊢; exact H)
  have hji3_ : (if 1048576 < (ji2) then 1048576 else (ji2)) = ji3 := hji3
  obtain rfl := Option.some.inj H
  go_enter Tryz.func138, Tryz.ntmps138
  go_wp2
  go_ret
  exact ⟨by first | rfl | (simp [errW_none, errW_some] <;> rfl) | (simp only [← hji2, ← hji3]; first | rfl | (simp [errW_none, errW_some] <;> rfl)) | (simp [*, errW_none, errW_some] <;> rfl), by repeat (first | (with_reducible first | exact HB.out | apply below_alloc | apply pw_below_drewN | apply below_drew1) | exact HB.out)⟩
/-! ### vec_Words: function 80 -/
def vec_Words.f (a0 : Int) : Option (Int) := (vec_width.f a0).bind fun t101 => (some (wrap64 (Int.tdiv (wrap64 ((wrap64 (t101 + 64)) - 1)) 64)))
set_option maxHeartbeats 8000000 in
set_option maxRecDepth 100000 in
theorem vec_Words.calls (a0 : Int) (r : Int) (w : World) (h : vec_Words.f a0 = some r) :
    Calls Tryz.prog 80 #[.int .i64 a0] w fun e w' => e = .returned (.int .i64 r) ∧ Below w.heap.size w w' := by
  have HB := Aside0.mk (Below.refl w.heap.size w)
  have H : ((vec_width.f a0).bind fun t101 => (some (wrap64 (Int.tdiv (wrap64 ((wrap64 (t101 + 64)) - 1)) 64)))) = some r := h
  clear h
  replace H := Option.bind_eq_some_iff.mp H
  obtain ⟨t101, A20, H⟩ := H
  replace H : (some (wrap64 (Int.tdiv (wrap64 ((wrap64 (t101 + 64)) - 1)) 64))) = some r := H
  have A2 := Aside0.mk A20
  clear A20
  obtain rfl := Option.some.inj H
  go_enter Tryz.func80, Tryz.ntmps80
  go_wp2_with (first | ((with_reducible refine gate_callee (f := 138) rfl ?_); refine goesL_ (some 4) rfl rfl Tryz.func138 (by kernel_rfl) rfl #[.int .i64 a0] rfl (by (try simp only [List.map_toArray, List.map_cons, List.map_nil]); first | done | rfl | (simp only [List.length_drop, List.length_take]; rfl)) ?_; (with_reducible refine (vec_width.calls a0 t101 _ A2.out).mono ?_); rintro e w3 ⟨rfl, hb⟩; refine ⟨_, rfl, ?_⟩; have n0_ := Aside0.mk (below_step (by repeat (first | (with_reducible first | exact HB.out | apply below_alloc | apply pw_below_drewN | apply below_drew1) | exact HB.out)) hb); clear HB; have HB := n0_; clear n0_; (try clear hb); (try clear hb2); (try clear hk); (try clear hi)))
  go_ret
  exact ⟨by first | rfl | (simp [errW_none, errW_some] <;> rfl) | (simp [*, errW_none, errW_some] <;> rfl), by repeat (first | (with_reducible first | exact HB.out | apply below_alloc | apply pw_below_drewN | apply below_drew1) | exact HB.out)⟩
/-! ### hyyro_Steps: function 35 -/
def hyyro_Steps.f (a0 : Int) (a1 : Int) : Option (Int) := (hyyro_is.f a0).bind fun t102 => (if t102 = true then ((hyyro_is.f a1).bind fun t103 => (if t103 = true then ((vec_Words.f a1).bind fun t104 => (some (wrap64 (a0 * t104)))) else (some 0))) else (some 0))
set_option maxHeartbeats 8000000 in
set_option maxRecDepth 100000 in
theorem hyyro_Steps.calls (a0 : Int) (a1 : Int) (r : Int) (w : World) (h : hyyro_Steps.f a0 a1 = some r) :
    Calls Tryz.prog 35 #[.int .i64 a0, .int .i64 a1] w fun e w' => e = .returned (.int .i64 r) ∧ Below w.heap.size w w' := by
  have HB := Aside0.mk (Below.refl w.heap.size w)
  have H : ((hyyro_is.f a0).bind fun t102 => (if t102 = true then ((hyyro_is.f a1).bind fun t103 => (if t103 = true then ((vec_Words.f a1).bind fun t104 => (some (wrap64 (a0 * t104)))) else (some 0))) else (some 0))) = some r := h
  clear h
  replace H := Option.bind_eq_some_iff.mp H
  obtain ⟨t102, A30, H⟩ := H
  replace H : (if t102 = true then ((hyyro_is.f a1).bind fun t103 => (if t103 = true then ((vec_Words.f a1).bind fun t104 => (some (wrap64 (a0 * t104)))) else (some 0))) else (some 0)) = some r := H
  have A3 := Aside0.mk A30
  clear A30
  by_cases c4 : t102 = true
  · subst c4
    have H1 : ((hyyro_is.f a1).bind fun t103 => (if t103 = true then ((vec_Words.f a1).bind fun t104 => (some (wrap64 (a0 * t104)))) else (some 0))) = some r := by rw [if_pos rfl] at H; exact H
    clear H
    have H := H1
    clear H1
    replace H := Option.bind_eq_some_iff.mp H
    obtain ⟨t103, A50, H⟩ := H
    replace H : (if t103 = true then ((vec_Words.f a1).bind fun t104 => (some (wrap64 (a0 * t104)))) else (some 0)) = some r := H
    have A5 := Aside0.mk A50
    clear A50
    by_cases c6 : t103 = true
    · subst c6
      have H1 : ((vec_Words.f a1).bind fun t104 => (some (wrap64 (a0 * t104)))) = some r := by rw [if_pos rfl] at H; exact H
      clear H
      have H := H1
      clear H1
      replace H := Option.bind_eq_some_iff.mp H
      obtain ⟨t104, A70, H⟩ := H
      replace H : (some (wrap64 (a0 * t104))) = some r := H
      have A7 := Aside0.mk A70
      clear A70
      obtain rfl := Option.some.inj H
      go_enter Tryz.func35, Tryz.ntmps35
      go_wp2_with (first | ((with_reducible refine gate_callee (f := 79) rfl ?_); refine goesL_ (some 6) rfl rfl Tryz.func79 (by kernel_rfl) rfl #[.int .i64 a0] rfl (by (try simp only [List.map_toArray, List.map_cons, List.map_nil]); first | done | rfl | (simp only [List.length_drop, List.length_take]; rfl)) ?_; (with_reducible refine (hyyro_is.calls a0 true _ A3.out).mono ?_); rintro e w' ⟨rfl, ⟨nd, rfl⟩⟩; refine ⟨_, rfl, ?_⟩) | (go_at_call 79; (with_reducible refine (hyyro_is.calls a1 true _ A5.out).mono ?_); rintro e w' ⟨rfl, ⟨nd, rfl⟩⟩) | ((with_reducible refine gate_callee (f := 80) rfl ?_); refine goesL_ (some 15) rfl rfl Tryz.func80 (by kernel_rfl) rfl #[.int .i64 a1] rfl (by (try simp only [List.map_toArray, List.map_cons, List.map_nil]); first | done | rfl | (simp only [List.length_drop, List.length_take]; rfl)) ?_; (with_reducible refine (vec_Words.calls a1 t104 _ A7.out).mono ?_); rintro e w8 ⟨rfl, hb⟩; refine ⟨_, rfl, ?_⟩; have n0_ := Aside0.mk (below_step (by repeat (first | (with_reducible first | exact HB.out | apply below_alloc | apply pw_below_drewN | apply below_drew1) | exact HB.out)) hb); clear HB; have HB := n0_; clear n0_; (try clear hb); (try clear hb2); (try clear hk); (try clear hi)))
      go_ret
      exact ⟨by first | rfl | (simp [errW_none, errW_some] <;> rfl) | (simp [*, errW_none, errW_some] <;> rfl), by repeat (first | (with_reducible first | exact HB.out | apply below_alloc | apply pw_below_drewN | apply below_drew1) | exact HB.out)⟩
    · replace c6 := Bool.eq_false_iff.mpr c6
      subst c6
      have H1 : (some 0) = some r := by rw [if_neg (show ¬ (false = true) by decide)] at H; exact H
      clear H
      have H := H1
      clear H1
      obtain rfl := Option.some.inj H
      go_enter Tryz.func35, Tryz.ntmps35
      go_wp2_with (first | ((with_reducible refine gate_callee (f := 79) rfl ?_); refine goesL_ (some 6) rfl rfl Tryz.func79 (by kernel_rfl) rfl #[.int .i64 a0] rfl (by (try simp only [List.map_toArray, List.map_cons, List.map_nil]); first | done | rfl | (simp only [List.length_drop, List.length_take]; rfl)) ?_; (with_reducible refine (hyyro_is.calls a0 true _ A3.out).mono ?_); rintro e w' ⟨rfl, ⟨nd, rfl⟩⟩; refine ⟨_, rfl, ?_⟩) | (go_at_call 79; (with_reducible refine (hyyro_is.calls a1 false _ A5.out).mono ?_); rintro e w' ⟨rfl, ⟨nd, rfl⟩⟩))
      go_ret
      exact ⟨by first | rfl | (simp [errW_none, errW_some] <;> rfl) | (simp [*, errW_none, errW_some] <;> rfl), by repeat (first | (with_reducible first | exact HB.out | apply below_alloc | apply pw_below_drewN | apply below_drew1) | exact HB.out)⟩
  · replace c4 := Bool.eq_false_iff.mpr c4
    subst c4
    have H1 : (some 0) = some r := by rw [if_neg (show ¬ (false = true) by decide)] at H; exact H
    clear H
    have H := H1
    clear H1
    obtain rfl := Option.some.inj H
    go_enter Tryz.func35, Tryz.ntmps35
    go_wp2_with (first | ((with_reducible refine gate_callee (f := 79) rfl ?_); refine goesL_ (some 6) rfl rfl Tryz.func79 (by kernel_rfl) rfl #[.int .i64 a0] rfl (by (try simp only [List.map_toArray, List.map_cons, List.map_nil]); first | done | rfl | (simp only [List.length_drop, List.length_take]; rfl)) ?_; (with_reducible refine (hyyro_is.calls a0 false _ A3.out).mono ?_); rintro e w' ⟨rfl, ⟨nd, rfl⟩⟩; refine ⟨_, rfl, ?_⟩))
    go_ret
    exact ⟨by first | rfl | (simp [errW_none, errW_some] <;> rfl) | (simp [*, errW_none, errW_some] <;> rfl), by repeat (first | (with_reducible first | exact HB.out | apply below_alloc | apply pw_below_drewN | apply below_drew1) | exact HB.out)⟩
-- NOT PRINTED: function 209 (cmp_isNaN_int)
-- NOT PRINTED: function 177 (cmp_Less_int)
-- NOT PRINTED: function 196 (slices_insertionSortOrdered_int)
-- NOT PRINTED: function 219 (slices_siftDownOrdered_int)
-- NOT PRINTED: function 197 (slices_heapSortOrdered_int)
-- NOT PRINTED: function 198 (slices_breakPatternsOrdered_int)
-- NOT PRINTED: function 238 (slices_order2Ordered_int)
-- NOT PRINTED: function 223 (slices_medianOrdered_int)
-- NOT PRINTED: function 222 (slices_medianAdjacentOrdered_int)
-- NOT PRINTED: function 199 (slices_choosePivotOrdered_int)
-- NOT PRINTED: function 200 (slices_reverseRangeOrdered_int)
-- NOT PRINTED: function 201 (slices_partialInsertionSortOrdered_int)
-- NOT PRINTED: function 202 (slices_partitionEqualOrdered_int)
-- NOT PRINTED: function 203 (slices_partitionOrdered_int)
-- NOT PRINTED: function 166 (slices_pdqsortOrdered_int)
-- NOT PRINTED: function 128 (slices_Sort_int_int)
-- NOT PRINTED: function 129 (slices_Compact_int_int)
-- NOT PRINTED: function 69 (mask_New)
-- NOT PRINTED: function 167 (vec_at)
-- NOT PRINTED: function 168 (vec_mask)
/-! ### vec_Not: function 130 -/
def vec_Not.f (l0 : List Int) (a1 : Int) : Option (List Int) := if 0 ≤ a1 ∧ a1 ≤ 1000000 ∧ l0.all Go.Proofs.YtjkjanegankdhaaGreat.Vx.Vec.ok = true then some ((List.range (Go.Proofs.YtjkjanegankdhaaGreat.Vx.Vec.words a1.toNat)).map fun k => ((18446744073709551615 - Go.Proofs.YtjkjanegankdhaaGreat.Vx.Vec.w l0 k &&& Go.Proofs.YtjkjanegankdhaaGreat.Vx.Vec.mask a1.toNat k : Nat) : Int)) else none
theorem vec_Not.calls (A0 : Option Addr) (c0 : Nat) (l0 : List Int) (a1 : Int) (r : List Int) (w : World) (hr0 : Kd.C (Kd.int .u64) w A0 l0.length l0) (hc0 : l0.length ≤ c0) (h : vec_Not.f l0 a1 = some r) :
    Calls Tryz.prog 130 #[.slice A0 l0.length c0, .int .i64 a1] w fun e w' => ∃ v0_ : Value, e = .returned (v0_) ∧ Kd.R (Kd.int .u64) 104 w' w.heap.size (fun _ => True) v0_ r ∧ Below w.heap.size w w' := by
  unfold vec_Not.f at h
  by_cases c : 0 ≤ a1 ∧ a1 ≤ 1000000 ∧ l0.all Go.Proofs.YtjkjanegankdhaaGreat.Vx.Vec.ok = true
  · rw [if_pos c] at h
    obtain rfl := Option.some.inj h
    obtain ⟨m, rfl⟩ := Int.eq_ofNat_of_zero_le c.1
    rw [Int.toNat_natCast]
    exact Go.Proofs.YtjkjanegankdhaaGreat.Vx.Vec.not_calls A0 c0 l0 m w hr0 (by have := c.2.1; omega) c.2.2
  · rw [if_neg c] at h
    exact absurd h (by simp)
/-! ### vec_Ones: function 70 -/
def vec_Ones.f (a0 : Int) : Option (List Int) := (vec_Not.f ([] : List Int) a0).bind fun t108 => (some t108)
/-! ### vec_Fit: function 131 -/
def vec_Fit.f (l0 : List Int) (a1 : Int) : Option (List Int) := if 0 ≤ a1 ∧ a1 ≤ 1000000 ∧ l0.all Go.Proofs.YtjkjanegankdhaaGreat.Vx.Vec.ok = true then some ((List.range (Go.Proofs.YtjkjanegankdhaaGreat.Vx.Vec.words a1.toNat)).map fun k => ((Go.Proofs.YtjkjanegankdhaaGreat.Vx.Vec.w l0 k &&& Go.Proofs.YtjkjanegankdhaaGreat.Vx.Vec.mask a1.toNat k : Nat) : Int)) else none
theorem vec_Fit.calls (A0 : Option Addr) (c0 : Nat) (l0 : List Int) (a1 : Int) (r : List Int) (w : World) (hr0 : Kd.C (Kd.int .u64) w A0 l0.length l0) (hc0 : l0.length ≤ c0) (h : vec_Fit.f l0 a1 = some r) :
    Calls Tryz.prog 131 #[.slice A0 l0.length c0, .int .i64 a1] w fun e w' => ∃ v0_ : Value, e = .returned (v0_) ∧ Kd.R (Kd.int .u64) 104 w' w.heap.size (fun _ => True) v0_ r ∧ Below w.heap.size w w' := by
  unfold vec_Fit.f at h
  by_cases c : 0 ≤ a1 ∧ a1 ≤ 1000000 ∧ l0.all Go.Proofs.YtjkjanegankdhaaGreat.Vx.Vec.ok = true
  · rw [if_pos c] at h
    obtain rfl := Option.some.inj h
    obtain ⟨m, rfl⟩ := Int.eq_ofNat_of_zero_le c.1
    rw [Int.toNat_natCast]
    exact Go.Proofs.YtjkjanegankdhaaGreat.Vx.Vec.fit_calls A0 c0 l0 m w hr0 (by have := c.2.1; omega) c.2.2
  · rw [if_neg c] at h
    exact absurd h (by simp)
/-! ### vec_inside: function 137 -/
def vec_inside.f (l0 : List Int) (a1 : Int) : Option (Bool) := if a1 ≥ 0 then (some (decide ((wrap64 (Int.tdiv a1 64)) < (l0.length : Int)))) else (some false)
set_option maxHeartbeats 8000000 in
set_option maxRecDepth 100000 in
theorem vec_inside.calls (A0 : Option Addr) (c0 : Nat) (l0 : List Int) (a1 : Int) (r : Bool) (w : World) (hr0 : Kd.C (Kd.int .u64) w A0 l0.length l0) (hc0 : l0.length ≤ c0) (h : vec_inside.f l0 a1 = some r) :
    Calls Tryz.prog 137 #[.slice A0 l0.length c0, .int .i64 a1] w fun e w' => e = .returned (.bool r) ∧ Drawn0 w w' := by
  have HR0 := Aside0.mk hr0
  have HC0 := Aside0.mk hc0
  clear hr0 hc0
  have H : (if a1 ≥ 0 then (some (decide ((wrap64 (Int.tdiv a1 64)) < (l0.length : Int)))) else (some false)) = some r := h
  clear h
  by_cases c3 : a1 ≥ 0
  · rw [if_pos c3] at H
    have c3b0 : decide (0 ≤ a1) = true := decide_eq_true c3
    clear c3
    obtain rfl := Option.some.inj H
    go_enter Tryz.func137, Tryz.ntmps137
    go_wp2
    go_ret
    exact ⟨by first | rfl | (simp; done) | (simp [*]; done), by repeat (first | exact Drawn0.refl _ | apply Drawn0.step)⟩
  · rw [if_neg c3] at H
    have c3b0 : decide (0 ≤ a1) = false := decide_eq_false c3
    clear c3
    obtain rfl := Option.some.inj H
    go_enter Tryz.func137, Tryz.ntmps137
    go_wp2
    go_ret
    exact ⟨by first | rfl | (simp; done) | (simp [*]; done), by repeat (first | exact Drawn0.refl _ | apply Drawn0.step)⟩
/-! ### vec_Get: function 77 -/
def vec_Get.f (l0 : List Int) (a1 : Int) : Option (Bool) := (vec_inside.f l0 a1).bind fun t120 => (if t120 = true then (if 0 ≤ (wrap64 (Int.tdiv a1 64)) then (if (wrap64 (Int.tdiv a1 64)) < (l0.length : Int) then (if 0 ≤ (IntKind.u64.wrap (Int.tmod a1 64)) then (some ((Go.bits .and .u64 (shr .u64 (rd l0 (wrap64 (Int.tdiv a1 64))) (IntKind.u64.wrap (Int.tmod a1 64))) 1) == 1)) else (none)) else (none)) else (none)) else (some false))
set_option maxHeartbeats 8000000 in
set_option maxRecDepth 100000 in
theorem vec_Get.calls (A0 : Option Addr) (c0 : Nat) (l0 : List Int) (a1 : Int) (r : Bool) (w : World) (hr0 : Kd.C (Kd.int .u64) w A0 l0.length l0) (hc0 : l0.length ≤ c0) (h : vec_Get.f l0 a1 = some r) :
    Calls Tryz.prog 77 #[.slice A0 l0.length c0, .int .i64 a1] w fun e w' => e = .returned (.bool r) ∧ Drawn0 w w' := by
  have HR0 := Aside0.mk hr0
  have HC0 := Aside0.mk hc0
  clear hr0 hc0
  have H : ((vec_inside.f l0 a1).bind fun t120 => (if t120 = true then (if 0 ≤ (wrap64 (Int.tdiv a1 64)) then (if (wrap64 (Int.tdiv a1 64)) < (l0.length : Int) then (if 0 ≤ (IntKind.u64.wrap (Int.tmod a1 64)) then (some ((Go.bits .and .u64 (shr .u64 (rd l0 (wrap64 (Int.tdiv a1 64))) (IntKind.u64.wrap (Int.tmod a1 64))) 1) == 1)) else (none)) else (none)) else (none)) else (some false))) = some r := h
  clear h
  replace H := Option.bind_eq_some_iff.mp H
  obtain ⟨t120, A30, H⟩ := H
  replace H : (if t120 = true then (if 0 ≤ (wrap64 (Int.tdiv a1 64)) then (if (wrap64 (Int.tdiv a1 64)) < (l0.length : Int) then (if 0 ≤ (IntKind.u64.wrap (Int.tmod a1 64)) then (some ((Go.bits .and .u64 (shr .u64 (rd l0 (wrap64 (Int.tdiv a1 64))) (IntKind.u64.wrap (Int.tmod a1 64))) 1) == 1)) else (none)) else (none)) else (none)) else (some false)) = some r := H
  have A3 := Aside0.mk A30
  clear A30
  by_cases c4 : t120 = true
  · subst c4
    have H1 : (if 0 ≤ (wrap64 (Int.tdiv a1 64)) then (if (wrap64 (Int.tdiv a1 64)) < (l0.length : Int) then (if 0 ≤ (IntKind.u64.wrap (Int.tmod a1 64)) then (some ((Go.bits .and .u64 (shr .u64 (rd l0 (wrap64 (Int.tdiv a1 64))) (IntKind.u64.wrap (Int.tmod a1 64))) 1) == 1)) else (none)) else (none)) else (none)) = some r := by rw [if_pos rfl] at H; exact H
    clear H
    have H := H1
    clear H1
    obtain ⟨ji5, hji5⟩ : ∃ j_ : Int, (wrap64 (Int.tdiv a1 64)) = j_ := ⟨_, rfl⟩
    replace H : (if 0 ≤ (ji5) then (if (ji5) < (l0.length : Int) then (if 0 ≤ (IntKind.u64.wrap (Int.tmod a1 64)) then (some ((Go.bits .and .u64 (shr .u64 (rd l0 (ji5)) (IntKind.u64.wrap (Int.tmod a1 64))) 1) == 1)) else (none)) else (none)) else (none)) = some r := by first | (rw [hji5] at H; exact H) | (simp only [hji5] at H ⊢; exact H)
    (try rw [hji5] at A3)
    have hji5w : (IntKind.i64.wrap (Int.tdiv a1 64)) = ji5 := (i64_w _).trans hji5
    by_cases c6 : 0 ≤ (ji5)
    · rw [if_pos c6] at H
      have c6b0 : decide (0 ≤ (ji5)) = true := decide_eq_true c6
      clear c6
      by_cases c7 : (ji5) < (l0.length : Int)
      · rw [if_pos c7] at H
        have c7b0 : decide ((ji5) < (l0.length : Int)) = true := decide_eq_true c7
        clear c7
        obtain ⟨ji8, hji8⟩ : ∃ j_ : Int, (IntKind.u64.wrap (Int.tmod a1 64)) = j_ := ⟨_, rfl⟩
        replace H : (if 0 ≤ (ji8) then (some ((Go.bits .and .u64 (shr .u64 (rd l0 (ji5)) (ji8)) 1) == 1)) else (none)) = some r := by first | (rw [hji8] at H; exact H) | (simp only [hji8] at H ⊢; exact H)
        (try rw [hji8] at A3)
        by_cases c9 : 0 ≤ (ji8)
        · rw [if_pos c9] at H
          have c9b0 := eq_true c9
          have c9b1 : decide (0 ≤ (ji8)) = true := decide_eq_true c9
          clear c9
          obtain ⟨ji10, hji10⟩ : ∃ j_ : Int, (shr .u64 (rd l0 (ji5)) (ji8)) = j_ := ⟨_, rfl⟩
          replace H : (some ((Go.bits .and .u64 (ji10) 1) == 1)) = some r := by first | (rw [hji10] at H; exact H) | (simp only [hji10] at H ⊢; exact H)
          (try rw [hji10] at A3)
          have hji10_ : ((rd l0 (ji5)) / 2 ^ min (ji8).toNat 64) = ji10 := hji10
          have hji10z : (ji8) ≤ 64 → ((rd l0 (ji5)) / 2 ^ (ji8).toNat) = ji10 := shr_small hji10
          obtain rfl := Option.some.inj H
          go_enter Tryz.func77, Tryz.ntmps77
          go_wp2_with (first | ((with_reducible refine gate_callee (f := 137) rfl ?_); refine goesL_ (some 7) rfl rfl Tryz.func137 (by kernel_rfl) rfl #[.slice A0 l0.length c0, .int .i64 a1] rfl (by (try simp only [List.map_toArray, List.map_cons, List.map_nil]); first | done | rfl | (simp only [List.length_drop, List.length_take]; rfl)) ?_; (with_reducible refine (vec_inside.calls _ _ l0 a1 true _ ?side1 ?side2 A3.out).mono ?_); (case side1 => repeat (first | exact HR0.out | (with_reducible refine Kd.C_alloc ?_ _) | (with_reducible refine Kd.C_drewN ?_ _) | (with_reducible refine Kd.C_drew ?_))); (case side2 => exact HC0.out); rintro e w' ⟨rfl, ⟨nd, rfl⟩⟩; refine ⟨_, rfl, ?_⟩; have p121 : 0 ≤ ((ji5) : Int) := of_decide_eq_true (by first | (with_reducible assumption) | assumption); have q121 : (ji5) < (l0.length : Int) := of_decide_eq_true (by first | (with_reducible assumption) | assumption); obtain ⟨ad121, e121, hx121_0⟩ := Kd.at_int HR0.out (ji5) p121 q121; cases e121; replace p121 := eq_true p121; replace q121 := eq_true q121))
          go_ret
          exact ⟨by first | rfl | (simp; done) | (simp only [← hji5, ← hji8, ← hji10] <;> (first | rfl | simp)) | (simp [*]; done), by repeat (first | exact Drawn0.refl _ | apply Drawn0.step)⟩
        · rw [if_neg c9] at H
          exact absurd H (by simp)
      · rw [if_neg c7] at H
        exact absurd H (by simp)
    · rw [if_neg c6] at H
      exact absurd H (by simp)
  · replace c4 := Bool.eq_false_iff.mpr c4
    subst c4
    have H1 : (some false) = some r := by rw [if_neg (show ¬ (false = true) by decide)] at H; exact H
    clear H
    have H := H1
    clear H1
    obtain rfl := Option.some.inj H
    go_enter Tryz.func77, Tryz.ntmps77
    go_wp2_with (first | ((with_reducible refine gate_callee (f := 137) rfl ?_); refine goesL_ (some 7) rfl rfl Tryz.func137 (by kernel_rfl) rfl #[.slice A0 l0.length c0, .int .i64 a1] rfl (by (try simp only [List.map_toArray, List.map_cons, List.map_nil]); first | done | rfl | (simp only [List.length_drop, List.length_take]; rfl)) ?_; (with_reducible refine (vec_inside.calls _ _ l0 a1 false _ ?side1 ?side2 A3.out).mono ?_); (case side1 => repeat (first | exact HR0.out | (with_reducible refine Kd.C_alloc ?_ _) | (with_reducible refine Kd.C_drewN ?_ _) | (with_reducible refine Kd.C_drew ?_))); (case side2 => exact HC0.out); rintro e w' ⟨rfl, ⟨nd, rfl⟩⟩; refine ⟨_, rfl, ?_⟩))
    go_ret
    exact ⟨by first | rfl | (simp; done) | (simp [*]; done), by repeat (first | exact Drawn0.refl _ | apply Drawn0.step)⟩
/-! ### api_Pair: function 78 -/
def api_Pair.l0 : Nat → List (S71) → Int → Int → Option ((List (S71)))
  | 0, _, _, _ => none
  | k + 1, x0, x2, x3 => if x2 < x3 then (if 0 ≤ x3 then (if x3 < (x0.length : Int) then (if 0 ≤ x2 then (if x2 < (x0.length : Int) then (api_Pair.l0 k ((x0.set (x2 : Int).toNat (⟨(rd_T71 x0 x3).f0, (rd_T71 x0 x3).f1⟩ : S71)).set (x3 : Int).toNat (⟨(rd_T71 x0 x2).f0, (rd_T71 x0 x2).f1⟩ : S71)) (wrap64 (x2 + 1)) (wrap64 (x3 - 1))) else (none)) else (none)) else (none)) else (none)) else (some x0)
def api_Pair.f (k : Nat) (l0 : List (S71)) : Option ((List (S71))) := api_Pair.l0 k l0 0 (wrap64 ((l0.length : Int) - 1))
theorem api_Pair.mono_l : ∀ k, (∀ y0 y1 y2, LeO (api_Pair.l0 k y0 y1 y2) (api_Pair.l0 (k + 1) y0 y1 y2))
  | 0 => fun _ _ _ r h => by simp [api_Pair.l0] at h
  | k + 1 => by
    have ih0 := api_Pair.mono_l k
    · intro y0 y1 y2
      unfold api_Pair.l0
      repeat' first
      | (with_reducible exact ih0 _ _ _)
      | (with_reducible exact LeO.refl _)
      | (with_reducible exact LeO.none _)
      | (with_reducible refine LeO.ite ?_ ?_)
      | (with_reducible refine LeO.bind ?_ (fun _ => ?_))
      | exact ih0 _ _ _
      | exact LeO.none _
      | refine LeO.ite ?_ ?_
      | refine LeO.bind ?_ (fun _ => ?_)
theorem api_Pair.mono : ∀ a0 k, LeO (api_Pair.f k a0) (api_Pair.f (k + 1) a0) := by
  intro a0 k
  have ih0 := api_Pair.mono_l k
  unfold api_Pair.f
  repeat' first
      | (with_reducible exact ih0 _ _ _)
      | (with_reducible exact LeO.refl _)
      | (with_reducible exact LeO.none _)
      | (with_reducible refine LeO.ite ?_ ?_)
      | (with_reducible refine LeO.bind ?_ (fun _ => ?_))
      | exact ih0 _ _ _
      | exact LeO.none _
      | refine LeO.ite ?_ ?_
      | refine LeO.bind ?_ (fun _ => ?_)
def api_Pair.T3 : Bool × List (List Nat × List Nat) := (true, [([], []), ([], []), ([], []), ([], []), ([], []), ([], []), ([4, 5], [4, 5]), ([6], [6]), ([], []), ([], []), ([8, 9], [8, 9]), ([10], [10]), ([0, 1, 0, 1, 4, 5, 6, 7, 11], [0, 1]), ([12, 7, 0, 1, 4, 5, 6, 7, 11], [7, 12]), ([2, 3, 0, 1, 2, 3, 4, 5, 6, 7, 8, 9, 10, 11, 12, 13], [2, 3]), ([14, 11, 13, 0, 1, 2, 3, 4, 5, 6, 7, 8, 9, 10, 11, 12, 13], [11, 14])])
def api_Pair.B3 : List Nat := [0, 0, 0, 0, 0, 0, 48, 112, 0, 0, 768, 1792, 4083, 8179, 16383, 32767]
theorem api_Pair.tab3 : rtab .any (opsOf Tryz.f78 3) = api_Pair.T3 := by kernel_rfl
theorem api_Pair.bits3 : waitsOk api_Pair.T3.2 api_Pair.B3 = true := by kernel_rfl
set_option maxHeartbeats 8000000 in
set_option maxRecDepth 100000 in
theorem api_Pair.calls (k : Nat) (P0_ : Nat → Prop) (u9000_ : Value) (l0 : List (S71)) (r : List (S71)) (w0 w : World) (hB : Below w0.heap.size w0 w) (ho0 : Kd.R k71 71 w w0.heap.size P0_ u9000_ l0) (h : api_Pair.f k l0 = some r) :
    Calls Tryz.prog 78 #[u9000_] w fun e w' => e = .returned (.tuple #[]) ∧ Kd.R k71 71 w' w0.heap.size (fun k_ => (P0_ k_ ∨ w.heap.size ≤ k_)) u9000_ r ∧ Below w0.heap.size w0 w' ∧ Kept w w' (fun k_ => P0_ k_) := by
  have hu71 := Tryz.underlying71
  have HO0 := Aside0.mk (show Kd.R k71 71 w w0.heap.size (fun k_ => (P0_ k_ ∨ w.heap.size ≤ k_)) u9000_ l0 from Kd.R_mono ho0 (fun k_ hk => (.inl hk)))
  have HK := Aside0.mk (Kept.refl w (fun k_ => P0_ k_))
  have HW0 := Aside0.mk hB.size
  have HB := Aside0.mk hB
  clear hB
  have H : (api_Pair.l0 k l0 0 (wrap64 ((l0.length : Int) - 1))) = some r := h
  clear h
  have H' := Aside0.mk H
  clear H
  obtain ⟨Ao2, co2, eo2⟩ := Kd.R_slice HO0.out
  subst eo2
  go_enter Tryz.func78, Tryz.ntmps78
  go_wp2
  go_loopg [2, 3] k (fun kq v2 v3 w' => ∃ (x0_1 : List (S71)) (x2_1 : Int) (x3_1 : Int), v2 = .int .i64 x2_1 ∧ v3 = .int .i64 x3_1 ∧ Aside0 (api_Pair.l0 kq x0_1 x2_1 x3_1 = some r) ∧ Aside0 (kq ≤ k) ∧ Aside0 (Kd.R k71 71 w' w0.heap.size (fun k_ => (P0_ k_ ∨ w.heap.size ≤ k_)) (.slice Ao2 l0.length co2) x0_1) ∧ Aside0 (Kept w w' (fun k_ => P0_ k_)) ∧ Aside0 (Below w0.heap.size w0 w'))
  case atStart => exact ⟨(l0), (0), (wrap64 ((l0.length : Int) - 1)), (by first | rfl | (simp; done) | (simp [*]; done)), (by first | rfl | (simp; done) | (simp [*]; done)), H', ⟨Nat.le_refl _⟩, ⟨by (with_reducible repeat (first | apply Kd.R_alloc | apply Kd.R_drewN | apply Kd.R_drew)); exact HO0.out⟩, ⟨by repeat (first | (with_reducible first | exact HK.out | apply Kept.alloc | apply Kept.drewN | apply Kept.drew) | exact HK.out)⟩, ⟨by repeat (first | (with_reducible first | exact HB.out | apply below_alloc | apply pw_below_drewN | apply below_drew1) | exact HB.out)⟩⟩
  case round =>
    clear H'
    try clear p2
    obtain ⟨x0_1, x2_1, x3_1, rfl, rfl, HA, HK1, HO_0, HK, HB⟩ := hrel
    have hl0_1 := (Kd.R_reads' HO_0.out).1
    rw [hl0_1] at HO_0
    (try simp only [hl0_1])
    cases gk with
    | zero => exact absurd HA.out (by simp [api_Pair.l0])
    | succ k1 =>
      have H := HA.out
      clear HA
      simp only [api_Pair.l0] at H
      by_cases c3 : x2_1 < x3_1
      · rw [if_pos c3] at H
        have c3b0 : decide (x2_1 < x3_1) = true := decide_eq_true c3
        clear c3
        by_cases c4 : 0 ≤ x3_1
        · rw [if_pos c4] at H
          have c4b0 : decide (0 ≤ x3_1) = true := decide_eq_true c4
          clear c4
          by_cases c5 : x3_1 < (x0_1.length : Int)
          · rw [if_pos c5] at H
            have c5b0 : decide (x3_1 < (x0_1.length : Int)) = true := decide_eq_true c5
            clear c5
            by_cases c6 : 0 ≤ x2_1
            · rw [if_pos c6] at H
              have c6b0 : decide (0 ≤ x2_1) = true := decide_eq_true c6
              clear c6
              by_cases c7 : x2_1 < (x0_1.length : Int)
              · rw [if_pos c7] at H
                have c7b0 : decide (x2_1 < (x0_1.length : Int)) = true := decide_eq_true c7
                clear c7
                obtain ⟨y124, hy124⟩ : ∃ y_ : List (S71), y_ = (x0_1.set (x2_1 : Int).toNat (⟨(rd_T71 x0_1 x3_1).f0, (rd_T71 x0_1 x3_1).f1⟩ : S71)) := ⟨_, rfl⟩
                replace H : (api_Pair.l0 k1 (y124.set (x3_1 : Int).toNat (⟨(rd_T71 x0_1 x2_1).f0, (rd_T71 x0_1 x2_1).f1⟩ : S71)) (wrap64 (x2_1 + 1)) (wrap64 (x3_1 - 1))) = some r := by first | (rw [hy124]; with_reducible exact H) | (have H2_ := (Option.bind_some _ _).symm.trans H; rw [hy124]; with_reducible exact H2_) | (have H2_ := (Option.bind_some _ _).symm.trans H; with_reducible exact H2_) | with_reducible exact H | (rw [hy124]; exact H) | exact H
                have Ny124 := Aside0.mk hy124
                clear hy124
                obtain ⟨y125, hy125⟩ : ∃ y_ : List (S71), y_ = (y124.set (x3_1 : Int).toNat (⟨(rd_T71 x0_1 x2_1).f0, (rd_T71 x0_1 x2_1).f1⟩ : S71)) := ⟨_, rfl⟩
                replace H : (api_Pair.l0 k1 y125 (wrap64 (x2_1 + 1)) (wrap64 (x3_1 - 1))) = some r := by first | (rw [hy125]; with_reducible exact H) | (have H2_ := (Option.bind_some _ _).symm.trans H; rw [hy125]; with_reducible exact H2_) | (have H2_ := (Option.bind_some _ _).symm.trans H; with_reducible exact H2_) | with_reducible exact H | (rw [hy125]; exact H) | exact H
                have Ny125 := Aside0.mk hy125
                clear hy125
                have H' := Aside0.mk H
                clear H
                try go_wp2
                have n0_ := Aside0.mk (Kd.R_drew HO_0.out)
                have n1_ := Aside0.mk (Kept.drew HK.out)
                have n2_ := Aside0.mk (below_drew1 HB.out)
                clear HO_0
                clear HK
                clear HB
                have HO_0 := n0_
                have HK := n1_
                have HB := n2_
                clear n0_ n1_ n2_
                have p122 : 0 ≤ (x3_1 : Int) := of_decide_eq_true (by first | (with_reducible assumption) | assumption)
                have q122 : x3_1 < (x0_1.length : Int) := of_decide_eq_true (by first | (with_reducible assumption) | assumption)
                obtain ⟨ad122, e122, hx122_0, hx122_1⟩ := at_T71 (Kd.R_reads' HO_0.out).2.2 x3_1 p122 q122
                cases e122
                replace p122 := eq_true p122
                replace q122 := eq_true q122
                have p123 : 0 ≤ (x2_1 : Int) := of_decide_eq_true (by first | (with_reducible assumption) | assumption)
                have q123 : x2_1 < (x0_1.length : Int) := of_decide_eq_true (by first | (with_reducible assumption) | assumption)
                obtain ⟨ad123, e123, hx123_0, hx123_1⟩ := at_T71 (Kd.R_reads' HO_0.out).2.2 x2_1 p123 q123
                obtain rfl : ad122 = ad123 := (by injection e123)
                replace p123 := eq_true p123
                replace q123 := eq_true q123
                have p8 : 0 ≤ (x2_1 : Int) := of_decide_eq_true (by first | (with_reducible assumption) | assumption)
                have q8 : (x2_1 : Int) < ((x0_1.length : Int) : Int) := of_decide_eq_true (by first | (with_reducible assumption) | assumption)
                obtain ⟨go8, co8, eo8, gb8, gl8, cl8, HG8⟩ := Kd.R_form HO_0.out (by omega)
                (first | cases eo8 | (injection eo8 with ea_ en_ ec_; (first | subst ea_ | (injection ea_ with ea_; subst ea_)); subst ec_; clear en_))
                have GB8 := Aside0.mk gb8
                have GG8 := Aside0.mk HG8
                clear gb8 gl8 HG8
                have HMgo8 := Aside0.mk (show (P0_ go8 ∨ w.heap.size ≤ go8) from (HO_0.out.1 _ rfl))
                (first | simp only [add_plain] at hx122_0 | skip)
                (first | simp only [add_plain] at hx122_1 | skip)
                (first | simp only [add_plain] at hx123_0 | skip)
                (first | simp only [add_plain] at hx123_1 | skip)
                obtain ⟨ce8, hcl8, hM8, hcc8, hfr8⟩ := Kd.R_elem HO_0.out z71 (x2_1 : Int) p8 q8
                obtain rfl := k71_openM hM8
                have hx8_0 : World.cell? _ ⟨go8, (x2_1 : Int).toNat * 2, none⟩ = some (.int .i64 ((rd_T71 x0_1 x2_1).f0)) := hcc8 0 _ rfl
                have hx8_1 : World.cell? _ ⟨go8, (x2_1 : Int).toNat * 2 + 1, none⟩ = some (.int .i64 ((rd_T71 x0_1 x2_1).f1)) := hcc8 1 _ rfl
                have hf8_0 : World.frozen? _ ⟨go8, (x2_1 : Int).toNat * 2, none⟩ = false := hfr8 0
                have hf8_1 : World.frozen? _ ⟨go8, (x2_1 : Int).toNat * 2 + 1, none⟩ = false := hfr8 1
                clear hcl8 hcc8 hfr8 hM8
                replace p8 := eq_true p8
                replace q8 := eq_true q8
                obtain ⟨ce11, hcl11, hM11, hcc11, hfr11⟩ := Kd.R_elem HO_0.out z71 (x2_1 : Int) (of_decide_eq_true (by first | (with_reducible assumption) | assumption)) (by have h_ : (x2_1 : Int) < ((x0_1.length : Int) : Int) := of_decide_eq_true (by first | (with_reducible assumption) | assumption); first | exact h_ | (have e_ := (Kd.R_reads' HO_0.out).1; omega) | simpa using h_)
                obtain rfl := k71_openM hM11
                have HP11 := (Kd.R_seg HO_0.out (x2_1 : Int) (of_decide_eq_true (by first | (with_reducible assumption) | assumption)) (by have h_ : (x2_1 : Int) < ((x0_1.length : Int) : Int) := of_decide_eq_true (by first | (with_reducible assumption) | assumption); first | exact h_ | (have e_ := (Kd.R_reads' HO_0.out).1; omega) | simpa using h_) (seg := [.int .i64 ((rd_T71 x0_1 x3_1).f0), .int .i64 ((rd_T71 x0_1 x3_1).f1)]) (j := 0) hcl11 hcc11 (show 2 ≤ 2 from by decide) (x' := (⟨(rd_T71 x0_1 x3_1).f0, (rd_T71 x0_1 x3_1).f1⟩ : S71)) (k71_mkM _ _ _ (⟨(rd_T71 x0_1 x3_1).f0, (rd_T71 x0_1 x3_1).f1⟩ : S71) ) (fun _ hk => hk)).1
                rw [← Ny124.out] at HP11
                have HQ11 := Aside0.mk HP11
                clear hcl11 hcc11 hfr11 hM11 HP11
                have p9 : 0 ≤ (x3_1 : Int) := of_decide_eq_true (by first | (with_reducible assumption) | assumption)
                have q9 : (x3_1 : Int) < ((x0_1.length : Int) : Int) := of_decide_eq_true (by first | (with_reducible assumption) | assumption)
                obtain ⟨ce9, hcl9, hM9, hcc9, hfr9⟩ := Kd.R_elem HQ11.out z71 (x3_1 : Int) p9 q9
                obtain rfl := k71_openM hM9
                have hx9_0 : World.cell? _ ⟨go8, (x3_1 : Int).toNat * 2, none⟩ = some (.int .i64 ((rd_T71 y124 x3_1).f0)) := hcc9 0 _ rfl
                have hx9_1 : World.cell? _ ⟨go8, (x3_1 : Int).toNat * 2 + 1, none⟩ = some (.int .i64 ((rd_T71 y124 x3_1).f1)) := hcc9 1 _ rfl
                have hf9_0 : World.frozen? _ ⟨go8, (x3_1 : Int).toNat * 2, none⟩ = false := hfr9 0
                have hf9_1 : World.frozen? _ ⟨go8, (x3_1 : Int).toNat * 2 + 1, none⟩ = false := hfr9 1
                clear hcl9 hcc9 hfr9 hM9
                replace p9 := eq_true p9
                replace q9 := eq_true q9
                obtain ⟨ce12, hcl12, hM12, hcc12, hfr12⟩ := Kd.R_elem HQ11.out z71 (x3_1 : Int) (of_decide_eq_true (by first | (with_reducible assumption) | assumption)) (by have h_ : (x3_1 : Int) < ((x0_1.length : Int) : Int) := of_decide_eq_true (by first | (with_reducible assumption) | assumption); first | exact h_ | (have e_ := (Kd.R_reads' HO_0.out).1; omega) | simpa using h_)
                obtain rfl := k71_openM hM12
                have HP12 := (Kd.R_seg HQ11.out (x3_1 : Int) (of_decide_eq_true (by first | (with_reducible assumption) | assumption)) (by have h_ : (x3_1 : Int) < ((x0_1.length : Int) : Int) := of_decide_eq_true (by first | (with_reducible assumption) | assumption); first | exact h_ | (have e_ := (Kd.R_reads' HO_0.out).1; omega) | simpa using h_) (seg := [.int .i64 ((rd_T71 x0_1 x2_1).f0), .int .i64 ((rd_T71 x0_1 x2_1).f1)]) (j := 0) hcl12 hcc12 (show 2 ≤ 2 from by decide) (x' := (⟨(rd_T71 x0_1 x2_1).f0, (rd_T71 x0_1 x2_1).f1⟩ : S71)) (k71_mkM _ _ _ (⟨(rd_T71 x0_1 x2_1).f0, (rd_T71 x0_1 x2_1).f1⟩ : S71) ) (fun _ hk => hk)).1
                rw [← Ny125.out] at HP12
                have HQ12 := Aside0.mk HP12
                clear hcl12 hcc12 hfr12 hM12 HP12
                have lt_ : x2_1 < x3_1 := of_decide_eq_true (by first | (with_reducible assumption) | assumption)
                have pa_ : 0 ≤ (x2_1 : Int) := of_decide_eq_true (by first | (with_reducible assumption) | assumption)
                have pb_ : 0 ≤ (x3_1 : Int) := of_decide_eq_true (by first | (with_reducible assumption) | assumption)
                have qb_ : x3_1 < (x0_1.length : Int) := of_decide_eq_true (by first | (with_reducible assumption) | assumption)
                obtain ⟨ce99, hcl99, hM99, hcc99, hfr99⟩ := Kd.R_elem HO_0.out z71 (x3_1 : Int) pb_ qb_
                have hf99_0 : World.frozen? _ ⟨go8, (x3_1 : Int).toNat * 2, none⟩ = false := hfr99 0
                have hf99_1 : World.frozen? _ ⟨go8, (x3_1 : Int).toNat * 2 + 1, none⟩ = false := hfr99 1
                clear hcl99 hcc99 hfr99 hM99 ce99
                have dn0_ : (x2_1.toNat * 2 = x3_1.toNat * 2) = False := by apply eq_false; omega
                have dm0_ : (x3_1.toNat * 2 = x2_1.toNat * 2) = False := by apply eq_false; omega
                have dn1_ : (x2_1.toNat * 2 + 1 = x3_1.toNat * 2 + 1) = False := by apply eq_false; omega
                have dm1_ : (x3_1.toNat * 2 + 1 = x2_1.toNat * 2 + 1) = False := by apply eq_false; omega
                have dn2_ : (x2_1.toNat * 2 = x3_1.toNat * 2 + 1) = False := by apply eq_false; omega
                have dm2_ : (x3_1.toNat * 2 + 1 = x2_1.toNat * 2) = False := by apply eq_false; omega
                have dn3_ : (x2_1.toNat * 2 + 1 = x3_1.toNat * 2) = False := by apply eq_false; omega
                have dm3_ : (x3_1.toNat * 2 = x2_1.toNat * 2 + 1) = False := by apply eq_false; omega
                clear lt_ pa_ pb_ qb_
                refine start_ (n := 16) (S := fun w' => w'.cell? ⟨go8, ((x3_1).toNat * 2), none⟩ = some (.int .i64 ((rd_T71 x0_1 x3_1).f0)) ∧ w'.cell? ⟨go8, ((x3_1).toNat * 2) + 1, none⟩ = some (.int .i64 ((rd_T71 x0_1 x3_1).f1)) ∧ w'.cell? ⟨go8, ((x2_1).toNat * 2), none⟩ = some (.int .i64 ((rd_T71 x0_1 x2_1).f0)) ∧ w'.cell? ⟨go8, ((x2_1).toNat * 2) + 1, none⟩ = some (.int .i64 ((rd_T71 x0_1 x2_1).f1))) (ds := [13, 15]) #[false, false, false, false, false, false, false, false, false, false, false, false, false, false, false, false] (by kernel_rfl) rfl rfl ⟨hx122_0, hx122_1, hx123_0, hx123_1⟩ (fun hHeld => ?_); refine with_tabW api_Pair.tab3 api_Pair.bits3 (fun HT_ HW_ => ?_)
                generalize wr.drew = w10 at HO_0 HK HB GG8 HQ11 HQ12 hf8_0 hf8_1 hf9_0 hf9_1 hx122_0 hx122_1 hx123_0 hx123_1 hx8_0 hx8_1 hx9_0 hx9_1 hHeld hf99_0 hf99_1 ⊢
                refine pure_ (i := 0) (N := some 14) (v := ?_) (a' := ?_) #[true, false, false, false, false, false, false, false, false, false, false, false, false, false, false, false] rfl rfl (any_of HT_.out (by kernel_rfl)) (fun _ _ _ h => h) (Or.inl ⟨by rfl, ?_⟩) ?_ ?_
                rotate_left
                · intro w'
                  go_simp
                  with_reducible rfl
                rotate_left
                · simp only [Act.put, List.setIfInBounds_toArray, List.set_cons_zero, List.set_cons_succ, i64_w, i32_w]
                  rfl
                refine pure_ (i := 1) (N := some 15) (v := ?_) (a' := ?_) #[true, true, false, false, false, false, false, false, false, false, false, false, false, false, false, false] rfl rfl (any_of HT_.out (by kernel_rfl)) (fun _ _ _ h => h) (Or.inl ⟨by rfl, ?_⟩) ?_ ?_
                rotate_left
                · intro w'
                  go_simp
                  with_reducible rfl
                rotate_left
                · simp only [Act.put, List.setIfInBounds_toArray, List.set_cons_zero, List.set_cons_succ, i64_w, i32_w]
                  rfl
                refine pure_ (i := 2) (N := some 16) (v := ?_) (a' := ?_) #[true, true, true, false, false, false, false, false, false, false, false, false, false, false, false, false] rfl rfl (any_of HT_.out (by kernel_rfl)) (fun _ _ _ h => h) (Or.inl ⟨by rfl, ?_⟩) ?_ ?_
                rotate_left
                · intro w'
                  go_simp
                  with_reducible rfl
                rotate_left
                · simp only [Act.put, List.setIfInBounds_toArray, List.set_cons_zero, List.set_cons_succ, i64_w, i32_w]
                  rfl
                refine pure_ (i := 3) (N := some 17) (v := ?_) (a' := ?_) #[true, true, true, true, false, false, false, false, false, false, false, false, false, false, false, false] rfl rfl (any_of HT_.out (by kernel_rfl)) (fun _ _ _ h => h) (Or.inl ⟨by rfl, ?_⟩) ?_ ?_
                rotate_left
                · intro w'
                  go_simp
                  with_reducible rfl
                rotate_left
                · simp only [Act.put, List.setIfInBounds_toArray, List.set_cons_zero, List.set_cons_succ, i64_w, i32_w]
                  rfl
                refine pure_ (i := 4) (N := some 18) (v := ?_) (a' := ?_) #[true, true, true, true, true, false, false, false, false, false, false, false, false, false, false, false] rfl rfl (any_of HT_.out (by kernel_rfl)) (fun _ _ _ h => h) (Or.inl ⟨by rfl, ?_⟩) ?_ ?_
                rotate_left
                · intro w'
                  go_simp
                  with_reducible rfl
                rotate_left
                · simp only [Act.put, List.setIfInBounds_toArray, List.set_cons_zero, List.set_cons_succ, i64_w, i32_w]
                  rfl
                refine pure_ (i := 5) (N := some 19) (v := ?_) (a' := ?_) #[true, true, true, true, true, true, false, false, false, false, false, false, false, false, false, false] rfl rfl (any_of HT_.out (by kernel_rfl)) (fun _ _ _ h => h) (Or.inl ⟨by rfl, ?_⟩) ?_ ?_
                rotate_left
                · intro w'
                  go_simp
                  with_reducible rfl
                rotate_left
                · simp only [Act.put, List.setIfInBounds_toArray, List.set_cons_zero, List.set_cons_succ, i64_w, i32_w]
                  rfl
                refine pure_ (i := 6) (N := some 20) (v := ?_) (a' := ?_) #[true, true, true, true, true, true, true, false, false, false, false, false, false, false, false, false] rfl rfl (any_of HT_.out (by kernel_rfl)) (fun _ _ _ h => h) (Or.inl ⟨by rfl, ?_⟩) ?_ ?_
                rotate_left
                · intro w'
                  go_simp
                  with_reducible rfl
                rotate_left
                · simp only [Act.put, List.setIfInBounds_toArray, List.set_cons_zero, List.set_cons_succ, i64_w, i32_w]
                  rfl
                refine pure_ (i := 8) (N := some 22) (v := ?_) (a' := ?_) #[true, true, true, true, true, true, true, false, true, false, false, false, false, false, false, false] rfl rfl (any_of HT_.out (by kernel_rfl)) (fun _ _ _ h => h) (Or.inl ⟨by rfl, ?_⟩) ?_ ?_
                rotate_left
                · intro w'
                  go_simp
                  with_reducible rfl
                rotate_left
                · simp only [Act.put, List.setIfInBounds_toArray, List.set_cons_zero, List.set_cons_succ, i64_w, i32_w]
                  rfl
                refine pure_ (i := 9) (N := some 23) (v := ?_) (a' := ?_) #[true, true, true, true, true, true, true, false, true, true, false, false, false, false, false, false] rfl rfl (any_of HT_.out (by kernel_rfl)) (fun _ _ _ h => h) (Or.inl ⟨by rfl, ?_⟩) ?_ ?_
                rotate_left
                · intro w'
                  go_simp
                  with_reducible rfl
                rotate_left
                · simp only [Act.put, List.setIfInBounds_toArray, List.set_cons_zero, List.set_cons_succ, i64_w, i32_w]
                  rfl
                refine pure_ (i := 10) (N := some 24) (v := ?_) (a' := ?_) #[true, true, true, true, true, true, true, false, true, true, true, false, false, false, false, false] rfl rfl (any_of HT_.out (by kernel_rfl)) (fun _ _ _ h => h) (Or.inl ⟨by rfl, ?_⟩) ?_ ?_
                rotate_left
                · intro w'
                  go_simp
                  with_reducible rfl
                rotate_left
                · simp only [Act.put, List.setIfInBounds_toArray, List.set_cons_zero, List.set_cons_succ, i64_w, i32_w]
                  rfl
                refine take_ (i := 7) (N := some 21) (v := ?_) (a' := ?_) #[true, true, true, true, true, true, true, true, true, true, true, false, false, false, false, false] rfl rfl (take_ofW HT_.out HW_.out (by kernel_rfl)) (fun _ _ _ h => h) (Or.inl ⟨by rfl, ?_⟩) hHeld ?_ ?_
                rotate_left
                · rintro w' ⟨s0, s1, s2, s3⟩
                  go_simp
                  with_reducible rfl
                rotate_left
                · simp only [Act.put, List.setIfInBounds_toArray, List.set_cons_zero, List.set_cons_succ, i64_w, i32_w]
                  rfl
                refine take_ (i := 11) (N := some 25) (v := ?_) (a' := ?_) #[true, true, true, true, true, true, true, true, true, true, true, true, false, false, false, false] rfl rfl (take_ofW HT_.out HW_.out (by kernel_rfl)) (fun _ _ _ h => h) (Or.inl ⟨by rfl, ?_⟩) hHeld ?_ ?_
                rotate_left
                · rintro w' ⟨s0, s1, s2, s3⟩
                  go_simp
                  with_reducible rfl
                rotate_left
                · simp only [Act.put, List.setIfInBounds_toArray, List.set_cons_zero, List.set_cons_succ, i64_w, i32_w]
                  rfl
                refine pure_ (i := 12) (N := some 26) (v := ?_) (a' := ?_) #[true, true, true, true, true, true, true, true, true, true, true, true, true, false, false, false] rfl rfl (any_of HT_.out (by kernel_rfl)) (fun _ _ _ h => h) (Or.inl ⟨by rfl, ?_⟩) ?_ ?_
                rotate_left
                · intro w'
                  go_simp
                  with_reducible rfl
                rotate_left
                · simp only [Act.put, List.setIfInBounds_toArray, List.set_cons_zero, List.set_cons_succ, i64_w, i32_w]
                  rfl
                refine last_ (i := 13) (N := none) #[true, true, true, true, true, true, true, true, true, true, true, true, true, true, false, false] rfl rfl (one_of HT_.out (by kernel_rfl)) (by decide) (fun K hK => ?_)
                refine skip_ (w1 := ?_) (by rfl) rfl ?_ ?_
                rotate_left
                · go_simp
                  rfl
                refine hK.out _ _ ?_
                clear hK K
                refine pure_ (i := 14) (N := some 27) (v := ?_) (a' := ?_) #[true, true, true, true, true, true, true, true, true, true, true, true, true, true, true, false] rfl rfl (any_of HT_.out (by kernel_rfl)) (fun _ _ _ h => h) (Or.inl ⟨by rfl, ?_⟩) ?_ ?_
                rotate_left
                · intro w'
                  go_simp
                  with_reducible rfl
                rotate_left
                · simp only [Act.put, List.setIfInBounds_toArray, List.set_cons_zero, List.set_cons_succ, i64_w, i32_w]
                  rfl
                refine last_ (i := 15) (N := none) #[true, true, true, true, true, true, true, true, true, true, true, true, true, true, true, true] rfl rfl (one_of HT_.out (by kernel_rfl)) (by decide) (fun K hK => ?_)
                refine skip_ (w1 := ?_) (by rfl) rfl ?_ ?_
                rotate_left
                · go_simp
                  rfl
                refine hK.out _ _ ?_
                clear hK K
                refine done_ (done_of HT_.out (by kernel_rfl)) ?_
                try go_wp2
                (try simp only [← hl0_1])
                go_roundg k1
                case measure => have := HK1.out; omega
                case rel => exact ⟨(y125), (wrap64 (x2_1 + 1)), (wrap64 (x3_1 - 1)), (by first | rfl | (simp; done) | (simp [*]; done)), (by first | rfl | (simp; done) | (simp [*]; done)), H', ⟨by have := HK1.out; omega⟩, ⟨by (try simp only [hl0_1]); (with_reducible repeat (first | apply Kd.R_alloc | apply Kd.R_drewN | apply Kd.R_drew)); exact HQ12.out⟩, ⟨by repeat (first | (with_reducible first | exact HK.out | apply Kept.alloc | apply Kept.drewN | apply Kept.drew | refine Kept.setCell ?_ HMgo8.out _ | refine Kept.setCell ?_ HMgo8.out _ | refine Kept.setCell ?_ HMgo8.out _ | refine Kept.setCell ?_ HMgo8.out _) | exact HK.out)⟩, ⟨by repeat (first | (with_reducible first | exact HB.out | apply below_alloc | apply pw_below_drewN | apply below_drew1 | refine below_set ?_ GB8.out | refine below_set ?_ GB8.out | refine below_set ?_ GB8.out | refine below_set ?_ GB8.out) | exact HB.out)⟩⟩
              · rw [if_neg c7] at H
                exact absurd H (by simp)
            · rw [if_neg c6] at H
              exact absurd H (by simp)
          · rw [if_neg c5] at H
            exact absurd H (by simp)
        · rw [if_neg c4] at H
          exact absurd H (by simp)
      · rw [if_neg c3] at H
        have c3b0 : decide (x2_1 < x3_1) = false := decide_eq_false c3
        clear c3
        obtain rfl := Option.some.inj H
        go_wp2
        first | go_end0 | ((try simp only [Exit.inBlock, Exit.then]); refine bodyPost_ret (results_none rfl _ _ _) rfl ?_)
        exact ⟨by first | rfl | (simp [errW_none, errW_some] <;> rfl) | (simp [*, errW_none, errW_some] <;> rfl), (by first | exact (by (with_reducible repeat (first | apply Kd.R_alloc | apply Kd.R_drewN | apply Kd.R_drew)); exact HO_0.out) | (simp only [hl0_1]; exact (by (with_reducible repeat (first | apply Kd.R_alloc | apply Kd.R_drewN | apply Kd.R_drew)); exact HO_0.out))), by repeat (first | (with_reducible first | exact HB.out | apply below_alloc | apply pw_below_drewN | apply below_drew1) | exact HB.out), by repeat (first | (with_reducible first | exact HK.out | apply Kept.alloc | apply Kept.drewN | apply Kept.drew) | exact HK.out)⟩
/-! ### walk_Run: function 34 -/
def walk_path (R : Nat → List Int) (a b : List Int) : Nat → Nat → Nat → List S71
  | 0, _, _ => []
  | _ + 1, 0, _ => []
  | _ + 1, _ + 1, 0 => []
  | n + 1, i + 1, j + 1 => if (Go.Proofs.YtjkjanegankdhaaGreat.Vx.Vec.w (R (i + 1)) (j / 64)).testBit (j % 64) = true then walk_path R a b n (i + 1) j else if rd a (i : Int) = rd b (j : Int) then walk_path R a b n i j ++ [⟨(i : Int), (j : Int)⟩] else walk_path R a b n i (j + 1)
section
theorem walk_zi (R : Nat → List Int) (a b : List Int) (n j : Nat) : walk_path R a b n 0 j = [] := by cases n <;> rfl
theorem walk_zj (R : Nat → List Int) (a b : List Int) (n i : Nat) : walk_path R a b n i 0 = [] := by cases n <;> cases i <;> rfl
theorem walk_fuel (R : Nat → List Int) (a b : List Int) : ∀ n m i j, i + j ≤ n → i + j ≤ m → walk_path R a b n i j = walk_path R a b m i j
  | _, _, 0, j, _, _ => by rw [walk_zi, walk_zi]
  | _, _, i + 1, 0, _, _ => by rw [walk_zj, walk_zj]
  | n + 1, m + 1, i + 1, j + 1, h, g => by
    rw [walk_path, walk_path, walk_fuel R a b n m (i + 1) j (by omega) (by omega), walk_fuel R a b n m i j (by omega) (by omega), walk_fuel R a b n m i (j + 1) (by omega) (by omega)]
/-- The way back from two places on. -/
def walk_at (R : Nat → List Int) (a b : List Int) (i j : Nat) : List S71 := walk_path R a b (i + j) i j
theorem walk_at_step (R : Nat → List Int) (a b : List Int) (i j : Nat) : walk_at R a b (i + 1) (j + 1) = if (Go.Proofs.YtjkjanegankdhaaGreat.Vx.Vec.w (R (i + 1)) (j / 64)).testBit (j % 64) = true then walk_at R a b (i + 1) j else if rd a (i : Int) = rd b (j : Int) then walk_at R a b i j ++ [⟨(i : Int), (j : Int)⟩] else walk_at R a b i (j + 1) := by
  unfold walk_at
  rw [show i + 1 + (j + 1) = (i + j + 1) + 1 by omega, walk_path, walk_fuel R a b (i + j + 1) (i + 1 + j) (i + 1) j (by omega) (by omega), walk_fuel R a b (i + j + 1) (i + j) i j (by omega) (by omega)]
  rfl
theorem walk_at_zj (R : Nat → List Int) (a b : List Int) (i : Nat) : walk_at R a b i 0 = [] := walk_zj R a b _ i
theorem walk_at_zi (R : Nat → List Int) (a b : List Int) (j : Nat) : walk_at R a b 0 j = [] := walk_zi R a b _ j
theorem kept_hit {k q E : Nat} (h1 : k ≤ q * E) (h2 : q * E < k + E) (h0 : k % E = 0) : q * E = k := by
  have e : E * (k / E) = k := by have := Nat.div_add_mod k E; omega
  generalize k / E = m at e
  subst e
  have h3 : q * E < E * (m + 1) := by rw [Nat.mul_add, Nat.mul_one]; exact h2
  rw [Nat.mul_comm q E] at h3 h1 ⊢
  have h4 : q < m + 1 := Nat.lt_of_mul_lt_mul_left h3
  have hE : 0 < E := by
    rcases Nat.eq_zero_or_pos E with h | h
    · subst h; omega
    · exact h
  have h5 : m ≤ q := Nat.le_of_mul_le_mul_left h1 hE
  rw [show q = m by omega]
theorem kept_miss {k q E : Nat} (h1 : k ≤ q * E) (h0 : ¬ k % E = 0) : k + 1 ≤ q * E := by
  rcases Nat.lt_or_ge k (q * E) with h | h
  · exact h
  · exact absurd (by rw [show k = q * E by omega]; exact Nat.mul_mod_left q E) h0
open Go.Proofs.YtjkjanegankdhaaGreat.Vx
def keptL (rf : List Int → List Int → Nat → List Int) (a b : List Int) (every q : Nat) : List (List Int) := (List.range q).map fun t => Vec.rowAt rf a b (t * every)
theorem keptL_len (rf : List Int → List Int → Nat → List Int) (a b : List Int) (e q : Nat) : (keptL rf a b e q).length = q := by simp [keptL]
theorem keptL_snoc (rf : List Int → List Int → Nat → List Int) (a b : List Int) (e q : Nat) : keptL rf a b e q ++ [Vec.rowAt rf a b (q * e)] = keptL rf a b e (q + 1) := by
  unfold keptL
  rw [List.range_succ, List.map_append]; rfl
theorem keptL_at (rf : List Int → List Int → Nat → List Int) (a b : List Int) (e : Nat) {q k : Nat} (h : k < q) : (keptL rf a b e q).getD k [] = Vec.rowAt rf a b (k * e) := by
  unfold keptL
  rw [List.getD_eq_getElem?_getD, List.getElem?_map, List.getElem?_range h]; rfl
def someL (rf : List Int → List Int → Nat → List Int) (a b : List Int) (f n : Nat) : List (List Int) := (List.range n).map fun t => Vec.rowAt rf a b (f + t)
theorem someL_len (rf : List Int → List Int → Nat → List Int) (a b : List Int) (f n : Nat) : (someL rf a b f n).length = n := by simp [someL]
theorem someL_snoc (rf : List Int → List Int → Nat → List Int) (a b : List Int) (f n : Nat) : someL rf a b f n ++ [Vec.rowAt rf a b (f + n)] = someL rf a b f (n + 1) := by
  unfold someL
  rw [List.range_succ, List.map_append]; rfl
theorem someL_at (rf : List Int → List Int → Nat → List Int) (a b : List Int) (f : Nat) {n k : Nat} (h : k < n) : (someL rf a b f n).getD k [] = Vec.rowAt rf a b (f + k) := by
  unfold someL
  rw [List.getD_eq_getElem?_getD, List.getElem?_map, List.getElem?_range h]; rfl
theorem blk_min {x y T : Nat} (h : T = min x y) : ∀ ats ty, Builtin.min_ ats ty #[.int .i64 (x : Int), .int .i64 (y : Int)] = pure (.int .i64 (T : Int)) := fun ats ty => by
  rw [min_two, min2_int, h]
  by_cases c : (y : Int) < (x : Int)
  · rw [if_pos c, show min x y = y by omega]; rfl
  · rw [if_neg c, show min x y = x by omega]; rfl
theorem blk_lt {k q E n : Nat} (h1 : k + 1 ≤ q) (h2 : q * E < n + E) : k * E < n := by
  have h3 : k * E + E ≤ q * E := by rw [← Nat.succ_mul]; exact Nat.mul_le_mul_right E h1
  omega
theorem blk_wrap {n : Nat} (h : n ≤ 4000000) : wrap64 (n : Int) = (n : Int) := by unfold wrap64; omega
theorem wk_wrap_id {i : Int} (h0 : -9223372036854775808 ≤ i) (h1 : i < 9223372036854775808) : wrap64 i = i := by unfold wrap64; omega
theorem wk_wrap_succ {n : Nat} (h : n < 9223372036854775807) : wrap64 ((n : Int) + 1) = ((n + 1 : Nat) : Int) := by unfold wrap64; omega
theorem wk_round {d k : Nat} (h : d < k) : ∃ m, k = m + 1 := ⟨k - 1, by omega⟩
theorem wk_rdP_at (l : List S71) {n : Nat} (h : n < l.length) : rd_T71 l (n : Int) = l[n] := by
  unfold rd_T71; simp [h]
theorem wk_etaP (p : S71) : (⟨p.f0, p.f1⟩ : S71) = p := rfl
theorem wk_rdP_set (l : List S71) (i n : Nat) (x : S71) (h : n < l.length) : rd_T71 (l.set i x) (n : Int) = if n = i then x else rd_T71 l (n : Int) := by
  rw [wk_rdP_at _ (by rw [List.length_set]; exact h), wk_rdP_at _ h, List.getElem_set]
  by_cases e : n = i
  · rw [if_pos e, if_pos e.symm]
  · rw [if_neg e, if_neg (fun q => e q.symm)]
theorem wk_list_extP {l m : List S71} (h : l.length = m.length) (k : ∀ n : Nat, n < l.length → rd_T71 l (n : Int) = rd_T71 m (n : Int)) : l = m := by
  refine List.ext_getElem h fun n h1 h2 => ?_
  have := k n h1
  rwa [wk_rdP_at l h1, wk_rdP_at m h2] at this
theorem wk_reverseP_l0 (l : List S71) (hl : l.length ≤ 1000000) (d : Nat) : ∀ (k i : Nat) (y : List S71), l.length ≤ 2 * i + d → d < k → i ≤ l.length → y.length = l.length → (∀ t, t < l.length → rd_T71 y (t : Int) = if t < i ∨ l.length ≤ t + i then rd_T71 l ((l.length - 1 - t : Nat) : Int) else rd_T71 l (t : Int)) →
    api_Pair.l0 k y (i : Int) ((l.length : Int) - 1 - i) = some l.reverse := by
  have fin : ∀ (y : List S71) (i : Nat), y.length = l.length → l.length ≤ 2 * i + 1 → i ≤ l.length → (∀ t, t < l.length → rd_T71 y (t : Int) = if t < i ∨ l.length ≤ t + i then rd_T71 l ((l.length - 1 - t : Nat) : Int) else rd_T71 l (t : Int)) → y = l.reverse := by
    intro y i hy hi hi' h
    apply wk_list_extP (by rw [hy, List.length_reverse])
    intro t ht
    have hr : rd_T71 l.reverse (t : Int) = rd_T71 l ((l.length - 1 - t : Nat) : Int) := by
      rw [wk_rdP_at _ (by rw [List.length_reverse]; omega), wk_rdP_at _ (by omega), List.getElem_reverse]
    rw [hr, h t (by omega)]
    by_cases c : t < i ∨ l.length ≤ t + i
    · rw [if_pos c]
    · rw [if_neg c, show l.length - 1 - t = t by omega]
  induction d with
  | zero =>
    intro k i y hi hk hi' hy h
    obtain ⟨k, rfl⟩ := wk_round hk
    simp only [api_Pair.l0, wk_etaP]
    rw [if_neg (by omega), fin y i hy (by omega) hi' h]
  | succ d ih =>
    intro k i y hi hk hi' hy h
    obtain ⟨k, rfl⟩ := wk_round hk
    simp only [api_Pair.l0, wk_etaP]
    by_cases c : 2 * i + 1 < l.length
    · have ej : (l.length : Int) - 1 - i = ((l.length - 1 - i : Nat) : Int) := by omega
      have E1 := Aside0.mk (show wrap64 ((i : Int) + 1) = ((i + 1 : Nat) : Int) from wk_wrap_succ (by omega))
      have E2 := Aside0.mk (show wrap64 (((l.length - 1 - i : Nat) : Int) - 1) = (l.length : Int) - 1 - ((i + 1 : Nat) : Int) from by rw [wk_wrap_id (by omega) (by omega)]; omega)
      rw [ej, if_pos (by omega), if_pos (by omega), if_pos (by omega), if_pos (by omega), if_pos (by omega), E1.out, E2.out]
      simp only [Int.toNat_natCast]
      refine ih k (i + 1) _ (by omega) (by omega) (by omega) (by rw [List.length_set, List.length_set]; exact hy) ?_
      intro t ht
      rw [wk_rdP_set _ _ _ _ (by rw [List.length_set]; omega), wk_rdP_set _ _ _ _ (by omega), h (l.length - 1 - i) (by omega), h i (by omega), h t ht]
      by_cases c1 : t = l.length - 1 - i
      · rw [if_pos c1, if_neg (by omega), if_pos (by omega), c1, show l.length - 1 - (l.length - 1 - i) = i by omega]
      · rw [if_neg c1]
        by_cases c2 : t = i
        · rw [if_pos c2, if_neg (by omega), if_pos (by omega), c2]
        · rw [if_neg c2]
          by_cases c3 : t < i ∨ l.length ≤ t + i
          · rw [if_pos c3, if_pos (by omega)]
          · rw [if_neg c3, if_neg (by omega)]
    · rw [if_neg (by omega), fin y i hy (by omega) hi' h]
theorem wk_reverseP (l : List S71) (hl : l.length ≤ 1000000) {k : Nat} (hk : l.length < k) : api_Pair.f k l = some l.reverse := by
  unfold api_Pair.f
  rw [wk_wrap_id (by omega) (by omega)]
  have h := wk_reverseP_l0 l hl l.length k 0 l (by omega) hk (by omega) rfl (fun t ht => by rw [if_neg (by omega)])
  rw [show (l.length : Int) - 1 - ((0 : Nat) : Int) = (l.length : Int) - 1 by omega] at h
  exact h
theorem wk_get (l : List Int) (j : Nat) (hl : l.all Vec.ok = true) (hj : j / 64 < l.length) (hm : j ≤ 1000000) : vec_Get.f l (j : Int) = some ((Vec.w l (j / 64)).testBit (j % 64)) := by
  have hw := Vec.w_rd hl (j / 64)
  have hlt := Vec.w_lt hl (j / 64)
  have e1 := Aside0.mk (show wrap64 (Int.tdiv (j : Int) 64) = ((j / 64 : Nat) : Int) by
    rw [Int.tdiv_eq_ediv_of_nonneg (by omega), wk_wrap_id (by omega) (by omega)]; omega)
  have e2 : IntKind.u64.wrap (Int.tmod (j : Int) 64) = ((j % 64 : Nat) : Int) := by
    rw [Int.tmod_eq_emod_of_nonneg (by omega), Vec.wu (by omega) (by omega)]; omega
  have e0 : vec_inside.f l (j : Int) = some true := by
    unfold vec_inside.f
    rw [e1.out, if_pos (by omega), decide_eq_true (by omega)]
  unfold vec_Get.f
  rw [e0, Option.bind_some, e1.out, e2, if_pos rfl, if_pos (by omega), if_pos (by omega), if_pos (by omega), hw]
  have e3 : shr .u64 ((Vec.w l (j / 64) : Nat) : Int) ((j % 64 : Nat) : Int) = ((Vec.w l (j / 64) / 2 ^ (j % 64) : Nat) : Int) := by
    unfold shr
    rw [Int.toNat_natCast, Nat.min_eq_left (show j % 64 ≤ IntKind.u64.bits by show j % 64 ≤ 64; omega), Int.natCast_ediv, Int.natCast_pow]
    rfl
  have e4 := (bits_nat .u64 64 (by decide) (fun n h0 h1 => Vec.wu h0 h1) (Vec.w l (j / 64) / 2 ^ (j % 64)) 1 (Nat.lt_of_le_of_lt (Nat.div_le_self _ _) hlt) (by decide)).1
  have e5 : Go.bits .and .u64 ((Vec.w l (j / 64) / 2 ^ (j % 64) : Nat) : Int) 1 = ((Vec.w l (j / 64) / 2 ^ (j % 64) % 2 : Nat) : Int) := by
    rw [← Nat.and_one_is_mod]; exact e4
  rw [e3, e5, Nat.testBit_eq_decide_div_mod_eq]
  refine congrArg some (Bool.eq_iff_iff.2 ?_)
  rw [beq_iff_eq, decide_eq_true_iff]
  omega
theorem rowsR_at {W : World} {base n cap : Nat} {ad : Option Addr} {ok : Nat → Prop} {rs : List (List Int)} (h : Kd.R Rows.kd 62 W base ok (.slice ad n cap) rs) (i : Nat) (hi : i < rs.length) :
    ∃ g A c, ad = some ⟨g, 0, none⟩ ∧ W.cell? ⟨g, i, none⟩ = some (.slice A (rs.getD i []).length c) ∧ Kd.R (Kd.int .u64) 104 W base (fun k => ok k ∧ k ≠ g) (.slice A (rs.getD i []).length c) (rs.getD i []) := by
  obtain ⟨e, hc, _⟩ := Kd.R_reads' h
  subst e
  obtain ⟨g, cap', e, _⟩ := Kd.R_form h (by omega)
  injection e with e1 _ e2
  subst e1
  obtain ⟨cs, hl, hM, hcell, _⟩ := Kd.R_elem h [] (i : Int) (by omega) (by omega)
  obtain ⟨u, rfl, hu⟩ := hM
  obtain ⟨A, c, rfl⟩ := Kd.R_slice hu
  rw [Int.toNat_natCast] at *
  refine ⟨g, A, c, rfl, ?_, hu⟩
  have := hcell 0 _ rfl
  simpa [Kd.slice] using this
theorem rowsR_one {W : World} {base g : Nat} {z : Value} {r : List Int} {ok : Nat → Prop} (hb : base ≤ g) (hok : ok g) (hg : W.heap[g]? = some (.cells #[z] 62 (0, 0))) (hz : Kd.R (Kd.int .u64) 104 W base (fun k => ok k ∧ k ≠ g) z r) : Kd.R Rows.kd 62 W base ok (.slice (some ⟨g, 0, none⟩) 1 1) [r] := by
  refine ⟨fun k hk => ?_, [z], ⟨rfl, .inr ⟨g, 1, _, rfl, hb, hg, Nat.le_refl _, by decide, rfl, rfl⟩⟩, rfl, fun j p hj => ?_⟩
  · have : k = g := by simpa [Value.ownBlock] using hk.symm
    subst this; exact hok
  match j, hj with
  | 0, hj =>
    have : p = r := by simpa using hj.symm
    subst this
    exact ⟨z, rfl, Kd.R_mono hz fun k hk => ⟨hk.1, fun e => hk.2 (by simpa [Value.ownBlock] using e)⟩⟩
  | j + 1, hj => simp at hj
open Go.Proofs.YtjkjanegankdhaaGreat.Vx
section
attribute [-go_sem] max_two min_two max2_int min2_int
set_option maxRecDepth 100000 in
set_option maxHeartbeats 8000000 in
theorem walk_run (t : Int) (ht : t = 0 ∨ t = 1) (A : Option Addr) (c : Nat) (a : List Int) (B : Option Addr) (d : Nat) (b : List Int) (ev : Int) (hev : 1 ≤ ev ∧ ev ≤ 1000000) (q2 : Int) (hst : hyyro_Steps.f (a.length : Int) (b.length : Int) = some q2) (w : World) (ha : Kd.C (Kd.int .i64) w A a.length a) (hb : Kd.C (Kd.int .i64) w B b.length b) (hd : b.length ≤ d) (hla : a.length ≤ 1000000) (hlb : b.length ≤ 1000000) (hwa : ∀ x ∈ a, (Lit.int .i64 x).wf = true) (hwb : ∀ x ∈ b, (Lit.int .i64 x).wf = true) :
    Calls Tryz.prog 34 #[.int .i64 t, .slice A a.length c, .slice B b.length d, .int .i64 ev] w fun e w' => ∃ v0_ : Value, e = .returned (.tuple #[v0_, .int .i64 (wrap64 (2 * q2)), .int .i64 0]) ∧ Kd.R k71 71 w' w.heap.size (fun _ => True) v0_ (walk_path (Vec.rowAt (Vec.wRow t) a b) a b (a.length + b.length) a.length b.length) ∧ Below w.heap.size w w' := by
  obtain ⟨RW, eRW⟩ : ∃ RW, RW = Vec.wRow t := ⟨_, rfl⟩
  have hRok : ∀ i, (Vec.rowAt RW a b i).all Vec.ok = true ∧ (Vec.rowAt RW a b i).length = Vec.words b.length := by rw [eRW]; exact Vec.wRow_ok t a b
  have HCL := Aside0.mk (fun (A : Option Addr) (c : Nat) (v : List Int) (B : Option Addr) (d : Nat) (u : List Int) (n : Nat) (w : World) => Vec.wRow_calls t A c v B d u n w)
  rw [← eRW] at HCL ⊢
  clear eRW
  rcases ht with rfl | rfl
  all_goals (
    have HA := Aside0.mk ha
    have HBb := Aside0.mk hb
    have HD := Aside0.mk hd
    have WA := Aside0.mk hwa
    have WB := Aside0.mk hwb
    have HST := Aside0.mk hst
    obtain ⟨N, eN⟩ : ∃ N, N = Vec.words b.length := ⟨_, rfl⟩
    have hN : N ≤ 20000 := by rw [eN]; exact Vec.words_le hlb
    have EN := Aside0.mk eN
    clear ha hb hd hwa hwb eN hst
    have v1 : decide (ev < 1) = false := decide_eq_false (by omega)
    obtain ⟨E, hE1, hE2, hE3⟩ : ∃ E : Nat, 1 ≤ E ∧ E ≤ 1000000 ∧ (if (if (a.length : Int) < 1 then (1 : Int) else (a.length : Int)) < ev then (if (a.length : Int) < 1 then (1 : Int) else (a.length : Int)) else ev) = (E : Int) := by
      refine ⟨(if (if (a.length : Int) < 1 then (1 : Int) else (a.length : Int)) < ev then (if (a.length : Int) < 1 then (1 : Int) else (a.length : Int)) else ev).toNat, ?_, ?_, ?_⟩ <;> (repeat' split) <;> omega
    have q1 : ∀ ats ty, Builtin.max_ ats ty #[.int .i64 (a.length : Int), .int .i64 1] = pure (.int .i64 (if (a.length : Int) < 1 then (1 : Int) else (a.length : Int))) := fun ats ty => by rw [max_two, max2_int]; rfl
    generalize (if (a.length : Int) < 1 then (1 : Int) else (a.length : Int)) = M at *
    have q2_ : ∀ ats ty, Builtin.min_ ats ty #[.int .i64 ev, .int .i64 M] = pure (.int .i64 (E : Int)) := fun ats ty => by rw [min_two, min2_int, hE3]; rfl
    have HE3 := Aside0.mk hE3
    clear hE3
    go_enter Tryz.func34, Tryz.ntmps34
    go_wp2_with fail
    refine (Mask.new_calls B d b w HBb.out HD.out hlb WB.out).mono ?_
    rintro e w1 ⟨p, rfl, hp, hb⟩
    have HP := Aside0.mk hp
    have HB := Aside0.mk hb
    clear hp hb
    go_wp2_with fail
    refine (Vec.ones_calls b.length w1 hlb).mono ?_
    rintro e w2 ⟨z, rfl, hz, hb⟩
    have HN1 := Aside0.mk hb
    have HZ := Aside0.mk (Kd.R_bound hz)
    clear hz hb
    go_wp2_with fail
    have HK := Aside0.mk (Kd.R_nil Rows.kd 62 w2 w1.heap.size (fun q => q < w1.heap.size))
    clear q1 q2_ v1
    go_loopw [12, 13, 46] (fun v kp i wr => ∃ (k q N0 : Nat), k ≤ a.length ∧ i = .int .i64 k ∧ k ≤ q * E ∧ q * E < k + E ∧ Aside0 (Kd.R Rows.kd 62 wr w1.heap.size (fun g => g < N0) kp (keptL RW a b E q)) ∧ Aside0 (Kd.R (Kd.int .u64) 104 wr w1.heap.size (fun g => N0 ≤ g) v (Vec.rowAt RW a b k)) ∧ Aside0 (Below w1.heap.size w1 wr)) (fun v kp i _ => a.length - (intOf i).toNat)
    case atStart => exact ⟨0, 0, w1.heap.size, Nat.zero_le _, rfl, Nat.zero_le _, by omega, HK, Aside0.mk (Kd.R_mono HZ.out (fun k hk => by have := hk.2; omega)), HN1⟩
    case round =>
      clear HK HZ HN1
      obtain ⟨k, q, N0, hk, rfl, hq1, hq2, HK, HV, HN1⟩ := hrel
      obtain ⟨Ak, ck, rfl⟩ := Kd.R_slice HK.out
      obtain ⟨Av, cv, rfl⟩ := Kd.R_slice HV.out
      have hln := keptL_len RW a b E q
      have hlv := (hRok k).2
      rw [← EN.out] at hlv
      have HLN := Aside0.mk hln
      have HLV := Aside0.mk hlv
      rw [hln] at HK ⊢
      rw [hlv] at HV ⊢
      clear hln hlv
      have HQ1 := Aside0.mk hq1
      have HQ2 := Aside0.mk hq2
      clear hq1 hq2
      by_cases hlt : k < a.length
      · obtain ⟨ad, ea, hx⟩ := Kd.at_int (Kd.C_below HA.out (below_step HB.out HN1.out)) (k : Int) (by omega) (by omega)
        subst ea
        rw [Int.toNat_natCast] at hx
        have hxw : (Lit.int .i64 (rd a (k : Int))).wf = true := by
          have e : rd a (k : Int) = a[k] := by unfold rd; simp [hlt]
          rw [e]; exact WA.out _ (List.getElem_mem hlt)
        obtain ⟨x, ex⟩ : ∃ x, x = rd a (k : Int) := ⟨_, rfl⟩
        rw [← ex] at hx hxw
        have EX := Aside0.mk ex
        have HXW := Aside0.mk hxw
        have hk0 : (0 : Int) ≤ (k : Int) := Int.natCast_nonneg _
        have hk1 : (k : Int) < (k : Int) + 1 := by omega
        have hE0 : ¬ (E : Int) = 0 := by omega
        clear ex hxw
        by_cases c0 : (k : Int) % (E : Int) = 0
        · have hq : q * E = k := kept_hit HQ1.out HQ2.out (by omega)
          have HQ := Aside0.mk hq
          have c0b : ((k : Int) % (E : Int) == 0) = true := beq_iff_eq.2 c0
          have HQK := Aside0.mk (show q ≤ k by rw [← hq]; exact Nat.le_mul_of_pos_right q hE1)
          have HOK := Aside0.mk (show ∀ g, N0 ≤ g → True ∧ some g ≠ (Value.slice Ak q ck).ownBlock from fun g hg => ⟨trivial, fun e => by have := HK.out.1 g e.symm; omega⟩)
          have hl_ : ((keptL RW a b E q).length + 1) * 24 ≤ 140737488355328 := by rw [HLN.out]; have := HQK.out; omega
          have HL_ := Aside0.mk hl_
          clear hq hl_
          go_wp2_with (first | (at_builtin; (with_reducible refine gate_builtin (b := .append) (xs := #[.tmp 55, .tmp 57]) rfl ?_); refine Kd.R_append Rows.kd (w0 := w1) w1.heap.size rfl (.tmp 55) (.tmp 57) 59 62 (.slice none 0 0) 24 rfl Tryz.underlying59 info62 rfl (by decide) (by omega) (.slice Ak q ck) (keptL RW a b E q) (Vec.rowAt RW a b k) [.slice Av N cv] (fun _ => True) (fun g => N0 ≤ g) rfl rfl ⟨_, rfl, HV.out⟩ HOK.out (fun _ _ => trivial) (Kd.R_mono HK.out (fun _ _ => trivial)) HN1.out (below_size HN1.out) HL_.out ?_; intro v3 w3 ho hb hg hat; have HO3 := Aside0.mk ho; have HB3 := Aside0.mk hb; have HV3 := Aside0.mk (Kd.R_grown HV.out hg (fun g hg => (HOK.out g hg).2)); clear ho hb hg hat) | fail)
          have HK3 := HO3.out
          rw [show Vec.rowAt RW a b k = Vec.rowAt RW a b (q * E) by rw [HQ.out], keptL_snoc] at HK3
          have HK4 := Aside0.mk (Kd.R_bound HK3)
          clear HK3 HO3 HOK HL_
          go_wp2_with fail
          refine (Mask.of_calls p b x w3 (HP.out.below HB3.out) hlb HXW.out).mono ?_
          rintro e w5 ⟨z1, rfl, h1, hb1⟩
          obtain ⟨A1, c1, rfl⟩ := Kd.R_slice h1
          rw [Mask.row_len, ← EN.out]
          have H1 := Aside0.mk h1
          have HB1 := Aside0.mk hb1
          clear h1 hb1
          go_wp2_with fail
          have R1 := (Kd.R_reads' H1.out).2.2
          have R0 := (Kd.R_reads' HV3.out).2.2
          have hc_ := HCL.out Av cv (Vec.rowAt RW a b k) A1 c1 _ b.length w5 (Kd.C_below R0 HB1.out) R1 hlb (hRok k).1 (Mask.row_ok _ _ _ _)
          rw [HLV.out, Mask.row_len, ← EN.out] at hc_
          refine hc_.mono ?_
          clear hc_ R1 R0
          rintro e w6 ⟨z2, rfl, h2, hb2⟩
          have er_ : Vec.rowAt RW a b (k + 1) = RW (Vec.rowAt RW a b k) (Mask.row b x b.length N) b.length := by rw [EN.out, EX.out]; rfl
          rw [← er_] at h2
          have H2 := Aside0.mk (Kd.R_mono (Kd.R_lower (Kd.R_bound h2) (Nat.le_trans (below_size HB3.out) HB1.out.size)) (fun g hg => hg.2.1))
          have HB2 := Aside0.mk (below_step HB3.out (below_step HB1.out hb2))
          have HK2 := Aside0.mk (Kd.R_mono (Kd.R_below HK4.out (below_step HB1.out hb2)) (fun g hg => show g < w5.heap.size by have := HB1.out.size; have := hg.2.2.1; omega))
          clear h2 hb2 er_
          go_wp2
          go_roundw
          case rel => exact ⟨k + 1, q + 1, w5.heap.size, by omega, by go_num, by rw [Nat.succ_mul, HQ.out]; omega, by rw [Nat.succ_mul, HQ.out]; omega, HK2, H2, HB2⟩
          case measure => simp [intOf]; omega
        · have HQ := Aside0.mk (kept_miss HQ1.out (fun h => c0 (by omega)))
          have HK4 := Aside0.mk (Kd.R_bound HK.out)
          have c0b : ((k : Int) % (E : Int) == 0) = false := beq_eq_false_iff_ne.2 c0
          go_wp2_with fail
          refine (Mask.of_calls p b x wr (HP.out.below HN1.out) hlb HXW.out).mono ?_
          rintro e w5 ⟨z1, rfl, h1, hb1⟩
          obtain ⟨A1, c1, rfl⟩ := Kd.R_slice h1
          rw [Mask.row_len, ← EN.out]
          have H1 := Aside0.mk h1
          have HB1 := Aside0.mk hb1
          clear h1 hb1
          go_wp2_with fail
          have R1 := (Kd.R_reads' H1.out).2.2
          have R0 := (Kd.R_reads' HV.out).2.2
          have hc_ := HCL.out Av cv (Vec.rowAt RW a b k) A1 c1 _ b.length w5 (Kd.C_below R0 HB1.out) R1 hlb (hRok k).1 (Mask.row_ok _ _ _ _)
          rw [HLV.out, Mask.row_len, ← EN.out] at hc_
          refine hc_.mono ?_
          clear hc_ R1 R0
          rintro e w6 ⟨z2, rfl, h2, hb2⟩
          have er_ : Vec.rowAt RW a b (k + 1) = RW (Vec.rowAt RW a b k) (Mask.row b x b.length N) b.length := by rw [EN.out, EX.out]; rfl
          rw [← er_] at h2
          have H2 := Aside0.mk (Kd.R_mono (Kd.R_lower (Kd.R_bound h2) (Nat.le_trans (below_size HN1.out) HB1.out.size)) (fun g hg => hg.2.1))
          have HB2 := Aside0.mk (below_step HN1.out (below_step HB1.out hb2))
          have HK2 := Aside0.mk (Kd.R_mono (Kd.R_below HK4.out (below_step HB1.out hb2)) (fun g hg => show g < w5.heap.size by have := HB1.out.size; have := hg.2.2.1; omega))
          clear h2 hb2 er_
          go_wp2
          go_roundw
          case rel => exact ⟨k + 1, q, w5.heap.size, by omega, by go_num, HQ.out, by have := HQ2.out; omega, HK2, H2, HB2⟩
          case measure => simp [intOf]; omega
      · have ek : k = a.length := by omega
        subst ek
        clear hlt hk
        have hq0 : q ≤ a.length := by
          rcases Nat.lt_or_ge a.length q with h | h
          · exfalso
            have h1 : (a.length + 1) * E ≤ q * E := Nat.mul_le_mul_right E h
            have h2 : a.length * 1 ≤ a.length * E := Nat.mul_le_mul_left a.length hE1
            rw [Nat.succ_mul] at h1
            have := HQ2.out
            omega
          · exact h
        have wq : wrap64 ((q : Int) - 1) = (q : Int) - 1 := wk_wrap_id (by omega) (by omega)
        go_wp2_with fail
        clear wq
        rename World => wb
        have HKB := Aside0.mk (Kd.R_mono (Kd.R_bound HK.out) (fun g hg => hg.2.2.1))
        clear HK
        go_loopw [16, 17, 18] (fun ov j kk W => ∃ (m jn : Nat) (o : List S71), m ≤ q ∧ kk = .int .i64 ((m : Int) - 1) ∧ j = .int .i64 jn ∧ jn ≤ b.length ∧ o.length + min (m * E) a.length ≤ a.length ∧ Aside0 (walk_at (Vec.rowAt RW a b) a b a.length b.length = walk_at (Vec.rowAt RW a b) a b (min (m * E) a.length) jn ++ o.reverse) ∧ Aside0 (Kd.R k71 71 W wb.heap.size (fun _ => True) ov o) ∧ Aside0 (Below wb.heap.size wb W)) (fun ov j kk _ => (intOf kk + 1).toNat)
        case atStart =>
          have hm : min (q * E) a.length = a.length := Nat.min_eq_right HQ1.out
          exact ⟨q, b.length, [], Nat.le_refl _, rfl, rfl, Nat.le_refl _, by rw [hm]; simp, Aside0.mk (by rw [hm]; simp), Aside0.mk (Kd.R_nil _ _ _ _ _), Aside0.mk (Below.refl _ _)⟩
        case round =>
          obtain ⟨m, jn, o, hm, rfl, rfl, hjn, hol, HPA, HO, HW⟩ := hrel
          by_cases hm0 : m = 0
          · subst hm0
            have HO1 := Aside0.mk hol
            go_wp2_with fail
            have hr_ := wk_reverseP o (by omega) (Nat.lt_succ_self _)
            have hpath : o.reverse = walk_path (Vec.rowAt RW a b) a b (a.length + b.length) a.length b.length := by
              have h := HPA.out
              rw [Nat.zero_mul, Nat.zero_min, walk_at_zi, List.nil_append] at h
              exact h.symm
            refine (api_Pair.calls (o.length + 1) (fun _ => True) u16 o _ wb wr HW.out HO.out hr_).mono ?_
            rintro e w8 ⟨rfl, ho8, hb8, -⟩
            rw [hpath] at ho8
            have HO8 := Aside0.mk ho8
            have HB8 := Aside0.mk hb8
            clear ho8 hb8 hr_ hpath
            go_wp2_with fail
            refine (hyyro_Steps.calls (a.length : Int) (b.length : Int) q2 w8 HST.out).mono ?_
            rintro e w9 ⟨rfl, hb9⟩
            have HB9 := Aside0.mk hb9
            clear hb9
            go_wp2
            refine bodyPost_ret (results_tmp3 rfl _ _ _) rfl ?_
            have hwb := below_step HB.out HN1.out
            exact ⟨_, rfl, Kd.R_lower (Kd.R_mono (Kd.R_below HO8.out HB9.out) (fun _ _ => trivial)) (below_size hwb), below_step hwb (below_step HB8.out HB9.out)⟩
          · obtain ⟨k, rfl⟩ : ∃ k, m = k + 1 := ⟨m - 1, by omega⟩
            clear hm0
            rw [show ((k + 1 : Nat) : Int) - 1 = (k : Int) by omega]
            obtain ⟨F, eF⟩ : ∃ F, F = k * E := ⟨_, rfl⟩
            obtain ⟨T, eT⟩ : ∃ T, T = min (F + E) a.length := ⟨_, rfl⟩
            have hF : F < a.length := by rw [eF]; exact blk_lt hm HQ2.out
            have hT1 : min ((k + 1) * E) a.length = T := by rw [eT, eF, Nat.succ_mul]
            rw [hT1] at HPA hol
            have EF := Aside0.mk eF
            have hFT : F < T := by clear eF hT1 hol; omega
            have hTa : T ≤ a.length := by clear eF hT1 hol; omega
            have ET := Aside0.mk eT
            have EW := Aside0.mk (show wrap64 ((k : Int) * (E : Int)) = (F : Int) by rw [← Int.natCast_mul, ← eF]; exact blk_wrap (Nat.le_trans (Nat.le_of_lt hF) (Nat.le_trans hla (by decide))))
            have eTm : ∀ ats ty, Builtin.min_ ats ty #[.int .i64 (wrap64 (wrap64 ((k : Int) * (E : Int)) + (E : Int))), .int .i64 (a.length : Int)] = pure (.int .i64 (T : Int)) := by
              rw [EW.out, ← Int.natCast_add, blk_wrap (n := F + E) (Nat.le_trans (Nat.add_le_add (Nat.le_trans (Nat.le_of_lt hF) hla) hE2) (by decide))]
              exact blk_min eT
            clear eF eT hT1
            have hk0 : (0 : Int) ≤ (k : Int) := Int.natCast_nonneg _
            have hkq : (k : Int) < (q : Int) := by omega
            obtain ⟨g, Ac, cc, ea, hcell, hrow⟩ := rowsR_at HKB.out k (by rw [HLN.out]; omega)
            subst ea
            have hrow' := Kd.R_below hrow HW.out
            rw [keptL_at _ _ _ _ (show k < q by omega), ← EF.out, (hRok F).2, ← EN.out] at hcell hrow'
            have hcell2 := (HW.out.cell (World.block_lt_of_cell? wb _ hcell)).trans hcell
            have HCELL := Aside0.mk hcell2
            have HROW := Aside0.mk hrow'
            clear hcell hrow hrow' hcell2
            have hcell3 := HCELL.out
            go_wp2_with fail
            rename World => wk
            have hle : wb.heap.size ≤ wk.heap.size := HW.out.size
            have hle1 : w1.heap.size ≤ wk.heap.size := Nat.le_trans (below_size HN1.out) hle
            have hr0 : Kd.R Rows.kd 62 (wk.alloc (.cells #[.slice Ac N cc] 62)) w1.heap.size (fun g => g < wb.heap.size ∨ wk.heap.size ≤ g) (.slice (some ⟨wk.heap.size, 0, none⟩) 1 1) (someL RW a b F (0 + 1)) := by
              refine rowsR_one hle1 (Or.inr (Nat.le_refl _)) (blk_new _ _) (Kd.R_alloc (Kd.R_mono HROW.out (fun g hg => ⟨Or.inl hg.1, ?_⟩)) _)
              intro e; have := hg.1; omega
            have HR := Aside0.mk hr0
            have HW0 := Aside0.mk ((Below.refl wk.heap.size wk).alloc (Nat.le_refl _) (.cells #[.slice Ac N cc] 62))
            have HLE := Aside0.mk hle
            have HLE1 := Aside0.mk hle1
            clear hr0 hle hle1 hcell3
            rw [EW.out]
            go_loopw [21, 22] (fun rv i W => ∃ t n : Nat, n = F + t ∧ n ≤ T ∧ i = .int .i64 (n : Int) ∧ Aside0 (Kd.R Rows.kd 62 W w1.heap.size (fun g => g < wb.heap.size ∨ wk.heap.size ≤ g) rv (someL RW a b F (t + 1))) ∧ Aside0 (∀ g, rv.ownBlock = some g → wk.heap.size ≤ g) ∧ Aside0 (Below wk.heap.size wk W)) (fun rv i _ => T - (intOf i).toNat)
            case atStart =>
              refine ⟨0, F, rfl, Nat.le_of_lt hFT, rfl, HR, Aside0.mk (fun g hg => ?_), HW0⟩
              have : wk.heap.size = g := by simpa [Value.ownBlock] using hg
              omega
            case round =>
              clear HR HW0
              obtain ⟨t, n, hn, ht, rfl, HR, HOWN, HW4⟩ := hrel
              obtain ⟨Ar, cr, rfl⟩ := Kd.R_slice HR.out
              have hln := someL_len RW a b F (t + 1)
              rw [hln] at HR HOWN ⊢
              have HLS := Aside0.mk hln
              clear hln
              by_cases hlt : n < T
              · obtain ⟨g4, A4, c4, ea, hcell, hrow⟩ := rowsR_at HR.out t (by rw [HLS.out]; omega)
                subst ea
                rw [someL_at _ _ _ _ (Nat.lt_succ_self t), (hRok _).2, ← EN.out] at hcell hrow
                obtain ⟨ad, ea, hxk⟩ := Kd.at_int (Kd.C_below HA.out (below_step HB.out (below_step HN1.out HW.out))) (n : Int) (by omega) (by omega)
                have hx := (HW4.out.cell (World.block_lt_of_cell? wk _ hxk)).trans hxk
                subst ea
                rw [Int.toNat_natCast] at hx hxk
                have hta : n < a.length := Nat.lt_of_lt_of_le hlt hTa
                have hxw : (Lit.int .i64 (rd a (n : Int))).wf = true := by
                  have e : rd a (n : Int) = a[n] := by unfold rd; simp [hta]
                  rw [e]; exact WA.out _ (List.getElem_mem hta)
                obtain ⟨x, ex⟩ : ∃ x, x = rd a (n : Int) := ⟨_, rfl⟩
                rw [← ex] at hx hxw hxk
                rw [← hn] at hrow
                obtain ⟨R, eR⟩ : ∃ R, R = Vec.rowAt RW a b n := ⟨_, rfl⟩
                rw [← eR] at hrow
                have HRN := Aside0.mk (show R.length = N by rw [eR, EN.out]; exact (hRok _).2)
                have HRO := Aside0.mk (show R.all Vec.ok = true by rw [eR]; exact (hRok _).1)
                have er_ : Vec.rowAt RW a b (F + (t + 1)) = RW R (Mask.row b x b.length N) b.length := by rw [← Nat.add_assoc, ← hn, EN.out, ex, eR]; rfl
                have ER_ := Aside0.mk er_
                have HXW := Aside0.mk hxw
                have HB14 := Aside0.mk (below_step HN1.out ((HW.out.trans (HW4.out.mono HLE.out)) : Below wb.heap.size wb wr))
                have HGL := Aside0.mk (World.block_lt_of_cell? wr _ hcell)
                have HXL := Aside0.mk (World.block_lt_of_cell? wr _ hx)
                have HC0 := Aside0.mk hcell
                have HX0 := Aside0.mk hx
                have HXK := Aside0.mk hxk
                clear hxk
                have HROWC := Aside0.mk (fun (w5 : World) (hb : Below wr.heap.size wr w5) => Kd.C_below (Kd.R_reads' hrow).2.2 hb)
                have hi0 : (0 : Int) ≤ (n : Int) := Int.natCast_nonneg _
                have hi1 : (n : Int) < (a.length : Int) := Int.ofNat_lt.2 hta
                have hi2 : (n : Int) < (T : Int) := Int.ofNat_lt.2 hlt
                have ht0 : (0 : Int) ≤ (t : Int) := Int.natCast_nonneg _
                have ht1 : (t : Int) < (t : Int) + 1 := Int.lt_succ _
                have wt : wrap64 ((n : Int) - (F : Int)) = (t : Int) := by
                  rw [hn, Int.natCast_add, Int.add_comm, Int.add_sub_cancel]; exact blk_wrap (by omega)
                have wt2 : IntKind.i64.wrap ((n : Int) - (F : Int)) = (t : Int) := (i64_w _).trans wt
                have htm : t ≤ 1000000 := by omega
                have HNN := Aside0.mk hn
                clear hn
                have HGO := Aside0.mk (HOWN.out g4 rfl)
                have H1W := Aside0.mk (show w1.heap.size ≤ wr.heap.size from Nat.le_trans HLE1.out HW4.out.size)
                obtain ⟨i0, hi0_, hz0⟩ := Option.map_eq_some_iff.1 info62
                simp only [Prod.mk.injEq] at hz0
                obtain ⟨hz0, hz1, hz2⟩ := hz0
                have I0 := Aside0.mk hi0_
                have I1 := Aside0.mk hz0
                have I2 := Aside0.mk hz1
                have I3 := Aside0.mk hz2
                clear hrow ex eR er_ hxw hi0_ hz0 hz1 hz2
                go_wp2_with fail
                go_region_held3 (fun w' => w'.cell? ⟨g4, t, none⟩ = some (.slice A4 N c4) ∧ w'.cell? (ad.add n) = some (.int .i64 x)) (go_keep) (first
                  | (go_at_call 72; (with_reducible refine (Mask.of_calls p b x wr.drew (HP.out.below (below_drew HB14.out)) hlb HXW.out).mono ?_); rintro e w5 ⟨z1, rfl, h1, hb1⟩; obtain ⟨A1, c1, rfl⟩ := Kd.R_slice h1; rw [Mask.row_len, ← EN.out]; have H1 := Aside0.mk h1; have HB1 := Aside0.mk (below_step (below_drew (Below.refl wr.heap.size wr)) hb1); have hcell1 := (HB1.out.cell (p := ⟨g4, t, none⟩) HGL.out).trans HC0.out; have hx1 := (HB1.out.cell (p := ad.add n) HXL.out).trans HX0.out; clear h1 hb1)
                  | (go_at_call 76; have R1 := (Kd.R_reads' H1.out).2.2; have hc_ := HCL.out A4 c4 R A1 c1 _ b.length w5 (HROWC.out w5 HB1.out) R1 hlb HRO.out (Mask.row_ok _ _ _ _); rw [HRN.out, Mask.row_len, ← EN.out] at hc_; (with_reducible refine hc_.mono ?_); clear hc_ R1; rintro e w6 ⟨z2, rfl, h2, hb2⟩; rw [← ER_.out] at h2; have HB2 := Aside0.mk (below_step HB1.out hb2); have hcell2 := (HB2.out.cell (p := ⟨g4, t, none⟩) HGL.out).trans HC0.out; have hx2 := (HB2.out.cell (p := ad.add n) HXL.out).trans HX0.out; obtain ⟨A2, c2, rfl⟩ := Kd.R_slice h2; rw [(hRok _).2, ← EN.out] at h2 ⊢; have HNW := Aside0.mk (show Kd.R (Kd.int .u64) 104 (w6.alloc (.cells #[.slice A2 N c2] 62)) w1.heap.size (fun q => wr.heap.size ≤ q) (.slice A2 N c2) _ from Kd.R_alloc (Kd.R_lower (Kd.R_mono (Kd.R_bound h2) (fun q hq => Nat.le_trans HB1.out.size hq.2.1)) (Nat.le_trans H1W.out HB1.out.size)) _); have HB3 := Aside0.mk (below_step HB2.out ((Below.refl w6.heap.size w6).alloc (Nat.le_refl _) (.cells #[.slice A2 N c2] 62))); obtain ⟨h0S, inner, hoS, hrS⟩ := Kd.R_below HR.out HB3.out; rw [HLS.out] at hoS; have HOS := Aside0.mk hoS; have HRP := Aside0.mk hrS; have H0S := Aside0.mk h0S; have LW := Aside0.mk (show w1.heap.size ≤ w6.heap.size from Nat.le_trans H1W.out HB2.out.size); have lt6 : g4 < w6.heap.size := Nat.lt_of_lt_of_le HGL.out HB2.out.size; have lt7 : (ad.add n).block < w6.heap.size := Nat.lt_of_lt_of_le HXL.out HB2.out.size; clear h2 hb2 hoS hrS h0S)
                  | (refine App.step _ (by rfl) _ _ _ (by rfl) w1.heap.size 62 i0 _ 24 Tryz.underlying59 I0.out I1.out I2.out I3.out rfl g4 (t + 1) cr inner (by rfl) HOS.out ⟨w6.heap.size, 0, none⟩ (.slice A2 N c2) (by rfl) (by exact (blk_cell (blk_new w6 _) 0).trans rfl) rfl (by unfold maxLen; omega) (by omega) (by have := LW.out; simp; omega) (w6.heap.size + 1) (by simp) ?_; intro gg cap w7 hown7 hgrow7 hat7 hlt7 hkeep7; have HO7 := Aside0.mk hown7; have HG7 := Aside0.mk hgrow7; have HA7 := Aside0.mk hat7; have hcell7 := (hkeep7 t (by omega)).trans ((((Below.refl w6.heap.size w6).alloc (Nat.le_refl _) _).cell (p := ⟨g4, t, none⟩) lt6).trans hcell2); have HB7 := Aside0.mk ((below_step HW4.out HB3.out).grown HG7.out (below_step HW4.out HB3.out).size (fun q hq => by injection hq with hq; rw [← hq]; exact HGO.out)); have hx7 := (HB7.out.cell (p := ad.add n) (World.block_lt_of_cell? wk _ HXK.out)).trans HXK.out; clear hown7 hgrow7 hat7 hkeep7)
                  | fail)
                have hrows : Kd.R Rows.kd 62 w7 w1.heap.size (fun g => g < wb.heap.size ∨ wk.heap.size ≤ g) (.slice (some ⟨gg, 0, none⟩) (t + 1 + 1) cap) (someL RW a b F (t + 1 + 1)) := by
                  rw [← someL_snoc RW a b F (t + 1)]
                  refine Kd.R_appended (okp := fun q => wr.heap.size ≤ q) (W := w6.alloc (.cells #[.slice A2 N c2] 62)) (v := .slice (some ⟨g4, 0, none⟩) (t + 1) cr) (cs := [.slice A2 N c2]) H0S.out HRP.out ⟨_, rfl, HNW.out⟩ (fun q hq => ⟨Or.inr (Nat.le_trans HW4.out.size hq), fun e => ?_⟩) (fun q hq => Or.inr ?_) (by rw [HLS.out]; exact HO7.out) HG7.out (HA7.out.imp (fun e => by simp [Value.ownBlock, e]) (fun e => ⟨gg, rfl, by rw [e]; simp⟩))
                  · have e : q = g4 := by simpa [Value.ownBlock] using e
                    have := HGL.out; omega
                  · have h1 := HB2.out.size
                    have h2 := HW4.out.size
                    rw [World.size_alloc] at hq
                    omega
                have HR7 := Aside0.mk hrows
                have HGG := Aside0.mk (show ∀ g, (Value.slice (some ⟨gg, 0, none⟩) (t + 1 + 1) cap).ownBlock = some g → wk.heap.size ≤ g from fun g hg => by
                  have hg : gg = g := by simpa [Value.ownBlock] using hg
                  subst hg
                  rcases HA7.out with h | h
                  · rw [← h]; exact HGO.out
                  · have h1 := HB2.out.size
                    have h2 := HW4.out.size
                    omega)
                clear hrows
                go_wp2
                go_roundw
                case rel => exact ⟨t + 1, n + 1, by have := HNN.out; omega, by omega, by go_num, HR7, HGG, HB7⟩
                case measure => simp [intOf]; omega
              · have en : n = T := by omega
                subst en
                clear hlt ht
                have HNN := Aside0.mk hn
                clear hn
                go_wp2_with fail
                rename World => wl
                have hO4 := Kd.R_below HO.out HW4.out
                have HOB := Aside0.mk (Kd.R_lt HO.out)
                have HOL := Aside0.mk (Kd.R_base HO.out)
                have hR4 : Kd.R Rows.kd 62 wl w1.heap.size (fun g => True ∧ some g ≠ u16.ownBlock) (.slice Ar (t + 1) cr) (someL RW a b F (t + 1)) := by
                  refine Kd.R_mono HR.out (fun q hq => ⟨trivial, fun e => ?_⟩)
                  have h1 := HOB.out q e.symm
                  have h2 := HOL.out q e.symm
                  omega
                have HO4 := Aside0.mk hO4
                have HR4 := Aside0.mk hR4
                have HWL := Aside0.mk (HW.out.trans (HW4.out.mono HLE.out))
                clear HO HOB HOL hO4 hR4 HR HOWN
                go_loopw [16, 17, 23] (fun ov j ii W => ∃ (i jn : Nat) (o : List S71), F ≤ i ∧ i ≤ n ∧ ii = .int .i64 i ∧ j = .int .i64 jn ∧ jn ≤ b.length ∧ o.length + i ≤ a.length ∧ Aside0 (walk_at (Vec.rowAt RW a b) a b a.length b.length = walk_at (Vec.rowAt RW a b) a b i jn ++ o.reverse) ∧ Aside0 (Kd.R k71 71 W wb.heap.size (fun _ => True) ov o) ∧ Aside0 (Kd.R Rows.kd 62 W w1.heap.size (fun g => True ∧ some g ≠ ov.ownBlock) (.slice Ar (t + 1) cr) (someL RW a b F (t + 1))) ∧ Aside0 (Below wb.heap.size wb W)) (fun ov j ii _ => (intOf ii).toNat + (intOf j).toNat)
                case atStart => exact ⟨n, jn, o, Nat.le_of_lt hFT, Nat.le_refl _, rfl, rfl, hjn, hol, HPA, HO4, HR4, HWL⟩
                case round =>
                  clear HPA HO4 HR4 HWL hjn hol o HW4
                  obtain ⟨i, jn, o, hi, hin, rfl, rfl, hjn, hol, HPA, HO, HR, HWL⟩ := hrel
                  by_cases hic : F < i
                  · by_cases hjc : 0 < jn
                    · have x1 : decide ((i : Int) > (F : Int)) = true := decide_eq_true (Int.ofNat_lt.2 hic)
                      have x2 : decide ((jn : Int) > 0) = true := decide_eq_true (by omega)
                      obtain ⟨j, ej⟩ : ∃ j, jn = j + 1 := ⟨jn - 1, by omega⟩
                      obtain ⟨i1, ei⟩ : ∃ i1, i = i1 + 1 := ⟨i - 1, by omega⟩
                      obtain ⟨s, es⟩ : ∃ s, i = F + s := ⟨i - F, by omega⟩
                      have hst : s < t + 1 := by have := HNN.out; omega
                      have hs0 : (0 : Int) ≤ (s : Int) := Int.natCast_nonneg _
                      have hs1 : (s : Int) < (t : Int) + 1 := by omega
                      obtain ⟨g4, A4, c4, ea, hcell, hrow⟩ := rowsR_at HR.out s (by rw [HLS.out]; omega)
                      subst ea
                      rw [someL_at _ _ _ _ hst, ← es, (hRok i).2, ← EN.out] at hcell hrow
                      have HROW4 := Aside0.mk hrow
                      have WS := Aside0.mk (show wrap64 ((i : Int) - (F : Int)) = (s : Int) by
                        rw [es, Int.natCast_add, Int.add_comm, Int.add_sub_cancel]; exact blk_wrap (by omega))
                      have WJ := Aside0.mk (show wrap64 ((jn : Int) - 1) = (j : Int) by
                        rw [ej, Int.natCast_add, Int.natCast_one, Int.add_sub_cancel]; exact blk_wrap (by omega))
                      have WI := Aside0.mk (show wrap64 ((i : Int) - 1) = (i1 : Int) by
                        rw [ei, Int.natCast_add, Int.natCast_one, Int.add_sub_cancel]; exact blk_wrap (by omega))
                      have EJ := Aside0.mk ej
                      have EI := Aside0.mk ei
                      have ES := Aside0.mk es
                      clear ej ei es hrow
                      have ws := WS.out
                      have ws2 : IntKind.i64.wrap ((i : Int) - (F : Int)) = (s : Int) := (i64_w _).trans ws
                      go_wp2_with fail
                      have ej2 : (jn : Int) - 1 = (j : Int) := by have := EJ.out; omega
                      rw [ej2]
                      have hw4 : j / 64 < (Vec.rowAt RW a b i).length := by
                        have := EJ.out
                        rw [(hRok i).2]; unfold Vec.words; omega
                      have hR4 := Kd.R_reads' HROW4.out
                      have hc_ := vec_Get.calls A4 c4 (Vec.rowAt RW a b i) (j : Int) _ wr hR4.2.2 (by rw [← hR4.1]; exact hR4.2.1) (wk_get _ j (hRok i).1 hw4 (by have := EJ.out; omega))
                      rw [(hRok i).2, ← EN.out] at hc_
                      refine hc_.mono ?_
                      clear hc_ hw4 hR4 HROW4 hcell ws ws2
                      rintro e w5 ⟨rfl, hdr⟩
                      have hb5 : Below wr.heap.size wr w5 := by obtain ⟨n, rfl⟩ := hdr.out; exact pw_below_drewN (Below.refl _ _) n
                      have HO5 := Aside0.mk (Kd.R_below HO.out hb5)
                      have HR5 := Aside0.mk (Kd.R_below HR.out hb5)
                      have HW5 := Aside0.mk (HWL.out.trans (hb5.mono HWL.out.size))
                      have HSTEP := Aside0.mk (walk_at_step (Vec.rowAt RW a b) a b i1 j)
                      rw [← EI.out, ← EJ.out] at HSTEP
                      obtain ⟨bit, ebit⟩ : ∃ bit, bit = (Vec.w (Vec.rowAt RW a b i) (j / 64)).testBit (j % 64) := ⟨_, rfl⟩
                      rw [← ebit] at HSTEP ⊢
                      have HS1 := Aside0.mk (fun e : bit = true => HSTEP.out.trans (if_pos e))
                      have HS2 := Aside0.mk (fun e : bit = false => HSTEP.out.trans (if_neg (by rw [e]; decide)))
                      clear ebit hdr hb5 HO HR HWL HSTEP
                      cases bit
                      · have hw5 := below_step HB.out (below_step HN1.out HW5.out)
                        obtain ⟨ada, ea, hxa⟩ := Kd.at_int (Kd.C_below HA.out hw5) (i1 : Int) (by omega) (by have := EI.out; omega)
                        subst ea
                        obtain ⟨adb, eb, hxb⟩ := Kd.at_int (Kd.C_below HBb.out hw5) (j : Int) (by omega) (by have := EJ.out; omega)
                        subst eb
                        rw [Int.toNat_natCast] at hxa hxb
                        obtain ⟨xa, exa⟩ : ∃ x_, x_ = rd a (i1 : Int) := ⟨_, rfl⟩
                        obtain ⟨xb, exb⟩ : ∃ x_, x_ = rd b (j : Int) := ⟨_, rfl⟩
                        rw [← exa] at hxa
                        rw [← exb] at hxb
                        have EXA := Aside0.mk exa
                        have EXB := Aside0.mk exb
                        have ei2 : (i : Int) - 1 = (i1 : Int) := by have := EI.out; omega
                        have hi0 : (0 : Int) ≤ (i1 : Int) := Int.natCast_nonneg _
                        have hi1 : (i1 : Int) < (a.length : Int) := by have := EI.out; omega
                        have hj0 : (0 : Int) ≤ (j : Int) := Int.natCast_nonneg _
                        have hj1 : (j : Int) < (b.length : Int) := by have := EJ.out; omega
                        have wi2 : IntKind.i64.wrap ((i : Int) - 1) = (i1 : Int) := (i64_w _).trans WI.out
                        have wj2 : IntKind.i64.wrap ((jn : Int) - 1) = (j : Int) := (i64_w _).trans WJ.out
                        clear exa exb hw5
                        go_wp2_with fail
                        go_quiet (fail)
                        have HO6 := Aside0.mk (Kd.R_drewN HO5.out nq)
                        have HR6 := Aside0.mk (Kd.R_drewN HR5.out nq)
                        have HW6 := Aside0.mk (pw_below_drewN HW5.out nq)
                        clear hxa hxb HO5 HR5 HW5
                        generalize w5.drewN nq = w6 at *
                        have hl_ : (o.length + 1) * 16 ≤ 140737488355328 := by omega
                        have HL_ := Aside0.mk hl_
                        clear hl_
                        by_cases ce : xa = xb
                        · have ceb : (xa == xb) = true := beq_iff_eq.2 ce
                          go_wp2_with (first | (at_builtin; (with_reducible refine gate_builtin (b := .append) (xs := #[.tmp 152, .tmp 158]) rfl ?_); refine Kd.R_append k71 (w0 := wb) wb.heap.size rfl (.tmp 152) (.tmp 158) 25 71 (.agg #[(.int .i64 0), (.int .i64 0)]) 16 rfl Tryz.underlying25 info71 rfl (by decide) (by omega) u16 o (⟨(i1 : Int), (j : Int)⟩ : S71) [.int .i64 (i1 : Int), .int .i64 (j : Int)] (fun _ => True) (fun _ => False) rfl rfl (k71_mkM _ _ _ (⟨(i1 : Int), (j : Int)⟩ : S71)) (fun _ hk => hk.elim) (fun _ _ => trivial) HO6.out HW6.out (HW6.out.size) HL_.out ?_; intro v7 w7 ho hb hg hat; have HO7 := Aside0.mk ho; have HB7 := Aside0.mk hb; have HR7 := Aside0.mk (Kd.R_after HR6.out hg hat); clear ho hb hg hat) | fail)
                          have hp_ : walk_at (Vec.rowAt RW a b) a b a.length b.length = walk_at (Vec.rowAt RW a b) a b i1 j ++ (o ++ [(⟨(i1 : Int), (j : Int)⟩ : S71)]).reverse := by
                            rw [HPA.out, (HS2.out trivial).trans (if_pos (by rw [← EXA.out, ← EXB.out]; exact ce)), List.reverse_append, List.append_assoc]
                            rfl
                          refine ⟨⟨i1, j, o ++ [(⟨(i1 : Int), (j : Int)⟩ : S71)], by have := EI.out; omega, by have := EI.out; omega, rfl, rfl, by have := EJ.out; omega, by have := EI.out; rw [List.length_append, List.length_singleton]; omega, Aside0.mk hp_, HO7, HR7, HB7⟩, ?_⟩
                          simp [intOf]; have := EI.out; have := EJ.out; omega
                        · have ceb : (xa == xb) = false := beq_eq_false_iff_ne.2 ce
                          go_wp2
                          go_roundw
                          case rel => exact ⟨i1, jn, o, by have := EI.out; omega, by have := EI.out; omega, rfl, rfl, hjn, by have := EI.out; omega, Aside0.mk (HPA.out.trans (congrArg (· ++ o.reverse) ((HS2.out trivial).trans (if_neg (by rw [← EXA.out, ← EXB.out]; exact ce))))), HO6, HR6, HW6⟩
                          case measure => simp [intOf]; have := EI.out; omega
                      · go_wp2
                        go_roundw
                        case rel => exact ⟨i, j, o, hi, hin, rfl, rfl, by have := EJ.out; omega, hol, Aside0.mk (HPA.out.trans (congrArg (· ++ o.reverse) (HS1.out trivial))), HO5, HR5, HW5⟩
                        case measure => simp [intOf]; have := EJ.out; omega
                    · have hjz : jn = 0 := by omega
                      subst hjz
                      have x1 : decide ((i : Int) > (F : Int)) = true := decide_eq_true (Int.ofNat_lt.2 hic)
                      have x2 : decide ((0 : Int) > 0) = false := rfl
                      go_wp2_with fail
                      have hm2 : min (k * E) a.length ≤ i := by rw [← EF.out]; omega
                      refine ⟨⟨k, 0, o, by omega, rfl, rfl, Nat.zero_le _, by omega, Aside0.mk (by rw [HPA.out, walk_at_zj, walk_at_zj]), HO, HWL⟩, by simp [intOf]⟩
                  · have hif : i = F := by omega
                    subst hif
                    have x1 : decide ((i : Int) > (i : Int)) = false := decide_eq_false (by omega)
                    go_wp2_with fail
                    have hm2 : min (k * E) a.length = i := by rw [← EF.out]; omega
                    refine ⟨⟨k, jn, o, by omega, rfl, rfl, hjn, by rw [hm2]; exact hol, Aside0.mk (by rw [hm2]; exact HPA.out), HO, HWL⟩, by simp [intOf]⟩)
end
end
def walk_Run.f (k : Nat) (a0 : Int) (l1 : List Int) (l2 : List Int) (a3 : Int) : Option ((List (S71)) × Int × Int) := if (a0 = 0 ∨ a0 = 1) ∧ 1 ≤ a3 ∧ a3 ≤ 1000000 ∧ l1.length ≤ 1000000 ∧ l2.length ≤ 1000000 ∧ l1.all (fun x => (Lit.int .i64 x).wf) = true ∧ l2.all (fun x => (Lit.int .i64 x).wf) = true then (hyyro_Steps.f (l1.length : Int) (l2.length : Int)).bind fun q => some (walk_path (Go.Proofs.YtjkjanegankdhaaGreat.Vx.Vec.rowAt (if a0 = 1 then Go.Proofs.YtjkjanegankdhaaGreat.Vx.Vec.crRow else Go.Proofs.YtjkjanegankdhaaGreat.Vx.Vec.hyRow) l1 l2) l1 l2 (l1.length + l2.length) l1.length l2.length, wrap64 (2 * q), 0) else none
theorem walk_Run.mono : ∀ a0 a1 a2 a3 k, LeO (walk_Run.f k a0 a1 a2 a3) (walk_Run.f (k + 1) a0 a1 a2 a3) := fun _ _ _ _ _ _ h => h
theorem walk_Run.calls (k : Nat) (a0 : Int) (A1 : Option Addr) (c1 : Nat) (l1 : List Int) (A2 : Option Addr) (c2 : Nat) (l2 : List Int) (a3 : Int) (r1 : List (S71)) (r2 : Int) (r3 : Int) (w : World) (hr1 : Kd.C (Kd.int .i64) w A1 l1.length l1) (hc1 : l1.length ≤ c1) (hr2 : Kd.C (Kd.int .i64) w A2 l2.length l2) (hc2 : l2.length ≤ c2) (h : walk_Run.f k a0 l1 l2 a3 = some (r1, r2, r3)) :
    Calls Tryz.prog 34 #[.int .i64 a0, .slice A1 l1.length c1, .slice A2 l2.length c2, .int .i64 a3] w fun e w' => ∃ v0_ : Value, e = .returned (.tuple #[v0_, .int .i64 r2, .int .i64 r3]) ∧ Kd.R k71 71 w' w.heap.size (fun _ => True) v0_ r1 ∧ Below w.heap.size w w' := by
  unfold walk_Run.f at h
  by_cases c : (a0 = 0 ∨ a0 = 1) ∧ 1 ≤ a3 ∧ a3 ≤ 1000000 ∧ l1.length ≤ 1000000 ∧ l2.length ≤ 1000000 ∧ l1.all (fun x => (Lit.int .i64 x).wf) = true ∧ l2.all (fun x => (Lit.int .i64 x).wf) = true
  · rw [if_pos c] at h
    obtain ⟨q, hq, h2⟩ := Option.bind_eq_some_iff.1 h
    simp only [Option.some.injEq, Prod.mk.injEq] at h2
    obtain ⟨rfl, rfl, rfl⟩ := h2
    obtain ⟨q0, q1, q2, q3, q4, q5, q6⟩ := c
    exact walk_run a0 q0 A1 c1 l1 A2 c2 l2 a3 ⟨q1, q2⟩ q hq w hr1 hr2 hc2 q3 q4 (List.all_eq_true.mp q5) (List.all_eq_true.mp q6)
  · rw [if_neg c] at h
    exact absurd h (by simp)
end Go.Proofs.YtjkjanegankdhaaGreat.PTopWords
