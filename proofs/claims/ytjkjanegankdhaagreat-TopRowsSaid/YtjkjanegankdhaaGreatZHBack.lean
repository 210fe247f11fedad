/- slices.Backward over ints: the iterator's contract, at whatever keeps the slice's cells and the closure's box. -/
import Derived.RangeFuncBox
import Derived.RangeFuncFrom
import Derived.RangeFuncLeaves
import Derived.RangeFuncCalls
import Derived.Shelf.Abstract
import Derived.Shelf.RegionOpen
import Derived.RegionIn
import Derived.WalkKit
import Derived.OwnWalkIn
import Derived.TacticsInMore
import Derived.LoopNIn
import Derived.LoopIn
import Derived.Test.YtjkjanegankdhaaGreatProg
namespace Go.Proofs.YtjkjanegankdhaaGreat.Back
open Go.RowKit Go.Shelf
attribute [local go_sem] Oper.semAt_some
set_option linter.unusedVariables false
set_option linter.unusedSimpArgs false
/-- What has come when the places from m on are over, the last one first. -/
def came {α : Type} (f : Nat → α) (len m : Nat) : List α := (List.range (len - m)).map fun j => f (len - 1 - j)
theorem came_all {α : Type} (f : Nat → α) (len : Nat) : came f len len = [] := by simp [came]
theorem came_succ {α : Type} (f : Nat → α) (len m : Nat) (h : m < len) : came f len m = came f len (m + 1) ++ [f m] := by
  unfold came
  rw [show len - m = (len - (m + 1)) + 1 by omega, List.range_succ, List.map_append, List.map_singleton, show len - 1 - (len - (m + 1)) = m by omega]
theorem came_snd (zs : List Int) : (came (fun j => (j, zs[j]?.getD 0)) zs.length 0).map (·.2) = zs.reverse := by
  unfold came
  apply List.ext_getElem
  · simp
  · intro i h1 h2
    simp at h1
    simp [h1]
    rw [List.getElem?_eq_getElem (by omega)]
    rfl
theorem came_length {α : Type} (f : Nat → α) (len m : Nat) : (came f len m).length = len - m := by simp [came]
/-- What a round keeps: the blocks below n₀, and the closure's box. -/
def Keeps (n₀ Bs : Nat) (W W' : World) : Prop := (∀ i, i < n₀ → W'.heap[i]? = W.heap[i]?) ∧ W'.heap[Bs]? = W.heap[Bs]?
theorem Keeps.refl (n₀ Bs : Nat) (W : World) : Keeps n₀ Bs W W := ⟨fun _ _ => rfl, rfl⟩
theorem Keeps.trans {n₀ Bs : Nat} {A B C : World} (h : Keeps n₀ Bs A B) (k : Keeps n₀ Bs B C) : Keeps n₀ Bs A C := ⟨fun i hi => (k.1 i hi).trans (h.1 i hi), k.2.trans h.2⟩
theorem cell_same {W W' : World} {a : Addr} (h : W'.heap[a.block]? = W.heap[a.block]?) : W'.cell? a = W.cell? a := by simp [World.cell?, h]
theorem add_block_ (a : Addr) (i : Nat) : (a.add i).block = a.block := by unfold Addr.add; split <;> rfl
theorem Keeps.putObj {n₀ Bs B : Nat} (h1 : n₀ ≤ B) (h2 : Bs < B) (W : World) (l : Nat) (o' : Obj) (hl : B ≤ l) : Keeps n₀ Bs W (W.putObj l o') :=
  ⟨fun i hi => World.putObj_heap_other (by omega), World.putObj_heap_other (by omega)⟩
set_option maxRecDepth 100000 in
set_option maxHeartbeats 2000000 in
theorem back1_in (F : Fence) (n : Nat) (hf : F.fn 149) (hro : F.round = none) (hn : 1 ≤ n) (l Bs n₀ len cap : Nat) (ad : Addr) (zs : List Int) (hreach : len * 8 ≤ 140737488351232) (hb : ad.block < n₀) (J Jx : List (Nat × Int) → World → Prop)
    (hY : ∀ pre x W, J pre W → pre.length < len → YieldAt F (n - 1) Tryz.prog l #[.int .i64 (x.1 : Int), .int .i64 x.2] W fun e W' =>
      (e = .returned (.bool true) ∧ J (pre ++ [x]) W' ∧ Keeps n₀ Bs W W') ∨ (e = .returned (.bool false) ∧ Jx (pre ++ [x]) W'))
    (W : World) (hBs : W.cell? ⟨Bs, 0, none⟩ = some (.slice (some ad) len cap)) (hc : ∀ j, j < len → W.cell? (ad.add j) = some (.int .i64 (zs[j]?.getD 0))) (h0 : J [] W) :
    CallsIn F n Tryz.prog 149 #[.func (.yield l) #[] #[], .pointer (some ⟨Bs, 0, none⟩)] W fun e W' => (∃ v, e = .returned v) ∧
      ((∃ ys, ys = came (fun j => (j, zs[j]?.getD 0)) len 0 ∧ J ys W') ∨ (∃ pre, (∃ k, k ≤ len ∧ pre = came (fun j => (j, zs[j]?.getD 0)) len k) ∧ Jx pre W')) := by
  refine callsIn_of_wp Tryz.func149 rfl hf ?_ hro
  simp only [Tryz.ntmps149, List.size_toArray, List.length_cons, List.length_nil, Nat.reduceAdd, Nat.reduceSub, Array.replicate_succ, Array.replicate_zero, List.push_toArray, List.append_toArray, List.nil_append, List.cons_append]
  gi_wp2
  gi_loopw [3] (fun i wr => ∃ m : Nat, m ≤ len ∧ i = .int .i64 ((m : Int) - 1) ∧ J (came (fun j => (j, zs[j]?.getD 0)) len m) wr ∧ Keeps n₀ Bs W wr)
    (fun i _ => (intOf i + 1).toNat)
  case atStart => exact ⟨len, Nat.le_refl _, rfl, by rw [came_all]; exact h0, Keeps.refl _ _ _⟩
  case round =>
    obtain ⟨m, hm, rfl, hJs, hnx⟩ := hrel
    have hBs' := (cell_same (a := ⟨Bs, 0, none⟩) hnx.2).trans hBs
    cases m with
    | zero =>
      rw [show ((0 : Nat) : Int) - 1 = -1 from rfl]
      gi_wp2
      go_end0
      exact ⟨⟨_, rfl⟩, .inl ⟨_, rfl, hJs⟩⟩
    | succ m =>
      rw [show ((m + 1 : Nat) : Int) - 1 = (m : Int) by omega]
      have hcx := (cell_same (W := W) (W' := wr) (a := ad.add m) (by rw [add_block_]; exact hnx.1 _ hb)).trans (hc m (by omega))
      obtain ⟨fn, tmps, assign, body, hy, hR⟩ := hY _ (m, zs[m]?.getD 0) wr hJs (by rw [came_length]; omega)
      dsimp only at hy
      gi_wp2
      refine hR.mono ?_
      rintro e W3 (⟨rfl, hJ3, hk3⟩ | ⟨rfl, hJx3⟩)
      · gi_wp2
        go_roundw
        case rel => exact ⟨m, by omega, by simp, by rw [came_succ _ _ _ (by omega)]; exact hJ3, hnx.trans hk3⟩
        case measure => simp [intOf]
      · gi_wp2
        refine bodyPost_ret (results_none rfl _ _ _) rfl ?_
        exact ⟨⟨_, rfl⟩, .inr ⟨_, ⟨m, by omega, (came_succ _ _ _ (by omega)).symm⟩, hJx3⟩⟩
set_option maxRecDepth 100000 in
set_option maxHeartbeats 1000000 in
theorem back1_nil_in (F : Fence) (n : Nat) (hf : F.fn 149) (hro : F.round = none) (l Bs : Nat) (J : List (Nat × Int) → World → Prop) (A : Option Addr) (cap : Nat) (W : World) (hBs : W.cell? ⟨Bs, 0, none⟩ = some (.slice A 0 cap)) (h0 : J [] W) :
    CallsIn F n Tryz.prog 149 #[.func (.yield l) #[] #[], .pointer (some ⟨Bs, 0, none⟩)] W fun e W' => (∃ v, e = .returned v) ∧ J [] W' := by
  refine callsIn_of_wp Tryz.func149 rfl hf ?_ hro
  simp only [Tryz.ntmps149, List.size_toArray, List.length_cons, List.length_nil, Nat.reduceAdd, Nat.reduceSub, Array.replicate_succ, Array.replicate_zero, List.push_toArray, List.append_toArray, List.nil_append, List.cons_append]
  gi_wp2
  gi_loopw [3] (fun i wr => i = .int .i64 (-1) ∧ J [] wr) (fun _ _ => 0)
  case atStart => exact ⟨rfl, h0⟩
  case round =>
    obtain ⟨rfl, hJs⟩ := hrel
    gi_wp2
    go_end0
    exact ⟨⟨_, rfl⟩, hJs⟩
set_option maxHeartbeats 1000000 in
/-- The slice value is boxed; the function value captures the box. -/
theorem back_in (F : Fence) (n : Nat) (hf : F.fn 94) (hro : F.round = none) (a : Option Addr) (len cap : Nat) (w : World) :
    CallsIn F n Tryz.prog 94 #[.slice a len cap] w fun e w' => e = .returned (.func (.func 149) #[] #[.pointer (some ⟨w.heap.size, 0, none⟩)]) ∧ w' = w.alloc (.cells #[.slice a len cap] 22) := by
  refine callsIn_of_wp Tryz.func94 rfl hf ?_ hro
  simp only [Tryz.ntmps94, List.size_toArray, List.length_cons, List.length_nil, Nat.reduceAdd, Nat.reduceSub, Array.replicate_succ, Array.replicate_zero, List.push_toArray, List.append_toArray, List.nil_append, List.cons_append]
  gi_wp2
  go_ret
  exact ⟨rfl, rfl⟩
/-- The slice value's cells are the ints zs, in a block below n₀; or there are none. -/
def Ints (n₀ : Nat) (W : World) (A : Option Addr) (zs : List Int) : Prop :=
  zs = [] ∨ ∃ ad : Addr, A = some ad ∧ ad.block < n₀ ∧ ∀ j, j < zs.length → W.cell? (ad.add j) = some (.int .i64 (zs[j]?.getD 0))
theorem back_stops (F : Fence) (n : Nat) (hf : F.fn 149) (hro : F.round = none) (hn : 1 ≤ n) (Bs n₀ : Nat) (A : Option Addr) (cap : Nat) (zs : List Int) (hreach : zs.length * 8 ≤ 140737488351232) (w : World) (hBs : Bs < w.heap.size) (hn₀ : n₀ ≤ w.heap.size)
    (hc : w.cell? ⟨Bs, 0, none⟩ = some (.slice A zs.length cap)) (hI : Ints n₀ w A zs) :
    SeqStopsK F n Tryz.prog 149 #[.pointer (some ⟨Bs, 0, none⟩)] (fun x : Nat × Int => #[Value.int .i64 (x.1 : Int), Value.int .i64 x.2]) (Keeps n₀ Bs) (fun ys => ys = came (fun j => (j, zs[j]?.getD 0)) zs.length 0) (fun _ => True) zs.length w := fun l J Jx W hW _ _ hY h0 => by
  have hc' := (hW.cell (p := ⟨Bs, 0, none⟩) hBs).trans hc
  rcases hI with rfl | ⟨ad, rfl, hb, hcs⟩
  · exact (back1_nil_in F n hf hro l Bs J A cap W hc' h0).mono fun e W' ⟨he, hj⟩ => ⟨he, .inl ⟨_, rfl, hj⟩⟩
  · refine (back1_in F n hf hro hn l Bs n₀ zs.length cap ad zs hreach hb J Jx hY W hc' (fun j hj => (hW.cell (p := ad.add j) (by rw [add_block_]; omega)).trans (hcs j hj)) h0).mono ?_
    rintro e W' ⟨he, ⟨ys, rfl, hj⟩ | ⟨pre, ⟨k, hk, rfl⟩, hj⟩⟩
    · exact ⟨he, .inl ⟨_, rfl, hj⟩⟩
    · exact ⟨he, .inr ⟨_, trivial, hj⟩⟩
end Go.Proofs.YtjkjanegankdhaaGreat.Back
