/- The contracts of the functions of vec: what each of them makes, word by word; slices.Clone. -/
import Derived.Test.YtjkjanegankdhaaGreatProg
import Derived.Below
import Derived.Deep.Draws
import Derived.Deep.AppendLies
import Derived.Maps.AppendAt
import Derived.OwnWalk
import Derived.Laws.BytesArg
import Derived.Laws.MakeOwn
import Derived.Laws.OwnMore
import Derived.Deep.OwnRows
import Derived.Tactics
import Derived.Lib.ConvBytes
import Derived.Laws.Slices
import Derived.WalkKit
import Derived.KernelRfl
import Derived.RowKit3
import Derived.Deep.LoopGhost
import Derived.Deep.QuietTactic
import Derived.BigQuiet
import Derived.WideLaws
import Derived.Deep.DeepCutAuto
import Derived.Deep.CutBlock
import Derived.Deep.RegionHeld3
import Derived.Laws.Rows
import Derived.Lib.AppendStr
import Derived.ArgAppend
import Derived.Laws.IdiomCopy
import Derived.OrdersHeld
import Derived.Laws.BitsLemmas
import Derived.RowKit
import Derived.Test.YtjkjanegankdhaaGreatZWWords
import Derived.Test.YtjkjanegankdhaaGreatZWLast
import Derived.Test.YtjkjanegankdhaaGreatZWTab
import Derived.Test.YtjkjanegankdhaaGreatZWFour
import Derived.Test.YtjkjanegankdhaaGreatZWQPut
import Derived.Test.YtjkjanegankdhaaGreatZWApart
import Derived.Test.YtjkjanegankdhaaGreatZWArr
import Derived.Test.YtjkjanegankdhaaGreatZWZeros
import Derived.Test.YtjkjanegankdhaaGreatZWFoot
import Derived.Test.YtjkjanegankdhaaGreatZWKept
import Derived.Test.YtjkjanegankdhaaGreatZWShare
import Derived.Test.YtjkjanegankdhaaGreatZWN
import Derived.Test.YtjkjanegankdhaaGreatZWFootNe
import Derived.Test.YtjkjanegankdhaaGreatZWAt
import Derived.Test.YtjkjanegankdhaaGreatZWEqStruct
import Derived.Test.YtjkjanegankdhaaGreatZWRepsOne
import Derived.Test.YtjkjanegankdhaaGreatZWInv
import Derived.Test.YtjkjanegankdhaaGreatZWInvWords
import Derived.Test.YtjkjanegankdhaaGreatZWGuard
import Derived.Test.YtjkjanegankdhaaGreatZWNEv
import Derived.Test.YtjkjanegankdhaaGreatZWMore
import Derived.Laws.Externs
import Derived.Lib.SliceRun
namespace Go.Proofs.YtjkjanegankdhaaGreat.Vx
open Go.RowKit Go.Proofs.YtjkjanegankdhaaGreatW.PrintWords Go.Proofs.YtjkjanegankdhaaGreatW.PrintLast Go.Proofs.YtjkjanegankdhaaGreatW.PrintMore
attribute [local go_sem] max2_int min2_int max_two min_two max_three min_three max_four min_four
set_option linter.unusedVariables false
set_option linter.unusedSimpArgs false
/-! vec: a word of a list, the words of a width, the bits of a word below a width -/
def Vec.ok (x : Int) : Bool := decide (0 ≤ x ∧ x < 18446744073709551616)
def Vec.words (n : Nat) : Nat := (n + 63) / 64
def Vec.mask (n k : Nat) : Nat := if 64 ≤ n - 64 * k then 18446744073709551615 else 2 ^ (n - 64 * k) - 1
theorem Vec.wu {x : Int} (h0 : 0 ≤ x) (h1 : x < 18446744073709551616) : IntKind.u64.wrap x = x := by
  simp [IntKind.wrap, IntKind.signed, IntKind.bits]; omega
theorem Vec.pow_lt {e : Nat} (h : e < 64) : (2 : Int) ^ e < 18446744073709551616 ∧ (1 : Int) ≤ (2 : Int) ^ e := by
  have h1 : (2 : Nat) ^ e < 2 ^ 64 := Nat.pow_lt_pow_right (by decide) h
  have h2 : 0 < (2 : Nat) ^ e := Nat.pow_pos (by decide)
  have e1 : (2 : Int) ^ e = ((2 ^ e : Nat) : Int) := by simp
  rw [e1]
  generalize (2 : Nat) ^ e = y at *
  omega
set_option maxRecDepth 100000 in
set_option maxHeartbeats 4000000 in
theorem Vec.at_any (A : Option Addr) (c : Nat) (l : List Int) (n k : Nat) (w : World) (hn : l.length = n) (hr : Kd.C (Kd.int .u64) w A n l) : Calls Tryz.prog 167 #[.slice A n c, .int .i64 (k : Int)] w fun e w' => e = .returned (.int .u64 (rd l (k : Int))) ∧ w = w' := by
  by_cases hk : k < n
  · obtain ⟨ad, rfl, hx⟩ := Kd.at_int hr (k : Int) (by omega) (by omega)
    rw [Int.toNat_natCast] at hx
    obtain ⟨x, ex⟩ : ∃ x, x = rd l (k : Int) := ⟨_, rfl⟩
    rw [← ex] at hx ⊢
    clear ex hr hn
    go_enter Tryz.func167, Tryz.ntmps167
    go_wp2
    go_ret
    exact ⟨rfl, rfl⟩
  · have e : rd l (k : Int) = 0 := by unfold rd; rw [Int.toNat_natCast, List.getD_eq_getElem?_getD, List.getElem?_eq_none (by omega)]; rfl
    rw [e]
    clear hr e hn
    go_enter Tryz.func167, Tryz.ntmps167
    go_wp2
    go_ret
    exact ⟨rfl, rfl⟩
set_option maxRecDepth 100000 in
set_option maxHeartbeats 4000000 in
theorem Vec.width_any (n : Nat) (hn : n ≤ 1048576) (w : World) : Calls Tryz.prog 138 #[.int .i64 (n : Int)] w fun e w' => e = .returned (.int .i64 (n : Int)) ∧ w = w' := by
  go_enter Tryz.func138, Tryz.ntmps138
  go_wp2
  go_ret
  exact ⟨rfl, rfl⟩
set_option maxRecDepth 100000 in
set_option maxHeartbeats 4000000 in
theorem Vec.words_any (n : Nat) (hn : n ≤ 1048576) (w : World) : Calls Tryz.prog 80 #[.int .i64 (n : Int)] w fun e w' => e = .returned (.int .i64 (Vec.words n : Int)) ∧ w = w' := by
  go_enter Tryz.func80, Tryz.ntmps80
  go_wp2_with (first | (go_at_call 138; (with_reducible refine (Vec.width_any n hn w).mono ?_); rintro e w' ⟨rfl, rfl⟩))
  go_ret
  exact ⟨by rw [show (Vec.words n : Int) = ((n : Int) + 64 - 1) / 64 from by unfold Vec.words; omega]; rfl, rfl⟩
set_option maxRecDepth 100000 in
set_option maxHeartbeats 4000000 in
theorem Vec.mask_any (n k : Nat) (hn : n ≤ 1048576) (hk : 64 * k ≤ n) (w : World) : Calls Tryz.prog 168 #[.int .i64 (n : Int), .int .i64 (k : Int)] w fun e w' => e = .returned (.int .u64 (Vec.mask n k : Int)) ∧ w = w' := by
  by_cases h : 64 ≤ n - 64 * k
  · have h' : (64 : Int) ≤ (n : Int) - 64 * (k : Int) := by omega
    rw [Vec.mask, if_pos h]
    go_enter Tryz.func168, Tryz.ntmps168
    go_wp2_with (first | (go_at_call 138; (with_reducible refine (Vec.width_any n hn w).mono ?_); rintro e w' ⟨rfl, rfl⟩))
    go_ret
    exact ⟨rfl, rfl⟩
  · have h' : ¬ (64 : Int) ≤ (n : Int) - 64 * (k : Int) := by omega
    have h0 : (0 : Int) ≤ (n : Int) - 64 * (k : Int) := by omega
    rw [Vec.mask, if_neg h]
    have hp := Vec.pow_lt (e := n - 64 * k) (by omega)
    have w1 := Vec.wu (x := (2 : Int) ^ (n - 64 * k)) (by omega) hp.1
    have w2 := Vec.wu (x := (2 : Int) ^ (n - 64 * k) - 1) (by omega) (by omega)
    have e1 : ((2 ^ (n - 64 * k) - 1 : Nat) : Int) = (2 : Int) ^ (n - 64 * k) - 1 := by
      have h2 : 0 < (2 : Nat) ^ (n - 64 * k) := Nat.pow_pos (by decide)
      rw [Int.natCast_sub h2]; simp
    rw [e1]
    clear hp e1
    go_enter Tryz.func168, Tryz.ntmps168
    go_wp2_with (first | (go_at_call 138; (with_reducible refine (Vec.width_any n hn w).mono ?_); rintro e w' ⟨rfl, rfl⟩))
    go_ret
    exact ⟨rfl, rfl⟩
theorem Vec.inf104 : (Tryz.prog.info? 104).map (fun i => (i.zero, i.size, i.bytes)) = some (some (.int .u64 0), 1, 8) := by kernel_rfl
/-- A list that is filled from the front. -/
def Vec.part (f : Nat → Int) (n k : Nat) : List Int := (List.range n).map fun j => if j < k then f j else 0
theorem Vec.part_zero (f : Nat → Int) (n : Nat) : List.replicate n 0 = Vec.part f n 0 := by
  unfold Vec.part
  refine List.ext_getElem (by simp) fun i h1 h2 => ?_
  simp
theorem Vec.part_all (f : Nat → Int) (n : Nat) : Vec.part f n n = (List.range n).map f := by
  unfold Vec.part
  refine List.ext_getElem (by simp) fun i h1 h2 => ?_
  simp at h1
  simp [h1]
theorem Vec.part_len (f : Nat → Int) (n k : Nat) : (Vec.part f n k).length = n := by simp [Vec.part]
theorem Vec.part_set (f : Nat → Int) {n k : Nat} (h : k < n) : (Vec.part f n k).set k (f k) = Vec.part f n (k + 1) := by
  unfold Vec.part
  refine List.ext_getElem (by simp) fun i h1 h2 => ?_
  simp at h1
  rw [List.getElem_set]
  by_cases e : k = i
  · subst e; simp
  · rw [if_neg e]
    simp only [List.getElem_map, List.getElem_range]
    by_cases c : i < k
    · rw [if_pos c, if_pos (by omega)]
    · rw [if_neg c, if_neg (by omega)]
theorem Vec.ok_rd {l : List Int} (h : l.all Vec.ok = true) (k : Nat) : 0 ≤ rd l (k : Int) ∧ rd l (k : Int) < 18446744073709551616 := by
  by_cases hk : k < l.length
  · have h1 := List.all_eq_true.1 h (l[k]) (List.getElem_mem hk)
    have e : rd l (k : Int) = l[k] := by unfold rd; rw [Int.toNat_natCast, List.getD_eq_getElem?_getD, List.getElem?_eq_getElem hk]; rfl
    rw [e]; simpa [Vec.ok] using h1
  · have e : rd l (k : Int) = 0 := by unfold rd; rw [Int.toNat_natCast, List.getD_eq_getElem?_getD, List.getElem?_eq_none (by omega)]; rfl
    rw [e]; omega
theorem Vec.mask_lt (n k : Nat) : Vec.mask n k < 18446744073709551616 := by
  unfold Vec.mask
  split
  · decide
  · have : (2 : Nat) ^ (n - 64 * k) ≤ 2 ^ 64 := Nat.pow_le_pow_right (by decide) (by omega)
    omega
def Vec.w (l : List Int) (k : Nat) : Nat := (rd l (k : Int)).toNat
theorem Vec.w_rd {l : List Int} (h : l.all Vec.ok = true) (k : Nat) : rd l (k : Int) = (Vec.w l k : Int) := by
  have := Vec.ok_rd h k
  unfold Vec.w; omega
theorem Vec.w_lt {l : List Int} (h : l.all Vec.ok = true) (k : Nat) : Vec.w l k < 18446744073709551616 := by
  have := Vec.ok_rd h k
  unfold Vec.w; omega
theorem Vec.xor_max {a : Nat} (h : a < 18446744073709551616) : Go.bits .xor .u64 (if IntKind.u64.signed = true then -1 else IntKind.u64.max) (a : Int) = ((18446744073709551615 - a : Nat) : Int) := by
  have hm : (if IntKind.u64.signed = true then (-1 : Int) else IntKind.u64.max) = ((18446744073709551615 : Nat) : Int) := by decide
  have e : (BitVec.ofNat 64 18446744073709551615 ^^^ BitVec.ofNat 64 a).toNat = 18446744073709551615 - a := by
    have h1 : (BitVec.ofNat 64 18446744073709551615 : BitVec 64) = BitVec.allOnes 64 := rfl
    rw [h1, BitVec.allOnes_xor, BitVec.toNat_not, BitVec.toNat_ofNat, Nat.mod_eq_of_lt h]
  rw [hm]
  have e2 : Go.bits .xor .u64 ((18446744073709551615 : Nat) : Int) (a : Int) = IntKind.u64.wrap (((BitVec.ofInt 64 ((18446744073709551615 : Nat) : Int) ^^^ BitVec.ofInt 64 (a : Int)).toNat : Nat) : Int) := rfl
  rw [e2, BitVec.ofInt_natCast, BitVec.ofInt_natCast, e]
  exact Vec.wu (by omega) (by omega)
/-- The carries of a sum, word by word. -/
def Vec.cw (x y : Nat → Nat) : Nat → Nat
  | 0 => 0
  | k + 1 => (x k + y k + Vec.cw x y k) / 18446744073709551616
def Vec.addW (x y : Nat → Nat) (k : Nat) : Nat := (x k + y k + Vec.cw x y k) % 18446744073709551616
theorem Vec.cw_le {x y : Nat → Nat} (hx : ∀ k, x k < 18446744073709551616) (hy : ∀ k, y k < 18446744073709551616) : ∀ k, Vec.cw x y k ≤ 1
  | 0 => by simp [Vec.cw]
  | k + 1 => by
    have := Vec.cw_le hx hy k
    have := hx k
    have := hy k
    show (x k + y k + Vec.cw x y k) / 18446744073709551616 ≤ 1
    omega
/-- What is lent in a difference, word by word. -/
def Vec.bw (x y : Nat → Nat) : Nat → Nat
  | 0 => 0
  | k + 1 => if x k < y k + Vec.bw x y k then 1 else 0
def Vec.subW (x y : Nat → Nat) (k : Nat) : Nat := (x k + 18446744073709551616 - y k - Vec.bw x y k) % 18446744073709551616
theorem Vec.bw_le {x y : Nat → Nat} (hx : ∀ k, x k < 18446744073709551616) (hy : ∀ k, y k < 18446744073709551616) : ∀ k, Vec.bw x y k ≤ 1
  | 0 => by simp [Vec.bw]
  | k + 1 => by
    show (if x k < y k + Vec.bw x y k then 1 else 0) ≤ 1
    split <;> omega
theorem Vec.add64 (x y c : Nat) (hx : x < 18446744073709551616) (hy : y < 18446744073709551616) (hc : c ≤ 1) (w : World) :
    (callFunc 169 #[.int .u64 (x : Int), .int .u64 (y : Int), .int .u64 (c : Int)]).run Tryz.prog w = .ok (.value (.tuple #[.int .u64 (((x + y + c) % 18446744073709551616 : Nat) : Int), .int .u64 (((x + y + c) / 18446744073709551616 : Nat) : Int)])) w := by
  rw [run_callFunc_extern Tryz.func169 (by kernel_rfl) (by kernel_rfl) (by kernel_rfl) (e := Go.add64Entry) (by kernel_rfl)]
  have h : c = 0 ∨ c = 1 := by omega
  rcases h with rfl | rfl <;> rfl
def Vec.subEntry : Array Value → Sem Value := fun args => do
  let (x, y, b) ← Extern.MathBitsCarry.three "Sub64" args
  pure (Extern.MathBitsCarry.pair ((x + Extern.MathBitsCarry.m64 - y - b) % Extern.MathBitsCarry.m64) (if x < y + b then 1 else 0))
theorem Vec.sub64 (x y c : Nat) (hx : x < 18446744073709551616) (hy : y < 18446744073709551616) (hc : c ≤ 1) (w : World) :
    (callFunc 170 #[.int .u64 (x : Int), .int .u64 (y : Int), .int .u64 (c : Int)]).run Tryz.prog w = .ok (.value (.tuple #[.int .u64 (((x + 18446744073709551616 - y - c) % 18446744073709551616 : Nat) : Int), .int .u64 ((if x < y + c then 1 else 0 : Nat) : Int)])) w := by
  rw [run_callFunc_extern Tryz.func170 (by kernel_rfl) (by kernel_rfl) (by kernel_rfl) (e := Vec.subEntry) (by kernel_rfl)]
  have h : c = 0 ∨ c = 1 := by omega
  rcases h with rfl | rfl <;> rfl
set_option maxRecDepth 100000 in
set_option maxHeartbeats 4000000 in
/-- vec.Fit -/
theorem Vec.fit_calls (A : Option Addr) (c : Nat) (l : List Int) (n : Nat) (w : World) (hr : Kd.C (Kd.int .u64) w A l.length l) (hn : n ≤ 1000000) (hw : l.all Vec.ok = true) :
    Calls Tryz.prog 131 #[.slice A l.length c, .int .i64 (n : Int)] w fun e w' => ∃ v, e = .returned v ∧ Kd.R (Kd.int .u64) 104 w' w.heap.size (fun _ => True) v ((List.range (Vec.words n)).map fun k => ((Vec.w l k &&& Vec.mask n k : Nat) : Int)) ∧ Below w.heap.size w w' := by
  have HR := Aside0.mk hr
  have HW := Aside0.mk hw
  obtain ⟨N, hN⟩ : ∃ N, N = Vec.words n := ⟨_, rfl⟩
  have hN2 : N ≤ 20000 := by unfold Vec.words at hN; omega
  have HN := Aside0.mk hN
  rw [← hN]
  generalize hf : (fun k => ((Vec.w l k &&& Vec.mask n k : Nat) : Int)) = f
  have HF := Aside0.mk hf
  clear hr hw hN hf
  go_enter Tryz.func131, Tryz.ntmps131
  go_wp2_with (first | (go_at_call 80; (with_reducible refine (Vec.words_any n (by omega) w).mono ?_); rintro e w2 ⟨rfl, rfl⟩; rw [← HN.out]) | ((with_reducible refine gate_dst (N := 9) rfl ?_); refine Kd.R_make (Kd.int .u64) _ 104 rfl (N := 9) rfl 62 _ _ rfl (N : Int) rfl rfl Tryz.underlying62 (.int .u64 0) 8 Vec.inf104 rfl (by decide) (by omega) 0 (ok := fun _ => True) (okp := fun _ => True) rfl (fun _ hk => hk) trivial (by omega) (by omega) (Below.refl _ _) (Nat.le_refl _) ?_; intro v w1 ho hb hg_ hnew_; clear hg_ hnew_; rw [Int.toNat_natCast, Vec.part_zero f] at ho; obtain ⟨Ao, co, rfl⟩ := Kd.R_slice ho; rw [Vec.part_len] at ho ⊢; have HO := Aside0.mk ho; have HB := Aside0.mk hb; clear ho hb))
  go_loopw [12] (fun i wr => ∃ k : Nat, k ≤ N ∧ i = .int .i64 k ∧ Aside0 (Kd.R (Kd.int .u64) 104 wr w.heap.size (fun _ => True) (.slice Ao N co) (Vec.part f N k)) ∧ Aside0 (Below w.heap.size w wr)) (fun i _ => N - (intOf i).toNat)
  case atStart => exact ⟨0, Nat.zero_le _, rfl, HO, HB⟩
  case round =>
    clear HO HB
    obtain ⟨k, hk, rfl, HO, HB⟩ := hrel
    by_cases hlt : k < N
    · obtain ⟨g, cap, e, hg, -⟩ := Kd.R_form HO.out (by rw [Vec.part_len]; omega)
      injection e with e1 e3 e2
      clear e3
      subst e1 e2
      have HG := Aside0.mk hg
      obtain ⟨hc, hf⟩ := Kd.R_celln 0 HO.out (k : Int) (by omega) (by omega)
      rw [Int.toNat_natCast] at hc hf
      obtain ⟨x, ex⟩ : ∃ x, x = rdOf 0 (Vec.part f N k) (k : Int) := ⟨_, rfl⟩
      rw [← ex] at hc
      clear ex hg
      have h64 : 64 * k ≤ n := by have := HN.out; unfold Vec.words at this; omega
      have ew := Vec.w_rd HW.out k
      have ef : Go.bits .and .u64 ((Vec.w l k : Nat) : Int) ((Vec.mask n k : Nat) : Int) = f k := by rw [(bits_nat .u64 64 (by decide) (fun n h0 h1 => Vec.wu h0 h1) _ _ (Vec.w_lt HW.out k) (Vec.mask_lt n k)).1, ← HF.out]
      obtain ⟨y, ey⟩ : ∃ x_ : Int, x_ = rd l (k : Int) := ⟨_, rfl⟩
      obtain ⟨mk, em⟩ : ∃ x_ : Int, x_ = (Vec.mask n k : Int) := ⟨_, rfl⟩
      rw [← ew, ← ey, ← em] at ef
      have EF := Aside0.mk ef
      have EY := Aside0.mk ey
      have EM := Aside0.mk em
      have H64 := Aside0.mk h64
      clear ew ef ey em h64
      go_wp2_with (first | (go_at_call 167; (with_reducible refine (Vec.at_any A c l l.length k wr rfl (Kd.C_below HR.out HB.out)).mono ?_); rintro e w2 ⟨rfl, rfl⟩; rw [← EY.out]) | (go_at_call 168; (with_reducible refine (Vec.mask_any n k (by omega) H64.out wr).mono ?_); rintro e w2 ⟨rfl, rfl⟩; rw [← EM.out]))
      rw [EF.out]
      clear EF EY EM H64
      obtain ⟨hp, hgr⟩ := Kd.R_putg HO.out (k : Int) (f k)
      rw [Int.toNat_natCast, Vec.part_set f hlt] at hp
      have HP := Aside0.mk hp
      have HB2 := Aside0.mk (below_set HB.out HG.out (j := k) (v := .int .u64 (f k)))
      clear hp hgr hc hf HO HB HG
      go_roundw
      case rel => exact ⟨k + 1, by omega, by go_num, HP, HB2⟩
      case measure => simp [intOf]; omega
    · have ek : k = N := by omega
      subst ek
      have HO2 := HO.out
      rw [Vec.part_all] at HO2
      clear hk hlt HO
      go_wp2
      go_ret
      exact ⟨_, rfl, HO2, HB.out⟩
set_option maxRecDepth 100000 in
set_option maxHeartbeats 4000000 in
/-- vec.Not -/
theorem Vec.not_calls (A : Option Addr) (c : Nat) (l : List Int) (n : Nat) (w : World) (hr : Kd.C (Kd.int .u64) w A l.length l) (hn : n ≤ 1000000) (hw : l.all Vec.ok = true) :
    Calls Tryz.prog 130 #[.slice A l.length c, .int .i64 (n : Int)] w fun e w' => ∃ v, e = .returned v ∧ Kd.R (Kd.int .u64) 104 w' w.heap.size (fun _ => True) v ((List.range (Vec.words n)).map fun k => ((18446744073709551615 - Vec.w l k &&& Vec.mask n k : Nat) : Int)) ∧ Below w.heap.size w w' := by
  have HR := Aside0.mk hr
  have HW := Aside0.mk hw
  obtain ⟨N, hN⟩ : ∃ N, N = Vec.words n := ⟨_, rfl⟩
  have hN2 : N ≤ 20000 := by unfold Vec.words at hN; omega
  have HN := Aside0.mk hN
  rw [← hN]
  generalize hf : (fun k => ((18446744073709551615 - Vec.w l k &&& Vec.mask n k : Nat) : Int)) = f
  have HF := Aside0.mk hf
  clear hr hw hN hf
  go_enter Tryz.func130, Tryz.ntmps130
  go_wp2_with (first | (go_at_call 80; (with_reducible refine (Vec.words_any n (by omega) w).mono ?_); rintro e w2 ⟨rfl, rfl⟩; rw [← HN.out]) | ((with_reducible refine gate_dst (N := 9) rfl ?_); refine Kd.R_make (Kd.int .u64) _ 104 rfl (N := 9) rfl 62 _ _ rfl (N : Int) rfl rfl Tryz.underlying62 (.int .u64 0) 8 Vec.inf104 rfl (by decide) (by omega) 0 (ok := fun _ => True) (okp := fun _ => True) rfl (fun _ hk => hk) trivial (by omega) (by omega) (Below.refl _ _) (Nat.le_refl _) ?_; intro v w1 ho hb hg_ hnew_; clear hg_ hnew_; rw [Int.toNat_natCast, Vec.part_zero f] at ho; obtain ⟨Ao, co, rfl⟩ := Kd.R_slice ho; rw [Vec.part_len] at ho ⊢; have HO := Aside0.mk ho; have HB := Aside0.mk hb; clear ho hb))
  go_loopw [12] (fun i wr => ∃ k : Nat, k ≤ N ∧ i = .int .i64 k ∧ Aside0 (Kd.R (Kd.int .u64) 104 wr w.heap.size (fun _ => True) (.slice Ao N co) (Vec.part f N k)) ∧ Aside0 (Below w.heap.size w wr)) (fun i _ => N - (intOf i).toNat)
  case atStart => exact ⟨0, Nat.zero_le _, rfl, HO, HB⟩
  case round =>
    clear HO HB
    obtain ⟨k, hk, rfl, HO, HB⟩ := hrel
    by_cases hlt : k < N
    · obtain ⟨g, cap, e, hg, -⟩ := Kd.R_form HO.out (by rw [Vec.part_len]; omega)
      injection e with e1 e3 e2
      clear e3
      subst e1 e2
      have HG := Aside0.mk hg
      obtain ⟨hc, hf⟩ := Kd.R_celln 0 HO.out (k : Int) (by omega) (by omega)
      rw [Int.toNat_natCast] at hc hf
      obtain ⟨x, ex⟩ : ∃ x, x = rdOf 0 (Vec.part f N k) (k : Int) := ⟨_, rfl⟩
      rw [← ex] at hc
      clear ex hg
      have h64 : 64 * k ≤ n := by have := HN.out; unfold Vec.words at this; omega
      have ew := Vec.w_rd HW.out k
      have ef : Go.bits .and .u64 (Go.bits .xor .u64 (if IntKind.u64.signed = true then -1 else IntKind.u64.max) ((Vec.w l k : Nat) : Int)) ((Vec.mask n k : Nat) : Int) = f k := by rw [Vec.xor_max (Vec.w_lt HW.out k), (bits_nat .u64 64 (by decide) (fun n h0 h1 => Vec.wu h0 h1) _ _ (show 18446744073709551615 - Vec.w l k < 2 ^ 64 by omega) (Vec.mask_lt n k)).1, ← HF.out]
      obtain ⟨y, ey⟩ : ∃ x_ : Int, x_ = rd l (k : Int) := ⟨_, rfl⟩
      obtain ⟨mk, em⟩ : ∃ x_ : Int, x_ = (Vec.mask n k : Int) := ⟨_, rfl⟩
      rw [← ew, ← ey, ← em] at ef
      have EF := Aside0.mk ef
      have EY := Aside0.mk ey
      have EM := Aside0.mk em
      have H64 := Aside0.mk h64
      clear ew ef ey em h64
      go_wp2_with (first | (go_at_call 167; (with_reducible refine (Vec.at_any A c l l.length k wr rfl (Kd.C_below HR.out HB.out)).mono ?_); rintro e w2 ⟨rfl, rfl⟩; rw [← EY.out]) | (go_at_call 168; (with_reducible refine (Vec.mask_any n k (by omega) H64.out wr).mono ?_); rintro e w2 ⟨rfl, rfl⟩; rw [← EM.out]))
      rw [EF.out]
      clear EF EY EM H64
      obtain ⟨hp, hgr⟩ := Kd.R_putg HO.out (k : Int) (f k)
      rw [Int.toNat_natCast, Vec.part_set f hlt] at hp
      have HP := Aside0.mk hp
      have HB2 := Aside0.mk (below_set HB.out HG.out (j := k) (v := .int .u64 (f k)))
      clear hp hgr hc hf HO HB HG
      go_roundw
      case rel => exact ⟨k + 1, by omega, by go_num, HP, HB2⟩
      case measure => simp [intOf]; omega
    · have ek : k = N := by omega
      subst ek
      have HO2 := HO.out
      rw [Vec.part_all] at HO2
      clear hk hlt HO
      go_wp2
      go_ret
      exact ⟨_, rfl, HO2, HB.out⟩
set_option maxRecDepth 100000 in
set_option maxHeartbeats 4000000 in
/-- vec.And -/
theorem Vec.and_calls (A : Option Addr) (c : Nat) (l : List Int) (B : Option Addr) (d : Nat) (m : List Int) (w : World) (hr : Kd.C (Kd.int .u64) w A l.length l) (hs : Kd.C (Kd.int .u64) w B m.length m) (hm : m.length = l.length) (hn : l.length ≤ 20000) (hw : l.all Vec.ok = true) (hv : m.all Vec.ok = true) :
    Calls Tryz.prog 132 #[.slice A l.length c, .slice B m.length d] w fun e w' => ∃ v, e = .returned v ∧ Kd.R (Kd.int .u64) 104 w' w.heap.size (fun _ => True) v ((List.range l.length).map fun k => ((Vec.w l k &&& Vec.w m k : Nat) : Int)) ∧ Below w.heap.size w w' := by
  rw [hm] at hs ⊢
  have HM := Aside0.mk hm
  have HV := Aside0.mk hv
  have HS := Aside0.mk hs
  clear hv hs hm
  have HR := Aside0.mk hr
  have HW := Aside0.mk hw
  obtain ⟨N, hN⟩ : ∃ N, N = l.length := ⟨_, rfl⟩
  have hN2 : N ≤ 20000 := by omega
  have HN := Aside0.mk hN
  rw [← hN] at HR HS HM ⊢
  generalize hf : (fun k => ((Vec.w l k &&& Vec.w m k : Nat) : Int)) = f
  have HF := Aside0.mk hf
  clear hr hw hN hf hn
  go_enter Tryz.func132, Tryz.ntmps132
  go_wp2_with (first | ((with_reducible refine gate_dst (N := 12) rfl ?_); refine Kd.R_make (Kd.int .u64) _ 104 rfl (N := 12) rfl 62 _ _ rfl (N : Int) rfl rfl Tryz.underlying62 (.int .u64 0) 8 Vec.inf104 rfl (by decide) (by omega) 0 (ok := fun _ => True) (okp := fun _ => True) rfl (fun _ hk => hk) trivial (by omega) (by omega) (Below.refl _ _) (Nat.le_refl _) ?_; intro v w1 ho hb hg_ hnew_; clear hg_ hnew_; rw [Int.toNat_natCast, Vec.part_zero f] at ho; obtain ⟨Ao, co, rfl⟩ := Kd.R_slice ho; rw [Vec.part_len] at ho ⊢; have HO := Aside0.mk ho; have HB := Aside0.mk hb; clear ho hb))
  go_loopw [15] (fun i wr => ∃ k : Nat, k ≤ N ∧ i = .int .i64 k ∧ Aside0 (Kd.R (Kd.int .u64) 104 wr w.heap.size (fun _ => True) (.slice Ao N co) (Vec.part f N k)) ∧ Aside0 (Below w.heap.size w wr)) (fun i _ => N - (intOf i).toNat)
  case atStart => exact ⟨0, Nat.zero_le _, rfl, HO, HB⟩
  case round =>
    clear HO HB
    obtain ⟨k, hk, rfl, HO, HB⟩ := hrel
    by_cases hlt : k < N
    · obtain ⟨g, cap, e, hg, -⟩ := Kd.R_form HO.out (by rw [Vec.part_len]; omega)
      injection e with e1 e3 e2
      clear e3
      subst e1 e2
      have HG := Aside0.mk hg
      obtain ⟨hc, hf⟩ := Kd.R_celln 0 HO.out (k : Int) (by omega) (by omega)
      rw [Int.toNat_natCast] at hc hf
      obtain ⟨x, ex⟩ : ∃ x, x = rdOf 0 (Vec.part f N k) (k : Int) := ⟨_, rfl⟩
      rw [← ex] at hc
      clear ex hg
      have ew := Vec.w_rd HW.out k
      have ev := Vec.w_rd HV.out k
      have ef : Go.bits .and .u64 ((Vec.w l k : Nat) : Int) ((Vec.w m k : Nat) : Int) = f k := by rw [(bits_nat .u64 64 (by decide) (fun n h0 h1 => Vec.wu h0 h1) _ _ (Vec.w_lt HW.out k) (Vec.w_lt HV.out k)).1, ← HF.out]
      obtain ⟨y, ey⟩ : ∃ x_ : Int, x_ = rd l (k : Int) := ⟨_, rfl⟩
      obtain ⟨z, ez⟩ : ∃ x_ : Int, x_ = rd m (k : Int) := ⟨_, rfl⟩
      rw [← ew, ← ev, ← ey, ← ez] at ef
      have EF := Aside0.mk ef
      have EY := Aside0.mk ey
      have EZ := Aside0.mk ez
      clear ew ev ef ey ez
      go_wp2_with fail
      (with_reducible refine (Vec.at_any A c l N k wr HN.out.symm (Kd.C_below HR.out HB.out)).mono ?_)
      rintro e w2 ⟨rfl, rfl⟩
      rw [← EY.out]
      go_wp2_with fail
      (with_reducible refine (Vec.at_any B d m N k wr HM.out (Kd.C_below HS.out HB.out)).mono ?_)
      rintro e w2 ⟨rfl, rfl⟩
      rw [← EZ.out]
      go_wp2
      rw [EF.out]
      clear EF EY EZ
      obtain ⟨hp, hgr⟩ := Kd.R_putg HO.out (k : Int) (f k)
      rw [Int.toNat_natCast, Vec.part_set f hlt] at hp
      have HP := Aside0.mk hp
      have HB2 := Aside0.mk (below_set HB.out HG.out (j := k) (v := .int .u64 (f k)))
      clear hp hgr hc hf HO HB HG
      go_roundw
      case rel => exact ⟨k + 1, by omega, by go_num, HP, HB2⟩
      case measure => simp [intOf]; omega
    · have ek : k = N := by omega
      subst ek
      have HO2 := HO.out
      rw [Vec.part_all] at HO2
      clear hk hlt HO
      go_wp2
      go_ret
      exact ⟨_, rfl, HO2, HB.out⟩
set_option maxRecDepth 100000 in
set_option maxHeartbeats 4000000 in
/-- vec.Or -/
theorem Vec.or_calls (A : Option Addr) (c : Nat) (l : List Int) (B : Option Addr) (d : Nat) (m : List Int) (w : World) (hr : Kd.C (Kd.int .u64) w A l.length l) (hs : Kd.C (Kd.int .u64) w B m.length m) (hm : m.length = l.length) (hn : l.length ≤ 20000) (hw : l.all Vec.ok = true) (hv : m.all Vec.ok = true) :
    Calls Tryz.prog 133 #[.slice A l.length c, .slice B m.length d] w fun e w' => ∃ v, e = .returned v ∧ Kd.R (Kd.int .u64) 104 w' w.heap.size (fun _ => True) v ((List.range l.length).map fun k => ((Vec.w l k ||| Vec.w m k : Nat) : Int)) ∧ Below w.heap.size w w' := by
  rw [hm] at hs ⊢
  have HM := Aside0.mk hm
  have HV := Aside0.mk hv
  have HS := Aside0.mk hs
  clear hv hs hm
  have HR := Aside0.mk hr
  have HW := Aside0.mk hw
  obtain ⟨N, hN⟩ : ∃ N, N = l.length := ⟨_, rfl⟩
  have hN2 : N ≤ 20000 := by omega
  have HN := Aside0.mk hN
  rw [← hN] at HR HS HM ⊢
  generalize hf : (fun k => ((Vec.w l k ||| Vec.w m k : Nat) : Int)) = f
  have HF := Aside0.mk hf
  clear hr hw hN hf hn
  go_enter Tryz.func133, Tryz.ntmps133
  go_wp2_with (first | ((with_reducible refine gate_dst (N := 12) rfl ?_); refine Kd.R_make (Kd.int .u64) _ 104 rfl (N := 12) rfl 62 _ _ rfl (N : Int) rfl rfl Tryz.underlying62 (.int .u64 0) 8 Vec.inf104 rfl (by decide) (by omega) 0 (ok := fun _ => True) (okp := fun _ => True) rfl (fun _ hk => hk) trivial (by omega) (by omega) (Below.refl _ _) (Nat.le_refl _) ?_; intro v w1 ho hb hg_ hnew_; clear hg_ hnew_; rw [Int.toNat_natCast, Vec.part_zero f] at ho; obtain ⟨Ao, co, rfl⟩ := Kd.R_slice ho; rw [Vec.part_len] at ho ⊢; have HO := Aside0.mk ho; have HB := Aside0.mk hb; clear ho hb))
  go_loopw [15] (fun i wr => ∃ k : Nat, k ≤ N ∧ i = .int .i64 k ∧ Aside0 (Kd.R (Kd.int .u64) 104 wr w.heap.size (fun _ => True) (.slice Ao N co) (Vec.part f N k)) ∧ Aside0 (Below w.heap.size w wr)) (fun i _ => N - (intOf i).toNat)
  case atStart => exact ⟨0, Nat.zero_le _, rfl, HO, HB⟩
  case round =>
    clear HO HB
    obtain ⟨k, hk, rfl, HO, HB⟩ := hrel
    by_cases hlt : k < N
    · obtain ⟨g, cap, e, hg, -⟩ := Kd.R_form HO.out (by rw [Vec.part_len]; omega)
      injection e with e1 e3 e2
      clear e3
      subst e1 e2
      have HG := Aside0.mk hg
      obtain ⟨hc, hf⟩ := Kd.R_celln 0 HO.out (k : Int) (by omega) (by omega)
      rw [Int.toNat_natCast] at hc hf
      obtain ⟨x, ex⟩ : ∃ x, x = rdOf 0 (Vec.part f N k) (k : Int) := ⟨_, rfl⟩
      rw [← ex] at hc
      clear ex hg
      have ew := Vec.w_rd HW.out k
      have ev := Vec.w_rd HV.out k
      have ef : Go.bits .or .u64 ((Vec.w l k : Nat) : Int) ((Vec.w m k : Nat) : Int) = f k := by rw [(bits_nat .u64 64 (by decide) (fun n h0 h1 => Vec.wu h0 h1) _ _ (Vec.w_lt HW.out k) (Vec.w_lt HV.out k)).2, ← HF.out]
      obtain ⟨y, ey⟩ : ∃ x_ : Int, x_ = rd l (k : Int) := ⟨_, rfl⟩
      obtain ⟨z, ez⟩ : ∃ x_ : Int, x_ = rd m (k : Int) := ⟨_, rfl⟩
      rw [← ew, ← ev, ← ey, ← ez] at ef
      have EF := Aside0.mk ef
      have EY := Aside0.mk ey
      have EZ := Aside0.mk ez
      clear ew ev ef ey ez
      go_wp2_with fail
      (with_reducible refine (Vec.at_any A c l N k wr HN.out.symm (Kd.C_below HR.out HB.out)).mono ?_)
      rintro e w2 ⟨rfl, rfl⟩
      rw [← EY.out]
      go_wp2_with fail
      (with_reducible refine (Vec.at_any B d m N k wr HM.out (Kd.C_below HS.out HB.out)).mono ?_)
      rintro e w2 ⟨rfl, rfl⟩
      rw [← EZ.out]
      go_wp2
      rw [EF.out]
      clear EF EY EZ
      obtain ⟨hp, hgr⟩ := Kd.R_putg HO.out (k : Int) (f k)
      rw [Int.toNat_natCast, Vec.part_set f hlt] at hp
      have HP := Aside0.mk hp
      have HB2 := Aside0.mk (below_set HB.out HG.out (j := k) (v := .int .u64 (f k)))
      clear hp hgr hc hf HO HB HG
      go_roundw
      case rel => exact ⟨k + 1, by omega, by go_num, HP, HB2⟩
      case measure => simp [intOf]; omega
    · have ek : k = N := by omega
      subst ek
      have HO2 := HO.out
      rw [Vec.part_all] at HO2
      clear hk hlt HO
      go_wp2
      go_ret
      exact ⟨_, rfl, HO2, HB.out⟩
set_option maxRecDepth 100000 in
set_option maxHeartbeats 4000000 in
/-- vec.Add -/
theorem Vec.add_calls (A : Option Addr) (c : Nat) (l : List Int) (B : Option Addr) (d : Nat) (m : List Int) (w : World) (hr : Kd.C (Kd.int .u64) w A l.length l) (hs : Kd.C (Kd.int .u64) w B m.length m) (hm : m.length = l.length) (hn : l.length ≤ 20000) (hw : l.all Vec.ok = true) (hv : m.all Vec.ok = true) :
    Calls Tryz.prog 134 #[.slice A l.length c, .slice B m.length d] w fun e w' => ∃ v, e = .returned v ∧ Kd.R (Kd.int .u64) 104 w' w.heap.size (fun _ => True) v ((List.range l.length).map fun k => ((Vec.addW (Vec.w l) (Vec.w m) k : Nat) : Int)) ∧ Below w.heap.size w w' := by
  rw [hm] at hs ⊢
  have HM := Aside0.mk hm
  have HV := Aside0.mk hv
  have HS := Aside0.mk hs
  clear hv hs hm
  have HR := Aside0.mk hr
  have HW := Aside0.mk hw
  obtain ⟨N, hN⟩ : ∃ N, N = l.length := ⟨_, rfl⟩
  have hN2 : N ≤ 20000 := by omega
  have HN := Aside0.mk hN
  rw [← hN] at HR HS HM ⊢
  generalize hf : (fun k => ((Vec.addW (Vec.w l) (Vec.w m) k : Nat) : Int)) = f
  have HF := Aside0.mk hf
  clear hr hw hN hf hn
  go_enter Tryz.func134, Tryz.ntmps134
  go_wp2_with (first | ((with_reducible refine gate_dst (N := 13) rfl ?_); refine Kd.R_make (Kd.int .u64) _ 104 rfl (N := 13) rfl 62 _ _ rfl (N : Int) rfl rfl Tryz.underlying62 (.int .u64 0) 8 Vec.inf104 rfl (by decide) (by omega) 0 (ok := fun _ => True) (okp := fun _ => True) rfl (fun _ hk => hk) trivial (by omega) (by omega) (Below.refl _ _) (Nat.le_refl _) ?_; intro v w1 ho hb hg_ hnew_; clear hg_ hnew_; rw [Int.toNat_natCast, Vec.part_zero f] at ho; obtain ⟨Ao, co, rfl⟩ := Kd.R_slice ho; rw [Vec.part_len] at ho ⊢; have HO := Aside0.mk ho; have HB := Aside0.mk hb; clear ho hb))
  go_loopw [6, 16] (fun cy i wr => ∃ k : Nat, k ≤ N ∧ i = .int .i64 k ∧ cy = .int .u64 (Vec.cw (Vec.w l) (Vec.w m) k : Nat) ∧ Aside0 (Kd.R (Kd.int .u64) 104 wr w.heap.size (fun _ => True) (.slice Ao N co) (Vec.part f N k)) ∧ Aside0 (Below w.heap.size w wr)) (fun cy i _ => N - (intOf i).toNat)
  case atStart => exact ⟨0, Nat.zero_le _, rfl, rfl, HO, HB⟩
  case round =>
    clear HO HB
    obtain ⟨k, hk, rfl, rfl, HO, HB⟩ := hrel
    by_cases hlt : k < N
    · obtain ⟨g, cap, e, hg, -⟩ := Kd.R_form HO.out (by rw [Vec.part_len]; omega)
      injection e with e1 e3 e2
      clear e3
      subst e1 e2
      have HG := Aside0.mk hg
      obtain ⟨hc, hf⟩ := Kd.R_celln 0 HO.out (k : Int) (by omega) (by omega)
      rw [Int.toNat_natCast] at hc hf
      obtain ⟨x, ex⟩ : ∃ x, x = rdOf 0 (Vec.part f N k) (k : Int) := ⟨_, rfl⟩
      rw [← ex] at hc
      clear ex hg
      have ew := Vec.w_rd HW.out k
      have ev := Vec.w_rd HV.out k
      have hC : (callFunc 169 #[.int .u64 ((Vec.w l k : Nat) : Int), .int .u64 ((Vec.w m k : Nat) : Int), .int .u64 ((Vec.cw (Vec.w l) (Vec.w m) k : Nat) : Int)]).run Tryz.prog wr = .ok (.value (.tuple #[.int .u64 ((Vec.addW (Vec.w l) (Vec.w m) k : Nat) : Int), .int .u64 ((Vec.cw (Vec.w l) (Vec.w m) (k + 1) : Nat) : Int)])) wr := Vec.add64 (Vec.w l k) (Vec.w m k) (Vec.cw (Vec.w l) (Vec.w m) k) (Vec.w_lt HW.out k) (Vec.w_lt HV.out k) (Vec.cw_le (Vec.w_lt HW.out) (Vec.w_lt HV.out) k) wr
      obtain ⟨y, ey⟩ : ∃ x_ : Int, x_ = rd l (k : Int) := ⟨_, rfl⟩
      obtain ⟨z, ez⟩ : ∃ x_ : Int, x_ = rd m (k : Int) := ⟨_, rfl⟩
      obtain ⟨q, eq⟩ : ∃ x_ : Int, x_ = ((Vec.cw (Vec.w l) (Vec.w m) k : Nat) : Int) := ⟨_, rfl⟩
      obtain ⟨q2, eq2⟩ : ∃ x_ : Int, x_ = ((Vec.cw (Vec.w l) (Vec.w m) (k + 1) : Nat) : Int) := ⟨_, rfl⟩
      have ef : ((Vec.addW (Vec.w l) (Vec.w m) k : Nat) : Int) = f k := by rw [← HF.out]
      rw [← ew, ← ev, ← ey, ← ez] at hC
      rw [ef] at hC
      rw [← eq, ← eq2] at hC
      rw [← eq]
      have EY := Aside0.mk ey
      have EZ := Aside0.mk ez
      have EQ2 := Aside0.mk eq2
      clear ew ev ef ey ez eq eq2
      generalize hfk : f k = fk at hC
      have FK := Aside0.mk hfk
      clear hfk
      go_wp2_with fail
      (with_reducible refine (Vec.at_any A c l N k wr HN.out.symm (Kd.C_below HR.out HB.out)).mono ?_)
      rintro e w2 ⟨rfl, rfl⟩
      rw [← EY.out]
      go_wp2_with fail
      (with_reducible refine (Vec.at_any B d m N k wr HM.out (Kd.C_below HS.out HB.out)).mono ?_)
      rintro e w2 ⟨rfl, rfl⟩
      rw [← EZ.out]
      go_wp2
      rw [← FK.out]
      clear hC EY EZ
      obtain ⟨hp, hgr⟩ := Kd.R_putg HO.out (k : Int) (f k)
      rw [Int.toNat_natCast, Vec.part_set f hlt] at hp
      have HP := Aside0.mk hp
      have HB2 := Aside0.mk (below_set HB.out HG.out (j := k) (v := .int .u64 (f k)))
      clear hp hgr hc hf HO HB HG
      go_roundw
      case rel => exact ⟨k + 1, by omega, by go_num, by rw [EQ2.out], HP, HB2⟩
      case measure => simp [intOf]; omega
    · have ek : k = N := by omega
      subst ek
      have HO2 := HO.out
      rw [Vec.part_all] at HO2
      clear hk hlt HO
      go_wp2
      go_ret
      exact ⟨_, rfl, HO2, HB.out⟩
set_option maxRecDepth 100000 in
set_option maxHeartbeats 4000000 in
/-- vec.Sub -/
theorem Vec.sub_calls (A : Option Addr) (c : Nat) (l : List Int) (B : Option Addr) (d : Nat) (m : List Int) (w : World) (hr : Kd.C (Kd.int .u64) w A l.length l) (hs : Kd.C (Kd.int .u64) w B m.length m) (hm : m.length = l.length) (hn : l.length ≤ 20000) (hw : l.all Vec.ok = true) (hv : m.all Vec.ok = true) :
    Calls Tryz.prog 135 #[.slice A l.length c, .slice B m.length d] w fun e w' => ∃ v, e = .returned v ∧ Kd.R (Kd.int .u64) 104 w' w.heap.size (fun _ => True) v ((List.range l.length).map fun k => ((Vec.subW (Vec.w l) (Vec.w m) k : Nat) : Int)) ∧ Below w.heap.size w w' := by
  rw [hm] at hs ⊢
  have HM := Aside0.mk hm
  have HV := Aside0.mk hv
  have HS := Aside0.mk hs
  clear hv hs hm
  have HR := Aside0.mk hr
  have HW := Aside0.mk hw
  obtain ⟨N, hN⟩ : ∃ N, N = l.length := ⟨_, rfl⟩
  have hN2 : N ≤ 20000 := by omega
  have HN := Aside0.mk hN
  rw [← hN] at HR HS HM ⊢
  generalize hf : (fun k => ((Vec.subW (Vec.w l) (Vec.w m) k : Nat) : Int)) = f
  have HF := Aside0.mk hf
  clear hr hw hN hf hn
  go_enter Tryz.func135, Tryz.ntmps135
  go_wp2_with (first | ((with_reducible refine gate_dst (N := 13) rfl ?_); refine Kd.R_make (Kd.int .u64) _ 104 rfl (N := 13) rfl 62 _ _ rfl (N : Int) rfl rfl Tryz.underlying62 (.int .u64 0) 8 Vec.inf104 rfl (by decide) (by omega) 0 (ok := fun _ => True) (okp := fun _ => True) rfl (fun _ hk => hk) trivial (by omega) (by omega) (Below.refl _ _) (Nat.le_refl _) ?_; intro v w1 ho hb hg_ hnew_; clear hg_ hnew_; rw [Int.toNat_natCast, Vec.part_zero f] at ho; obtain ⟨Ao, co, rfl⟩ := Kd.R_slice ho; rw [Vec.part_len] at ho ⊢; have HO := Aside0.mk ho; have HB := Aside0.mk hb; clear ho hb))
  go_loopw [6, 16] (fun cy i wr => ∃ k : Nat, k ≤ N ∧ i = .int .i64 k ∧ cy = .int .u64 (Vec.bw (Vec.w l) (Vec.w m) k : Nat) ∧ Aside0 (Kd.R (Kd.int .u64) 104 wr w.heap.size (fun _ => True) (.slice Ao N co) (Vec.part f N k)) ∧ Aside0 (Below w.heap.size w wr)) (fun cy i _ => N - (intOf i).toNat)
  case atStart => exact ⟨0, Nat.zero_le _, rfl, rfl, HO, HB⟩
  case round =>
    clear HO HB
    obtain ⟨k, hk, rfl, rfl, HO, HB⟩ := hrel
    by_cases hlt : k < N
    · obtain ⟨g, cap, e, hg, -⟩ := Kd.R_form HO.out (by rw [Vec.part_len]; omega)
      injection e with e1 e3 e2
      clear e3
      subst e1 e2
      have HG := Aside0.mk hg
      obtain ⟨hc, hf⟩ := Kd.R_celln 0 HO.out (k : Int) (by omega) (by omega)
      rw [Int.toNat_natCast] at hc hf
      obtain ⟨x, ex⟩ : ∃ x, x = rdOf 0 (Vec.part f N k) (k : Int) := ⟨_, rfl⟩
      rw [← ex] at hc
      clear ex hg
      have ew := Vec.w_rd HW.out k
      have ev := Vec.w_rd HV.out k
      have hC : (callFunc 170 #[.int .u64 ((Vec.w l k : Nat) : Int), .int .u64 ((Vec.w m k : Nat) : Int), .int .u64 ((Vec.bw (Vec.w l) (Vec.w m) k : Nat) : Int)]).run Tryz.prog wr = .ok (.value (.tuple #[.int .u64 ((Vec.subW (Vec.w l) (Vec.w m) k : Nat) : Int), .int .u64 ((Vec.bw (Vec.w l) (Vec.w m) (k + 1) : Nat) : Int)])) wr := Vec.sub64 (Vec.w l k) (Vec.w m k) (Vec.bw (Vec.w l) (Vec.w m) k) (Vec.w_lt HW.out k) (Vec.w_lt HV.out k) (Vec.bw_le (Vec.w_lt HW.out) (Vec.w_lt HV.out) k) wr
      obtain ⟨y, ey⟩ : ∃ x_ : Int, x_ = rd l (k : Int) := ⟨_, rfl⟩
      obtain ⟨z, ez⟩ : ∃ x_ : Int, x_ = rd m (k : Int) := ⟨_, rfl⟩
      obtain ⟨q, eq⟩ : ∃ x_ : Int, x_ = ((Vec.bw (Vec.w l) (Vec.w m) k : Nat) : Int) := ⟨_, rfl⟩
      obtain ⟨q2, eq2⟩ : ∃ x_ : Int, x_ = ((Vec.bw (Vec.w l) (Vec.w m) (k + 1) : Nat) : Int) := ⟨_, rfl⟩
      have ef : ((Vec.subW (Vec.w l) (Vec.w m) k : Nat) : Int) = f k := by rw [← HF.out]
      rw [← ew, ← ev, ← ey, ← ez] at hC
      rw [ef] at hC
      rw [← eq, ← eq2] at hC
      rw [← eq]
      have EY := Aside0.mk ey
      have EZ := Aside0.mk ez
      have EQ2 := Aside0.mk eq2
      clear ew ev ef ey ez eq eq2
      generalize hfk : f k = fk at hC
      have FK := Aside0.mk hfk
      clear hfk
      go_wp2_with fail
      (with_reducible refine (Vec.at_any A c l N k wr HN.out.symm (Kd.C_below HR.out HB.out)).mono ?_)
      rintro e w2 ⟨rfl, rfl⟩
      rw [← EY.out]
      go_wp2_with fail
      (with_reducible refine (Vec.at_any B d m N k wr HM.out (Kd.C_below HS.out HB.out)).mono ?_)
      rintro e w2 ⟨rfl, rfl⟩
      rw [← EZ.out]
      go_wp2
      rw [← FK.out]
      clear hC EY EZ
      obtain ⟨hp, hgr⟩ := Kd.R_putg HO.out (k : Int) (f k)
      rw [Int.toNat_natCast, Vec.part_set f hlt] at hp
      have HP := Aside0.mk hp
      have HB2 := Aside0.mk (below_set HB.out HG.out (j := k) (v := .int .u64 (f k)))
      clear hp hgr hc hf HO HB HG
      go_roundw
      case rel => exact ⟨k + 1, by omega, by go_num, by rw [EQ2.out], HP, HB2⟩
      case measure => simp [intOf]; omega
    · have ek : k = N := by omega
      subst ek
      have HO2 := HO.out
      rw [Vec.part_all] at HO2
      clear hk hlt HO
      go_wp2
      go_ret
      exact ⟨_, rfl, HO2, HB.out⟩
theorem Mask.inf3 : (Tryz.prog.info? 3).map (fun i => (i.zero, i.size, i.bytes)) = some (some (.int .i64 0), 1, 8) := by kernel_rfl
def Mask.clone.f (l0 : List Int) : Option (List Int) := if l0.length < 17592186044416 then some l0 else none
set_option maxHeartbeats 8000000 in
set_option maxRecDepth 100000 in
theorem Mask.clone.calls (A0 : Option Addr) (c0 : Nat) (l0 : List Int) (r : List Int) (w : World) (hr0 : Kd.C (Kd.int .i64) w A0 l0.length l0) (hc0 : l0.length ≤ c0) (h : Mask.clone.f l0 = some r) :
    Calls Tryz.prog 127 #[.slice A0 l0.length c0] w fun e w' => ∃ v0_ : Value, e = .returned (v0_) ∧ Kd.R (Kd.int .i64) 3 w' w.heap.size (fun _ => True) v0_ r ∧ Below w.heap.size w w' := by
  unfold Mask.clone.f at h
  by_cases c : l0.length < 17592186044416
  · rw [if_pos c] at h
    obtain rfl := Option.some.inj h
    clear h
    have HB := Aside0.mk (Below.refl w.heap.size w)
    cases A0 with
    | none =>
      have hn : l0 = [] := by
        cases l0 with
        | nil => rfl
        | cons x xs =>
          obtain ⟨ad, e, _⟩ := Kd.at_int hr0 0 (by omega) (by rw [List.length_cons]; omega)
          cases e
      subst hn
      clear hr0 hc0 c
      have qT : ∀ (w : World), (binOp .eql 22 (.slice none 0 c0) (.slice none 0 0)).run Tryz.prog w = .ok (.bool true) w := fun w => Lib.run_eql_slice_nil w _ _ _ _ _ _ _ Tryz.underlying22
      go_enter Tryz.func127, Tryz.ntmps127
      go_wp2
      go_ret
      exact ⟨_, by first | rfl | (simp [errW_none, errW_some] <;> rfl) | (simp [*, errW_none, errW_some] <;> rfl), by first | exact Kd.R_nil _ _ _ _ _, by repeat (first | (with_reducible first | exact HB.out | apply below_alloc | apply pw_below_drewN | apply below_drew1) | exact HB.out)⟩
    | some a0 =>
      have HR0 := Aside0.mk hr0
      have HC0 := Aside0.mk hc0
      have LMc := Aside0.mk c
      clear hr0 hc0 c
      obtain ⟨y120, hy120⟩ : ∃ y_ : List Int, y_ = (([] : List Int)) := ⟨_, rfl⟩
      have Ny120 := Aside0.mk hy120
      have Nl := Aside0.mk (show l0 = y120 ++ l0 by rw [hy120]; rfl)
      have Ny0 := Aside0.mk (show y120.length = 0 by rw [hy120]; rfl)
      clear hy120
      have qT : ∀ (w : World), (binOp .eql 22 (.slice (some a0) l0.length c0) (.slice none 0 0)).run Tryz.prog w = .ok (.bool false) w := fun w => Lib.run_eql_slice_nil w _ _ _ _ _ _ _ Tryz.underlying22
      go_enter Tryz.func127, Tryz.ntmps127
      go_wp2_with (first | ((with_reducible refine gate_dst (N := 5) rfl ?_); refine Kd.R_lit (Kd.int .i64) _ 3 ?hg (N := 5) ?hd (xs := ([] : List Int)) (inner := []) (ok := fun _ => True) (okp := fun _ => True) ?hr ?hp (fun _ hk => hk) trivial (Below.refl _ _) (Nat.le_refl _) (by simp) ?_; (case hd => rfl); (case hg => rfl); (case hr => first | (go_simp; done) | (go_simp; rfl)); (case hp => exact (Reps.none _ _)); intro v121 w3 ho4 hb hg_ hnew_; clear hg_ hnew_; (first | rw [← Ny120.out] at ho4 | (simp only [Int.reduceToNat] at ho4; rw [← Ny120.out] at ho4)); have n0_ := Aside0.mk (Kd.R_lower ho4 (below_size (by repeat (first | (with_reducible first | exact HB.out | apply below_alloc | apply pw_below_drewN | apply below_drew1) | exact HB.out)))); have n1_ := Aside0.mk (below_step (by repeat (first | (with_reducible first | exact HB.out | apply below_alloc | apply pw_below_drewN | apply below_drew1) | exact HB.out)) hb); clear HB; have HO122 := n0_; have HB := n1_; clear n0_ n1_; clear hb ho4) | ((with_reducible refine gate_builtin (b := .append) (xs := #[.tmp 5, .tmp 6]) rfl ?_); at_builtin; refine Kd.R_append_rows (Kd.int .i64) (w0 := w) w.heap.size rfl (.tmp 5) (.tmp 6) 22 3 (.int .i64 0) 8 rfl Tryz.underlying22 Mask.inf3 rfl (by decide) (by omega) v121 y120 l0 _ _ _ (fun _ => True) (fun _ => False) rfl rfl ?aO ?aR (fun _ _ h => h) (fun _ h => h.elim) ?aF ?aB ?aS ?aL ?_; (case aR => repeat (first | exact (Kd.C_below HR0.out HB.out) | (with_reducible refine Kd.C_alloc ?_ _) | (with_reducible refine Kd.C_drewN ?_ _) | (with_reducible refine Kd.C_drew ?_))); (case aB => exact (by repeat (first | (with_reducible first | exact HB.out | apply below_alloc | apply pw_below_drewN | apply below_drew1) | exact HB.out))); (case aF => exact (fun _ _ => trivial)); (case aO => exact (by (with_reducible repeat (first | apply Kd.R_alloc | apply Kd.R_drewN | apply Kd.R_drew)); exact HO122.out)); (case aS => exact (below_size (by repeat (first | (with_reducible first | exact HB.out | apply below_alloc | apply pw_below_drewN | apply below_drew1) | exact HB.out)))); (case aL => have := LMc.out; have := Ny0.out; omega); intro v124 w5 ho hb hg hat; rw [← Nl.out] at ho; have n0_ := Aside0.mk (hb); have n1_ := Aside0.mk (ho); clear HB; clear HO122; have HB := n0_; have HO125 := n1_; clear n0_ n1_; clear ho hb hg hat))
      go_ret
      exact ⟨_, by first | rfl | (simp [errW_none, errW_some] <;> rfl) | (simp [*, errW_none, errW_some] <;> rfl), by (with_reducible repeat (first | apply Kd.R_alloc | apply Kd.R_drewN | apply Kd.R_drew)); exact HO125.out, by repeat (first | (with_reducible first | exact HB.out | apply below_alloc | apply pw_below_drewN | apply below_drew1) | exact HB.out)⟩
  · rw [if_neg c] at h
    exact absurd h (by simp)
end Go.Proofs.YtjkjanegankdhaaGreat.Vx
