/- TileTurns: the walk. -/
import Derived.Test.YtfldkfccdjdofaaHTc
namespace Go.Proofs.Ytfldkfccdjdofaa.Tile
open Go.RowKit Go.Proofs.YtfldkfccdjdofaaW.PrintWords Go.Proofs.YtfldkfccdjdofaaW.PrintLast Go.Proofs.YtfldkfccdjdofaaW.PrintMore
set_option linter.unusedVariables false
set_option linter.unusedSimpArgs false
set_option maxRecDepth 100000 in
set_option maxHeartbeats 4000000 in
theorem turn1 (t q p l : Int) (ht : 0 ≤ t ∧ t < 256) (hq : 0 ≤ q ∧ q < 65536) (hp : 0 ≤ p ∧ p < 65536) (hl : 0 ≤ l ∧ l < 65536) (h3 : t % 3 = 0) (w : World) :
    Calls Try.prog 6 #[.int .u8 t, .int .u16 q, .int .u16 p, .int .u16 l] w fun e w' => e = .returned (.bool true) ∧ Below w.heap.size w w' := by
  obtain ⟨t0, t1⟩ := ht
  obtain ⟨q0, q1⟩ := hq
  obtain ⟨p0, p1⟩ := hp
  obtain ⟨l0, l1⟩ := hl
  obtain ⟨n, hn⟩ := Int.eq_ofNat_of_zero_le (show 0 ≤ q % 2 by omega)
  have hnQ : n < 2 := by omega
  have tb := trO_bits (s := 1) (n := n) (by decide) hnQ
  have ob := trO_bd (s := 1) (q := (n : Int)) (by decide) (by omega) 1 (Nat.le_refl _)
  have lw := turn_law (t := 1) (q := (n : Int)) (q' := trO 1 (n : Int) 1) (p := p % 2) (l := l % 2) tb.2
  have tb1 : trO 1 (n : Int) 1 < 2 := tb.1
  have hv1 : lookV 1 (n : Int) (p % 2) (l % 2) = (bot 1 (n : Int) (p % 2) (l % 2) 1, rig 1 (n : Int) (p % 2) (l % 2) 1, 0) := by
    unfold lookV
    exact if_pos (show 0 ≤ (n : Int) ∧ (n : Int) < 2 ∧ 0 ≤ p % 2 ∧ p % 2 < 2 ∧ 0 ≤ l % 2 ∧ l % 2 < 2 by omega)
  have hv2 : lookV 1 (trO 1 (n : Int) 1) (l % 2) (p % 2) = (bot 1 (trO 1 (n : Int) 1) (l % 2) (p % 2) 1, rig 1 (trO 1 (n : Int) 1) (l % 2) (p % 2) 1, 0) := by
    unfold lookV
    exact if_pos (show 0 ≤ trO 1 (n : Int) 1 ∧ trO 1 (n : Int) 1 < 2 ∧ 0 ≤ l % 2 ∧ l % 2 < 2 ∧ 0 ≤ p % 2 ∧ p % 2 < 2 by omega)
  rw [lw.1, lw.2] at hv2
  obtain ⟨b1, e1⟩ : ∃ b1, b1 = bot 1 (n : Int) (p % 2) (l % 2) 1 := ⟨_, rfl⟩
  obtain ⟨r1, e2⟩ : ∃ r1, r1 = rig 1 (n : Int) (p % 2) (l % 2) 1 := ⟨_, rfl⟩
  rw [← e1, ← e2] at hv1
  rw [← e1, ← e2] at hv2
  have V1 := Aside0.mk hv1
  have V2 := Aside0.mk hv2
  clear e1 e2 hv1 hv2 lw tb tb1 ob
  go_enter Try.func6, Try.ntmps6
  go_wp2_with fail
  refine (of_ok (t := 1) (by decide) _).mono ?_
  rintro e w' ⟨rfl, rfl⟩
  have T1 := Aside0.mk (Tl.new (t := 1) (by decide) w)
  have B1 := Aside0.mk (below_alloc (Below.refl w.heap.size w) (.cells (blk 1 0 0 (.slice none 0 0)) 52))
  generalize (w.alloc (.cells (blk 1 0 0 (.slice none 0 0)) 52)) = w1 at T1 B1 ⊢
  go_wp2_with fail
  refine (awake w1).mono ?_
  rintro e w2 ⟨rfl, hb⟩
  have T2 := Aside0.mk (T1.out.below hb)
  have B2 := Aside0.mk (B1.out.trans (hb.mono B1.out.size))
  clear hb T1 B1
  go_wp2_with fail
  go_quiet (fail)
  go_wp2_with fail
  have T3 := Aside0.mk (T2.out.below (pw_below_drewN (Below.refl _ _) nq))
  have B3 := Aside0.mk (B2.out.trans (pw_below_drewN (Below.refl _ _) nq))
  clear T2 B2
  generalize w2.drewN nq = w3 at T3 B3 ⊢
  go_loop [14, 15] (fun o i => ∃ k : Nat, k ≤ 1 ∧ i = .int .i64 (k : Int) ∧ o = .int .i64 (trO 1 (n : Int) k)) (fun _ i => 1 - (intOf i).toNat)
  case atStart => exact ⟨0, by omega, rfl, rfl⟩
  case round =>
    obtain ⟨k, hk, rfl, rfl⟩ := hrel
    by_cases hlt : k < 1
    · have hlt' : (k : Int) < 1 := by omega
      have ob := trO_bd (s := 1) (q := (n : Int)) (by decide) (by omega) k hk
      have ib := fun j hj => trI_bd (s := 1) (r := k) (q := (n : Int)) (by decide) hlt (by omega) j hj
      have IB := Aside0.mk ib
      clear ib
      go_wp2_with fail
      go_loop [14, 16] (fun o i => ∃ j : Nat, j ≤ 1 ∧ i = .int .i64 (j : Int) ∧ o = .int .i64 (trO 1 (n : Int) k + trI 1 (n : Int) k j)) (fun _ i => 1 - (intOf i).toNat)
      case atStart => exact ⟨0, by omega, rfl, by show _ = Value.int .i64 (trO 1 (n : Int) k + 0); rw [Int.add_zero]⟩
      case round =>
        obtain ⟨j, hj, rfl, rfl⟩ := hrel
        by_cases hjt : j < 1
        · have hjt' : (j : Int) < 1 := by omega
          have ib := IB.out j hj
          have hbt := bitOf_bd (n : Int) (k * 1 + j) (by omega) (by omega)
          have hbit : bits .and .i64 ((n : Int) / 2 ^ (k * 1 + j)) 1 = bitOf (n : Int) (k * 1 + j) := rfl
          have hst : trI 1 (n : Int) k (j + 1) = trI 1 (n : Int) k j + bitOf (n : Int) (k * 1 + j) * 2 ^ (j * 1 + k) := rfl
          have hp8 : (2 ^ (j * 1 + k) : Nat) ≤ 2 ^ 8 := Nat.pow_le_pow_right (by decide) (by omega)
          have hq8 : (2 : Int) ^ (j * 1 + k) ≤ 256 ∧ (0 : Int) < 2 ^ (j * 1 + k) := by
            have e : ((2 ^ (j * 1 + k) : Nat) : Int) = 2 ^ (j * 1 + k) := by simp
            refine ⟨?_, Int.pow_pos (by decide)⟩
            rw [← e]
            exact Int.ofNat_le.mpr (Nat.le_trans hp8 (by decide))
          have HST := Aside0.mk hst
          clear hst hp8
          obtain ⟨bt, hbe⟩ : ∃ bt, bt = bitOf (n : Int) (k * 1 + j) := ⟨_, rfl⟩
          rw [← hbe] at hbt hbit
          have HBE := Aside0.mk hbe
          clear hbe
          have hm01 : bt = 0 ∨ bt = 1 := by omega
          obtain ⟨y, hy⟩ : ∃ y, y = bt * 2 ^ (j * 1 + k) := ⟨_, rfl⟩
          have hyb : 0 ≤ y ∧ y ≤ 256 := by
            rw [hy]
            rcases hm01 with e | e <;> rw [e] <;> omega
          have hwr : IntKind.i64.wrap (bt * 2 ^ (j * 1 + k)) = y := by rw [← hy]; exact wr (by omega) (by omega)
          have HY := Aside0.mk hy
          clear hy hm01 hq8
          have ek : k = 0 := by omega
          have ej : j = 0 := by omega
          subst ek
          subst ej
          simp only [Nat.zero_mul, Nat.zero_add, Nat.pow_zero, Int.pow_zero, Int.mul_one, Nat.add_zero] at hwr hbit
          have hbit0 : bits .and .i64 (n : Int) 1 = bt := by simpa using hbit
          have ob2 := ob
          obtain ⟨o0, o1⟩ := ob
          obtain ⟨i0, i1⟩ := ib
          obtain ⟨y0, y1⟩ := hyb
          go_wp2_with fail
          refine ⟨⟨0 + 1, by omega, (by first | rfl | (simp; done)), ?_⟩, (by first | (simp [intOf]; done) | (simp [intOf]; omega))⟩
          rw [HST.out, ← HBE.out, ← HY.out, ← Int.add_assoc]
        · have ej : j = 1 := by omega
          subst ej
          clear hjt
          go_wp2_with fail
          exact ⟨⟨k + 1, by omega, by simp, rfl⟩, by simp [intOf]; omega⟩
    · have ek : k = 1 := by omega
      subst ek
      clear hlt
      go_wp2_with fail
      refine (look_any (n0 := w.heap.size) _ T3.out (Nat.le_refl _)).mono ?_
      rintro e w4 ⟨rfl, hT, hb, _⟩
      rw [V1.out]
      have T4 := Aside0.mk hT
      have B4 := Aside0.mk (B3.out.trans hb)
      clear hb hT T3 B3
      go_wp2_with fail
      refine (look_any (n0 := w.heap.size) _ T4.out (Nat.le_refl _)).mono ?_
      rintro e w5 ⟨rfl, hT, hb, _⟩
      rw [V2.out]
      have B5 := Aside0.mk (B4.out.trans hb)
      clear hb hT T4 B4
      go_wp2_with fail
      go_ret
      exact ⟨rfl, B5.out⟩

set_option maxRecDepth 100000 in
set_option maxHeartbeats 4000000 in
theorem turn2 (t q p l : Int) (ht : 0 ≤ t ∧ t < 256) (hq : 0 ≤ q ∧ q < 65536) (hp : 0 ≤ p ∧ p < 65536) (hl : 0 ≤ l ∧ l < 65536) (h3 : t % 3 = 1) (w : World) :
    Calls Try.prog 6 #[.int .u8 t, .int .u16 q, .int .u16 p, .int .u16 l] w fun e w' => e = .returned (.bool true) ∧ Below w.heap.size w w' := by
  obtain ⟨t0, t1⟩ := ht
  obtain ⟨q0, q1⟩ := hq
  obtain ⟨p0, p1⟩ := hp
  obtain ⟨l0, l1⟩ := hl
  obtain ⟨n, hn⟩ := Int.eq_ofNat_of_zero_le (show 0 ≤ q % 16 by omega)
  have hnQ : n < 16 := by omega
  have tb := trO_bits (s := 2) (n := n) (by decide) hnQ
  have ob := trO_bd (s := 2) (q := (n : Int)) (by decide) (by omega) 2 (Nat.le_refl _)
  have lw := turn_law (t := 2) (q := (n : Int)) (q' := trO 2 (n : Int) 2) (p := p % 4) (l := l % 4) tb.2
  have tb1 : trO 2 (n : Int) 2 < 16 := tb.1
  have hv1 : lookV 2 (n : Int) (p % 4) (l % 4) = (bot 2 (n : Int) (p % 4) (l % 4) 2, rig 2 (n : Int) (p % 4) (l % 4) 2, 0) := by
    unfold lookV
    exact if_pos (show 0 ≤ (n : Int) ∧ (n : Int) < 16 ∧ 0 ≤ p % 4 ∧ p % 4 < 4 ∧ 0 ≤ l % 4 ∧ l % 4 < 4 by omega)
  have hv2 : lookV 2 (trO 2 (n : Int) 2) (l % 4) (p % 4) = (bot 2 (trO 2 (n : Int) 2) (l % 4) (p % 4) 2, rig 2 (trO 2 (n : Int) 2) (l % 4) (p % 4) 2, 0) := by
    unfold lookV
    exact if_pos (show 0 ≤ trO 2 (n : Int) 2 ∧ trO 2 (n : Int) 2 < 16 ∧ 0 ≤ l % 4 ∧ l % 4 < 4 ∧ 0 ≤ p % 4 ∧ p % 4 < 4 by omega)
  rw [lw.1, lw.2] at hv2
  obtain ⟨b1, e1⟩ : ∃ b1, b1 = bot 2 (n : Int) (p % 4) (l % 4) 2 := ⟨_, rfl⟩
  obtain ⟨r1, e2⟩ : ∃ r1, r1 = rig 2 (n : Int) (p % 4) (l % 4) 2 := ⟨_, rfl⟩
  rw [← e1, ← e2] at hv1
  rw [← e1, ← e2] at hv2
  have V1 := Aside0.mk hv1
  have V2 := Aside0.mk hv2
  clear e1 e2 hv1 hv2 lw tb tb1 ob
  go_enter Try.func6, Try.ntmps6
  go_wp2_with fail
  refine (of_ok (t := 2) (by decide) _).mono ?_
  rintro e w' ⟨rfl, rfl⟩
  have T1 := Aside0.mk (Tl.new (t := 2) (by decide) w)
  have B1 := Aside0.mk (below_alloc (Below.refl w.heap.size w) (.cells (blk 2 0 0 (.slice none 0 0)) 52))
  generalize (w.alloc (.cells (blk 2 0 0 (.slice none 0 0)) 52)) = w1 at T1 B1 ⊢
  go_wp2_with fail
  refine (awake w1).mono ?_
  rintro e w2 ⟨rfl, hb⟩
  have T2 := Aside0.mk (T1.out.below hb)
  have B2 := Aside0.mk (B1.out.trans (hb.mono B1.out.size))
  clear hb T1 B1
  go_wp2_with fail
  go_quiet (fail)
  go_wp2_with fail
  have T3 := Aside0.mk (T2.out.below (pw_below_drewN (Below.refl _ _) nq))
  have B3 := Aside0.mk (B2.out.trans (pw_below_drewN (Below.refl _ _) nq))
  clear T2 B2
  generalize w2.drewN nq = w3 at T3 B3 ⊢
  go_loop [14, 15] (fun o i => ∃ k : Nat, k ≤ 2 ∧ i = .int .i64 (k : Int) ∧ o = .int .i64 (trO 2 (n : Int) k)) (fun _ i => 2 - (intOf i).toNat)
  case atStart => exact ⟨0, by omega, rfl, rfl⟩
  case round =>
    obtain ⟨k, hk, rfl, rfl⟩ := hrel
    by_cases hlt : k < 2
    · have hlt' : (k : Int) < 2 := by omega
      have ob := trO_bd (s := 2) (q := (n : Int)) (by decide) (by omega) k hk
      have ib := fun j hj => trI_bd (s := 2) (r := k) (q := (n : Int)) (by decide) hlt (by omega) j hj
      have IB := Aside0.mk ib
      clear ib
      go_wp2_with fail
      go_loop [14, 16] (fun o i => ∃ j : Nat, j ≤ 2 ∧ i = .int .i64 (j : Int) ∧ o = .int .i64 (trO 2 (n : Int) k + trI 2 (n : Int) k j)) (fun _ i => 2 - (intOf i).toNat)
      case atStart => exact ⟨0, by omega, rfl, by show _ = Value.int .i64 (trO 2 (n : Int) k + 0); rw [Int.add_zero]⟩
      case round =>
        obtain ⟨j, hj, rfl, rfl⟩ := hrel
        by_cases hjt : j < 2
        · have hjt' : (j : Int) < 2 := by omega
          have ib := IB.out j hj
          have hbt := bitOf_bd (n : Int) (k * 2 + j) (by omega) (by omega)
          have hbit : bits .and .i64 ((n : Int) / 2 ^ (k * 2 + j)) 1 = bitOf (n : Int) (k * 2 + j) := rfl
          have hst : trI 2 (n : Int) k (j + 1) = trI 2 (n : Int) k j + bitOf (n : Int) (k * 2 + j) * 2 ^ (j * 2 + k) := rfl
          have hp8 : (2 ^ (j * 2 + k) : Nat) ≤ 2 ^ 8 := Nat.pow_le_pow_right (by decide) (by omega)
          have hq8 : (2 : Int) ^ (j * 2 + k) ≤ 256 ∧ (0 : Int) < 2 ^ (j * 2 + k) := by
            have e : ((2 ^ (j * 2 + k) : Nat) : Int) = 2 ^ (j * 2 + k) := by simp
            refine ⟨?_, Int.pow_pos (by decide)⟩
            rw [← e]
            exact Int.ofNat_le.mpr (Nat.le_trans hp8 (by decide))
          have HST := Aside0.mk hst
          clear hst hp8
          obtain ⟨bt, hbe⟩ : ∃ bt, bt = bitOf (n : Int) (k * 2 + j) := ⟨_, rfl⟩
          rw [← hbe] at hbt hbit
          have HBE := Aside0.mk hbe
          clear hbe
          have hm01 : bt = 0 ∨ bt = 1 := by omega
          obtain ⟨y, hy⟩ : ∃ y, y = bt * 2 ^ (j * 2 + k) := ⟨_, rfl⟩
          have hyb : 0 ≤ y ∧ y ≤ 256 := by
            rw [hy]
            rcases hm01 with e | e <;> rw [e] <;> omega
          have hwr : IntKind.i64.wrap (bt * 2 ^ (j * 2 + k)) = y := by rw [← hy]; exact wr (by omega) (by omega)
          have HY := Aside0.mk hy
          clear hy hm01 hq8
          have f1 : ((k : Int) * 2 + (j : Int)).toNat = k * 2 + j := by omega
          have f2 : 0 ≤ (k : Int) * 2 + (j : Int) := by omega
          have f3 : min (k * 2 + j) 64 = k * 2 + j := by omega
          have f4 : IntKind.u64.wrap ((k : Int) * 2 + (j : Int)) = (k : Int) * 2 + (j : Int) := by simp [IntKind.wrap, IntKind.signed, IntKind.bits]; omega
          have f5 : ((j : Int) * 2 + (k : Int)).toNat = j * 2 + k := by omega
          have f6 : 0 ≤ (j : Int) * 2 + (k : Int) := by omega
          have f7 : min (j * 2 + k) 64 = j * 2 + k := by omega
          have f8 : IntKind.u64.wrap ((j : Int) * 2 + (k : Int)) = (j : Int) * 2 + (k : Int) := by simp [IntKind.wrap, IntKind.signed, IntKind.bits]; omega
          have ob2 := ob
          obtain ⟨o0, o1⟩ := ob
          obtain ⟨i0, i1⟩ := ib
          obtain ⟨y0, y1⟩ := hyb
          go_wp2_with fail
          refine ⟨⟨j + 1, by omega, (by first | rfl | (simp; done)), ?_⟩, (by first | (simp [intOf]; done) | (simp [intOf]; omega))⟩
          rw [HST.out, ← HBE.out, ← HY.out, ← Int.add_assoc]
        · have ej : j = 2 := by omega
          subst ej
          clear hjt
          go_wp2_with fail
          exact ⟨⟨k + 1, by omega, by simp, rfl⟩, by simp [intOf]; omega⟩
    · have ek : k = 2 := by omega
      subst ek
      clear hlt
      go_wp2_with fail
      refine (look_any (n0 := w.heap.size) _ T3.out (Nat.le_refl _)).mono ?_
      rintro e w4 ⟨rfl, hT, hb, _⟩
      rw [V1.out]
      have T4 := Aside0.mk hT
      have B4 := Aside0.mk (B3.out.trans hb)
      clear hb hT T3 B3
      go_wp2_with fail
      refine (look_any (n0 := w.heap.size) _ T4.out (Nat.le_refl _)).mono ?_
      rintro e w5 ⟨rfl, hT, hb, _⟩
      rw [V2.out]
      have B5 := Aside0.mk (B4.out.trans hb)
      clear hb hT T4 B4
      go_wp2_with fail
      go_ret
      exact ⟨rfl, B5.out⟩

set_option maxRecDepth 100000 in
set_option maxHeartbeats 4000000 in
theorem turn3 (t q p l : Int) (ht : 0 ≤ t ∧ t < 256) (hq : 0 ≤ q ∧ q < 65536) (hp : 0 ≤ p ∧ p < 65536) (hl : 0 ≤ l ∧ l < 65536) (h3 : t % 3 = 2) (w : World) :
    Calls Try.prog 6 #[.int .u8 t, .int .u16 q, .int .u16 p, .int .u16 l] w fun e w' => e = .returned (.bool true) ∧ Below w.heap.size w w' := by
  obtain ⟨t0, t1⟩ := ht
  obtain ⟨q0, q1⟩ := hq
  obtain ⟨p0, p1⟩ := hp
  obtain ⟨l0, l1⟩ := hl
  obtain ⟨n, hn⟩ := Int.eq_ofNat_of_zero_le (show 0 ≤ q % 512 by omega)
  have hnQ : n < 512 := by omega
  have tb := trO_bits (s := 3) (n := n) (by decide) hnQ
  have ob := trO_bd (s := 3) (q := (n : Int)) (by decide) (by omega) 3 (Nat.le_refl _)
  have lw := turn_law (t := 3) (q := (n : Int)) (q' := trO 3 (n : Int) 3) (p := p % 8) (l := l % 8) tb.2
  have tb1 : trO 3 (n : Int) 3 < 512 := tb.1
  have hv1 : lookV 3 (n : Int) (p % 8) (l % 8) = (bot 3 (n : Int) (p % 8) (l % 8) 3, rig 3 (n : Int) (p % 8) (l % 8) 3, 0) := by
    unfold lookV
    exact if_pos (show 0 ≤ (n : Int) ∧ (n : Int) < 512 ∧ 0 ≤ p % 8 ∧ p % 8 < 8 ∧ 0 ≤ l % 8 ∧ l % 8 < 8 by omega)
  have hv2 : lookV 3 (trO 3 (n : Int) 3) (l % 8) (p % 8) = (bot 3 (trO 3 (n : Int) 3) (l % 8) (p % 8) 3, rig 3 (trO 3 (n : Int) 3) (l % 8) (p % 8) 3, 0) := by
    unfold lookV
    exact if_pos (show 0 ≤ trO 3 (n : Int) 3 ∧ trO 3 (n : Int) 3 < 512 ∧ 0 ≤ l % 8 ∧ l % 8 < 8 ∧ 0 ≤ p % 8 ∧ p % 8 < 8 by omega)
  rw [lw.1, lw.2] at hv2
  obtain ⟨b1, e1⟩ : ∃ b1, b1 = bot 3 (n : Int) (p % 8) (l % 8) 3 := ⟨_, rfl⟩
  obtain ⟨r1, e2⟩ : ∃ r1, r1 = rig 3 (n : Int) (p % 8) (l % 8) 3 := ⟨_, rfl⟩
  rw [← e1, ← e2] at hv1
  rw [← e1, ← e2] at hv2
  have V1 := Aside0.mk hv1
  have V2 := Aside0.mk hv2
  clear e1 e2 hv1 hv2 lw tb tb1 ob
  go_enter Try.func6, Try.ntmps6
  go_wp2_with fail
  refine (of_ok (t := 3) (by decide) _).mono ?_
  rintro e w' ⟨rfl, rfl⟩
  have T1 := Aside0.mk (Tl.new (t := 3) (by decide) w)
  have B1 := Aside0.mk (below_alloc (Below.refl w.heap.size w) (.cells (blk 3 0 0 (.slice none 0 0)) 52))
  generalize (w.alloc (.cells (blk 3 0 0 (.slice none 0 0)) 52)) = w1 at T1 B1 ⊢
  go_wp2_with fail
  refine (awake w1).mono ?_
  rintro e w2 ⟨rfl, hb⟩
  have T2 := Aside0.mk (T1.out.below hb)
  have B2 := Aside0.mk (B1.out.trans (hb.mono B1.out.size))
  clear hb T1 B1
  go_wp2_with fail
  go_quiet (fail)
  go_wp2_with fail
  have T3 := Aside0.mk (T2.out.below (pw_below_drewN (Below.refl _ _) nq))
  have B3 := Aside0.mk (B2.out.trans (pw_below_drewN (Below.refl _ _) nq))
  clear T2 B2
  generalize w2.drewN nq = w3 at T3 B3 ⊢
  go_loop [14, 15] (fun o i => ∃ k : Nat, k ≤ 3 ∧ i = .int .i64 (k : Int) ∧ o = .int .i64 (trO 3 (n : Int) k)) (fun _ i => 3 - (intOf i).toNat)
  case atStart => exact ⟨0, by omega, rfl, rfl⟩
  case round =>
    obtain ⟨k, hk, rfl, rfl⟩ := hrel
    by_cases hlt : k < 3
    · have hlt' : (k : Int) < 3 := by omega
      have ob := trO_bd (s := 3) (q := (n : Int)) (by decide) (by omega) k hk
      have ib := fun j hj => trI_bd (s := 3) (r := k) (q := (n : Int)) (by decide) hlt (by omega) j hj
      have IB := Aside0.mk ib
      clear ib
      go_wp2_with fail
      go_loop [14, 16] (fun o i => ∃ j : Nat, j ≤ 3 ∧ i = .int .i64 (j : Int) ∧ o = .int .i64 (trO 3 (n : Int) k + trI 3 (n : Int) k j)) (fun _ i => 3 - (intOf i).toNat)
      case atStart => exact ⟨0, by omega, rfl, by show _ = Value.int .i64 (trO 3 (n : Int) k + 0); rw [Int.add_zero]⟩
      case round =>
        obtain ⟨j, hj, rfl, rfl⟩ := hrel
        by_cases hjt : j < 3
        · have hjt' : (j : Int) < 3 := by omega
          have ib := IB.out j hj
          have hbt := bitOf_bd (n : Int) (k * 3 + j) (by omega) (by omega)
          have hbit : bits .and .i64 ((n : Int) / 2 ^ (k * 3 + j)) 1 = bitOf (n : Int) (k * 3 + j) := rfl
          have hst : trI 3 (n : Int) k (j + 1) = trI 3 (n : Int) k j + bitOf (n : Int) (k * 3 + j) * 2 ^ (j * 3 + k) := rfl
          have hp8 : (2 ^ (j * 3 + k) : Nat) ≤ 2 ^ 8 := Nat.pow_le_pow_right (by decide) (by omega)
          have hq8 : (2 : Int) ^ (j * 3 + k) ≤ 256 ∧ (0 : Int) < 2 ^ (j * 3 + k) := by
            have e : ((2 ^ (j * 3 + k) : Nat) : Int) = 2 ^ (j * 3 + k) := by simp
            refine ⟨?_, Int.pow_pos (by decide)⟩
            rw [← e]
            exact Int.ofNat_le.mpr (Nat.le_trans hp8 (by decide))
          have HST := Aside0.mk hst
          clear hst hp8
          obtain ⟨bt, hbe⟩ : ∃ bt, bt = bitOf (n : Int) (k * 3 + j) := ⟨_, rfl⟩
          rw [← hbe] at hbt hbit
          have HBE := Aside0.mk hbe
          clear hbe
          have hm01 : bt = 0 ∨ bt = 1 := by omega
          obtain ⟨y, hy⟩ : ∃ y, y = bt * 2 ^ (j * 3 + k) := ⟨_, rfl⟩
          have hyb : 0 ≤ y ∧ y ≤ 256 := by
            rw [hy]
            rcases hm01 with e | e <;> rw [e] <;> omega
          have hwr : IntKind.i64.wrap (bt * 2 ^ (j * 3 + k)) = y := by rw [← hy]; exact wr (by omega) (by omega)
          have HY := Aside0.mk hy
          clear hy hm01 hq8
          have f1 : ((k : Int) * 3 + (j : Int)).toNat = k * 3 + j := by omega
          have f2 : 0 ≤ (k : Int) * 3 + (j : Int) := by omega
          have f3 : min (k * 3 + j) 64 = k * 3 + j := by omega
          have f4 : IntKind.u64.wrap ((k : Int) * 3 + (j : Int)) = (k : Int) * 3 + (j : Int) := by simp [IntKind.wrap, IntKind.signed, IntKind.bits]; omega
          have f5 : ((j : Int) * 3 + (k : Int)).toNat = j * 3 + k := by omega
          have f6 : 0 ≤ (j : Int) * 3 + (k : Int) := by omega
          have f7 : min (j * 3 + k) 64 = j * 3 + k := by omega
          have f8 : IntKind.u64.wrap ((j : Int) * 3 + (k : Int)) = (j : Int) * 3 + (k : Int) := by simp [IntKind.wrap, IntKind.signed, IntKind.bits]; omega
          have ob2 := ob
          obtain ⟨o0, o1⟩ := ob
          obtain ⟨i0, i1⟩ := ib
          obtain ⟨y0, y1⟩ := hyb
          go_wp2_with fail
          refine ⟨⟨j + 1, by omega, (by first | rfl | (simp; done)), ?_⟩, (by first | (simp [intOf]; done) | (simp [intOf]; omega))⟩
          rw [HST.out, ← HBE.out, ← HY.out, ← Int.add_assoc]
        · have ej : j = 3 := by omega
          subst ej
          clear hjt
          go_wp2_with fail
          exact ⟨⟨k + 1, by omega, by simp, rfl⟩, by simp [intOf]; omega⟩
    · have ek : k = 3 := by omega
      subst ek
      clear hlt
      go_wp2_with fail
      refine (look_any (n0 := w.heap.size) _ T3.out (Nat.le_refl _)).mono ?_
      rintro e w4 ⟨rfl, hT, hb, _⟩
      rw [V1.out]
      have T4 := Aside0.mk hT
      have B4 := Aside0.mk (B3.out.trans hb)
      clear hb hT T3 B3
      go_wp2_with fail
      refine (look_any (n0 := w.heap.size) _ T4.out (Nat.le_refl _)).mono ?_
      rintro e w5 ⟨rfl, hT, hb, _⟩
      rw [V2.out]
      have B5 := Aside0.mk (B4.out.trans hb)
      clear hb hT T4 B4
      go_wp2_with fail
      go_ret
      exact ⟨rfl, B5.out⟩

theorem turn (t q p l : Int) (ht : 0 ≤ t ∧ t < 256) (hq : 0 ≤ q ∧ q < 65536) (hp : 0 ≤ p ∧ p < 65536) (hl : 0 ≤ l ∧ l < 65536) (w : World) :
    Calls Try.prog 6 #[.int .u8 t, .int .u16 q, .int .u16 p, .int .u16 l] w fun e w' => e = .returned (.bool true) ∧ Below w.heap.size w w' := by
  have e : t % 3 = 0 ∨ t % 3 = 1 ∨ t % 3 = 2 := by omega
  rcases e with e | e | e
  · exact turn1 t q p l ht hq hp hl e w
  · exact turn2 t q p l ht hq hp hl e w
  · exact turn3 t q p l ht hq hp hl e w
end Go.Proofs.Ytfldkfccdjdofaa.Tile
