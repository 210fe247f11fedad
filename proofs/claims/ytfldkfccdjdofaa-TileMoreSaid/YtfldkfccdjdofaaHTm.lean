/- TileMore: the walk. -/
import Derived.Test.YtfldkfccdjdofaaHTc
namespace Go.Proofs.Ytfldkfccdjdofaa.Tile
open Go.RowKit Go.Proofs.YtfldkfccdjdofaaW.PrintWords Go.Proofs.YtfldkfccdjdofaaW.PrintLast Go.Proofs.YtfldkfccdjdofaaW.PrintMore
set_option linter.unusedVariables false
set_option linter.unusedSimpArgs false
set_option maxRecDepth 100000 in
set_option maxHeartbeats 4000000 in
theorem more1 (t q p l x : Int) (ht : 0 ≤ t ∧ t < 256) (hq : 0 ≤ q ∧ q < 65536) (hp : 0 ≤ p ∧ p < 65536) (hl : 0 ≤ l ∧ l < 65536) (hx : 0 ≤ x ∧ x < 256) (h3 : t % 3 = 0) (w : World) :
    Calls Try.prog 7 #[.int .u8 t, .int .u16 q, .int .u16 p, .int .u16 l, .int .u8 x] w fun e w' => e = .returned (.bool true) ∧ Below w.heap.size w w' := by
  obtain ⟨t0, t1⟩ := ht
  obtain ⟨q0, q1⟩ := hq
  obtain ⟨p0, p1⟩ := hp
  obtain ⟨l0, l1⟩ := hl
  obtain ⟨x0, x1⟩ := hx
  obtain ⟨n, hn⟩ := Int.eq_ofNat_of_zero_le (show 0 ≤ q % 2 by omega)
  have hnQ : n < 2 := by omega
  obtain ⟨k, hk⟩ := Int.eq_ofNat_of_zero_le (show 0 ≤ x % 1 by omega)
  have hkS : k < 1 := by omega
  have hmb := more_bit n k (by omega) (by omega)
  have hM : n ||| 2 ^ k < 2 := Nat.or_lt_two_pow (n := 1) hnQ (Nat.pow_lt_pow_right (by decide) hkS)
  obtain ⟨M, eM⟩ : ∃ M, M = n ||| 2 ^ k := ⟨_, rfl⟩
  rw [← eM] at hmb hM
  have hw : IntKind.i64.wrap (2 ^ k) = 2 ^ k := by
    have h2 : (2 ^ k : Nat) < 2 ^ 9 := Nat.pow_lt_pow_right (by decide) (by omega)
    have e2 : ((2 ^ k : Nat) : Int) = 2 ^ k := by simp
    rw [← e2]
    exact wr (Int.le_trans (by decide) (Int.natCast_nonneg (2 ^ k))) (Int.lt_trans (Int.ofNat_lt.mpr h2) (by decide))
  have hor := hmb.1
  have e0 : k = 0 := by omega
  subst e0
  have hor1 : bits .or .i64 (n : Int) 1 = (M : Int) := hor
  have nL := right_law (t := 1) (l := l % 2) (by decide) (show 0 ≤ l % 2 ∧ l % 2 < 2 by omega)
  have nP := none_law (t := 1) (p := p % 2) (by omega)
  have hge := more_law (t := 1) (q := (n : Int)) (q' := (M : Int)) (p := p % 2) (l := l % 2) (by decide) (show 0 ≤ p % 2 ∧ p % 2 < 2 by omega) (show 0 ≤ l % 2 ∧ l % 2 < 2 by omega) hmb.2.2
  have hv : ∀ z : Int, 0 ≤ z → z < 2 → lookV 1 z (p % 2) (l % 2) = (bot 1 z (p % 2) (l % 2) 1, rig 1 z (p % 2) (l % 2) 1, 0) := by
    intro z hz0 hz1
    unfold lookV
    exact if_pos (show 0 ≤ z ∧ z < 2 ∧ 0 ≤ p % 2 ∧ p % 2 < 2 ∧ 0 ≤ l % 2 ∧ l % 2 < 2 by omega)
  have hv1 := hv (n : Int) (by omega) (by omega)
  have hv2 := hv (M : Int) (by omega) (by omega)
  have hv3 : lookV 1 0 (p % 2) 0 = (bot 1 0 (p % 2) 0 1, rig 1 0 (p % 2) 0 1, 0) := by
    unfold lookV
    exact if_pos (show (0 : Int) ≤ 0 ∧ (0 : Int) < 2 ∧ 0 ≤ p % 2 ∧ p % 2 < 2 ∧ (0 : Int) ≤ 0 ∧ (0 : Int) < 2 by omega)
  have hv4 : lookV 1 0 0 (l % 2) = (bot 1 0 0 (l % 2) 1, rig 1 0 0 (l % 2) 1, 0) := by
    unfold lookV
    exact if_pos (show (0 : Int) ≤ 0 ∧ (0 : Int) < 2 ∧ (0 : Int) ≤ 0 ∧ (0 : Int) < 2 ∧ 0 ≤ l % 2 ∧ l % 2 < 2 by omega)
  rw [nP] at hv3
  rw [nL.1, nL.2] at hv4
  have hr1 := rig_bd (t := 1) (q := (n : Int)) (p := p % 2) (l := l % 2) (by omega) (by omega)
  have hr2 := rig_bd (t := 1) (q := (M : Int)) (p := p % 2) (l := l % 2) (by omega) (by omega)
  obtain ⟨b1, e1⟩ : ∃ b1, b1 = bot 1 (n : Int) (p % 2) (l % 2) 1 := ⟨_, rfl⟩
  obtain ⟨r1, e2⟩ : ∃ r1, r1 = rig 1 (n : Int) (p % 2) (l % 2) 1 := ⟨_, rfl⟩
  obtain ⟨b2, e3⟩ : ∃ b2, b2 = bot 1 (M : Int) (p % 2) (l % 2) 1 := ⟨_, rfl⟩
  obtain ⟨r2, e4⟩ : ∃ r2, r2 = rig 1 (M : Int) (p % 2) (l % 2) 1 := ⟨_, rfl⟩
  obtain ⟨b3, e5⟩ : ∃ b3, b3 = bot 1 0 (p % 2) 0 1 := ⟨_, rfl⟩
  rw [← e1, ← e2] at hv1
  rw [← e3, ← e4] at hv2
  rw [← e5] at hv3
  rw [← e2] at hr1
  rw [← e4] at hr2
  rw [← e2, ← e4] at hge
  have hr1 : 0 ≤ r1 ∧ r1 < 2 := hr1
  have hr2 : 0 ≤ r2 ∧ r2 < 2 := hr2
  have V1 := Aside0.mk hv1
  have V2 := Aside0.mk hv2
  have V3 := Aside0.mk hv3
  have V4 := Aside0.mk hv4
  have GE := Aside0.mk hge
  obtain ⟨r10, r11⟩ := hr1
  obtain ⟨r20, r21⟩ := hr2
  clear e1 e2 e3 e4 e5 hv hv1 hv2 hv3 hv4 hge nL nP hmb eM
  go_enter Try.func7, Try.ntmps7
  go_wp2_with fail
  refine (of_ok (t := 1) (by decide) _).mono ?_
  rintro e w' ⟨rfl, rfl⟩
  have T1 := Aside0.mk (Tl.new (t := 1) (by decide) w)
  have B1 := Aside0.mk (below_alloc (Below.refl w.heap.size w) (.cells (blk 1 0 0 (.slice none 0 0)) 52))
  generalize (w.alloc (.cells (blk 1 0 0 (.slice none 0 0)) 52)) = w1 at T1 B1 ⊢
  go_wp2_with fail
  refine (awake w1).mono ?_
  rintro e w2 ⟨rfl, hb⟩
  have T2 := Aside0.mk (T1.out.below hb)
  have B2 := Aside0.mk (B1.out.trans (hb.mono B1.out.size))
  clear hb T1 B1
  go_wp2_with fail
  go_quiet (fail)
  go_wp2_with fail
  refine (look_any (n0 := w.heap.size) _ (T2.out.below (pw_below_drewN (Below.refl _ _) _)) (Nat.le_refl _)).mono ?_
  rintro e w3 ⟨rfl, hT, hb, _⟩
  rw [V1.out]
  have T3 := Aside0.mk hT
  have B3 := Aside0.mk (B2.out.trans ((pw_below_drewN (Below.refl _ _) _).trans hb))
  clear hb hT T2 B2
  go_wp2_with fail
  refine (look_any (n0 := w.heap.size) _ T3.out (Nat.le_refl _)).mono ?_
  rintro e w4 ⟨rfl, hT, hb, _⟩
  rw [V2.out]
  have T4 := Aside0.mk hT
  have B4 := Aside0.mk (B3.out.trans hb)
  clear hb hT T3 B3
  go_wp2_with fail
  refine (look_any (n0 := w.heap.size) _ T4.out (Nat.le_refl _)).mono ?_
  rintro e w5 ⟨rfl, hT, hb, _⟩
  rw [V3.out]
  have T5 := Aside0.mk hT
  have B5 := Aside0.mk (B4.out.trans hb)
  clear hb hT T4 B4
  go_wp2_with fail
  refine (look_any (n0 := w.heap.size) _ T5.out (Nat.le_refl _)).mono ?_
  rintro e w6 ⟨rfl, hT, hb, _⟩
  rw [V4.out]
  have T6 := Aside0.mk hT
  have B6 := Aside0.mk (B5.out.trans hb)
  clear hb hT T5 B5
  go_wp2_with fail
  have u1 := onesK_bd r2 (by omega) (by omega) 62
  have u2 := onesK_bd r1 (by omega) (by omega) 62
  have hs := GE.out
  have c1 := (ones_ok r2 (by omega) (by omega) w6)
  have c2 := (ones_ok r1 (by omega) (by omega) w6)
  obtain ⟨y1, e1⟩ : ∃ y1, y1 = ones r2 := ⟨_, rfl⟩
  obtain ⟨y2, e2⟩ : ∃ y2, y2 = ones r1 := ⟨_, rfl⟩
  rw [← e1, ← e2] at hs
  rw [← e1] at c1
  rw [← e2] at c2
  have C2 := Aside0.mk c2
  have hge : decide (y2 ≤ y1) = true := by simpa using hs
  clear e1 e2 u1 u2 GE c2
  refine c1.mono ?_
  rintro e w' ⟨rfl, rfl⟩
  clear c1
  go_wp2_with fail
  refine C2.out.mono ?_
  rintro e w' ⟨rfl, rfl⟩
  go_wp2_with fail
  go_ret
  exact ⟨rfl, B6.out⟩

set_option maxRecDepth 100000 in
set_option maxHeartbeats 4000000 in
theorem more2 (t q p l x : Int) (ht : 0 ≤ t ∧ t < 256) (hq : 0 ≤ q ∧ q < 65536) (hp : 0 ≤ p ∧ p < 65536) (hl : 0 ≤ l ∧ l < 65536) (hx : 0 ≤ x ∧ x < 256) (h3 : t % 3 = 1) (w : World) :
    Calls Try.prog 7 #[.int .u8 t, .int .u16 q, .int .u16 p, .int .u16 l, .int .u8 x] w fun e w' => e = .returned (.bool true) ∧ Below w.heap.size w w' := by
  obtain ⟨t0, t1⟩ := ht
  obtain ⟨q0, q1⟩ := hq
  obtain ⟨p0, p1⟩ := hp
  obtain ⟨l0, l1⟩ := hl
  obtain ⟨x0, x1⟩ := hx
  obtain ⟨n, hn⟩ := Int.eq_ofNat_of_zero_le (show 0 ≤ q % 16 by omega)
  have hnQ : n < 16 := by omega
  obtain ⟨k, hk⟩ := Int.eq_ofNat_of_zero_le (show 0 ≤ x % 4 by omega)
  have hkS : k < 4 := by omega
  have hmb := more_bit n k (by omega) (by omega)
  have hM : n ||| 2 ^ k < 16 := Nat.or_lt_two_pow (n := 4) hnQ (Nat.pow_lt_pow_right (by decide) hkS)
  obtain ⟨M, eM⟩ : ∃ M, M = n ||| 2 ^ k := ⟨_, rfl⟩
  rw [← eM] at hmb hM
  have hw : IntKind.i64.wrap (2 ^ k) = 2 ^ k := by
    have h2 : (2 ^ k : Nat) < 2 ^ 9 := Nat.pow_lt_pow_right (by decide) (by omega)
    have e2 : ((2 ^ k : Nat) : Int) = 2 ^ k := by simp
    rw [← e2]
    exact wr (Int.le_trans (by decide) (Int.natCast_nonneg (2 ^ k))) (Int.lt_trans (Int.ofNat_lt.mpr h2) (by decide))
  have hor := hmb.1
  have nL := right_law (t := 2) (l := l % 4) (by decide) (show 0 ≤ l % 4 ∧ l % 4 < 4 by omega)
  have nP := none_law (t := 2) (p := p % 4) (by omega)
  have hge := more_law (t := 2) (q := (n : Int)) (q' := (M : Int)) (p := p % 4) (l := l % 4) (by decide) (show 0 ≤ p % 4 ∧ p % 4 < 4 by omega) (show 0 ≤ l % 4 ∧ l % 4 < 4 by omega) hmb.2.2
  have hv : ∀ z : Int, 0 ≤ z → z < 16 → lookV 2 z (p % 4) (l % 4) = (bot 2 z (p % 4) (l % 4) 2, rig 2 z (p % 4) (l % 4) 2, 0) := by
    intro z hz0 hz1
    unfold lookV
    exact if_pos (show 0 ≤ z ∧ z < 16 ∧ 0 ≤ p % 4 ∧ p % 4 < 4 ∧ 0 ≤ l % 4 ∧ l % 4 < 4 by omega)
  have hv1 := hv (n : Int) (by omega) (by omega)
  have hv2 := hv (M : Int) (by omega) (by omega)
  have hv3 : lookV 2 0 (p % 4) 0 = (bot 2 0 (p % 4) 0 2, rig 2 0 (p % 4) 0 2, 0) := by
    unfold lookV
    exact if_pos (show (0 : Int) ≤ 0 ∧ (0 : Int) < 16 ∧ 0 ≤ p % 4 ∧ p % 4 < 4 ∧ (0 : Int) ≤ 0 ∧ (0 : Int) < 4 by omega)
  have hv4 : lookV 2 0 0 (l % 4) = (bot 2 0 0 (l % 4) 2, rig 2 0 0 (l % 4) 2, 0) := by
    unfold lookV
    exact if_pos (show (0 : Int) ≤ 0 ∧ (0 : Int) < 16 ∧ (0 : Int) ≤ 0 ∧ (0 : Int) < 4 ∧ 0 ≤ l % 4 ∧ l % 4 < 4 by omega)
  rw [nP] at hv3
  rw [nL.1, nL.2] at hv4
  have hr1 := rig_bd (t := 2) (q := (n : Int)) (p := p % 4) (l := l % 4) (by omega) (by omega)
  have hr2 := rig_bd (t := 2) (q := (M : Int)) (p := p % 4) (l := l % 4) (by omega) (by omega)
  obtain ⟨b1, e1⟩ : ∃ b1, b1 = bot 2 (n : Int) (p % 4) (l % 4) 2 := ⟨_, rfl⟩
  obtain ⟨r1, e2⟩ : ∃ r1, r1 = rig 2 (n : Int) (p % 4) (l % 4) 2 := ⟨_, rfl⟩
  obtain ⟨b2, e3⟩ : ∃ b2, b2 = bot 2 (M : Int) (p % 4) (l % 4) 2 := ⟨_, rfl⟩
  obtain ⟨r2, e4⟩ : ∃ r2, r2 = rig 2 (M : Int) (p % 4) (l % 4) 2 := ⟨_, rfl⟩
  obtain ⟨b3, e5⟩ : ∃ b3, b3 = bot 2 0 (p % 4) 0 2 := ⟨_, rfl⟩
  rw [← e1, ← e2] at hv1
  rw [← e3, ← e4] at hv2
  rw [← e5] at hv3
  rw [← e2] at hr1
  rw [← e4] at hr2
  rw [← e2, ← e4] at hge
  have hr1 : 0 ≤ r1 ∧ r1 < 4 := hr1
  have hr2 : 0 ≤ r2 ∧ r2 < 4 := hr2
  have V1 := Aside0.mk hv1
  have V2 := Aside0.mk hv2
  have V3 := Aside0.mk hv3
  have V4 := Aside0.mk hv4
  have GE := Aside0.mk hge
  obtain ⟨r10, r11⟩ := hr1
  obtain ⟨r20, r21⟩ := hr2
  clear e1 e2 e3 e4 e5 hv hv1 hv2 hv3 hv4 hge nL nP hmb eM
  go_enter Try.func7, Try.ntmps7
  go_wp2_with fail
  refine (of_ok (t := 2) (by decide) _).mono ?_
  rintro e w' ⟨rfl, rfl⟩
  have T1 := Aside0.mk (Tl.new (t := 2) (by decide) w)
  have B1 := Aside0.mk (below_alloc (Below.refl w.heap.size w) (.cells (blk 2 0 0 (.slice none 0 0)) 52))
  generalize (w.alloc (.cells (blk 2 0 0 (.slice none 0 0)) 52)) = w1 at T1 B1 ⊢
  go_wp2_with fail
  refine (awake w1).mono ?_
  rintro e w2 ⟨rfl, hb⟩
  have T2 := Aside0.mk (T1.out.below hb)
  have B2 := Aside0.mk (B1.out.trans (hb.mono B1.out.size))
  clear hb T1 B1
  go_wp2_with fail
  go_quiet (fail)
  go_wp2_with fail
  refine (look_any (n0 := w.heap.size) _ (T2.out.below (pw_below_drewN (Below.refl _ _) _)) (Nat.le_refl _)).mono ?_
  rintro e w3 ⟨rfl, hT, hb, _⟩
  rw [V1.out]
  have T3 := Aside0.mk hT
  have B3 := Aside0.mk (B2.out.trans ((pw_below_drewN (Below.refl _ _) _).trans hb))
  clear hb hT T2 B2
  go_wp2_with fail
  refine (look_any (n0 := w.heap.size) _ T3.out (Nat.le_refl _)).mono ?_
  rintro e w4 ⟨rfl, hT, hb, _⟩
  rw [V2.out]
  have T4 := Aside0.mk hT
  have B4 := Aside0.mk (B3.out.trans hb)
  clear hb hT T3 B3
  go_wp2_with fail
  refine (look_any (n0 := w.heap.size) _ T4.out (Nat.le_refl _)).mono ?_
  rintro e w5 ⟨rfl, hT, hb, _⟩
  rw [V3.out]
  have T5 := Aside0.mk hT
  have B5 := Aside0.mk (B4.out.trans hb)
  clear hb hT T4 B4
  go_wp2_with fail
  refine (look_any (n0 := w.heap.size) _ T5.out (Nat.le_refl _)).mono ?_
  rintro e w6 ⟨rfl, hT, hb, _⟩
  rw [V4.out]
  have T6 := Aside0.mk hT
  have B6 := Aside0.mk (B5.out.trans hb)
  clear hb hT T5 B5
  go_wp2_with fail
  have u1 := onesK_bd r2 (by omega) (by omega) 62
  have u2 := onesK_bd r1 (by omega) (by omega) 62
  have hs := GE.out
  have c1 := (ones_ok r2 (by omega) (by omega) w6)
  have c2 := (ones_ok r1 (by omega) (by omega) w6)
  obtain ⟨y1, e1⟩ : ∃ y1, y1 = ones r2 := ⟨_, rfl⟩
  obtain ⟨y2, e2⟩ : ∃ y2, y2 = ones r1 := ⟨_, rfl⟩
  rw [← e1, ← e2] at hs
  rw [← e1] at c1
  rw [← e2] at c2
  have C2 := Aside0.mk c2
  have hge : decide (y2 ≤ y1) = true := by simpa using hs
  clear e1 e2 u1 u2 GE c2
  refine c1.mono ?_
  rintro e w' ⟨rfl, rfl⟩
  clear c1
  go_wp2_with fail
  refine C2.out.mono ?_
  rintro e w' ⟨rfl, rfl⟩
  go_wp2_with fail
  go_ret
  exact ⟨rfl, B6.out⟩

set_option maxRecDepth 100000 in
set_option maxHeartbeats 4000000 in
theorem more3 (t q p l x : Int) (ht : 0 ≤ t ∧ t < 256) (hq : 0 ≤ q ∧ q < 65536) (hp : 0 ≤ p ∧ p < 65536) (hl : 0 ≤ l ∧ l < 65536) (hx : 0 ≤ x ∧ x < 256) (h3 : t % 3 = 2) (w : World) :
    Calls Try.prog 7 #[.int .u8 t, .int .u16 q, .int .u16 p, .int .u16 l, .int .u8 x] w fun e w' => e = .returned (.bool true) ∧ Below w.heap.size w w' := by
  obtain ⟨t0, t1⟩ := ht
  obtain ⟨q0, q1⟩ := hq
  obtain ⟨p0, p1⟩ := hp
  obtain ⟨l0, l1⟩ := hl
  obtain ⟨x0, x1⟩ := hx
  obtain ⟨n, hn⟩ := Int.eq_ofNat_of_zero_le (show 0 ≤ q % 512 by omega)
  have hnQ : n < 512 := by omega
  obtain ⟨k, hk⟩ := Int.eq_ofNat_of_zero_le (show 0 ≤ x % 9 by omega)
  have hkS : k < 9 := by omega
  have hmb := more_bit n k (by omega) (by omega)
  have hM : n ||| 2 ^ k < 512 := Nat.or_lt_two_pow (n := 9) hnQ (Nat.pow_lt_pow_right (by decide) hkS)
  obtain ⟨M, eM⟩ : ∃ M, M = n ||| 2 ^ k := ⟨_, rfl⟩
  rw [← eM] at hmb hM
  have hw : IntKind.i64.wrap (2 ^ k) = 2 ^ k := by
    have h2 : (2 ^ k : Nat) < 2 ^ 9 := Nat.pow_lt_pow_right (by decide) (by omega)
    have e2 : ((2 ^ k : Nat) : Int) = 2 ^ k := by simp
    rw [← e2]
    exact wr (Int.le_trans (by decide) (Int.natCast_nonneg (2 ^ k))) (Int.lt_trans (Int.ofNat_lt.mpr h2) (by decide))
  have hor := hmb.1
  have nL := right_law (t := 3) (l := l % 8) (by decide) (show 0 ≤ l % 8 ∧ l % 8 < 8 by omega)
  have nP := none_law (t := 3) (p := p % 8) (by omega)
  have hge := more_law (t := 3) (q := (n : Int)) (q' := (M : Int)) (p := p % 8) (l := l % 8) (by decide) (show 0 ≤ p % 8 ∧ p % 8 < 8 by omega) (show 0 ≤ l % 8 ∧ l % 8 < 8 by omega) hmb.2.2
  have hv : ∀ z : Int, 0 ≤ z → z < 512 → lookV 3 z (p % 8) (l % 8) = (bot 3 z (p % 8) (l % 8) 3, rig 3 z (p % 8) (l % 8) 3, 0) := by
    intro z hz0 hz1
    unfold lookV
    exact if_pos (show 0 ≤ z ∧ z < 512 ∧ 0 ≤ p % 8 ∧ p % 8 < 8 ∧ 0 ≤ l % 8 ∧ l % 8 < 8 by omega)
  have hv1 := hv (n : Int) (by omega) (by omega)
  have hv2 := hv (M : Int) (by omega) (by omega)
  have hv3 : lookV 3 0 (p % 8) 0 = (bot 3 0 (p % 8) 0 3, rig 3 0 (p % 8) 0 3, 0) := by
    unfold lookV
    exact if_pos (show (0 : Int) ≤ 0 ∧ (0 : Int) < 512 ∧ 0 ≤ p % 8 ∧ p % 8 < 8 ∧ (0 : Int) ≤ 0 ∧ (0 : Int) < 8 by omega)
  have hv4 : lookV 3 0 0 (l % 8) = (bot 3 0 0 (l % 8) 3, rig 3 0 0 (l % 8) 3, 0) := by
    unfold lookV
    exact if_pos (show (0 : Int) ≤ 0 ∧ (0 : Int) < 512 ∧ (0 : Int) ≤ 0 ∧ (0 : Int) < 8 ∧ 0 ≤ l % 8 ∧ l % 8 < 8 by omega)
  rw [nP] at hv3
  rw [nL.1, nL.2] at hv4
  have hr1 := rig_bd (t := 3) (q := (n : Int)) (p := p % 8) (l := l % 8) (by omega) (by omega)
  have hr2 := rig_bd (t := 3) (q := (M : Int)) (p := p % 8) (l := l % 8) (by omega) (by omega)
  obtain ⟨b1, e1⟩ : ∃ b1, b1 = bot 3 (n : Int) (p % 8) (l % 8) 3 := ⟨_, rfl⟩
  obtain ⟨r1, e2⟩ : ∃ r1, r1 = rig 3 (n : Int) (p % 8) (l % 8) 3 := ⟨_, rfl⟩
  obtain ⟨b2, e3⟩ : ∃ b2, b2 = bot 3 (M : Int) (p % 8) (l % 8) 3 := ⟨_, rfl⟩
  obtain ⟨r2, e4⟩ : ∃ r2, r2 = rig 3 (M : Int) (p % 8) (l % 8) 3 := ⟨_, rfl⟩
  obtain ⟨b3, e5⟩ : ∃ b3, b3 = bot 3 0 (p % 8) 0 3 := ⟨_, rfl⟩
  rw [← e1, ← e2] at hv1
  rw [← e3, ← e4] at hv2
  rw [← e5] at hv3
  rw [← e2] at hr1
  rw [← e4] at hr2
  rw [← e2, ← e4] at hge
  have hr1 : 0 ≤ r1 ∧ r1 < 8 := hr1
  have hr2 : 0 ≤ r2 ∧ r2 < 8 := hr2
  have V1 := Aside0.mk hv1
  have V2 := Aside0.mk hv2
  have V3 := Aside0.mk hv3
  have V4 := Aside0.mk hv4
  have GE := Aside0.mk hge
  obtain ⟨r10, r11⟩ := hr1
  obtain ⟨r20, r21⟩ := hr2
  clear e1 e2 e3 e4 e5 hv hv1 hv2 hv3 hv4 hge nL nP hmb eM
  go_enter Try.func7, Try.ntmps7
  go_wp2_with fail
  refine (of_ok (t := 3) (by decide) _).mono ?_
  rintro e w' ⟨rfl, rfl⟩
  have T1 := Aside0.mk (Tl.new (t := 3) (by decide) w)
  have B1 := Aside0.mk (below_alloc (Below.refl w.heap.size w) (.cells (blk 3 0 0 (.slice none 0 0)) 52))
  generalize (w.alloc (.cells (blk 3 0 0 (.slice none 0 0)) 52)) = w1 at T1 B1 ⊢
  go_wp2_with fail
  refine (awake w1).mono ?_
  rintro e w2 ⟨rfl, hb⟩
  have T2 := Aside0.mk (T1.out.below hb)
  have B2 := Aside0.mk (B1.out.trans (hb.mono B1.out.size))
  clear hb T1 B1
  go_wp2_with fail
  go_quiet (fail)
  go_wp2_with fail
  refine (look_any (n0 := w.heap.size) _ (T2.out.below (pw_below_drewN (Below.refl _ _) _)) (Nat.le_refl _)).mono ?_
  rintro e w3 ⟨rfl, hT, hb, _⟩
  rw [V1.out]
  have T3 := Aside0.mk hT
  have B3 := Aside0.mk (B2.out.trans ((pw_below_drewN (Below.refl _ _) _).trans hb))
  clear hb hT T2 B2
  go_wp2_with fail
  refine (look_any (n0 := w.heap.size) _ T3.out (Nat.le_refl _)).mono ?_
  rintro e w4 ⟨rfl, hT, hb, _⟩
  rw [V2.out]
  have T4 := Aside0.mk hT
  have B4 := Aside0.mk (B3.out.trans hb)
  clear hb hT T3 B3
  go_wp2_with fail
  refine (look_any (n0 := w.heap.size) _ T4.out (Nat.le_refl _)).mono ?_
  rintro e w5 ⟨rfl, hT, hb, _⟩
  rw [V3.out]
  have T5 := Aside0.mk hT
  have B5 := Aside0.mk (B4.out.trans hb)
  clear hb hT T4 B4
  go_wp2_with fail
  refine (look_any (n0 := w.heap.size) _ T5.out (Nat.le_refl _)).mono ?_
  rintro e w6 ⟨rfl, hT, hb, _⟩
  rw [V4.out]
  have T6 := Aside0.mk hT
  have B6 := Aside0.mk (B5.out.trans hb)
  clear hb hT T5 B5
  go_wp2_with fail
  have u1 := onesK_bd r2 (by omega) (by omega) 62
  have u2 := onesK_bd r1 (by omega) (by omega) 62
  have hs := GE.out
  have c1 := (ones_ok r2 (by omega) (by omega) w6)
  have c2 := (ones_ok r1 (by omega) (by omega) w6)
  obtain ⟨y1, e1⟩ : ∃ y1, y1 = ones r2 := ⟨_, rfl⟩
  obtain ⟨y2, e2⟩ : ∃ y2, y2 = ones r1 := ⟨_, rfl⟩
  rw [← e1, ← e2] at hs
  rw [← e1] at c1
  rw [← e2] at c2
  have C2 := Aside0.mk c2
  have hge : decide (y2 ≤ y1) = true := by simpa using hs
  clear e1 e2 u1 u2 GE c2
  refine c1.mono ?_
  rintro e w' ⟨rfl, rfl⟩
  clear c1
  go_wp2_with fail
  refine C2.out.mono ?_
  rintro e w' ⟨rfl, rfl⟩
  go_wp2_with fail
  go_ret
  exact ⟨rfl, B6.out⟩

theorem more (t q p l x : Int) (ht : 0 ≤ t ∧ t < 256) (hq : 0 ≤ q ∧ q < 65536) (hp : 0 ≤ p ∧ p < 65536) (hl : 0 ≤ l ∧ l < 65536) (hx : 0 ≤ x ∧ x < 256) (w : World) :
    Calls Try.prog 7 #[.int .u8 t, .int .u16 q, .int .u16 p, .int .u16 l, .int .u8 x] w fun e w' => e = .returned (.bool true) ∧ Below w.heap.size w w' := by
  have e : t % 3 = 0 ∨ t % 3 = 1 ∨ t % 3 = 2 := by omega
  rcases e with e | e | e
  · exact more1 t q p l x ht hq hp hl hx e w
  · exact more2 t q p l x ht hq hp hl hx e w
  · exact more3 t q p l x ht hq hp hl hx e w
end Go.Proofs.Ytfldkfccdjdofaa.Tile
