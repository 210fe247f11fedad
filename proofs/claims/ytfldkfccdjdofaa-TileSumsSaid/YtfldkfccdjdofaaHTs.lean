/- TileSums: the walk. -/
import Derived.Test.YtfldkfccdjdofaaHTc
namespace Go.Proofs.Ytfldkfccdjdofaa.Tile
open Go.RowKit Go.Proofs.YtfldkfccdjdofaaW.PrintWords Go.Proofs.YtfldkfccdjdofaaW.PrintLast Go.Proofs.YtfldkfccdjdofaaW.PrintMore
set_option linter.unusedVariables false
set_option linter.unusedSimpArgs false
set_option maxRecDepth 100000 in
set_option maxHeartbeats 4000000 in
theorem sums1 (t q p l : Int) (ht : 0 ≤ t ∧ t < 256) (hq : 0 ≤ q ∧ q < 65536) (hp : 0 ≤ p ∧ p < 65536) (hl : 0 ≤ l ∧ l < 65536) (h3 : t % 3 = 0) (w : World) :
    Calls Try.prog 5 #[.int .u8 t, .int .u16 q, .int .u16 p, .int .u16 l] w fun e w' => e = .returned (.bool true) ∧ Below w.heap.size w w' := by
  obtain ⟨t0, t1⟩ := ht
  obtain ⟨q0, q1⟩ := hq
  obtain ⟨p0, p1⟩ := hp
  obtain ⟨l0, l1⟩ := hl
  have hs := sums_law (t := 1) (q := q % 2) (p := p % 2) (l := l % 2) (by decide) (show 0 ≤ p % 2 ∧ p % 2 < 2 by omega) (show 0 ≤ l % 2 ∧ l % 2 < 2 by omega)
  have hv : lookV 1 (q % 2) (p % 2) (l % 2) = (bot 1 (q % 2) (p % 2) (l % 2) 1, rig 1 (q % 2) (p % 2) (l % 2) 1, 0) := by
    unfold lookV
    exact if_pos (show 0 ≤ q % 2 ∧ q % 2 < 2 ∧ 0 ≤ p % 2 ∧ p % 2 < 2 ∧ 0 ≤ l % 2 ∧ l % 2 < 2 by omega)
  have hb1 := bot_bd (t := 1) (q := q % 2) (p := p % 2) (l := l % 2) (by omega) (by omega)
  have hr1 := rig_bd (t := 1) (q := q % 2) (p := p % 2) (l := l % 2) (by omega) (by omega)
  obtain ⟨bo, hbo⟩ : ∃ bo, bo = bot 1 (q % 2) (p % 2) (l % 2) 1 := ⟨_, rfl⟩
  obtain ⟨ri, hri⟩ : ∃ ri, ri = rig 1 (q % 2) (p % 2) (l % 2) 1 := ⟨_, rfl⟩
  rw [← hbo, ← hri] at hs hv
  rw [← hbo] at hb1
  rw [← hri] at hr1
  have HV := Aside0.mk hv
  have HS := Aside0.mk hs
  have hb1 : 0 ≤ bo ∧ bo < 2 := hb1
  have hr1 : 0 ≤ ri ∧ ri < 2 := hr1
  obtain ⟨b0, b1⟩ := hb1
  obtain ⟨r0, r1⟩ := hr1
  clear hbo hri hs hv
  go_enter Try.func5, Try.ntmps5
  go_wp2_with fail
  refine (of_ok (t := 1) (by decide) _).mono ?_
  rintro e w' ⟨rfl, rfl⟩
  have T1 := Aside0.mk (Tl.new (t := 1) (by decide) w)
  have B1 := Aside0.mk (below_alloc (Below.refl w.heap.size w) (.cells (blk 1 0 0 (.slice none 0 0)) 52))
  generalize (w.alloc (.cells (blk 1 0 0 (.slice none 0 0)) 52)) = w1 at T1 B1 ⊢
  go_wp2_with fail
  refine (awake w1).mono ?_
  rintro e w2 ⟨rfl, hb⟩
  have T2 := Aside0.mk (T1.out.below hb)
  have B2 := Aside0.mk (B1.out.trans (hb.mono B1.out.size))
  clear hb T1 B1
  go_wp2_with fail
  go_quiet (fail)
  go_wp2_with fail
  refine (look_any (n0 := w.heap.size) _ (T2.out.below (pw_below_drewN (Below.refl _ _) _)) (Nat.le_refl _)).mono ?_
  rintro e w3 ⟨rfl, _, hb, _⟩
  rw [HV.out]
  have B3 := Aside0.mk (B2.out.trans ((pw_below_drewN (Below.refl _ _) _).trans hb))
  clear hb T2 B2
  go_wp2_with fail
  refine (ones_ok (p % 2) (by omega) (by omega) w3).mono ?_
  rintro e w' ⟨rfl, rfl⟩
  go_wp2_with fail
  refine (ones_ok ri (by omega) (by omega) w3).mono ?_
  rintro e w' ⟨rfl, rfl⟩
  have u1 := onesK_bd (p % 2) (by omega) (by omega) 62
  have u2 := onesK_bd ri (by omega) (by omega) 62
  have u3 := onesK_bd (l % 2) (by omega) (by omega) 62
  have u4 := onesK_bd bo (by omega) (by omega) 62
  have hs := HS.out
  obtain ⟨x1, e1⟩ : ∃ x1, x1 = ones (p % 2) := ⟨_, rfl⟩
  obtain ⟨x2, e2⟩ : ∃ x2, x2 = ones ri := ⟨_, rfl⟩
  obtain ⟨x3, e3⟩ : ∃ x3, x3 = ones (l % 2) := ⟨_, rfl⟩
  obtain ⟨x4, e4⟩ : ∃ x4, x4 = ones bo := ⟨_, rfl⟩
  replace u1 : 0 ≤ x1 ∧ x1 ≤ 62 := by rw [e1]; exact u1
  replace u2 : 0 ≤ x2 ∧ x2 ≤ 62 := by rw [e2]; exact u2
  replace u3 : 0 ≤ x3 ∧ x3 ≤ 62 := by rw [e3]; exact u3
  replace u4 : 0 ≤ x4 ∧ x4 ≤ 62 := by rw [e4]; exact u4
  have c3 := (ones_ok (l % 2) (by omega) (by omega) w3)
  have c4 := (ones_ok bo (by omega) (by omega) w3)
  rw [← e1, ← e2, ← e3, ← e4] at hs
  rw [← e3] at c3
  rw [← e4] at c4
  rw [← e1, ← e2]
  have heq : (x1 + x2 == x3 + x4) = true := by rw [beq_iff_eq]; exact hs
  obtain ⟨v1, v2⟩ := u1
  obtain ⟨v3, v4⟩ := u2
  obtain ⟨v5, v6⟩ := u3
  obtain ⟨v7, v8⟩ := u4
  clear e1 e2 e3 e4 hs HS
  have C3 := Aside0.mk c3
  have C4 := Aside0.mk c4
  clear c3 c4
  go_wp2_with fail
  refine C3.out.mono ?_
  rintro e w' ⟨rfl, rfl⟩
  go_wp2_with fail
  refine C4.out.mono ?_
  rintro e w' ⟨rfl, rfl⟩
  go_wp2_with fail

  go_ret
  exact ⟨rfl, B3.out⟩
set_option maxRecDepth 100000 in
set_option maxHeartbeats 4000000 in
theorem sums2 (t q p l : Int) (ht : 0 ≤ t ∧ t < 256) (hq : 0 ≤ q ∧ q < 65536) (hp : 0 ≤ p ∧ p < 65536) (hl : 0 ≤ l ∧ l < 65536) (h3 : t % 3 = 1) (w : World) :
    Calls Try.prog 5 #[.int .u8 t, .int .u16 q, .int .u16 p, .int .u16 l] w fun e w' => e = .returned (.bool true) ∧ Below w.heap.size w w' := by
  obtain ⟨t0, t1⟩ := ht
  obtain ⟨q0, q1⟩ := hq
  obtain ⟨p0, p1⟩ := hp
  obtain ⟨l0, l1⟩ := hl
  have hs := sums_law (t := 2) (q := q % 16) (p := p % 4) (l := l % 4) (by decide) (show 0 ≤ p % 4 ∧ p % 4 < 4 by omega) (show 0 ≤ l % 4 ∧ l % 4 < 4 by omega)
  have hv : lookV 2 (q % 16) (p % 4) (l % 4) = (bot 2 (q % 16) (p % 4) (l % 4) 2, rig 2 (q % 16) (p % 4) (l % 4) 2, 0) := by
    unfold lookV
    exact if_pos (show 0 ≤ q % 16 ∧ q % 16 < 16 ∧ 0 ≤ p % 4 ∧ p % 4 < 4 ∧ 0 ≤ l % 4 ∧ l % 4 < 4 by omega)
  have hb1 := bot_bd (t := 2) (q := q % 16) (p := p % 4) (l := l % 4) (by omega) (by omega)
  have hr1 := rig_bd (t := 2) (q := q % 16) (p := p % 4) (l := l % 4) (by omega) (by omega)
  obtain ⟨bo, hbo⟩ : ∃ bo, bo = bot 2 (q % 16) (p % 4) (l % 4) 2 := ⟨_, rfl⟩
  obtain ⟨ri, hri⟩ : ∃ ri, ri = rig 2 (q % 16) (p % 4) (l % 4) 2 := ⟨_, rfl⟩
  rw [← hbo, ← hri] at hs hv
  rw [← hbo] at hb1
  rw [← hri] at hr1
  have HV := Aside0.mk hv
  have HS := Aside0.mk hs
  have hb1 : 0 ≤ bo ∧ bo < 4 := hb1
  have hr1 : 0 ≤ ri ∧ ri < 4 := hr1
  obtain ⟨b0, b1⟩ := hb1
  obtain ⟨r0, r1⟩ := hr1
  clear hbo hri hs hv
  go_enter Try.func5, Try.ntmps5
  go_wp2_with fail
  refine (of_ok (t := 2) (by decide) _).mono ?_
  rintro e w' ⟨rfl, rfl⟩
  have T1 := Aside0.mk (Tl.new (t := 2) (by decide) w)
  have B1 := Aside0.mk (below_alloc (Below.refl w.heap.size w) (.cells (blk 2 0 0 (.slice none 0 0)) 52))
  generalize (w.alloc (.cells (blk 2 0 0 (.slice none 0 0)) 52)) = w1 at T1 B1 ⊢
  go_wp2_with fail
  refine (awake w1).mono ?_
  rintro e w2 ⟨rfl, hb⟩
  have T2 := Aside0.mk (T1.out.below hb)
  have B2 := Aside0.mk (B1.out.trans (hb.mono B1.out.size))
  clear hb T1 B1
  go_wp2_with fail
  go_quiet (fail)
  go_wp2_with fail
  refine (look_any (n0 := w.heap.size) _ (T2.out.below (pw_below_drewN (Below.refl _ _) _)) (Nat.le_refl _)).mono ?_
  rintro e w3 ⟨rfl, _, hb, _⟩
  rw [HV.out]
  have B3 := Aside0.mk (B2.out.trans ((pw_below_drewN (Below.refl _ _) _).trans hb))
  clear hb T2 B2
  go_wp2_with fail
  refine (ones_ok (p % 4) (by omega) (by omega) w3).mono ?_
  rintro e w' ⟨rfl, rfl⟩
  go_wp2_with fail
  refine (ones_ok ri (by omega) (by omega) w3).mono ?_
  rintro e w' ⟨rfl, rfl⟩
  have u1 := onesK_bd (p % 4) (by omega) (by omega) 62
  have u2 := onesK_bd ri (by omega) (by omega) 62
  have u3 := onesK_bd (l % 4) (by omega) (by omega) 62
  have u4 := onesK_bd bo (by omega) (by omega) 62
  have hs := HS.out
  obtain ⟨x1, e1⟩ : ∃ x1, x1 = ones (p % 4) := ⟨_, rfl⟩
  obtain ⟨x2, e2⟩ : ∃ x2, x2 = ones ri := ⟨_, rfl⟩
  obtain ⟨x3, e3⟩ : ∃ x3, x3 = ones (l % 4) := ⟨_, rfl⟩
  obtain ⟨x4, e4⟩ : ∃ x4, x4 = ones bo := ⟨_, rfl⟩
  replace u1 : 0 ≤ x1 ∧ x1 ≤ 62 := by rw [e1]; exact u1
  replace u2 : 0 ≤ x2 ∧ x2 ≤ 62 := by rw [e2]; exact u2
  replace u3 : 0 ≤ x3 ∧ x3 ≤ 62 := by rw [e3]; exact u3
  replace u4 : 0 ≤ x4 ∧ x4 ≤ 62 := by rw [e4]; exact u4
  have c3 := (ones_ok (l % 4) (by omega) (by omega) w3)
  have c4 := (ones_ok bo (by omega) (by omega) w3)
  rw [← e1, ← e2, ← e3, ← e4] at hs
  rw [← e3] at c3
  rw [← e4] at c4
  rw [← e1, ← e2]
  have heq : (x1 + x2 == x3 + x4) = true := by rw [beq_iff_eq]; exact hs
  obtain ⟨v1, v2⟩ := u1
  obtain ⟨v3, v4⟩ := u2
  obtain ⟨v5, v6⟩ := u3
  obtain ⟨v7, v8⟩ := u4
  clear e1 e2 e3 e4 hs HS
  have C3 := Aside0.mk c3
  have C4 := Aside0.mk c4
  clear c3 c4
  go_wp2_with fail
  refine C3.out.mono ?_
  rintro e w' ⟨rfl, rfl⟩
  go_wp2_with fail
  refine C4.out.mono ?_
  rintro e w' ⟨rfl, rfl⟩
  go_wp2_with fail

  go_ret
  exact ⟨rfl, B3.out⟩
set_option maxRecDepth 100000 in
set_option maxHeartbeats 4000000 in
theorem sums3 (t q p l : Int) (ht : 0 ≤ t ∧ t < 256) (hq : 0 ≤ q ∧ q < 65536) (hp : 0 ≤ p ∧ p < 65536) (hl : 0 ≤ l ∧ l < 65536) (h3 : t % 3 = 2) (w : World) :
    Calls Try.prog 5 #[.int .u8 t, .int .u16 q, .int .u16 p, .int .u16 l] w fun e w' => e = .returned (.bool true) ∧ Below w.heap.size w w' := by
  obtain ⟨t0, t1⟩ := ht
  obtain ⟨q0, q1⟩ := hq
  obtain ⟨p0, p1⟩ := hp
  obtain ⟨l0, l1⟩ := hl
  have hs := sums_law (t := 3) (q := q % 512) (p := p % 8) (l := l % 8) (by decide) (show 0 ≤ p % 8 ∧ p % 8 < 8 by omega) (show 0 ≤ l % 8 ∧ l % 8 < 8 by omega)
  have hv : lookV 3 (q % 512) (p % 8) (l % 8) = (bot 3 (q % 512) (p % 8) (l % 8) 3, rig 3 (q % 512) (p % 8) (l % 8) 3, 0) := by
    unfold lookV
    exact if_pos (show 0 ≤ q % 512 ∧ q % 512 < 512 ∧ 0 ≤ p % 8 ∧ p % 8 < 8 ∧ 0 ≤ l % 8 ∧ l % 8 < 8 by omega)
  have hb1 := bot_bd (t := 3) (q := q % 512) (p := p % 8) (l := l % 8) (by omega) (by omega)
  have hr1 := rig_bd (t := 3) (q := q % 512) (p := p % 8) (l := l % 8) (by omega) (by omega)
  obtain ⟨bo, hbo⟩ : ∃ bo, bo = bot 3 (q % 512) (p % 8) (l % 8) 3 := ⟨_, rfl⟩
  obtain ⟨ri, hri⟩ : ∃ ri, ri = rig 3 (q % 512) (p % 8) (l % 8) 3 := ⟨_, rfl⟩
  rw [← hbo, ← hri] at hs hv
  rw [← hbo] at hb1
  rw [← hri] at hr1
  have HV := Aside0.mk hv
  have HS := Aside0.mk hs
  have hb1 : 0 ≤ bo ∧ bo < 8 := hb1
  have hr1 : 0 ≤ ri ∧ ri < 8 := hr1
  obtain ⟨b0, b1⟩ := hb1
  obtain ⟨r0, r1⟩ := hr1
  clear hbo hri hs hv
  go_enter Try.func5, Try.ntmps5
  go_wp2_with fail
  refine (of_ok (t := 3) (by decide) _).mono ?_
  rintro e w' ⟨rfl, rfl⟩
  have T1 := Aside0.mk (Tl.new (t := 3) (by decide) w)
  have B1 := Aside0.mk (below_alloc (Below.refl w.heap.size w) (.cells (blk 3 0 0 (.slice none 0 0)) 52))
  generalize (w.alloc (.cells (blk 3 0 0 (.slice none 0 0)) 52)) = w1 at T1 B1 ⊢
  go_wp2_with fail
  refine (awake w1).mono ?_
  rintro e w2 ⟨rfl, hb⟩
  have T2 := Aside0.mk (T1.out.below hb)
  have B2 := Aside0.mk (B1.out.trans (hb.mono B1.out.size))
  clear hb T1 B1
  go_wp2_with fail
  go_quiet (fail)
  go_wp2_with fail
  refine (look_any (n0 := w.heap.size) _ (T2.out.below (pw_below_drewN (Below.refl _ _) _)) (Nat.le_refl _)).mono ?_
  rintro e w3 ⟨rfl, _, hb, _⟩
  rw [HV.out]
  have B3 := Aside0.mk (B2.out.trans ((pw_below_drewN (Below.refl _ _) _).trans hb))
  clear hb T2 B2
  go_wp2_with fail
  refine (ones_ok (p % 8) (by omega) (by omega) w3).mono ?_
  rintro e w' ⟨rfl, rfl⟩
  go_wp2_with fail
  refine (ones_ok ri (by omega) (by omega) w3).mono ?_
  rintro e w' ⟨rfl, rfl⟩
  have u1 := onesK_bd (p % 8) (by omega) (by omega) 62
  have u2 := onesK_bd ri (by omega) (by omega) 62
  have u3 := onesK_bd (l % 8) (by omega) (by omega) 62
  have u4 := onesK_bd bo (by omega) (by omega) 62
  have hs := HS.out
  obtain ⟨x1, e1⟩ : ∃ x1, x1 = ones (p % 8) := ⟨_, rfl⟩
  obtain ⟨x2, e2⟩ : ∃ x2, x2 = ones ri := ⟨_, rfl⟩
  obtain ⟨x3, e3⟩ : ∃ x3, x3 = ones (l % 8) := ⟨_, rfl⟩
  obtain ⟨x4, e4⟩ : ∃ x4, x4 = ones bo := ⟨_, rfl⟩
  replace u1 : 0 ≤ x1 ∧ x1 ≤ 62 := by rw [e1]; exact u1
  replace u2 : 0 ≤ x2 ∧ x2 ≤ 62 := by rw [e2]; exact u2
  replace u3 : 0 ≤ x3 ∧ x3 ≤ 62 := by rw [e3]; exact u3
  replace u4 : 0 ≤ x4 ∧ x4 ≤ 62 := by rw [e4]; exact u4
  have c3 := (ones_ok (l % 8) (by omega) (by omega) w3)
  have c4 := (ones_ok bo (by omega) (by omega) w3)
  rw [← e1, ← e2, ← e3, ← e4] at hs
  rw [← e3] at c3
  rw [← e4] at c4
  rw [← e1, ← e2]
  have heq : (x1 + x2 == x3 + x4) = true := by rw [beq_iff_eq]; exact hs
  obtain ⟨v1, v2⟩ := u1
  obtain ⟨v3, v4⟩ := u2
  obtain ⟨v5, v6⟩ := u3
  obtain ⟨v7, v8⟩ := u4
  clear e1 e2 e3 e4 hs HS
  have C3 := Aside0.mk c3
  have C4 := Aside0.mk c4
  clear c3 c4
  go_wp2_with fail
  refine C3.out.mono ?_
  rintro e w' ⟨rfl, rfl⟩
  go_wp2_with fail
  refine C4.out.mono ?_
  rintro e w' ⟨rfl, rfl⟩
  go_wp2_with fail

  go_ret
  exact ⟨rfl, B3.out⟩

theorem sums (t q p l : Int) (ht : 0 ≤ t ∧ t < 256) (hq : 0 ≤ q ∧ q < 65536) (hp : 0 ≤ p ∧ p < 65536) (hl : 0 ≤ l ∧ l < 65536) (w : World) :
    Calls Try.prog 5 #[.int .u8 t, .int .u16 q, .int .u16 p, .int .u16 l] w fun e w' => e = .returned (.bool true) ∧ Below w.heap.size w w' := by
  have e : t % 3 = 0 ∨ t % 3 = 1 ∨ t % 3 = 2 := by omega
  rcases e with e | e | e
  · exact sums1 t q p l ht hq hp hl e w
  · exact sums2 t q p l ht hq hp hl e w
  · exact sums3 t q p l ht hq hp hl e w
end Go.Proofs.Ytfldkfccdjdofaa.Tile
