/- tile.square and (*Tiles).work: what they compute. -/
import Derived.LoopN
import Derived.BigQuiet
import Derived.Deep.QuietTactic
import Derived.Test.YtpdjdffimighkaaZHTa
namespace Go.Proofs.Ytpdjdffimighkaa.Tile
open Go.RowKit Go.Proofs.YtpdjdffimighkaaW.PrintWords Go.Proofs.YtpdjdffimighkaaW.PrintLast Go.Proofs.YtpdjdffimighkaaW.PrintMore
set_option linter.unusedVariables false
set_option linter.unusedSimpArgs false
/-! ### the square, in plain numbers -/
def bitOf (x : Int) (k : Nat) : Int := bits .and .i64 (x / 2 ^ k) 1
theorem bitOf_nat (x k : Nat) (hx : x < 1024) : bitOf (x : Int) k = ((x / 2 ^ k % 2 : Nat) : Int) := by
  unfold bitOf
  have hlt : x / 2 ^ k < 2 ^ 62 := Nat.lt_of_le_of_lt (Nat.div_le_self _ _) (by omega)
  have e : (x : Int) / 2 ^ k = ((x / 2 ^ k : Nat) : Int) := by simp
  rw [e]
  have h := (bits_nat .i64 62 (by decide) (fun n h0 h1 => wr (by omega) (by omega)) (x / 2 ^ k) 1 hlt (by decide)).1
  have h1 : ((1 : Nat) : Int) = 1 := rfl
  rw [h1] at h
  rw [h, Nat.and_one_is_mod]
theorem bitOf_bd (x : Int) (k : Nat) (h0 : 0 ≤ x) (h1 : x < 1024) : 0 ≤ bitOf x k ∧ bitOf x k ≤ 1 := by
  obtain ⟨n, rfl⟩ := Int.eq_ofNat_of_zero_le h0
  rw [bitOf_nat n k (by omega)]
  omega
def F0 (p : Int) : Nat → Int
  | 0 => 0
  | c + 1 => F0 p c + bitOf p c
def Fn (q l : Int) (t r : Nat) (prev : Nat → Int) : Nat → Int
  | 0 => prev 0 + bitOf l r
  | c + 1 => if bitOf q (r * t + c) = 1 then prev c + 1 else if prev (c + 1) < Fn q l t r prev c then Fn q l t r prev c else prev (c + 1)
def F (t : Nat) (q p l : Int) : Nat → Nat → Int
  | 0 => F0 p
  | r + 1 => Fn q l t r (F t q p l r)
section
variable {t : Nat} {q p l : Int}
theorem F_00 : F t q p l 0 0 = 0 := rfl
theorem F_0s (c : Nat) : F t q p l 0 (c + 1) = F t q p l 0 c + bitOf p c := rfl
theorem F_s0 (r : Nat) : F t q p l (r + 1) 0 = F t q p l r 0 + bitOf l r := rfl
theorem F_ss (r c : Nat) : F t q p l (r + 1) (c + 1) = if bitOf q (r * t + c) = 1 then F t q p l r c + 1 else if F t q p l r (c + 1) < F t q p l (r + 1) c then F t q p l (r + 1) c else F t q p l r (c + 1) := rfl
theorem F_steps (hp : 0 ≤ p ∧ p < 1024) (hl : 0 ≤ l ∧ l < 1024) : ∀ r, (∀ c, 0 ≤ F t q p l r (c + 1) - F t q p l r c ∧ F t q p l r (c + 1) - F t q p l r c ≤ 1) ∧ ∀ c, 0 ≤ F t q p l (r + 1) c - F t q p l r c ∧ F t q p l (r + 1) c - F t q p l r c ≤ 1 := by
  have up : ∀ r, (∀ c, 0 ≤ F t q p l r (c + 1) - F t q p l r c ∧ F t q p l r (c + 1) - F t q p l r c ≤ 1) → ∀ c, (0 ≤ F t q p l (r + 1) c - F t q p l r c ∧ F t q p l (r + 1) c - F t q p l r c ≤ 1) ∧ (0 ≤ F t q p l (r + 1) (c + 1) - F t q p l (r + 1) c ∧ F t q p l (r + 1) (c + 1) - F t q p l (r + 1) c ≤ 1) := by
    intro r hr c
    have next : ∀ c, (0 ≤ F t q p l (r + 1) c - F t q p l r c ∧ F t q p l (r + 1) c - F t q p l r c ≤ 1) → (0 ≤ F t q p l (r + 1) (c + 1) - F t q p l r (c + 1) ∧ F t q p l (r + 1) (c + 1) - F t q p l r (c + 1) ≤ 1) ∧ (0 ≤ F t q p l (r + 1) (c + 1) - F t q p l (r + 1) c ∧ F t q p l (r + 1) (c + 1) - F t q p l (r + 1) c ≤ 1) := by
      intro c hc
      have h1 := hr c
      rw [F_ss]
      generalize F t q p l r c = x at *
      generalize F t q p l r (c + 1) = y at *
      generalize F t q p l (r + 1) c = z at *
      split
      · omega
      · split <;> omega
    induction c with
    | zero =>
      have h0 : 0 ≤ F t q p l (r + 1) 0 - F t q p l r 0 ∧ F t q p l (r + 1) 0 - F t q p l r 0 ≤ 1 := by
        have := bitOf_bd l r hl.1 hl.2
        rw [F_s0]; omega
      exact ⟨h0, (next 0 h0).2⟩
    | succ c ih => exact ⟨(next c ih.1).1, (next (c + 1) (next c ih.1).1).2⟩
  intro r
  have H : ∀ r, ∀ c, 0 ≤ F t q p l r (c + 1) - F t q p l r c ∧ F t q p l r (c + 1) - F t q p l r c ≤ 1 := by
    intro r
    induction r with
    | zero =>
      intro c
      have := bitOf_bd p c hp.1 hp.2
      rw [F_0s]; omega
    | succ r ih => exact fun c => (up r ih c).2
  exact ⟨H r, fun c => (up r (H r) c).1⟩
theorem F_bd (hp : 0 ≤ p ∧ p < 1024) (hl : 0 ≤ l ∧ l < 1024) (r c : Nat) : 0 ≤ F t q p l r c ∧ F t q p l r c ≤ (r : Int) + (c : Int) := by
  have h0 : ∀ c, 0 ≤ F t q p l 0 c ∧ F t q p l 0 c ≤ (c : Int) := by
    intro c
    induction c with
    | zero => exact ⟨Int.le_refl _, Int.le_refl _⟩
    | succ c ih => have := ((F_steps (t := t) (q := q) hp hl 0).1 c); omega
  induction r with
  | zero => have := h0 c; omega
  | succ r ih => have := ((F_steps (t := t) (q := q) hp hl r).2 c); omega
end
/-- Bits put together. -/
def side (d : Nat → Int) : Nat → Int
  | 0 => 0
  | k + 1 => side d k + d k * 2 ^ k
theorem side_bd (d : Nat → Int) (hd : ∀ i, 0 ≤ d i ∧ d i ≤ 1) : ∀ k, 0 ≤ side d k ∧ side d k < 2 ^ k
  | 0 => ⟨Int.le_refl _, by show (0 : Int) < 2 ^ 0; decide⟩
  | k + 1 => by
    have h := side_bd d hd k
    have hk := hd k
    have hp : (2 : Int) ^ (k + 1) = 2 ^ k + 2 ^ k := by rw [Int.pow_succ]; omega
    have hpos : (0 : Int) < 2 ^ k := Int.pow_pos (by decide)
    have hm : d k = 0 ∨ d k = 1 := by omega
    rw [side, hp]
    rcases hm with e | e <;> rw [e] <;> omega
theorem or_side (x : Int) (k : Nat) (d : Int) (hk : k < 3) (h0 : 0 ≤ x) (h1 : x < 2 ^ k) (hd : 0 ≤ d ∧ d ≤ 1) : bits .or .i64 x (IntKind.i64.wrap (d * 2 ^ k)) = x + d * 2 ^ k ∧ bits .and .i64 d 1 = d := by
  have all : ∀ k : Fin 3, ∀ x : Fin 4, ∀ d : Fin 2, x.val < 2 ^ k.val → (bits .or .i64 (x.val : Int) (IntKind.i64.wrap ((d.val : Int) * 2 ^ k.val)) = (x.val : Int) + (d.val : Int) * 2 ^ k.val ∧ bits .and .i64 (d.val : Int) 1 = (d.val : Int)) := by decide +kernel
  obtain ⟨n, rfl⟩ := Int.eq_ofNat_of_zero_le h0
  obtain ⟨m, rfl⟩ := Int.eq_ofNat_of_zero_le hd.1
  have hn : n < 2 ^ k := by exact_mod_cast h1
  have h4 : n < 4 := Nat.lt_of_lt_of_le hn (Nat.pow_le_pow_right (by decide) (by omega) : 2 ^ k ≤ 2 ^ 2)
  exact all ⟨k, hk⟩ ⟨n, h4⟩ ⟨m, by omega⟩ hn
def bot (t : Nat) (q p l : Int) (k : Nat) : Int := side (fun i => F t q p l t (i + 1) - F t q p l t i) k
def rig (t : Nat) (q p l : Int) (k : Nat) : Int := side (fun i => F t q p l (i + 1) t - F t q p l i t) k
structure Rg.St (t B : Nat) (q p l : Int) (a : Act) : Prop where
  sz : a.tmps.size = 137
  e0 : a.eval (.tmp 0) = .int .i64 (t : Int)
  e1 : a.eval (.tmp 1) = .int .i64 q
  e2 : a.eval (.tmp 2) = .int .i64 p
  e3 : a.eval (.tmp 3) = .int .i64 l
  e10 : a.eval (.tmp 10) = .pointer (some ⟨B, 0, none⟩)
theorem Rg.St.of {t B : Nat} {q p l : Int} {a a' : Act} {L : List Nat} (h : Rg.St t B q p l a) (k : Ev.Stay L a a') (hn : (decide (0 ∉ L) && decide (1 ∉ L) && decide (2 ∉ L) && decide (3 ∉ L) && decide (10 ∉ L)) = true) : Rg.St t B q p l a' := by
  simp only [Bool.and_eq_true, decide_eq_true_eq] at hn
  obtain ⟨⟨⟨⟨n0, n1⟩, n2⟩, n3⟩, n10⟩ := hn
  exact ⟨k.1.trans h.sz, (k.2.2 0 n0).trans h.e0, (k.2.2 1 n1).trans h.e1, (k.2.2 2 n2).trans h.e2, (k.2.2 3 n3).trans h.e3, (k.2.2 10 n10).trans h.e10⟩
noncomputable def Rg.R (k : Nat) : Code := .region k (Rg.ops 33 k) false
noncomputable def Rg.D (k : Nat) : Code := .region k (Rg.ops 33 k) true
noncomputable def Rg.body1 : Code := .seq (Rg.R 3) (.seq (.cond (.tmp 17) .skip (.exit 0)) (.seq (.block 1 (.seq (Rg.R 4) (.seq (Rg.D 5) (Rg.D 6)))) (Rg.R 7)))
noncomputable def Rg.body3 : Code := .seq (Rg.R 12) (.seq (.cond (.tmp 52) .skip (.exit 4)) (.seq (.block 5 (.seq (Rg.R 13) (.seq (Rg.R 14) (.cond (.tmp 62) (Rg.D 15) (Rg.D 16))))) (Rg.R 17)))
noncomputable def Rg.body2 : Code := .seq (Rg.R 9) (.seq (.cond (.tmp 48) .skip (.exit 2)) (.seq (.block 3 (.seq (Rg.R 10) (.seq (Rg.R 11) (.block 4 (.loop Rg.body3))))) (Rg.R 18)))
noncomputable def Rg.body4 : Code := .seq (Rg.R 20) (.seq (.cond (.tmp 98) .skip (.exit 6)) (.seq (.block 7 (.seq (Rg.R 21) (.seq (Rg.D 22) (Rg.D 23)))) (Rg.R 24)))
noncomputable def Rg.code22 : Code := .seq (Rg.R 0) (.seq (Rg.R 1) (.seq (.seq (Rg.R 2) (.block 0 (.loop Rg.body1))) (.seq (.seq (Rg.R 8) (.block 2 (.loop Rg.body2))) (.seq (.seq (Rg.R 19) (.block 6 (.loop Rg.body4))) (.seq (Rg.R 25) .ret)))))
def Rg.PQ (Q : Exit → Act → World → Prop) : Prop := ∀ c a a' w, a'.defers = a.defers → Q (.panic c) a w → Q (.panic c) a' w
section
variable {t B n0 : Nat} {q p l : Int} {Q : Exit → Act → World → Prop}
theorem Rg.loop1 (ht : t ≤ 3) (hp : 0 ≤ p ∧ p < 1024) (hl : 0 ≤ l ∧ l < 1024) (hP : Rg.PQ Q) (hB : n0 ≤ B) : ∀ (m k : Nat) (a : Act) (W : World) (G : Nat → Int), k + m = t → Rg.St t B q p l a → a.eval (.tmp 16) = .int .i64 (k : Int) → a.eval (.tmp 15) = .int .i64 (t : Int) → W.heap[B]? = some (.cells (arr G) 81 (0, 0)) →
    (∀ c, c ≤ k → G c = F t q p l 0 c) → (∀ r, r ≤ k → G (r * 4) = F t q p l r 0) →
    (∀ a' W' G', Ev.Stay [11, 16, 17, 18, 19, 20, 21, 22, 23, 24, 25, 26, 27, 28, 29, 30, 31, 32, 33, 34, 35, 36, 37, 38, 39, 40, 41, 42, 43, 44, 45] a a' → W'.heap[B]? = some (.cells (arr G') 81 (0, 0)) → (∀ c, c ≤ t → G' c = F t q p l 0 c) → (∀ r, r ≤ t → G' (r * 4) = F t q p l r 0) → Below n0 W W' → Q (.exit 0) a' W') →
    Code.rounds Try.prog Rg.body1 Q (m + 1) a W
  | 0, k, a, W, G, hk, hs, h16, h15, hG, h1, h2, hQ => by
    rw [rounds_succ]
    refine wp_seq (Rg.s3 hs.sz h16 h15 ?_)
    intro a1 k1 e17
    refine wp_seq (wp_cond_false (by rw [e17, decide_eq_false (by omega)]) (wp_exit ?_))
    show Q (.exit 0) a1 W
    have ek : k = t := by omega
    subst ek
    exact hQ a1 W G (k1.trans (Ev.Stay.refl [] _) (by simp) (by simp)) hG h1 h2 (Below.refl _ _)
  | m + 1, k, a, W, G, hk, hs, h16, h15, hG, h1, h2, hQ => by
    rw [rounds_succ]
    refine wp_seq (Rg.s3 hs.sz h16 h15 ?_)
    intro a1 k1 e17
    refine wp_seq (wp_cond_true (by rw [e17, decide_eq_true (by omega)]) (wp_skip ?_))
    have s1 := hs.of k1 (by decide)
    refine wp_seq (wp_block (wp_seq (Rg.s4 s1.sz ((k1.2.2 16 (by decide)).trans h16) ?_)))
    intro a2 k2 e11
    have s2 := s1.of k2 (by decide)
    have b0 := bitOf_bd p k hp.1 hp.2
    have f0 := F_bd (t := t) (q := q) hp hl 0 k
    have g0 := h1 k (Nat.le_refl _)
    refine wp_seq (Rg.s5 (k := k) (bt := bitOf p k) (G := G) s2.sz (fun c a a' w hd h => hP c a a' w hd h) s2.e10 e11 s2.e2 hG (by omega) rfl b0 (by rw [g0]; omega) ?_)
    intro a3 k3
    have s3 := s2.of k3 (by decide)
    have hG3 := arr_set (i := k + 1) (show W.drew.heap[B]? = _ from hG) (G k + bitOf p k)
    have B3 : Below n0 W (W.drew.setCell ⟨B, k + 1, none⟩ (.int .i64 (G k + bitOf p k))) := (below_drew1 (Below.refl _ _)).setCell (p := ⟨B, k + 1, none⟩) hB _
    generalize (W.drew.setCell ⟨B, k + 1, none⟩ (.int .i64 (G k + bitOf p k))) = W3 at hG3 B3 ⊢
    have b1 := bitOf_bd l k hl.1 hl.2
    have f1 := F_bd (t := t) (q := q) hp hl k 0
    have g1 : upd G (k + 1) (G k + bitOf p k) (k * 4) = F t q p l k 0 := by
      unfold upd
      by_cases e : k * 4 = k + 1
      · omega
      · rw [if_neg e]; exact h2 k (Nat.le_refl _)
    refine (Rg.s6 (k := k) (bt := bitOf l k) (G := upd G (k + 1) (G k + bitOf p k)) s3.sz (fun c a a' w hd h => hP c a a' w hd h) s3.e10 ((k3.2.2 11 (by decide)).trans e11) s3.e3 hG3 (by omega) rfl b1 (by rw [g1]; omega) ?_)
    intro a4 k4
    show Code.wp _ _ _ _ _
    have s4 := s3.of k4 (by decide)
    have hG4 := arr_set (i := (k + 1) * 4) (show W3.drew.heap[B]? = _ from hG3) (upd G (k + 1) (G k + bitOf p k) (k * 4) + bitOf l k)
    have B4 : Below n0 W3 (W3.drew.setCell ⟨B, (k + 1) * 4, none⟩ (.int .i64 (upd G (k + 1) (G k + bitOf p k) (k * 4) + bitOf l k))) := (below_drew1 (Below.refl _ _)).setCell (p := ⟨B, (k + 1) * 4, none⟩) hB _
    generalize (W3.drew.setCell ⟨B, (k + 1) * 4, none⟩ (.int .i64 (upd G (k + 1) (G k + bitOf p k) (k * 4) + bitOf l k))) = W4 at hG4 B4 ⊢
    refine Rg.s7 (k := k) s4.sz ((k4.2.2 16 (by decide)).trans ((k3.2.2 16 (by decide)).trans ((k2.2.2 16 (by decide)).trans ((k1.2.2 16 (by decide)).trans h16)))) (by omega) ?_
    intro a5 k5 e16
    have s5 := s4.of k5 (by decide)
    show Code.rounds _ _ _ _ _ _
    have st : Ev.Stay [11, 16, 17, 18, 19, 20, 21, 22, 23, 24, 25, 26, 27, 28, 29, 30, 31, 32, 33, 34, 35, 36, 37, 38, 39, 40, 41, 42, 43, 44, 45] a a5 := (((k1.trans k2 (L'' := [17, 18, 11]) (by simp) (by simp)).trans k3 (L'' := [11, 17, 18, 19, 20, 21, 22, 23, 24, 25, 26, 27, 28, 29, 30, 31]) (by simp) (by simp)).trans (k4.trans k5 (L'' := [16, 32, 33, 34, 35, 36, 37, 38, 39, 40, 41, 42, 43, 44, 45]) (by simp) (by simp)) (by simp) (by simp))
    refine Rg.loop1 ht hp hl hP hB m (k + 1) a5 W4 _ (by omega) s5 e16 ((st.2.2 15 (by decide)).trans h15) hG4 ?_ ?_ ?_
    · intro c hc
      unfold upd
      by_cases e : c = (k + 1) * 4
      · omega
      · rw [if_neg e]
        by_cases e2 : c = k + 1
        · subst e2
          rw [if_pos rfl, g0, F_0s]
        · rw [if_neg e2]; exact h1 c (by omega)
    · intro r hr
      by_cases e : r = k + 1
      · subst e
        unfold upd
        rw [if_pos rfl, F_s0]
        have := g1
        unfold upd at this
        rw [this]
      · have e1 : ¬ r * 4 = (k + 1) * 4 := by omega
        have e3 : ¬ r * 4 = k + 1 ∨ r * 4 = k + 1 := by omega
        unfold upd
        rw [if_neg e1]
        by_cases e2 : r * 4 = k + 1
        · omega
        · rw [if_neg e2]; exact h2 r (by omega)
    · intro a' W' G' st' hG' h1' h2' hb
      exact hQ a' W' G' (st.trans st' (fun _ h => h) (fun _ h => h)) hG' h1' h2' ((B3.trans B4).trans hb)
end
def Rg.L3 : List Nat := 13 :: List.range' 51 44
def Rg.L2 : List Nat := 12 :: 13 :: List.range' 47 49
def Rg.L4 : List Nat := 8 :: 9 :: 14 :: List.range' 97 38
/-- What the array holds with rows up to r done, and the next one up to k. -/
def Rg.Has (t : Nat) (q p l : Int) (r k : Nat) (G : Nat → Int) : Prop := (∀ r', r' ≤ r → ∀ c, c ≤ t → G (r' * 4 + c) = F t q p l r' c) ∧ (∀ r', r' ≤ t → G (r' * 4) = F t q p l r' 0) ∧ ∀ c, c ≤ k → G ((r + 1) * 4 + c) = F t q p l (r + 1) c
section
variable {t B n0 : Nat} {q p l : Int} {Q : Exit → Act → World → Prop}
theorem Rg.has_next (ht : t ≤ 3) {r k : Nat} {G : Nat → Int} {x : Int} (h : Rg.Has t q p l r k G) (hk : k < t) (hx : x = F t q p l (r + 1) (k + 1)) : Rg.Has t q p l r (k + 1) (upd G ((r + 1) * 4 + (k + 1)) x) := by
  obtain ⟨h1, h2, h3⟩ := h
  refine ⟨fun r' hr c hc => ?_, fun r' hr => ?_, fun c hc => ?_⟩
  · unfold upd
    rw [if_neg (by omega)]; exact h1 r' hr c hc
  · unfold upd
    rw [if_neg (by omega)]; exact h2 r' hr
  · unfold upd
    by_cases e : c = k + 1
    · subst e
      rw [if_pos rfl]; exact hx
    · rw [if_neg (by omega)]; exact h3 c (by omega)
theorem Rg.loop3 (ht : t ≤ 3) (hq : 0 ≤ q ∧ q < 1024) (hp : 0 ≤ p ∧ p < 1024) (hl : 0 ≤ l ∧ l < 1024) (hP : Rg.PQ Q) (hB : n0 ≤ B) {r : Nat} (hr : r < t) : ∀ (m k : Nat) (a : Act) (W : World) (G : Nat → Int), k + m = t → Rg.St t B q p l a → a.eval (.tmp 12) = .int .i64 (r : Int) → a.eval (.tmp 51) = .int .i64 (k : Int) → a.eval (.tmp 50) = .int .i64 (t : Int) → W.heap[B]? = some (.cells (arr G) 81 (0, 0)) → Rg.Has t q p l r k G →
    (∀ a' W' G', Ev.Stay Rg.L3 a a' → W'.heap[B]? = some (.cells (arr G') 81 (0, 0)) → Rg.Has t q p l r t G' → Below n0 W W' → Q (.exit 4) a' W') →
    Code.rounds Try.prog Rg.body3 Q (m + 1) a W
  | 0, k, a, W, G, hk, hs, h12, h51, h50, hG, hA, hQ => by
    rw [rounds_succ]
    refine wp_seq (Rg.s12 hs.sz h51 h50 ?_)
    intro a1 k1 e52
    refine wp_seq (wp_cond_false (by rw [e52, decide_eq_false (by omega)]) (wp_exit ?_))
    show Q (.exit 4) a1 W
    have ek : k = t := by omega
    subst ek
    exact hQ a1 W G (k1.trans (Ev.Stay.refl [] _) (by decide) (by decide)) hG hA (Below.refl _ _)
  | m + 1, k, a, W, G, hk, hs, h12, h51, h50, hG, hA, hQ => by
    rw [rounds_succ]
    refine wp_seq (Rg.s12 hs.sz h51 h50 ?_)
    intro a1 k1 e52
    refine wp_seq (wp_cond_true (by rw [e52, decide_eq_true (by omega)]) (wp_skip ?_))
    have s1 := hs.of k1 (by decide)
    refine wp_seq (wp_block (wp_seq (Rg.s13 s1.sz ((k1.2.2 51 (by decide)).trans h51) ?_)))
    intro a2 k2 e13
    have s2 := s1.of k2 (by decide)
    have e12 : a2.eval (.tmp 12) = .int .i64 (r : Int) := (k2.2.2 12 (by decide)).trans ((k1.2.2 12 (by decide)).trans h12)
    have hm : ((r * t : Nat) : Int) = (r : Int) * (t : Int) ∧ (r * t : Nat) < 32 := ⟨by simp, by
      have : r * t ≤ 3 * 3 := Nat.mul_le_mul (by omega) (by omega)
      omega⟩
    refine wp_seq (Rg.s14 (c := k) (bt := bitOf q (r * t + k)) s2.sz s2.e0 s2.e1 e12 e13 hm (by omega) rfl ?_)
    intro a3 k3 e62
    have s3 := s2.of k3 (by decide)
    have e12' : a3.eval (.tmp 12) = .int .i64 (r : Int) := (k3.2.2 12 (by decide)).trans e12
    have e13' : a3.eval (.tmp 13) = .int .i64 (k : Int) := (k3.2.2 13 (by decide)).trans e13
    have e51' : a3.eval (.tmp 51) = .int .i64 (k : Int) := (k3.2.2 51 (by decide)).trans ((k2.2.2 51 (by decide)).trans ((k1.2.2 51 (by decide)).trans h51))
    have st3 : Ev.Stay Rg.L3 a a3 := (k1.trans k2 (L'' := Rg.L3) (by decide) (by decide)).trans k3 (by decide) (by decide)
    have next : ∀ (a4 : Act) (x : Int), Ev.Stay Rg.L3 a a4 → Rg.St t B q p l a4 → a4.eval (.tmp 51) = .int .i64 (k : Int) → x = F t q p l (r + 1) (k + 1) → Code.wp Try.prog (Rg.R 17) (Exit.then (Code.rounds Try.prog Rg.body3 Q (m + 1)) Q) a4 (W.drew.setCell ⟨B, (r + 1) * 4 + (k + 1), none⟩ (.int .i64 x)) := by
      intro a4 x st4 s4 e51 hx
      have hG4 := arr_set (i := (r + 1) * 4 + (k + 1)) (show W.drew.heap[B]? = _ from hG) x
      have B4 : Below n0 W (W.drew.setCell ⟨B, (r + 1) * 4 + (k + 1), none⟩ (.int .i64 x)) := (below_drew1 (Below.refl _ _)).setCell (p := ⟨B, (r + 1) * 4 + (k + 1), none⟩) hB _
      generalize (W.drew.setCell ⟨B, (r + 1) * 4 + (k + 1), none⟩ (.int .i64 x)) = W4 at hG4 B4 ⊢
      refine Rg.s17 (k := k) s4.sz e51 (by omega) ?_
      intro a5 k5 e51b
      show Code.rounds _ _ _ _ _ _
      have st5 : Ev.Stay Rg.L3 a a5 := st4.trans k5 (fun _ h => h) (by decide)
      refine Rg.loop3 ht hq hp hl hP hB hr m (k + 1) a5 W4 _ (by omega) (s4.of k5 (by decide)) ((st5.2.2 12 (by decide)).trans h12) e51b ((st5.2.2 50 (by decide)).trans h50) hG4 (Rg.has_next ht hA (by omega) hx) ?_
      intro a' W' G' st' hG' hA' hb
      exact hQ a' W' G' (st5.trans st' (fun _ h => h) (fun _ h => h)) hG' hA' (B4.trans hb)
    have v1 := hA.1 r (Nat.le_refl _) k (by omega)
    have v2 := hA.1 r (Nat.le_refl _) (k + 1) (by omega)
    have v3 := hA.2.2 k (Nat.le_refl _)
    have bd := F_bd (t := t) (q := q) hp hl r k
    by_cases hb : bitOf q (r * t + k) = 1
    · refine wp_cond_true (by rw [e62, hb]; rfl) ?_
      refine Rg.s15 (r := r) (c := k) (G := G) s3.sz (fun c a a' w hd h => hP c a a' w hd h) s3.e10 e12' e13' hG (by omega) (by omega) (by rw [v1]; omega) ?_
      intro a4 k4
      exact next a4 _ (st3.trans k4 (fun _ h => h) (by decide)) (s3.of k4 (by decide)) ((k4.2.2 51 (by decide)).trans e51') (by rw [v1, F_ss, if_pos hb])
    · refine wp_cond_false (by rw [e62]; congr 1; simpa using hb) ?_
      refine Rg.s16 (r := r) (c := k) (G := G) s3.sz (fun c a a' w hd h => hP c a a' w hd h) s3.e10 e12' e13' hG (by omega) (by omega) ?_
      intro a4 k4
      exact next a4 _ (st3.trans k4 (fun _ h => h) (by decide)) (s3.of k4 (by decide)) ((k4.2.2 51 (by decide)).trans e51') (by rw [v2, v3, F_ss, if_neg hb])
theorem Rg.loop2 (ht : t ≤ 3) (hq : 0 ≤ q ∧ q < 1024) (hp : 0 ≤ p ∧ p < 1024) (hl : 0 ≤ l ∧ l < 1024) (hP : Rg.PQ Q) (hB : n0 ≤ B) : ∀ (m r : Nat) (a : Act) (W : World) (G : Nat → Int), r + m = t → Rg.St t B q p l a → a.eval (.tmp 47) = .int .i64 (r : Int) → a.eval (.tmp 46) = .int .i64 (t : Int) → W.heap[B]? = some (.cells (arr G) 81 (0, 0)) → (∀ r', r' ≤ r → ∀ c, c ≤ t → G (r' * 4 + c) = F t q p l r' c) → (∀ r', r' ≤ t → G (r' * 4) = F t q p l r' 0) →
    (∀ a' W' G', Ev.Stay Rg.L2 a a' → W'.heap[B]? = some (.cells (arr G') 81 (0, 0)) → (∀ r', r' ≤ t → ∀ c, c ≤ t → G' (r' * 4 + c) = F t q p l r' c) → Below n0 W W' → Q (.exit 2) a' W') →
    Code.rounds Try.prog Rg.body2 Q (m + 1) a W
  | 0, r, a, W, G, hk, hs, h47, h46, hG, h1, h2, hQ => by
    rw [rounds_succ]
    refine wp_seq (Rg.s9 hs.sz h47 h46 ?_)
    intro a1 k1 e48
    refine wp_seq (wp_cond_false (by rw [e48, decide_eq_false (by omega)]) (wp_exit ?_))
    show Q (.exit 2) a1 W
    have ek : r = t := by omega
    subst ek
    exact hQ a1 W G (k1.trans (Ev.Stay.refl [] _) (by decide) (by decide)) hG h1 (Below.refl _ _)
  | m + 1, r, a, W, G, hk, hs, h47, h46, hG, h1, h2, hQ => by
    rw [rounds_succ]
    refine wp_seq (Rg.s9 hs.sz h47 h46 ?_)
    intro a1 k1 e48
    refine wp_seq (wp_cond_true (by rw [e48, decide_eq_true (by omega)]) (wp_skip ?_))
    have s1 := hs.of k1 (by decide)
    refine wp_seq (wp_block (wp_seq (Rg.s10 s1.sz ((k1.2.2 47 (by decide)).trans h47) ?_)))
    intro a2 k2 e12
    have s2 := s1.of k2 (by decide)
    refine wp_seq (Rg.s11 s2.sz s2.e0 ?_)
    intro a3 k3 e50 e51
    have s3 := s2.of k3 (by decide)
    refine wp_block (wp_loop_rounds (t + 1) ?_)
    have st3 : Ev.Stay Rg.L2 a a3 := (k1.trans k2 (L'' := Rg.L2) (by decide) (by decide)).trans k3 (by decide) (by decide)
    refine Rg.loop3 ht hq hp hl ?hP hB (r := r) (by omega) t 0 a3 W G (by omega) s3 ((k3.2.2 12 (by decide)).trans e12) e51 e50 hG ⟨h1, h2, fun c hc => by
      have : c = 0 := by omega
      subst this
      exact h2 (r + 1) (by omega)⟩ ?_
    case hP => exact fun c a a' w hd h => hP c a a' w hd h
    intro a4 W4 G4 k4 hG4 hA4 b4
    show Code.wp _ _ _ _ _
    have st4 : Ev.Stay Rg.L2 a a4 := st3.trans k4 (fun _ h => h) (by decide)
    have s4 := s3.of k4 (by decide)
    refine Rg.s18 (k := r) s4.sz ((k4.2.2 47 (by decide)).trans ((k3.2.2 47 (by decide)).trans ((k2.2.2 47 (by decide)).trans ((k1.2.2 47 (by decide)).trans h47)))) (by omega) ?_
    intro a5 k5 e47
    show Code.rounds _ _ _ _ _ _
    have st5 : Ev.Stay Rg.L2 a a5 := st4.trans k5 (fun _ h => h) (by decide)
    refine Rg.loop2 ht hq hp hl hP hB m (r + 1) a5 W4 G4 (by omega) (s4.of k5 (by decide)) e47 ((k5.2.2 46 (by decide)).trans ((k4.2.2 46 (by decide)).trans ((k3.2.2 46 (by decide)).trans ((k2.2.2 46 (by decide)).trans ((k1.2.2 46 (by decide)).trans h46))))) hG4 ?_ hA4.2.1 ?_
    · intro r' hr' c hc
      by_cases e : r' = r + 1
      · subst e; exact hA4.2.2 c hc
      · exact hA4.1 r' (by omega) c hc
    · intro a' W' G' st' hG' h1' hb
      exact hQ a' W' G' (st5.trans st' (fun _ h => h) (fun _ h => h)) hG' h1' (b4.trans hb)
theorem Rg.loop4 (ht : t ≤ 3) (hp : 0 ≤ p ∧ p < 1024) (hl : 0 ≤ l ∧ l < 1024) (hP : Rg.PQ Q) : ∀ (m k : Nat) (a : Act) (W : World) (G : Nat → Int), k + m = t → Rg.St t B q p l a → a.eval (.tmp 97) = .int .i64 (k : Int) → a.eval (.tmp 96) = .int .i64 (t : Int) → a.eval (.tmp 8) = .int .i64 (bot t q p l k) → a.eval (.tmp 9) = .int .i64 (rig t q p l k) → W.heap[B]? = some (.cells (arr G) 81 (0, 0)) → (∀ r', r' ≤ t → ∀ c, c ≤ t → G (r' * 4 + c) = F t q p l r' c) →
    (∀ a' W', Ev.Stay Rg.L4 a a' → a'.eval (.tmp 8) = .int .i64 (bot t q p l t) → a'.eval (.tmp 9) = .int .i64 (rig t q p l t) → Below n0 W W' → Q (.exit 6) a' W') →
    Code.rounds Try.prog Rg.body4 Q (m + 1) a W
  | 0, k, a, W, G, hk, hs, h97, h96, h8, h9, hG, h1, hQ => by
    rw [rounds_succ]
    refine wp_seq (Rg.s20 hs.sz h97 h96 ?_)
    intro a1 k1 e98
    refine wp_seq (wp_cond_false (by rw [e98, decide_eq_false (by omega)]) (wp_exit ?_))
    show Q (.exit 6) a1 W
    have ek : k = t := by omega
    subst ek
    exact hQ a1 W (k1.trans (Ev.Stay.refl [] _) (by decide) (by decide)) ((k1.2.2 8 (by decide)).trans h8) ((k1.2.2 9 (by decide)).trans h9) (Below.refl _ _)
  | m + 1, k, a, W, G, hk, hs, h97, h96, h8, h9, hG, h1, hQ => by
    rw [rounds_succ]
    refine wp_seq (Rg.s20 hs.sz h97 h96 ?_)
    intro a1 k1 e98
    refine wp_seq (wp_cond_true (by rw [e98, decide_eq_true (by omega)]) (wp_skip ?_))
    have s1 := hs.of k1 (by decide)
    refine wp_seq (wp_block (wp_seq (Rg.s21 s1.sz ((k1.2.2 97 (by decide)).trans h97) ?_)))
    intro a2 k2 e14
    have s2 := s1.of k2 (by decide)
    have d1 := (F_steps (t := t) (q := q) hp hl t).1 k
    have d2 := (F_steps (t := t) (q := q) hp hl k).2 t
    have sb := side_bd (fun i => F t q p l t (i + 1) - F t q p l t i) (fun i => (F_steps (t := t) (q := q) hp hl t).1 i) k
    have sr := side_bd (fun i => F t q p l (i + 1) t - F t q p l i t) (fun i => (F_steps (t := t) (q := q) hp hl i).2 t) k
    have o1 := or_side (bot t q p l k) k _ (by omega) sb.1 sb.2 d1
    have o2 := or_side (rig t q p l k) k _ (by omega) sr.1 sr.2 d2
    refine wp_seq (Rg.s22 (t := t) (k := k) (G := G) (x := bot t q p l k) (d := F t q p l t (k + 1) - F t q p l t k) (x2 := bot t q p l (k + 1)) s2.sz (fun c a a' w hd h => hP c a a' w hd h) s2.e10 s2.e0 e14 ((k2.2.2 8 (by decide)).trans ((k1.2.2 8 (by decide)).trans h8)) hG (by omega) (by omega) (by rw [h1 t (Nat.le_refl _) (k + 1) (by omega), h1 t (Nat.le_refl _) k (by omega)]) d1 o1.2 rfl o1.1 ?_)
    intro a3 k3 e8
    have s3 := s2.of k3 (by decide)
    refine (Rg.s23 (t := t) (k := k) (G := G) (x := rig t q p l k) (d := F t q p l (k + 1) t - F t q p l k t) (x2 := rig t q p l (k + 1)) s3.sz (fun c a a' w hd h => hP c a a' w hd h) s3.e10 s3.e0 ((k3.2.2 14 (by decide)).trans e14) ((k3.2.2 9 (by decide)).trans ((k2.2.2 9 (by decide)).trans ((k1.2.2 9 (by decide)).trans h9))) (show W.drew.drew.heap[B]? = _ from hG) (by omega) (by omega) (by rw [h1 (k + 1) (by omega) t (Nat.le_refl _), h1 k (by omega) t (Nat.le_refl _)]) d2 o2.2 rfl o2.1 ?_)
    intro a4 k4 e9
    show Code.wp _ _ _ _ _
    have s4 := s3.of k4 (by decide)
    refine Rg.s24 (k := k) s4.sz ((k4.2.2 97 (by decide)).trans ((k3.2.2 97 (by decide)).trans ((k2.2.2 97 (by decide)).trans ((k1.2.2 97 (by decide)).trans h97)))) (by omega) ?_
    intro a5 k5 e97
    show Code.rounds _ _ _ _ _ _
    have st : Ev.Stay Rg.L4 a a5 := ((k1.trans k2 (L'' := Rg.L4) (by decide) (by decide)).trans k3 (L'' := Rg.L4) (by decide) (by decide)).trans (k4.trans k5 (L'' := Rg.L4) (by decide) (by decide)) (by decide) (by decide)
    refine Rg.loop4 ht hp hl hP m (k + 1) a5 W.drew.drew G (by omega) (s4.of k5 (by decide)) e97 ((st.2.2 96 (by decide)).trans h96) ((k5.2.2 8 (by decide)).trans ((k4.2.2 8 (by decide)).trans e8)) ((k5.2.2 9 (by decide)).trans e9) hG h1 ?_
    intro a' W' st' e8' e9' hb
    exact hQ a' W' (st.trans st' (fun _ h => h) (fun _ h => h)) e8' e9' ((below_drew1 (below_drew1 (Below.refl _ _))).trans hb)
end
theorem Ev.entry {args : Array Value} {n i : Nat} {v : Value} (h : args[i]? = some v) : ({ tmps := args ++ Array.replicate n undef, defers := [] } : Act).eval (.tmp i) = v := by
  have hlt : i < args.size := (Array.getElem?_eq_some_iff.1 h).1
  show (args ++ Array.replicate n undef).getD i undef = v
  rw [Array.getD_eq_getD_getElem?, Array.getElem?_append_left hlt, h]
  rfl
theorem Rg.square_res {a : Act} {W : World} {x y : Int} (h8 : a.eval (.tmp 8) = .int .i64 x) (h9 : a.eval (.tmp 9) = .int .i64 y) : (results Try.f33 a.tmps).run Try.prog W = .ok (.tuple #[.int .i64 x, .int .i64 y]) W := by
  have e8 : a.tmps[8]?.getD undef = .int .i64 x := by simpa [Act.eval] using h8
  have e9 : a.tmps[9]?.getD undef = .int .i64 y := by simpa [Act.eval] using h9
  simp [results, Try.results33, go_sem, e8, e9]
theorem square {t : Nat} {q p l : Int} (ht : t ≤ 3) (hq : 0 ≤ q ∧ q < 1024) (hp : 0 ≤ p ∧ p < 1024) (hl : 0 ≤ l ∧ l < 1024) (w : World) :
    Calls Try.prog 33 #[.int .i64 (t : Int), .int .i64 q, .int .i64 p, .int .i64 l] w fun e w' => e = .returned (.tuple #[.int .i64 (bot t q p l t), .int .i64 (rig t q p l t)]) ∧ Below w.heap.size w w' := by
  refine calls_of_wp Try.func33 rfl ?_
  show Rg.code22.wp _ _ _ _
  have hP : Rg.PQ (bodyPost Try.prog Try.f33 fun e w' => e = .returned (.tuple #[.int .i64 (bot t q p l t), .int .i64 (rig t q p l t)]) ∧ Below w.heap.size w w') := fun c a a' w hd h => ⟨hd.trans h.1, h.2⟩
  obtain ⟨a0, ha0⟩ : ∃ a0 : Act, a0 = { tmps := #[.int .i64 (t : Int), .int .i64 q, .int .i64 p, .int .i64 l] ++ Array.replicate (Try.f33.ntmps - (#[.int .i64 (t : Int), .int .i64 q, .int .i64 p, .int .i64 l] : Array Value).size) undef, defers := [] } := ⟨_, rfl⟩
  have hsz : a0.tmps.size = 137 := by rw [ha0]; simp [Try.ntmps33]
  have e0 : a0.eval (.tmp 0) = .int .i64 (t : Int) := by rw [ha0]; exact Ev.entry rfl
  have e1 : a0.eval (.tmp 1) = .int .i64 q := by rw [ha0]; exact Ev.entry rfl
  have e2 : a0.eval (.tmp 2) = .int .i64 p := by rw [ha0]; exact Ev.entry rfl
  have e3 : a0.eval (.tmp 3) = .int .i64 l := by rw [ha0]; exact Ev.entry rfl
  have hd0 : a0.defers = [] := by rw [ha0]
  rw [← ha0]
  clear ha0
  refine wp_seq (Rg.s0 hsz ?_)
  intro a1 k1 e8 e9
  refine wp_seq (Rg.s1 (k1.1.trans hsz) ?_)
  intro a2 k2 e10
  have st2 : Rg.St t w.heap.size q p l a2 := ⟨k2.1.trans (k1.1.trans hsz), (k2.2.2 0 (by decide)).trans ((k1.2.2 0 (by decide)).trans e0), (k2.2.2 1 (by decide)).trans ((k1.2.2 1 (by decide)).trans e1), (k2.2.2 2 (by decide)).trans ((k1.2.2 2 (by decide)).trans e2), (k2.2.2 3 (by decide)).trans ((k1.2.2 3 (by decide)).trans e3), e10⟩
  have hG : (w.alloc (.cells (arr (fun _ => 0)) 81)).heap[w.heap.size]? = some (.cells (arr (fun _ => 0)) 81 (0, 0)) := blk_new w _
  have hb : Below w.heap.size w (w.alloc (.cells (arr (fun _ => 0)) 81)) := below_alloc (Below.refl _ _) _
  replace e8 := (k2.2.2 8 (by decide)).trans e8
  replace e9 := (k2.2.2 9 (by decide)).trans e9
  have hd2 : a2.defers = [] := k2.2.1.trans (k1.2.1.trans hd0)
  clear k1 k2
  show Code.wp _ _ _ _ _
  generalize (w.alloc (.cells (arr (fun _ => 0)) 81)) = W at hG hb ⊢
  refine wp_seq (wp_seq (Rg.s2 st2.sz st2.e0 ?_))
  intro a3 k3 e15 e16
  have st3 := st2.of k3 (by decide)
  refine wp_block (wp_loop_rounds (t + 1) ?_)
  refine Rg.loop1 (n0 := w.heap.size) ht hp hl ?hP1 (Nat.le_refl _) t 0 a3 W (fun _ => 0) (by omega) st3 e16 e15 hG (fun c hc => ?h1) (fun r hr => ?h2) ?_
  case hP1 => exact fun c a a' w hd h => hP c a a' w hd h
  case h1 =>
    have e : c = 0 := by omega
    subst e; rfl
  case h2 =>
    have e : r = 0 := by omega
    subst e; rfl
  intro a4 W4 G4 k4 hG4 h1 h2 b4
  show Code.wp _ _ _ _ _
  have st4 := st3.of k4 (by decide)
  refine wp_seq (wp_seq (Rg.s8 st4.sz st4.e0 ?_))
  intro a5 k5 e46 e47
  have st5 := st4.of k5 (by decide)
  refine wp_block (wp_loop_rounds (t + 1) ?_)
  refine Rg.loop2 (n0 := w.heap.size) ht hq hp hl ?hP2 (Nat.le_refl _) t 0 a5 W4 G4 (by omega) st5 e47 e46 hG4 (fun r hr c hc => ?h3) h2 ?_
  case hP2 => exact fun c a a' w hd h => hP c a a' w hd h
  case h3 =>
    have e : r = 0 := by omega
    subst e
    rw [Nat.zero_mul, Nat.zero_add]; exact h1 c hc
  intro a6 W6 G6 k6 hG6 h6 b6
  show Code.wp _ _ _ _ _
  have st6 := st5.of k6 (by decide)
  refine wp_seq (wp_seq (Rg.s19 st6.sz st6.e0 ?_))
  intro a7 k7 e96 e97
  have st7 := st6.of k7 (by decide)
  have e8' := (k7.2.2 8 (by decide)).trans ((k6.2.2 8 (by decide)).trans ((k5.2.2 8 (by decide)).trans ((k4.2.2 8 (by decide)).trans ((k3.2.2 8 (by decide)).trans e8))))
  have e9' := (k7.2.2 9 (by decide)).trans ((k6.2.2 9 (by decide)).trans ((k5.2.2 9 (by decide)).trans ((k4.2.2 9 (by decide)).trans ((k3.2.2 9 (by decide)).trans e9))))
  refine wp_block (wp_loop_rounds (t + 1) ?_)
  refine Rg.loop4 (n0 := w.heap.size) ht hp hl ?hP3 t 0 a7 W6 G6 (by omega) st7 e97 e96 e8' e9' hG6 h6 ?_
  case hP3 => exact fun c a a' w hd h => hP c a a' w hd h
  intro a8 W8 k8 f8 f9 b8
  show Code.wp _ _ _ _ _
  have st8 := st7.of k8 (by decide)
  refine wp_seq (Rg.s25 st8.sz f8 f9 ?_)
  intro a9 k9 g8 g9
  refine wp_ret ⟨k9.2.1.trans (k8.2.1.trans (k7.2.1.trans (k6.2.1.trans (k5.2.1.trans (k4.2.1.trans (k3.2.1.trans hd2)))))), _, Rg.square_res g8 g9, rfl, ?_⟩
  exact hb.trans (b4.trans (b6.trans b8))
theorem size (b : Nat) (t : Nat) (ht : 1 ≤ t ∧ t ≤ 3) (w : World) (hc : w.cell? ⟨b, 0, none⟩ = some (.int .i64 (t : Int))) :
    Calls Try.prog 32 #[.pointer (some ⟨b, 0, none⟩)] w fun e w' => e = .returned (.int .i64 ((2 ^ (t * t + 2 * t) : Nat) : Int)) ∧ ∃ n, w' = w.drewN n := by
  have e : t = 1 ∨ t = 2 ∨ t = 3 := by omega
  rcases e with rfl | rfl | rfl
  all_goals
    go_enter Try.func32, Try.ntmps32
    go_wp2
    go_quiet (fail)
    go_wp2
    go_ret
    exact ⟨rfl, _, rfl⟩
theorem sideOf (b : Nat) (t : Nat) (w : World) (hc : w.cell? ⟨b, 0, none⟩ = some (.int .i64 (t : Int))) :
    Calls Try.prog 15 #[.pointer (some ⟨b, 0, none⟩)] w fun e w' => e = .returned (.int .i64 (t : Int)) ∧ w = w' := by
  go_enter Try.func15, Try.ntmps15
  go_wp2
  go_ret
  exact ⟨rfl, rfl⟩
/-- The squares' block: side, done, the lock's words, the squares. -/
def blk (t : Nat) (d s : Int) (all : Value) : Array Value := #[.int .i64 (t : Int), .int .u32 d, .int .i32 s, .int .u32 0, all]
theorem blk_t {W : World} {b t : Nat} {d s : Int} {all : Value} (h : W.heap[b]? = some (.cells (blk t d s all) 65 (0, 0))) : W.cell? ⟨b, 0, none⟩ = some (.int .i64 (t : Int)) := (blk_cell h 0).trans rfl
theorem blk_all {W : World} {b t : Nat} {d s : Int} {all : Value} (h : W.heap[b]? = some (.cells (blk t d s all) 65 (0, 0))) : W.cell? ⟨b, 4, none⟩ = some all := (blk_cell h 4).trans rfl
/-- The row of squares. -/
def tabA (N : Nat) (H : Nat → Int) : Array Value := ((List.range N).map fun i => Value.int .u8 (H i)).toArray
theorem tab_cell {W : World} {g N : Nat} {H : Nat → Int} {i : Nat} (h : W.heap[g]? = some (.cells (tabA N H) 5 (0, 0))) (hi : i < N) : W.cell? ⟨g, i, none⟩ = some (.int .u8 (H i)) := by
  refine (blk_cell h i).trans ?_
  simp [tabA, hi]
theorem tab_set {W : World} {g N : Nat} {H : Nat → Int} {i : Nat} (h : W.heap[g]? = some (.cells (tabA N H) 5 (0, 0))) (x : Int) : (W.setCell ⟨g, i, none⟩ (.int .u8 x)).heap[g]? = some (.cells (tabA N (upd H i x)) 5 (0, 0)) := by
  have h1 := blk_set h i (.int .u8 x)
  rw [h1]
  congr 2
  unfold tabA
  apply Array.ext
  · simp
  · intro j h1 h2
    simp at h1 h2
    simp [Array.getElem_setIfInBounds, upd]
    by_cases e : i = j
    · subst e; simp
    · rw [List.getElem_set_ne e, if_neg (fun q => e q.symm)]
      simp
theorem pow_bd {t : Nat} (ht : 1 ≤ t ∧ t ≤ 3) : 2 ^ (t * t + 2 * t) ≤ 32768 := by
  have e : t = 1 ∨ t = 2 ∨ t = 3 := by omega
  rcases e with rfl | rfl | rfl <;> decide
theorem run_tab (w : World) (N : Nat) (hN : N ≤ 32768) : (Instr.makeSlice 44 (.int .i64 (N : Int)) (.int .i64 (N : Int))).run Try.prog w = .ok (.slice (some ⟨w.heap.size, 0, none⟩) N N) (w.alloc (.cells (tabA N (fun _ => 0)) 5)) := by
  have h : (Try.prog.info? 5).map (fun i => (i.zero, i.size, i.bytes)) = some (some (.int .u8 0), 1, 1) := by kernel_rfl
  obtain ⟨i, hi, h0, h1, h2⟩ := info_parts h
  have := run_makeSlice (P := Try.prog) w 44 5 i (.int .u8 0) Try.underlying44 hi h0 .i64 .i64 (N : Int) (N : Int) (by omega) (by omega) (by rw [h1]; simp; omega) (by rw [h2]; simp; omega) (by omega)
  rw [this, Int.toNat_natCast, h1, Nat.mul_one]
  congr 3
  unfold madeCells tabA
  apply Array.ext
  · simp
  · intro j h1 h2
    simp [Value.cells, Nat.mod_one]
theorem pow_wr {t : Nat} (ht : 1 ≤ t ∧ t ≤ 3) : IntKind.i64.wrap (2 ^ t) = ((2 ^ t : Nat) : Int) := by
  have e : t = 1 ∨ t = 2 ∨ t = 3 := by omega
  rcases e with rfl | rfl | rfl <;> decide
theorem pow_wr2 {t : Nat} (ht : 1 ≤ t ∧ t ≤ 3) : IntKind.i64.wrap (2 ^ t) = 2 ^ t := by
  have e : t = 1 ∨ t = 2 ∨ t = 3 := by omega
  rcases e with rfl | rfl | rfl <;> decide
theorem pow_m1 {t : Nat} (ht : 1 ≤ t ∧ t ≤ 3) : IntKind.i64.wrap (((2 ^ t : Nat) : Int) - 1) = ((2 ^ t : Nat) : Int) - 1 := by
  have e : t = 1 ∨ t = 2 ∨ t = 3 := by omega
  rcases e with rfl | rfl | rfl <;> decide
theorem pow_m2 {t : Nat} (ht : 1 ≤ t ∧ t ≤ 3) : IntKind.i64.wrap (2 ^ t - 1) = 2 ^ t - 1 := by
  have e : t = 1 ∨ t = 2 ∨ t = 3 := by omega
  rcases e with rfl | rfl | rfl <;> decide
theorem mask_pow {t x : Nat} (ht : 1 ≤ t ∧ t ≤ 3) (hx : x < 100000) : bits .and .i64 (x : Int) (((2 ^ t : Nat) : Int) - 1) = ((x % 2 ^ t : Nat) : Int) := by
  have h := bits_mask .i64 62 (by decide) (fun n h0 h1 => wr (by omega) (by omega)) t (by omega) (x : Int) (by omega) (by omega)
  have e : (((2 ^ t : Nat) : Int) - 1) = 2 ^ t - 1 := by simp
  rw [e, h]
  simp
theorem mask_pow2 {t x : Nat} (ht : 1 ≤ t ∧ t ≤ 3) (hx : x < 100000) : bits .and .i64 (x : Int) (2 ^ t - 1) = (x : Int) % 2 ^ t := by
  exact bits_mask .i64 62 (by decide) (fun n h0 h1 => wr (by omega) (by omega)) t (by omega) (x : Int) (by omega) (by omega)
theorem q_bd {t k : Nat} (ht : 1 ≤ t ∧ t ≤ 3) (hk : k < 2 ^ (t * t + 2 * t)) : (0 : Int) ≤ ((k / 2 ^ (2 * t) : Nat) : Int) ∧ ((k / 2 ^ (2 * t) : Nat) : Int) < 1024 := by
  have e : t = 1 ∨ t = 2 ∨ t = 3 := by omega
  rcases e with rfl | rfl | rfl
  all_goals
    have h2 : k < 32768 := Nat.lt_of_lt_of_le hk (by decide)
  · have : k < 8 := hk
    have := Nat.div_le_self k (2 ^ (2 * 1)); omega
  · have : k < 256 := hk
    have := Nat.div_le_self k (2 ^ (2 * 2)); omega
  · have e : 2 ^ (2 * 3) = 64 := by decide
    rw [e]; omega
theorem p_bd {t x : Nat} (ht : 1 ≤ t ∧ t ≤ 3) : (0 : Int) ≤ ((x % 2 ^ t : Nat) : Int) ∧ ((x % 2 ^ t : Nat) : Int) < 1024 := by
  have h : x % 2 ^ t < 2 ^ t := Nat.mod_lt _ (Nat.two_pow_pos t)
  have h2 : 2 ^ t ≤ 2 ^ 3 := Nat.pow_le_pow_right (by decide) ht.2
  omega
theorem Ev.load50 {W : World} {p : Addr} {v : Value} (hc : W.cell? p = some v) : (Instr.loadAt 44 (.pointer (some p))).run Try.prog W = .ok v W := by
  go_simp
theorem Ev.store5 {W : World} {p : Addr} {x : Int} {u : Value} (hc : W.cell? p = some u) (hf : W.frozen? p = false) : (Instr.storeAt 5 (.pointer (some p)) (.int .u8 x)).run Try.prog W = .ok () (W.setCell p (.int .u8 x)) := by
  go_simp
theorem Ev.call {P : Program} {o : Oper} {a : Act} {W : World} {K : Act → World → Prop} {Q : Exit → Act → World → Prop} {N : Tmp} {f : FuncId} {args : Array Value} (hr : (execOp a.eval o).run P W = .ok (.enter f args) W) (hd : o.dst = some N) (hc : Calls P f args W (fun e w' => ∃ v, e = .returned v ∧ K (a.put (some N) v) w')) : o.wp P a W K Q := by
  unfold Oper.wp
  rw [hr, Oper.upon_enter]
  refine hc.mono ?_
  rintro e w' ⟨v, rfl, h⟩
  show K (a.put o.dst v) w'
  rw [hd]; exact h
set_option maxHeartbeats 2000000 in
theorem Rg.w0 {id : Nat} {Q : Exit → Act → World → Prop} {a : Act} {W : World} {b t : Nat} {d s : Int} {all : Value}
    (hsz : a.tmps.size = 69)  (h0 : a.eval (.tmp 0) = .pointer (some ⟨b, 0, none⟩)) (ht : 1 ≤ t ∧ t ≤ 3) (hb : W.heap[b]? = some (.cells (blk t d s all) 65 (0, 0)))
    (hQ : ∀ a' nd, Ev.Stay [6, 7, 8, 9, 10, 11] a a' → Q .normal a' (((W.drewN nd).alloc (.cells (tabA (2 ^ (t * t + 2 * t)) (fun _ => 0)) 5)).setCell ⟨b, 4, none⟩ (.slice (some ⟨W.heap.size, 0, none⟩) (2 ^ (t * t + 2 * t)) (2 ^ (t * t + 2 * t))))) : (Code.region id (Rg.ops 28 0) false).wp Try.prog Q a W := by
  refine wp_region_list ?_
  show wpList _ _ _ (_ :: _ :: _ :: _ :: _ :: _ :: _ :: []) _ _
  have k0 : Ev.Stay [6, 7, 8, 9, 10, 11] a a := Ev.Stay.refl [6, 7, 8, 9, 10, 11] a
  refine Ev.pv (N := 6) (v := .pointer (some ⟨b, 0, none⟩)) (W' := W) ?_ rfl rfl ?_
  · unfold execOp
    generalize a.eval = ev at *
    go_simp
  obtain ⟨a1, qa1⟩ : ∃ z_, z_ = a.put (some 6) (.pointer (some ⟨b, 0, none⟩)) := ⟨_, rfl⟩
  have k1 : Ev.Stay [6, 7, 8, 9, 10, 11] a a1 := by rw [qa1]; exact k0.put (by decide) _
  have e1_0 := Ev.oth qa1 (by decide) h0
  have e1_6 := Ev.sam qa1 (by rw [k0.1, hsz]; decide)
  rw [← qa1]
  clear qa1 
  refine Ev.pv (N := 7) (v := .pointer (some ⟨b, 0, none⟩)) (W' := W) ?_ rfl rfl ?_
  · unfold execOp
    generalize a1.eval = ev at *
    go_simp
  obtain ⟨a2, qa2⟩ : ∃ z_, z_ = a1.put (some 7) (.pointer (some ⟨b, 0, none⟩)) := ⟨_, rfl⟩
  have k2 : Ev.Stay [6, 7, 8, 9, 10, 11] a a2 := by rw [qa2]; exact k1.put (by decide) _
  have e2_0 := Ev.oth qa2 (by decide) e1_0
  have e2_6 := Ev.oth qa2 (by decide) e1_6
  have e2_7 := Ev.sam qa2 (by rw [k1.1, hsz]; decide)
  rw [← qa2]
  clear qa2 e1_0 e1_6
  refine Ev.pc (N := 8) (f := 32) (args := #[.pointer (some ⟨b, 0, none⟩)]) ?_ rfl rfl ((size b t ht _ (blk_t hb)).mono ?_)
  · have ef : a2.eval (.func 32) = .func (.func 32) #[] #[] := rfl
    unfold execOp
    generalize a2.eval = ev at *
    go_simp
  rintro e w' ⟨rfl, nd, rfl⟩
  refine ⟨_, rfl, ?_⟩
  obtain ⟨a3, qa3⟩ : ∃ z_, z_ = a2.put (some 8) (.int .i64 ((2 ^ (t * t + 2 * t) : Nat) : Int)) := ⟨_, rfl⟩
  have k3 : Ev.Stay [6, 7, 8, 9, 10, 11] a a3 := by rw [qa3]; exact k2.put (by decide) _
  have e3_0 := Ev.oth qa3 (by decide) e2_0
  have e3_6 := Ev.oth qa3 (by decide) e2_6
  have e3_7 := Ev.oth qa3 (by decide) e2_7
  have e3_8 := Ev.sam qa3 (by rw [k2.1, hsz]; decide)
  rw [← qa3]
  clear qa3 e2_0 e2_6 e2_7
  clear e3_7
  refine Ev.pv (N := 9) (v := .slice (some ⟨W.heap.size, 0, none⟩) (2 ^ (t * t + 2 * t)) (2 ^ (t * t + 2 * t))) (W' := (W.drewN nd).alloc (.cells (tabA (2 ^ (t * t + 2 * t)) (fun _ => 0)) 5)) ?_ rfl rfl ?_
  · have hm_ := run_tab (W.drewN nd) (2 ^ (t * t + 2 * t)) (pow_bd ht)
    generalize 2 ^ (t * t + 2 * t) = N_ at *
    unfold execOp
    generalize a3.eval = ev at *
    go_simp
  obtain ⟨a4, qa4⟩ : ∃ z_, z_ = a3.put (some 9) (.slice (some ⟨W.heap.size, 0, none⟩) (2 ^ (t * t + 2 * t)) (2 ^ (t * t + 2 * t))) := ⟨_, rfl⟩
  have k4 : Ev.Stay [6, 7, 8, 9, 10, 11] a a4 := by rw [qa4]; exact k3.put (by decide) _
  have e4_0 := Ev.oth qa4 (by decide) e3_0
  have e4_6 := Ev.oth qa4 (by decide) e3_6
  have e4_8 := Ev.oth qa4 (by decide) e3_8
  have e4_9 := Ev.sam qa4 (by rw [k3.1, hsz]; decide)
  rw [← qa4]
  clear qa4 e3_0 e3_6 e3_8
  clear e4_8
  refine Ev.pv (N := 10) (v := .pointer (some ⟨b, 0, none⟩)) (W' := (W.drewN nd).alloc (.cells (tabA (2 ^ (t * t + 2 * t)) (fun _ => 0)) 5)) ?_ rfl rfl ?_
  · unfold execOp
    generalize a4.eval = ev at *
    go_simp
  obtain ⟨a5, qa5⟩ : ∃ z_, z_ = a4.put (some 10) (.pointer (some ⟨b, 0, none⟩)) := ⟨_, rfl⟩
  have k5 : Ev.Stay [6, 7, 8, 9, 10, 11] a a5 := by rw [qa5]; exact k4.put (by decide) _
  have e5_0 := Ev.oth qa5 (by decide) e4_0
  have e5_6 := Ev.oth qa5 (by decide) e4_6
  have e5_9 := Ev.oth qa5 (by decide) e4_9
  have e5_10 := Ev.sam qa5 (by rw [k4.1, hsz]; decide)
  rw [← qa5]
  clear qa5 e4_0 e4_6 e4_9
  refine Ev.pv (N := 11) (v := .pointer (some ⟨b, 4, none⟩)) (W' := (W.drewN nd).alloc (.cells (tabA (2 ^ (t * t + 2 * t)) (fun _ => 0)) 5)) ?_ rfl rfl ?_
  · unfold execOp
    generalize a5.eval = ev at *
    go_simp
  obtain ⟨a6, qa6⟩ : ∃ z_, z_ = a5.put (some 11) (.pointer (some ⟨b, 4, none⟩)) := ⟨_, rfl⟩
  have k6 : Ev.Stay [6, 7, 8, 9, 10, 11] a a6 := by rw [qa6]; exact k5.put (by decide) _
  have e6_0 := Ev.oth qa6 (by decide) e5_0
  have e6_6 := Ev.oth qa6 (by decide) e5_6
  have e6_9 := Ev.oth qa6 (by decide) e5_9
  have e6_10 := Ev.oth qa6 (by decide) e5_10
  have e6_11 := Ev.sam qa6 (by rw [k5.1, hsz]; decide)
  rw [← qa6]
  clear qa6 e5_0 e5_6 e5_9 e5_10
  refine Ev.pk (W' := ((W.drewN nd).alloc (.cells (tabA (2 ^ (t * t + 2 * t)) (fun _ => 0)) 5)).setCell ⟨b, 4, none⟩ (.slice (some ⟨W.heap.size, 0, none⟩) (2 ^ (t * t + 2 * t)) (2 ^ (t * t + 2 * t)))) ?_ rfl rfl ?_
  · have hb2 : ((W.drewN nd).alloc (.cells (tabA (2 ^ (t * t + 2 * t)) (fun _ => 0)) 5)).heap[b]? = some (.cells (blk t d s all) 65 (0, 0)) := blk_alloc (w := W.drewN nd) hb _
    have hc4 : ((W.drewN nd).alloc (.cells (tabA (2 ^ (t * t + 2 * t)) (fun _ => 0)) 5)).cell? ⟨b, 4, none⟩ = some all := (blk_cell hb2 4).trans rfl
    have hf4 := blk_frozen hb2 4
    generalize ((W.drewN nd).alloc (.cells (tabA (2 ^ (t * t + 2 * t)) (fun _ => 0)) 5)) = W9 at *
    unfold execOp
    generalize a6.eval = ev at *
    generalize 2 ^ (t * t + 2 * t) = N_ at *
    go_simp
  exact hQ _ nd k6
set_option maxHeartbeats 2000000 in
theorem Rg.w1 {id : Nat} {Q : Exit → Act → World → Prop} {a : Act} {W : World} {b t : Nat} {d s : Int} {all : Value}
    (hsz : a.tmps.size = 69)  (h0 : a.eval (.tmp 0) = .pointer (some ⟨b, 0, none⟩)) (ht : 1 ≤ t ∧ t ≤ 3) (hb : W.heap[b]? = some (.cells (blk t d s all) 65 (0, 0)))
    (hQ : ∀ a', Ev.Stay [12, 13, 14, 15, 16, 2] a a' → a'.eval (.tmp 2) = .int .i64 ((2 ^ t : Nat) : Int) → Q .normal a' W) : (Code.region id (Rg.ops 28 1) false).wp Try.prog Q a W := by
  refine wp_region_list ?_
  show wpList _ _ _ (_ :: _ :: _ :: _ :: _ :: _ :: []) _ _
  have k0 : Ev.Stay [12, 13, 14, 15, 16, 2] a a := Ev.Stay.refl [12, 13, 14, 15, 16, 2] a
  refine Ev.pv (N := 12) (v := .pointer (some ⟨b, 0, none⟩)) (W' := W) ?_ rfl rfl ?_
  · unfold execOp
    generalize a.eval = ev at *
    go_simp
  obtain ⟨a1, qa1⟩ : ∃ z_, z_ = a.put (some 12) (.pointer (some ⟨b, 0, none⟩)) := ⟨_, rfl⟩
  have k1 : Ev.Stay [12, 13, 14, 15, 16, 2] a a1 := by rw [qa1]; exact k0.put (by decide) _
  have e1_0 := Ev.oth qa1 (by decide) h0
  have e1_12 := Ev.sam qa1 (by rw [k0.1, hsz]; decide)
  rw [← qa1]
  clear qa1 
  refine Ev.pv (N := 13) (v := .pointer (some ⟨b, 0, none⟩)) (W' := W) ?_ rfl rfl ?_
  · unfold execOp
    generalize a1.eval = ev at *
    go_simp
  obtain ⟨a2, qa2⟩ : ∃ z_, z_ = a1.put (some 13) (.pointer (some ⟨b, 0, none⟩)) := ⟨_, rfl⟩
  have k2 : Ev.Stay [12, 13, 14, 15, 16, 2] a a2 := by rw [qa2]; exact k1.put (by decide) _
  have e2_0 := Ev.oth qa2 (by decide) e1_0
  have e2_12 := Ev.oth qa2 (by decide) e1_12
  have e2_13 := Ev.sam qa2 (by rw [k1.1, hsz]; decide)
  rw [← qa2]
  clear qa2 e1_0 e1_12
  clear e2_12
  refine Ev.pv (N := 14) (v := .pointer (some ⟨b, 0, none⟩)) (W' := W) ?_ rfl rfl ?_
  · unfold execOp
    generalize a2.eval = ev at *
    go_simp
  obtain ⟨a3, qa3⟩ : ∃ z_, z_ = a2.put (some 14) (.pointer (some ⟨b, 0, none⟩)) := ⟨_, rfl⟩
  have k3 : Ev.Stay [12, 13, 14, 15, 16, 2] a a3 := by rw [qa3]; exact k2.put (by decide) _
  have e3_0 := Ev.oth qa3 (by decide) e2_0
  have e3_13 := Ev.oth qa3 (by decide) e2_13
  have e3_14 := Ev.sam qa3 (by rw [k2.1, hsz]; decide)
  rw [← qa3]
  clear qa3 e2_0 e2_13
  clear e3_13
  refine Ev.pv (N := 15) (v := .int .i64 (t : Int)) (W' := W) ?_ rfl rfl ?_
  · have hc_ := blk_t hb
    unfold execOp
    generalize a3.eval = ev at *
    go_simp
  obtain ⟨a4, qa4⟩ : ∃ z_, z_ = a3.put (some 15) (.int .i64 (t : Int)) := ⟨_, rfl⟩
  have k4 : Ev.Stay [12, 13, 14, 15, 16, 2] a a4 := by rw [qa4]; exact k3.put (by decide) _
  have e4_0 := Ev.oth qa4 (by decide) e3_0
  have e4_14 := Ev.oth qa4 (by decide) e3_14
  have e4_15 := Ev.sam qa4 (by rw [k3.1, hsz]; decide)
  rw [← qa4]
  clear qa4 e3_0 e3_14
  clear e4_14
  refine Ev.pv (N := 16) (v := .int .i64 ((2 ^ t : Nat) : Int)) (W' := W) ?_ rfl rfl ?_
  · have ec0 : a4.eval (.const (.int .i64 (1))) = .int .i64 (1) := rfl
    have hp_ := pow_wr ht
    have hp2_ := pow_wr2 ht
    unfold execOp
    generalize a4.eval = ev at *
    (go_simp; try (first | exact hp_ | exact hp2_))
  obtain ⟨a5, qa5⟩ : ∃ z_, z_ = a4.put (some 16) (.int .i64 ((2 ^ t : Nat) : Int)) := ⟨_, rfl⟩
  have k5 : Ev.Stay [12, 13, 14, 15, 16, 2] a a5 := by rw [qa5]; exact k4.put (by decide) _
  have e5_0 := Ev.oth qa5 (by decide) e4_0
  have e5_15 := Ev.oth qa5 (by decide) e4_15
  have e5_16 := Ev.sam qa5 (by rw [k4.1, hsz]; decide)
  rw [← qa5]
  clear qa5 e4_0 e4_15
  clear e5_15
  refine Ev.pv (N := 2) (v := .int .i64 ((2 ^ t : Nat) : Int)) (W' := W) ?_ rfl rfl ?_
  · unfold execOp
    generalize a5.eval = ev at *
    go_simp
  obtain ⟨a6, qa6⟩ : ∃ z_, z_ = a5.put (some 2) (.int .i64 ((2 ^ t : Nat) : Int)) := ⟨_, rfl⟩
  have k6 : Ev.Stay [12, 13, 14, 15, 16, 2] a a6 := by rw [qa6]; exact k5.put (by decide) _
  have e6_0 := Ev.oth qa6 (by decide) e5_0
  have e6_16 := Ev.oth qa6 (by decide) e5_16
  have e6_2 := Ev.sam qa6 (by rw [k5.1, hsz]; decide)
  rw [← qa6]
  clear qa6 e5_0 e5_16
  exact hQ _ k6 e6_2
set_option maxHeartbeats 2000000 in
theorem Rg.k1 {id : Nat} {Q : Exit → Act → World → Prop} {a : Act} {W : World} {b t : Nat} {d s : Int} {all : Value}
    (hsz : a.tmps.size = 90)  (h0 : a.eval (.tmp 0) = .pointer (some ⟨b, 0, none⟩)) (ht : 1 ≤ t ∧ t ≤ 3) (hb : W.heap[b]? = some (.cells (blk t d s all) 65 (0, 0)))
    (hQ : ∀ a', Ev.Stay [13, 14, 15, 16, 17, 11] a a' → a'.eval (.tmp 11) = .int .i64 ((2 ^ t : Nat) : Int) → Q .normal a' W) : (Code.region id (Rg.ops 23 1) false).wp Try.prog Q a W := by
  refine wp_region_list ?_
  show wpList _ _ _ (_ :: _ :: _ :: _ :: _ :: _ :: []) _ _
  have k0 : Ev.Stay [13, 14, 15, 16, 17, 11] a a := Ev.Stay.refl [13, 14, 15, 16, 17, 11] a
  refine Ev.pv (N := 13) (v := .pointer (some ⟨b, 0, none⟩)) (W' := W) ?_ rfl rfl ?_
  · unfold execOp
    generalize a.eval = ev at *
    go_simp
  obtain ⟨a1, qa1⟩ : ∃ z_, z_ = a.put (some 13) (.pointer (some ⟨b, 0, none⟩)) := ⟨_, rfl⟩
  have k1 : Ev.Stay [13, 14, 15, 16, 17, 11] a a1 := by rw [qa1]; exact k0.put (by decide) _
  have e1_0 := Ev.oth qa1 (by decide) h0
  have e1_13 := Ev.sam qa1 (by rw [k0.1, hsz]; decide)
  rw [← qa1]
  clear qa1 
  refine Ev.pv (N := 14) (v := .pointer (some ⟨b, 0, none⟩)) (W' := W) ?_ rfl rfl ?_
  · unfold execOp
    generalize a1.eval = ev at *
    go_simp
  obtain ⟨a2, qa2⟩ : ∃ z_, z_ = a1.put (some 14) (.pointer (some ⟨b, 0, none⟩)) := ⟨_, rfl⟩
  have k2 : Ev.Stay [13, 14, 15, 16, 17, 11] a a2 := by rw [qa2]; exact k1.put (by decide) _
  have e2_0 := Ev.oth qa2 (by decide) e1_0
  have e2_13 := Ev.oth qa2 (by decide) e1_13
  have e2_14 := Ev.sam qa2 (by rw [k1.1, hsz]; decide)
  rw [← qa2]
  clear qa2 e1_0 e1_13
  clear e2_13
  refine Ev.pv (N := 15) (v := .pointer (some ⟨b, 0, none⟩)) (W' := W) ?_ rfl rfl ?_
  · unfold execOp
    generalize a2.eval = ev at *
    go_simp
  obtain ⟨a3, qa3⟩ : ∃ z_, z_ = a2.put (some 15) (.pointer (some ⟨b, 0, none⟩)) := ⟨_, rfl⟩
  have k3 : Ev.Stay [13, 14, 15, 16, 17, 11] a a3 := by rw [qa3]; exact k2.put (by decide) _
  have e3_0 := Ev.oth qa3 (by decide) e2_0
  have e3_14 := Ev.oth qa3 (by decide) e2_14
  have e3_15 := Ev.sam qa3 (by rw [k2.1, hsz]; decide)
  rw [← qa3]
  clear qa3 e2_0 e2_14
  clear e3_14
  refine Ev.pv (N := 16) (v := .int .i64 (t : Int)) (W' := W) ?_ rfl rfl ?_
  · have hc_ := blk_t hb
    unfold execOp
    generalize a3.eval = ev at *
    go_simp
  obtain ⟨a4, qa4⟩ : ∃ z_, z_ = a3.put (some 16) (.int .i64 (t : Int)) := ⟨_, rfl⟩
  have k4 : Ev.Stay [13, 14, 15, 16, 17, 11] a a4 := by rw [qa4]; exact k3.put (by decide) _
  have e4_0 := Ev.oth qa4 (by decide) e3_0
  have e4_15 := Ev.oth qa4 (by decide) e3_15
  have e4_16 := Ev.sam qa4 (by rw [k3.1, hsz]; decide)
  rw [← qa4]
  clear qa4 e3_0 e3_15
  clear e4_15
  refine Ev.pv (N := 17) (v := .int .i64 ((2 ^ t : Nat) : Int)) (W' := W) ?_ rfl rfl ?_
  · have ec0 : a4.eval (.const (.int .i64 (1))) = .int .i64 (1) := rfl
    have hp_ := pow_wr ht
    have hp2_ := pow_wr2 ht
    unfold execOp
    generalize a4.eval = ev at *
    (go_simp; try (first | exact hp_ | exact hp2_))
  obtain ⟨a5, qa5⟩ : ∃ z_, z_ = a4.put (some 17) (.int .i64 ((2 ^ t : Nat) : Int)) := ⟨_, rfl⟩
  have k5 : Ev.Stay [13, 14, 15, 16, 17, 11] a a5 := by rw [qa5]; exact k4.put (by decide) _
  have e5_0 := Ev.oth qa5 (by decide) e4_0
  have e5_16 := Ev.oth qa5 (by decide) e4_16
  have e5_17 := Ev.sam qa5 (by rw [k4.1, hsz]; decide)
  rw [← qa5]
  clear qa5 e4_0 e4_16
  clear e5_16
  refine Ev.pv (N := 11) (v := .int .i64 ((2 ^ t : Nat) : Int)) (W' := W) ?_ rfl rfl ?_
  · unfold execOp
    generalize a5.eval = ev at *
    go_simp
  obtain ⟨a6, qa6⟩ : ∃ z_, z_ = a5.put (some 11) (.int .i64 ((2 ^ t : Nat) : Int)) := ⟨_, rfl⟩
  have k6 : Ev.Stay [13, 14, 15, 16, 17, 11] a a6 := by rw [qa6]; exact k5.put (by decide) _
  have e6_0 := Ev.oth qa6 (by decide) e5_0
  have e6_17 := Ev.oth qa6 (by decide) e5_17
  have e6_11 := Ev.sam qa6 (by rw [k5.1, hsz]; decide)
  rw [← qa6]
  clear qa6 e5_0 e5_17
  exact hQ _ k6 e6_11
set_option maxHeartbeats 2000000 in
theorem Rg.w2 {id : Nat} {Q : Exit → Act → World → Prop} {a : Act} {W : World} {b t g N : Nat} {d s : Int}
    (hsz : a.tmps.size = 69)  (h0 : a.eval (.tmp 0) = .pointer (some ⟨b, 0, none⟩)) (hb : W.heap[b]? = some (.cells (blk t d s (.slice (some ⟨g, 0, none⟩) N N)) 65 (0, 0)))
    (hQ : ∀ a', Ev.Stay [17, 18, 19, 20, 21, 22] a a' → a'.eval (.tmp 21) = .int .i64 (N : Int) → a'.eval (.tmp 22) = .int .i64 0 → Q .normal a' W) : (Code.region id (Rg.ops 28 2) false).wp Try.prog Q a W := by
  refine wp_region_list ?_
  show wpList _ _ _ (_ :: _ :: _ :: _ :: _ :: _ :: []) _ _
  have k0 : Ev.Stay [17, 18, 19, 20, 21, 22] a a := Ev.Stay.refl [17, 18, 19, 20, 21, 22] a
  refine Ev.pv (N := 17) (v := .pointer (some ⟨b, 0, none⟩)) (W' := W) ?_ rfl rfl ?_
  · unfold execOp
    generalize a.eval = ev at *
    go_simp
  obtain ⟨a1, qa1⟩ : ∃ z_, z_ = a.put (some 17) (.pointer (some ⟨b, 0, none⟩)) := ⟨_, rfl⟩
  have k1 : Ev.Stay [17, 18, 19, 20, 21, 22] a a1 := by rw [qa1]; exact k0.put (by decide) _
  have e1_0 := Ev.oth qa1 (by decide) h0
  have e1_17 := Ev.sam qa1 (by rw [k0.1, hsz]; decide)
  rw [← qa1]
  clear qa1 
  refine Ev.pv (N := 18) (v := .pointer (some ⟨b, 0, none⟩)) (W' := W) ?_ rfl rfl ?_
  · unfold execOp
    generalize a1.eval = ev at *
    go_simp
  obtain ⟨a2, qa2⟩ : ∃ z_, z_ = a1.put (some 18) (.pointer (some ⟨b, 0, none⟩)) := ⟨_, rfl⟩
  have k2 : Ev.Stay [17, 18, 19, 20, 21, 22] a a2 := by rw [qa2]; exact k1.put (by decide) _
  have e2_0 := Ev.oth qa2 (by decide) e1_0
  have e2_17 := Ev.oth qa2 (by decide) e1_17
  have e2_18 := Ev.sam qa2 (by rw [k1.1, hsz]; decide)
  rw [← qa2]
  clear qa2 e1_0 e1_17
  clear e2_17
  refine Ev.pv (N := 19) (v := .pointer (some ⟨b, 4, none⟩)) (W' := W) ?_ rfl rfl ?_
  · unfold execOp
    generalize a2.eval = ev at *
    go_simp
  obtain ⟨a3, qa3⟩ : ∃ z_, z_ = a2.put (some 19) (.pointer (some ⟨b, 4, none⟩)) := ⟨_, rfl⟩
  have k3 : Ev.Stay [17, 18, 19, 20, 21, 22] a a3 := by rw [qa3]; exact k2.put (by decide) _
  have e3_0 := Ev.oth qa3 (by decide) e2_0
  have e3_18 := Ev.oth qa3 (by decide) e2_18
  have e3_19 := Ev.sam qa3 (by rw [k2.1, hsz]; decide)
  rw [← qa3]
  clear qa3 e2_0 e2_18
  clear e3_18
  refine Ev.pv (N := 20) (v := .slice (some ⟨g, 0, none⟩) N N) (W' := W) ?_ rfl rfl ?_
  · have hc_ := blk_all hb
    unfold execOp
    generalize a3.eval = ev at *
    go_simp
  obtain ⟨a4, qa4⟩ : ∃ z_, z_ = a3.put (some 20) (.slice (some ⟨g, 0, none⟩) N N) := ⟨_, rfl⟩
  have k4 : Ev.Stay [17, 18, 19, 20, 21, 22] a a4 := by rw [qa4]; exact k3.put (by decide) _
  have e4_0 := Ev.oth qa4 (by decide) e3_0
  have e4_19 := Ev.oth qa4 (by decide) e3_19
  have e4_20 := Ev.sam qa4 (by rw [k3.1, hsz]; decide)
  rw [← qa4]
  clear qa4 e3_0 e3_19
  clear e4_19
  refine Ev.pv (N := 21) (v := .int .i64 (N : Int)) (W' := W) ?_ rfl rfl ?_
  · unfold execOp
    generalize a4.eval = ev at *
    go_simp
  obtain ⟨a5, qa5⟩ : ∃ z_, z_ = a4.put (some 21) (.int .i64 (N : Int)) := ⟨_, rfl⟩
  have k5 : Ev.Stay [17, 18, 19, 20, 21, 22] a a5 := by rw [qa5]; exact k4.put (by decide) _
  have e5_0 := Ev.oth qa5 (by decide) e4_0
  have e5_20 := Ev.oth qa5 (by decide) e4_20
  have e5_21 := Ev.sam qa5 (by rw [k4.1, hsz]; decide)
  rw [← qa5]
  clear qa5 e4_0 e4_20
  clear e5_20
  refine Ev.pv (N := 22) (v := .int .i64 (0)) (W' := W) ?_ rfl rfl ?_
  · have ec0 : a5.eval (.const (.int .i64 (0))) = .int .i64 (0) := rfl
    unfold execOp
    generalize a5.eval = ev at *
    go_simp
  obtain ⟨a6, qa6⟩ : ∃ z_, z_ = a5.put (some 22) (.int .i64 (0)) := ⟨_, rfl⟩
  have k6 : Ev.Stay [17, 18, 19, 20, 21, 22] a a6 := by rw [qa6]; exact k5.put (by decide) _
  have e6_0 := Ev.oth qa6 (by decide) e5_0
  have e6_21 := Ev.oth qa6 (by decide) e5_21
  have e6_22 := Ev.sam qa6 (by rw [k5.1, hsz]; decide)
  rw [← qa6]
  clear qa6 e5_0 e5_21
  exact hQ _ k6 e6_21 e6_22
set_option maxHeartbeats 2000000 in
theorem Rg.w3 {id : Nat} {Q : Exit → Act → World → Prop} {a : Act} {W : World} {k N : Nat}
    (hsz : a.tmps.size = 69)  (h22 : a.eval (.tmp 22) = .int .i64 (k : Int)) (h21 : a.eval (.tmp 21) = .int .i64 (N : Int))
    (hQ : ∀ a', Ev.Stay [23] a a' → a'.eval (.tmp 23) = .bool (decide (k < N)) → Q .normal a' W) : (Code.region id (Rg.ops 28 3) false).wp Try.prog Q a W := by
  refine wp_region_list ?_
  show wpList _ _ _ (_ :: []) _ _
  have k0 : Ev.Stay [23] a a := Ev.Stay.refl [23] a
  refine Ev.pv (N := 23) (v := .bool (decide (k < N))) (W' := W) ?_ rfl rfl ?_
  · unfold execOp
    generalize a.eval = ev at *
    (go_simp; try (rw [Bool.eq_iff_iff]; simp))
  obtain ⟨a1, qa1⟩ : ∃ z_, z_ = a.put (some 23) (.bool (decide (k < N))) := ⟨_, rfl⟩
  have k1 : Ev.Stay [23] a a1 := by rw [qa1]; exact k0.put (by decide) _
  have e1_22 := Ev.oth qa1 (by decide) h22
  have e1_21 := Ev.oth qa1 (by decide) h21
  have e1_23 := Ev.sam qa1 (by rw [k0.1, hsz]; decide)
  rw [← qa1]
  clear qa1 
  exact hQ _ k1 e1_23
set_option maxHeartbeats 2000000 in
theorem Rg.w4 {id : Nat} {Q : Exit → Act → World → Prop} {a : Act} {W : World} {k : Nat}
    (hsz : a.tmps.size = 69)  (h22 : a.eval (.tmp 22) = .int .i64 (k : Int))
    (hQ : ∀ a', Ev.Stay [24, 3] a a' → a'.eval (.tmp 3) = .int .i64 (k : Int) → Q .normal a' W) : (Code.region id (Rg.ops 28 4) false).wp Try.prog Q a W := by
  refine wp_region_list ?_
  show wpList _ _ _ (_ :: _ :: []) _ _
  have k0 : Ev.Stay [24, 3] a a := Ev.Stay.refl [24, 3] a
  refine Ev.pv (N := 24) (v := .int .i64 (k : Int)) (W' := W) ?_ rfl rfl ?_
  · unfold execOp
    generalize a.eval = ev at *
    go_simp
  obtain ⟨a1, qa1⟩ : ∃ z_, z_ = a.put (some 24) (.int .i64 (k : Int)) := ⟨_, rfl⟩
  have k1 : Ev.Stay [24, 3] a a1 := by rw [qa1]; exact k0.put (by decide) _
  have e1_22 := Ev.oth qa1 (by decide) h22
  have e1_24 := Ev.sam qa1 (by rw [k0.1, hsz]; decide)
  rw [← qa1]
  clear qa1 
  refine Ev.pv (N := 3) (v := .int .i64 (k : Int)) (W' := W) ?_ rfl rfl ?_
  · unfold execOp
    generalize a1.eval = ev at *
    go_simp
  obtain ⟨a2, qa2⟩ : ∃ z_, z_ = a1.put (some 3) (.int .i64 (k : Int)) := ⟨_, rfl⟩
  have k2 : Ev.Stay [24, 3] a a2 := by rw [qa2]; exact k1.put (by decide) _
  have e2_22 := Ev.oth qa2 (by decide) e1_22
  have e2_24 := Ev.oth qa2 (by decide) e1_24
  have e2_3 := Ev.sam qa2 (by rw [k1.1, hsz]; decide)
  rw [← qa2]
  clear qa2 e1_22 e1_24
  exact hQ _ k2 e2_3
set_option maxHeartbeats 2000000 in
theorem Rg.w7 {id : Nat} {Q : Exit → Act → World → Prop} {a : Act} {W : World} {k : Nat}
    (hsz : a.tmps.size = 69)  (h22 : a.eval (.tmp 22) = .int .i64 (k : Int)) (hk : k < 100000)
    (hQ : ∀ a', Ev.Stay [68, 22] a a' → a'.eval (.tmp 22) = .int .i64 ((k + 1 : Nat) : Int) → Q .normal a' W) : (Code.region id (Rg.ops 28 7) false).wp Try.prog Q a W := by
  refine wp_region_list ?_
  show wpList _ _ _ (_ :: _ :: []) _ _
  have k0 : Ev.Stay [68, 22] a a := Ev.Stay.refl [68, 22] a
  refine Ev.pv (N := 68) (v := .int .i64 ((k + 1 : Nat) : Int)) (W' := W) ?_ rfl rfl ?_
  · have ec0 : a.eval (.const (.int .i64 (1))) = .int .i64 (1) := rfl
    unfold execOp
    generalize a.eval = ev at *
    (go_simp; exact wr (by omega) (by omega))
  obtain ⟨a1, qa1⟩ : ∃ z_, z_ = a.put (some 68) (.int .i64 ((k + 1 : Nat) : Int)) := ⟨_, rfl⟩
  have k1 : Ev.Stay [68, 22] a a1 := by rw [qa1]; exact k0.put (by decide) _
  have e1_22 := Ev.oth qa1 (by decide) h22
  have e1_68 := Ev.sam qa1 (by rw [k0.1, hsz]; decide)
  rw [← qa1]
  clear qa1 
  refine Ev.pv (N := 22) (v := .int .i64 ((k + 1 : Nat) : Int)) (W' := W) ?_ rfl rfl ?_
  · unfold execOp
    generalize a1.eval = ev at *
    go_simp
  obtain ⟨a2, qa2⟩ : ∃ z_, z_ = a1.put (some 22) (.int .i64 ((k + 1 : Nat) : Int)) := ⟨_, rfl⟩
  have k2 : Ev.Stay [68, 22] a a2 := by rw [qa2]; exact k1.put (by decide) _
  have e2_68 := Ev.oth qa2 (by decide) e1_68
  have e2_22 := Ev.sam qa2 (by rw [k1.1, hsz]; decide)
  rw [← qa2]
  clear qa2 e1_22 e1_68
  exact hQ _ k2 e2_22
set_option maxHeartbeats 2000000 in
theorem Rg.w5 {id : Nat} {Q : Exit → Act → World → Prop} {a : Act} {W : World} {b t k : Nat} {d s : Int} {all : Value}
    (hsz : a.tmps.size = 69) (hP : ∀ c a a' w, a'.defers = a.defers → Q (.panic c) a w → Q (.panic c) a' w)  (h0 : a.eval (.tmp 0) = .pointer (some ⟨b, 0, none⟩)) (h3 : a.eval (.tmp 3) = .int .i64 (k : Int)) (h2 : a.eval (.tmp 2) = .int .i64 ((2 ^ t : Nat) : Int)) (ht : 1 ≤ t ∧ t ≤ 3) (hk : k < 2 ^ (t * t + 2 * t)) (hk2 : k < 100000) (hb : W.drew.heap[b]? = some (.cells (blk t d s all) 65 (0, 0)))
    (hQ : ∀ a' W', Ev.Stay [4, 5, 25, 26, 27, 28, 29, 30, 31, 32, 33, 34, 35, 36, 37, 38, 39, 40, 41, 42, 43, 44, 45, 46, 47, 48, 49, 50, 51, 52] a a' → a'.eval (.tmp 4) = .int .i64 (bot t ((k / 2 ^ (2 * t) : Nat) : Int) ((k / 2 ^ t % 2 ^ t : Nat) : Int) ((k % 2 ^ t : Nat) : Int) t) → a'.eval (.tmp 5) = .int .i64 (rig t ((k / 2 ^ (2 * t) : Nat) : Int) ((k / 2 ^ t % 2 ^ t : Nat) : Int) ((k % 2 ^ t : Nat) : Int) t) → Below W.heap.size W W' → Q .normal a' W') : (Code.region id (Rg.ops 28 5) true).wp Try.prog Q a W := by
  have hops : Rg.ops 28 5 = List.toArray [_, _, _, _, _, _, _, _, _, _, _, _, _, _, _, _, _, _, _, _, _, _, _, _, _, _, _, _, _, _] := rfl
  refine start_ (S := fun w_ => w_.heap[b]? = some (.cells (blk t d s all) 65 (0, 0))) (ds := []) #[false, false, false, false, false, false, false, false, false, false, false, false, false, false, false, false, false, false, false, false, false, false, false, false, false, false, false, false, false, false] (by kernel_rfl) (n := 30) rfl rfl ?S0 (fun hHeld => ?_)
  case S0 => exact hb
  have k0 : Ev.Stay [4, 5, 25, 26, 27, 28, 29, 30, 31, 32, 33, 34, 35, 36, 37, 38, 39, 40, 41, 42, 43, 44, 45, 46, 47, 48, 49, 50, 51, 52] a a := Ev.Stay.refl [4, 5, 25, 26, 27, 28, 29, 30, 31, 32, 33, 34, 35, 36, 37, 38, 39, 40, 41, 42, 43, 44, 45, 46, 47, 48, 49, 50, 51, 52] a
  refine pure_ (i := 0) (N := some 26) (v := .pointer (some ⟨b, 0, none⟩)) #[true, false, false, false, false, false, false, false, false, false, false, false, false, false, false, false, false, false, false, false, false, false, false, false, false, false, false, false, false, false] (Rg.of hops Rg.at0) rfl (by kernel_rfl) (fun c _ _ h => hP c _ _ _ (by rfl) h) (Or.inl ⟨Ev.wanted rfl, fun w_ => ?_⟩) rfl ?_
  · unfold execOp
    generalize a.eval = ev at *
    go_simp
  obtain ⟨a1, qa1⟩ : ∃ z_, z_ = a.put (some 26) (.pointer (some ⟨b, 0, none⟩)) := ⟨_, rfl⟩
  have k1 : Ev.Stay [4, 5, 25, 26, 27, 28, 29, 30, 31, 32, 33, 34, 35, 36, 37, 38, 39, 40, 41, 42, 43, 44, 45, 46, 47, 48, 49, 50, 51, 52] a a1 := by rw [qa1]; exact k0.put (by decide) _
  have e1_0 := Ev.oth qa1 (by decide) h0
  have e1_3 := Ev.oth qa1 (by decide) h3
  have e1_2 := Ev.oth qa1 (by decide) h2
  have e1_26 := Ev.sam qa1 (by rw [k0.1, hsz]; decide)
  rw [← qa1]
  clear qa1 
  refine pure_ (i := 1) (N := some 27) (v := .pointer (some ⟨b, 0, none⟩)) #[true, true, false, false, false, false, false, false, false, false, false, false, false, false, false, false, false, false, false, false, false, false, false, false, false, false, false, false, false, false] (Rg.of hops (Rg.atS Rg.at0)) rfl (by kernel_rfl) (fun c _ _ h => hP c _ _ _ (by rfl) h) (Or.inl ⟨Ev.wanted rfl, fun w_ => ?_⟩) rfl ?_
  · unfold execOp
    generalize a1.eval = ev at *
    go_simp
  obtain ⟨a2, qa2⟩ : ∃ z_, z_ = a1.put (some 27) (.pointer (some ⟨b, 0, none⟩)) := ⟨_, rfl⟩
  have k2 : Ev.Stay [4, 5, 25, 26, 27, 28, 29, 30, 31, 32, 33, 34, 35, 36, 37, 38, 39, 40, 41, 42, 43, 44, 45, 46, 47, 48, 49, 50, 51, 52] a a2 := by rw [qa2]; exact k1.put (by decide) _
  have e2_0 := Ev.oth qa2 (by decide) e1_0
  have e2_3 := Ev.oth qa2 (by decide) e1_3
  have e2_2 := Ev.oth qa2 (by decide) e1_2
  have e2_26 := Ev.oth qa2 (by decide) e1_26
  have e2_27 := Ev.sam qa2 (by rw [k1.1, hsz]; decide)
  rw [← qa2]
  clear qa2 e1_0 e1_3 e1_2 e1_26
  clear e2_26
  refine pure_ (i := 2) (N := some 28) (v := .pointer (some ⟨b, 0, none⟩)) #[true, true, true, false, false, false, false, false, false, false, false, false, false, false, false, false, false, false, false, false, false, false, false, false, false, false, false, false, false, false] (Rg.of hops (Rg.atS (Rg.atS Rg.at0))) rfl (by kernel_rfl) (fun c _ _ h => hP c _ _ _ (by rfl) h) (Or.inl ⟨Ev.wanted rfl, fun w_ => ?_⟩) rfl ?_
  · unfold execOp
    generalize a2.eval = ev at *
    go_simp
  obtain ⟨a3, qa3⟩ : ∃ z_, z_ = a2.put (some 28) (.pointer (some ⟨b, 0, none⟩)) := ⟨_, rfl⟩
  have k3 : Ev.Stay [4, 5, 25, 26, 27, 28, 29, 30, 31, 32, 33, 34, 35, 36, 37, 38, 39, 40, 41, 42, 43, 44, 45, 46, 47, 48, 49, 50, 51, 52] a a3 := by rw [qa3]; exact k2.put (by decide) _
  have e3_0 := Ev.oth qa3 (by decide) e2_0
  have e3_3 := Ev.oth qa3 (by decide) e2_3
  have e3_2 := Ev.oth qa3 (by decide) e2_2
  have e3_27 := Ev.oth qa3 (by decide) e2_27
  have e3_28 := Ev.sam qa3 (by rw [k2.1, hsz]; decide)
  rw [← qa3]
  clear qa3 e2_0 e2_3 e2_2 e2_27
  clear e3_27
  refine take_ (i := 3) (N := some 29) (v := .int .i64 (t : Int)) #[true, true, true, true, false, false, false, false, false, false, false, false, false, false, false, false, false, false, false, false, false, false, false, false, false, false, false, false, false, false] (Rg.of hops (Rg.atS (Rg.atS (Rg.atS Rg.at0)))) rfl (by kernel_rfl) (fun c _ _ h => hP c _ _ _ (by rfl) h) (Ev.loadW (Ev.wanted rfl) rfl e3_28 (fun w hw => Ev.load3 (blk_t hw))) hHeld rfl ?_
  obtain ⟨a4, qa4⟩ : ∃ z_, z_ = a3.put (some 29) (.int .i64 (t : Int)) := ⟨_, rfl⟩
  have k4 : Ev.Stay [4, 5, 25, 26, 27, 28, 29, 30, 31, 32, 33, 34, 35, 36, 37, 38, 39, 40, 41, 42, 43, 44, 45, 46, 47, 48, 49, 50, 51, 52] a a4 := by rw [qa4]; exact k3.put (by decide) _
  have e4_0 := Ev.oth qa4 (by decide) e3_0
  have e4_3 := Ev.oth qa4 (by decide) e3_3
  have e4_2 := Ev.oth qa4 (by decide) e3_2
  have e4_28 := Ev.oth qa4 (by decide) e3_28
  have e4_29 := Ev.sam qa4 (by rw [k3.1, hsz]; decide)
  rw [← qa4]
  clear qa4 e3_0 e3_3 e3_2 e3_28
  clear e4_28
  refine pure_ (i := 4) (N := some 30) (v := .int .i64 (k : Int)) #[true, true, true, true, true, false, false, false, false, false, false, false, false, false, false, false, false, false, false, false, false, false, false, false, false, false, false, false, false, false] (Rg.of hops (Rg.atS (Rg.atS (Rg.atS (Rg.atS Rg.at0))))) rfl (by kernel_rfl) (fun c _ _ h => hP c _ _ _ (by rfl) h) (Or.inl ⟨Ev.wanted rfl, fun w_ => ?_⟩) rfl ?_
  · unfold execOp
    generalize a4.eval = ev at *
    go_simp
  obtain ⟨a5, qa5⟩ : ∃ z_, z_ = a4.put (some 30) (.int .i64 (k : Int)) := ⟨_, rfl⟩
  have k5 : Ev.Stay [4, 5, 25, 26, 27, 28, 29, 30, 31, 32, 33, 34, 35, 36, 37, 38, 39, 40, 41, 42, 43, 44, 45, 46, 47, 48, 49, 50, 51, 52] a a5 := by rw [qa5]; exact k4.put (by decide) _
  have e5_0 := Ev.oth qa5 (by decide) e4_0
  have e5_3 := Ev.oth qa5 (by decide) e4_3
  have e5_2 := Ev.oth qa5 (by decide) e4_2
  have e5_29 := Ev.oth qa5 (by decide) e4_29
  have e5_30 := Ev.sam qa5 (by rw [k4.1, hsz]; decide)
  rw [← qa5]
  clear qa5 e4_0 e4_3 e4_2 e4_29
  refine pure_ (i := 5) (N := some 31) (v := .pointer (some ⟨b, 0, none⟩)) #[true, true, true, true, true, true, false, false, false, false, false, false, false, false, false, false, false, false, false, false, false, false, false, false, false, false, false, false, false, false] (Rg.of hops (Rg.atS (Rg.atS (Rg.atS (Rg.atS (Rg.atS Rg.at0)))))) rfl (by kernel_rfl) (fun c _ _ h => hP c _ _ _ (by rfl) h) (Or.inl ⟨Ev.wanted rfl, fun w_ => ?_⟩) rfl ?_
  · unfold execOp
    generalize a5.eval = ev at *
    go_simp
  obtain ⟨a6, qa6⟩ : ∃ z_, z_ = a5.put (some 31) (.pointer (some ⟨b, 0, none⟩)) := ⟨_, rfl⟩
  have k6 : Ev.Stay [4, 5, 25, 26, 27, 28, 29, 30, 31, 32, 33, 34, 35, 36, 37, 38, 39, 40, 41, 42, 43, 44, 45, 46, 47, 48, 49, 50, 51, 52] a a6 := by rw [qa6]; exact k5.put (by decide) _
  have e6_0 := Ev.oth qa6 (by decide) e5_0
  have e6_3 := Ev.oth qa6 (by decide) e5_3
  have e6_2 := Ev.oth qa6 (by decide) e5_2
  have e6_29 := Ev.oth qa6 (by decide) e5_29
  have e6_30 := Ev.oth qa6 (by decide) e5_30
  have e6_31 := Ev.sam qa6 (by rw [k5.1, hsz]; decide)
  rw [← qa6]
  clear qa6 e5_0 e5_3 e5_2 e5_29 e5_30
  refine pure_ (i := 6) (N := some 32) (v := .pointer (some ⟨b, 0, none⟩)) #[true, true, true, true, true, true, true, false, false, false, false, false, false, false, false, false, false, false, false, false, false, false, false, false, false, false, false, false, false, false] (Rg.of hops (Rg.atS (Rg.atS (Rg.atS (Rg.atS (Rg.atS (Rg.atS Rg.at0))))))) rfl (by kernel_rfl) (fun c _ _ h => hP c _ _ _ (by rfl) h) (Or.inl ⟨Ev.wanted rfl, fun w_ => ?_⟩) rfl ?_
  · unfold execOp
    generalize a6.eval = ev at *
    go_simp
  obtain ⟨a7, qa7⟩ : ∃ z_, z_ = a6.put (some 32) (.pointer (some ⟨b, 0, none⟩)) := ⟨_, rfl⟩
  have k7 : Ev.Stay [4, 5, 25, 26, 27, 28, 29, 30, 31, 32, 33, 34, 35, 36, 37, 38, 39, 40, 41, 42, 43, 44, 45, 46, 47, 48, 49, 50, 51, 52] a a7 := by rw [qa7]; exact k6.put (by decide) _
  have e7_0 := Ev.oth qa7 (by decide) e6_0
  have e7_3 := Ev.oth qa7 (by decide) e6_3
  have e7_2 := Ev.oth qa7 (by decide) e6_2
  have e7_29 := Ev.oth qa7 (by decide) e6_29
  have e7_30 := Ev.oth qa7 (by decide) e6_30
  have e7_31 := Ev.oth qa7 (by decide) e6_31
  have e7_32 := Ev.sam qa7 (by rw [k6.1, hsz]; decide)
  rw [← qa7]
  clear qa7 e6_0 e6_3 e6_2 e6_29 e6_30 e6_31
  clear e7_31
  refine pure_ (i := 7) (N := some 33) (v := .pointer (some ⟨b, 0, none⟩)) #[true, true, true, true, true, true, true, true, false, false, false, false, false, false, false, false, false, false, false, false, false, false, false, false, false, false, false, false, false, false] (Rg.of hops (Rg.atS (Rg.atS (Rg.atS (Rg.atS (Rg.atS (Rg.atS (Rg.atS Rg.at0)))))))) rfl (by kernel_rfl) (fun c _ _ h => hP c _ _ _ (by rfl) h) (Or.inl ⟨Ev.wanted rfl, fun w_ => ?_⟩) rfl ?_
  · unfold execOp
    generalize a7.eval = ev at *
    go_simp
  obtain ⟨a8, qa8⟩ : ∃ z_, z_ = a7.put (some 33) (.pointer (some ⟨b, 0, none⟩)) := ⟨_, rfl⟩
  have k8 : Ev.Stay [4, 5, 25, 26, 27, 28, 29, 30, 31, 32, 33, 34, 35, 36, 37, 38, 39, 40, 41, 42, 43, 44, 45, 46, 47, 48, 49, 50, 51, 52] a a8 := by rw [qa8]; exact k7.put (by decide) _
  have e8_0 := Ev.oth qa8 (by decide) e7_0
  have e8_3 := Ev.oth qa8 (by decide) e7_3
  have e8_2 := Ev.oth qa8 (by decide) e7_2
  have e8_29 := Ev.oth qa8 (by decide) e7_29
  have e8_30 := Ev.oth qa8 (by decide) e7_30
  have e8_32 := Ev.oth qa8 (by decide) e7_32
  have e8_33 := Ev.sam qa8 (by rw [k7.1, hsz]; decide)
  rw [← qa8]
  clear qa8 e7_0 e7_3 e7_2 e7_29 e7_30 e7_32
  clear e8_32
  refine take_ (i := 8) (N := some 34) (v := .int .i64 (t : Int)) #[true, true, true, true, true, true, true, true, true, false, false, false, false, false, false, false, false, false, false, false, false, false, false, false, false, false, false, false, false, false] (Rg.of hops (Rg.atS (Rg.atS (Rg.atS (Rg.atS (Rg.atS (Rg.atS (Rg.atS (Rg.atS Rg.at0))))))))) rfl (by kernel_rfl) (fun c _ _ h => hP c _ _ _ (by rfl) h) (Ev.loadW (Ev.wanted rfl) rfl e8_33 (fun w hw => Ev.load3 (blk_t hw))) hHeld rfl ?_
  obtain ⟨a9, qa9⟩ : ∃ z_, z_ = a8.put (some 34) (.int .i64 (t : Int)) := ⟨_, rfl⟩
  have k9 : Ev.Stay [4, 5, 25, 26, 27, 28, 29, 30, 31, 32, 33, 34, 35, 36, 37, 38, 39, 40, 41, 42, 43, 44, 45, 46, 47, 48, 49, 50, 51, 52] a a9 := by rw [qa9]; exact k8.put (by decide) _
  have e9_0 := Ev.oth qa9 (by decide) e8_0
  have e9_3 := Ev.oth qa9 (by decide) e8_3
  have e9_2 := Ev.oth qa9 (by decide) e8_2
  have e9_29 := Ev.oth qa9 (by decide) e8_29
  have e9_30 := Ev.oth qa9 (by decide) e8_30
  have e9_33 := Ev.oth qa9 (by decide) e8_33
  have e9_34 := Ev.sam qa9 (by rw [k8.1, hsz]; decide)
  rw [← qa9]
  clear qa9 e8_0 e8_3 e8_2 e8_29 e8_30 e8_33
  clear e9_33
  refine pure_ (i := 9) (N := some 35) (v := .int .i64 ((2 * t : Nat) : Int)) #[true, true, true, true, true, true, true, true, true, true, false, false, false, false, false, false, false, false, false, false, false, false, false, false, false, false, false, false, false, false] (Rg.of hops (Rg.atS (Rg.atS (Rg.atS (Rg.atS (Rg.atS (Rg.atS (Rg.atS (Rg.atS (Rg.atS Rg.at0)))))))))) rfl (by kernel_rfl) (fun c _ _ h => hP c _ _ _ (by rfl) h) (Or.inl ⟨Ev.wanted rfl, fun w_ => ?_⟩) rfl ?_
  · have ec0 : a9.eval (.const (.int .i64 (2))) = .int .i64 (2) := rfl
    unfold execOp
    generalize a9.eval = ev at *
    (go_simp; exact wr (by omega) (by omega))
  obtain ⟨a10, qa10⟩ : ∃ z_, z_ = a9.put (some 35) (.int .i64 ((2 * t : Nat) : Int)) := ⟨_, rfl⟩
  have k10 : Ev.Stay [4, 5, 25, 26, 27, 28, 29, 30, 31, 32, 33, 34, 35, 36, 37, 38, 39, 40, 41, 42, 43, 44, 45, 46, 47, 48, 49, 50, 51, 52] a a10 := by rw [qa10]; exact k9.put (by decide) _
  have e10_0 := Ev.oth qa10 (by decide) e9_0
  have e10_3 := Ev.oth qa10 (by decide) e9_3
  have e10_2 := Ev.oth qa10 (by decide) e9_2
  have e10_29 := Ev.oth qa10 (by decide) e9_29
  have e10_30 := Ev.oth qa10 (by decide) e9_30
  have e10_34 := Ev.oth qa10 (by decide) e9_34
  have e10_35 := Ev.sam qa10 (by rw [k9.1, hsz]; decide)
  rw [← qa10]
  clear qa10 e9_0 e9_3 e9_2 e9_29 e9_30 e9_34
  clear e10_34
  refine pure_ (i := 10) (N := some 36) (v := .int .i64 ((k / 2 ^ (2 * t) : Nat) : Int)) #[true, true, true, true, true, true, true, true, true, true, true, false, false, false, false, false, false, false, false, false, false, false, false, false, false, false, false, false, false, false] (Rg.of hops (Rg.atS (Rg.atS (Rg.atS (Rg.atS (Rg.atS (Rg.atS (Rg.atS (Rg.atS (Rg.atS (Rg.atS Rg.at0))))))))))) rfl (by kernel_rfl) (fun c _ _ h => hP c _ _ _ (by rfl) h) (Or.inl ⟨Ev.wanted rfl, fun w_ => ?_⟩) rfl ?_
  · have l0_ : (0 : Int) ≤ 2 * (t : Int) := by omega
    have l1_ : (2 * (t : Int)).toNat = 2 * t := by omega
    have mn_ : min (2 * t) 64 = 2 * t := by omega
    unfold execOp
    generalize a10.eval = ev at *
    (go_simp; try simp)
  obtain ⟨a11, qa11⟩ : ∃ z_, z_ = a10.put (some 36) (.int .i64 ((k / 2 ^ (2 * t) : Nat) : Int)) := ⟨_, rfl⟩
  have k11 : Ev.Stay [4, 5, 25, 26, 27, 28, 29, 30, 31, 32, 33, 34, 35, 36, 37, 38, 39, 40, 41, 42, 43, 44, 45, 46, 47, 48, 49, 50, 51, 52] a a11 := by rw [qa11]; exact k10.put (by decide) _
  have e11_0 := Ev.oth qa11 (by decide) e10_0
  have e11_3 := Ev.oth qa11 (by decide) e10_3
  have e11_2 := Ev.oth qa11 (by decide) e10_2
  have e11_29 := Ev.oth qa11 (by decide) e10_29
  have e11_30 := Ev.oth qa11 (by decide) e10_30
  have e11_35 := Ev.oth qa11 (by decide) e10_35
  have e11_36 := Ev.sam qa11 (by rw [k10.1, hsz]; decide)
  rw [← qa11]
  clear qa11 e10_0 e10_3 e10_2 e10_29 e10_30 e10_35
  clear e11_30
  clear e11_35
  refine pure_ (i := 11) (N := some 37) (v := .int .i64 (k : Int)) #[true, true, true, true, true, true, true, true, true, true, true, true, false, false, false, false, false, false, false, false, false, false, false, false, false, false, false, false, false, false] (Rg.of hops (Rg.atS (Rg.atS (Rg.atS (Rg.atS (Rg.atS (Rg.atS (Rg.atS (Rg.atS (Rg.atS (Rg.atS (Rg.atS Rg.at0)))))))))))) rfl (by kernel_rfl) (fun c _ _ h => hP c _ _ _ (by rfl) h) (Or.inl ⟨Ev.wanted rfl, fun w_ => ?_⟩) rfl ?_
  · unfold execOp
    generalize a11.eval = ev at *
    go_simp
  obtain ⟨a12, qa12⟩ : ∃ z_, z_ = a11.put (some 37) (.int .i64 (k : Int)) := ⟨_, rfl⟩
  have k12 : Ev.Stay [4, 5, 25, 26, 27, 28, 29, 30, 31, 32, 33, 34, 35, 36, 37, 38, 39, 40, 41, 42, 43, 44, 45, 46, 47, 48, 49, 50, 51, 52] a a12 := by rw [qa12]; exact k11.put (by decide) _
  have e12_0 := Ev.oth qa12 (by decide) e11_0
  have e12_3 := Ev.oth qa12 (by decide) e11_3
  have e12_2 := Ev.oth qa12 (by decide) e11_2
  have e12_29 := Ev.oth qa12 (by decide) e11_29
  have e12_36 := Ev.oth qa12 (by decide) e11_36
  have e12_37 := Ev.sam qa12 (by rw [k11.1, hsz]; decide)
  rw [← qa12]
  clear qa12 e11_0 e11_3 e11_2 e11_29 e11_36
  refine pure_ (i := 12) (N := some 38) (v := .pointer (some ⟨b, 0, none⟩)) #[true, true, true, true, true, true, true, true, true, true, true, true, true, false, false, false, false, false, false, false, false, false, false, false, false, false, false, false, false, false] (Rg.of hops (Rg.atS (Rg.atS (Rg.atS (Rg.atS (Rg.atS (Rg.atS (Rg.atS (Rg.atS (Rg.atS (Rg.atS (Rg.atS (Rg.atS Rg.at0))))))))))))) rfl (by kernel_rfl) (fun c _ _ h => hP c _ _ _ (by rfl) h) (Or.inl ⟨Ev.wanted rfl, fun w_ => ?_⟩) rfl ?_
  · unfold execOp
    generalize a12.eval = ev at *
    go_simp
  obtain ⟨a13, qa13⟩ : ∃ z_, z_ = a12.put (some 38) (.pointer (some ⟨b, 0, none⟩)) := ⟨_, rfl⟩
  have k13 : Ev.Stay [4, 5, 25, 26, 27, 28, 29, 30, 31, 32, 33, 34, 35, 36, 37, 38, 39, 40, 41, 42, 43, 44, 45, 46, 47, 48, 49, 50, 51, 52] a a13 := by rw [qa13]; exact k12.put (by decide) _
  have e13_0 := Ev.oth qa13 (by decide) e12_0
  have e13_3 := Ev.oth qa13 (by decide) e12_3
  have e13_2 := Ev.oth qa13 (by decide) e12_2
  have e13_29 := Ev.oth qa13 (by decide) e12_29
  have e13_36 := Ev.oth qa13 (by decide) e12_36
  have e13_37 := Ev.oth qa13 (by decide) e12_37
  have e13_38 := Ev.sam qa13 (by rw [k12.1, hsz]; decide)
  rw [← qa13]
  clear qa13 e12_0 e12_3 e12_2 e12_29 e12_36 e12_37
  refine pure_ (i := 13) (N := some 39) (v := .pointer (some ⟨b, 0, none⟩)) #[true, true, true, true, true, true, true, true, true, true, true, true, true, true, false, false, false, false, false, false, false, false, false, false, false, false, false, false, false, false] (Rg.of hops (Rg.atS (Rg.atS (Rg.atS (Rg.atS (Rg.atS (Rg.atS (Rg.atS (Rg.atS (Rg.atS (Rg.atS (Rg.atS (Rg.atS (Rg.atS Rg.at0)))))))))))))) rfl (by kernel_rfl) (fun c _ _ h => hP c _ _ _ (by rfl) h) (Or.inl ⟨Ev.wanted rfl, fun w_ => ?_⟩) rfl ?_
  · unfold execOp
    generalize a13.eval = ev at *
    go_simp
  obtain ⟨a14, qa14⟩ : ∃ z_, z_ = a13.put (some 39) (.pointer (some ⟨b, 0, none⟩)) := ⟨_, rfl⟩
  have k14 : Ev.Stay [4, 5, 25, 26, 27, 28, 29, 30, 31, 32, 33, 34, 35, 36, 37, 38, 39, 40, 41, 42, 43, 44, 45, 46, 47, 48, 49, 50, 51, 52] a a14 := by rw [qa14]; exact k13.put (by decide) _
  have e14_0 := Ev.oth qa14 (by decide) e13_0
  have e14_3 := Ev.oth qa14 (by decide) e13_3
  have e14_2 := Ev.oth qa14 (by decide) e13_2
  have e14_29 := Ev.oth qa14 (by decide) e13_29
  have e14_36 := Ev.oth qa14 (by decide) e13_36
  have e14_37 := Ev.oth qa14 (by decide) e13_37
  have e14_38 := Ev.oth qa14 (by decide) e13_38
  have e14_39 := Ev.sam qa14 (by rw [k13.1, hsz]; decide)
  rw [← qa14]
  clear qa14 e13_0 e13_3 e13_2 e13_29 e13_36 e13_37 e13_38
  clear e14_38
  refine pure_ (i := 14) (N := some 40) (v := .pointer (some ⟨b, 0, none⟩)) #[true, true, true, true, true, true, true, true, true, true, true, true, true, true, true, false, false, false, false, false, false, false, false, false, false, false, false, false, false, false] (Rg.of hops (Rg.atS (Rg.atS (Rg.atS (Rg.atS (Rg.atS (Rg.atS (Rg.atS (Rg.atS (Rg.atS (Rg.atS (Rg.atS (Rg.atS (Rg.atS (Rg.atS Rg.at0))))))))))))))) rfl (by kernel_rfl) (fun c _ _ h => hP c _ _ _ (by rfl) h) (Or.inl ⟨Ev.wanted rfl, fun w_ => ?_⟩) rfl ?_
  · unfold execOp
    generalize a14.eval = ev at *
    go_simp
  obtain ⟨a15, qa15⟩ : ∃ z_, z_ = a14.put (some 40) (.pointer (some ⟨b, 0, none⟩)) := ⟨_, rfl⟩
  have k15 : Ev.Stay [4, 5, 25, 26, 27, 28, 29, 30, 31, 32, 33, 34, 35, 36, 37, 38, 39, 40, 41, 42, 43, 44, 45, 46, 47, 48, 49, 50, 51, 52] a a15 := by rw [qa15]; exact k14.put (by decide) _
  have e15_0 := Ev.oth qa15 (by decide) e14_0
  have e15_3 := Ev.oth qa15 (by decide) e14_3
  have e15_2 := Ev.oth qa15 (by decide) e14_2
  have e15_29 := Ev.oth qa15 (by decide) e14_29
  have e15_36 := Ev.oth qa15 (by decide) e14_36
  have e15_37 := Ev.oth qa15 (by decide) e14_37
  have e15_39 := Ev.oth qa15 (by decide) e14_39
  have e15_40 := Ev.sam qa15 (by rw [k14.1, hsz]; decide)
  rw [← qa15]
  clear qa15 e14_0 e14_3 e14_2 e14_29 e14_36 e14_37 e14_39
  clear e15_39
  refine take_ (i := 15) (N := some 41) (v := .int .i64 (t : Int)) #[true, true, true, true, true, true, true, true, true, true, true, true, true, true, true, true, false, false, false, false, false, false, false, false, false, false, false, false, false, false] (Rg.of hops (Rg.atS (Rg.atS (Rg.atS (Rg.atS (Rg.atS (Rg.atS (Rg.atS (Rg.atS (Rg.atS (Rg.atS (Rg.atS (Rg.atS (Rg.atS (Rg.atS (Rg.atS Rg.at0)))))))))))))))) rfl (by kernel_rfl) (fun c _ _ h => hP c _ _ _ (by rfl) h) (Ev.loadW (Ev.wanted rfl) rfl e15_40 (fun w hw => Ev.load3 (blk_t hw))) hHeld rfl ?_
  obtain ⟨a16, qa16⟩ : ∃ z_, z_ = a15.put (some 41) (.int .i64 (t : Int)) := ⟨_, rfl⟩
  have k16 : Ev.Stay [4, 5, 25, 26, 27, 28, 29, 30, 31, 32, 33, 34, 35, 36, 37, 38, 39, 40, 41, 42, 43, 44, 45, 46, 47, 48, 49, 50, 51, 52] a a16 := by rw [qa16]; exact k15.put (by decide) _
  have e16_0 := Ev.oth qa16 (by decide) e15_0
  have e16_3 := Ev.oth qa16 (by decide) e15_3
  have e16_2 := Ev.oth qa16 (by decide) e15_2
  have e16_29 := Ev.oth qa16 (by decide) e15_29
  have e16_36 := Ev.oth qa16 (by decide) e15_36
  have e16_37 := Ev.oth qa16 (by decide) e15_37
  have e16_40 := Ev.oth qa16 (by decide) e15_40
  have e16_41 := Ev.sam qa16 (by rw [k15.1, hsz]; decide)
  rw [← qa16]
  clear qa16 e15_0 e15_3 e15_2 e15_29 e15_36 e15_37 e15_40
  clear e16_40
  refine pure_ (i := 16) (N := some 42) (v := .int .i64 ((k / 2 ^ t : Nat) : Int)) #[true, true, true, true, true, true, true, true, true, true, true, true, true, true, true, true, true, false, false, false, false, false, false, false, false, false, false, false, false, false] (Rg.of hops (Rg.atS (Rg.atS (Rg.atS (Rg.atS (Rg.atS (Rg.atS (Rg.atS (Rg.atS (Rg.atS (Rg.atS (Rg.atS (Rg.atS (Rg.atS (Rg.atS (Rg.atS (Rg.atS Rg.at0))))))))))))))))) rfl (by kernel_rfl) (fun c _ _ h => hP c _ _ _ (by rfl) h) (Or.inl ⟨Ev.wanted rfl, fun w_ => ?_⟩) rfl ?_
  · have l0_ : (0 : Int) ≤ (t : Int) := by omega
    have mn_ : min t 64 = t := by omega
    unfold execOp
    generalize a16.eval = ev at *
    (go_simp; try simp)
  obtain ⟨a17, qa17⟩ : ∃ z_, z_ = a16.put (some 42) (.int .i64 ((k / 2 ^ t : Nat) : Int)) := ⟨_, rfl⟩
  have k17 : Ev.Stay [4, 5, 25, 26, 27, 28, 29, 30, 31, 32, 33, 34, 35, 36, 37, 38, 39, 40, 41, 42, 43, 44, 45, 46, 47, 48, 49, 50, 51, 52] a a17 := by rw [qa17]; exact k16.put (by decide) _
  have e17_0 := Ev.oth qa17 (by decide) e16_0
  have e17_3 := Ev.oth qa17 (by decide) e16_3
  have e17_2 := Ev.oth qa17 (by decide) e16_2
  have e17_29 := Ev.oth qa17 (by decide) e16_29
  have e17_36 := Ev.oth qa17 (by decide) e16_36
  have e17_37 := Ev.oth qa17 (by decide) e16_37
  have e17_41 := Ev.oth qa17 (by decide) e16_41
  have e17_42 := Ev.sam qa17 (by rw [k16.1, hsz]; decide)
  rw [← qa17]
  clear qa17 e16_0 e16_3 e16_2 e16_29 e16_36 e16_37 e16_41
  clear e17_37
  clear e17_41
  refine pure_ (i := 17) (N := some 43) (v := .int .i64 ((2 ^ t : Nat) : Int)) #[true, true, true, true, true, true, true, true, true, true, true, true, true, true, true, true, true, true, false, false, false, false, false, false, false, false, false, false, false, false] (Rg.of hops (Rg.atS (Rg.atS (Rg.atS (Rg.atS (Rg.atS (Rg.atS (Rg.atS (Rg.atS (Rg.atS (Rg.atS (Rg.atS (Rg.atS (Rg.atS (Rg.atS (Rg.atS (Rg.atS (Rg.atS Rg.at0)))))))))))))))))) rfl (by kernel_rfl) (fun c _ _ h => hP c _ _ _ (by rfl) h) (Or.inl ⟨Ev.wanted rfl, fun w_ => ?_⟩) rfl ?_
  · unfold execOp
    generalize a17.eval = ev at *
    go_simp
  obtain ⟨a18, qa18⟩ : ∃ z_, z_ = a17.put (some 43) (.int .i64 ((2 ^ t : Nat) : Int)) := ⟨_, rfl⟩
  have k18 : Ev.Stay [4, 5, 25, 26, 27, 28, 29, 30, 31, 32, 33, 34, 35, 36, 37, 38, 39, 40, 41, 42, 43, 44, 45, 46, 47, 48, 49, 50, 51, 52] a a18 := by rw [qa18]; exact k17.put (by decide) _
  have e18_0 := Ev.oth qa18 (by decide) e17_0
  have e18_3 := Ev.oth qa18 (by decide) e17_3
  have e18_2 := Ev.oth qa18 (by decide) e17_2
  have e18_29 := Ev.oth qa18 (by decide) e17_29
  have e18_36 := Ev.oth qa18 (by decide) e17_36
  have e18_42 := Ev.oth qa18 (by decide) e17_42
  have e18_43 := Ev.sam qa18 (by rw [k17.1, hsz]; decide)
  rw [← qa18]
  clear qa18 e17_0 e17_3 e17_2 e17_29 e17_36 e17_42
  refine pure_ (i := 18) (N := some 44) (v := .int .i64 ((2 ^ t : Nat) - 1 : Int)) #[true, true, true, true, true, true, true, true, true, true, true, true, true, true, true, true, true, true, true, false, false, false, false, false, false, false, false, false, false, false] (Rg.of hops (Rg.atS (Rg.atS (Rg.atS (Rg.atS (Rg.atS (Rg.atS (Rg.atS (Rg.atS (Rg.atS (Rg.atS (Rg.atS (Rg.atS (Rg.atS (Rg.atS (Rg.atS (Rg.atS (Rg.atS (Rg.atS Rg.at0))))))))))))))))))) rfl (by kernel_rfl) (fun c _ _ h => hP c _ _ _ (by rfl) h) (Or.inl ⟨Ev.wanted rfl, fun w_ => ?_⟩) rfl ?_
  · have ec0 : a18.eval (.const (.int .i64 (1))) = .int .i64 (1) := rfl
    have hm1_ := pow_m1 ht
    unfold execOp
    generalize a18.eval = ev at *
    (go_simp; try (first | exact hm1_ | exact pow_m2 ht))
  obtain ⟨a19, qa19⟩ : ∃ z_, z_ = a18.put (some 44) (.int .i64 ((2 ^ t : Nat) - 1 : Int)) := ⟨_, rfl⟩
  have k19 : Ev.Stay [4, 5, 25, 26, 27, 28, 29, 30, 31, 32, 33, 34, 35, 36, 37, 38, 39, 40, 41, 42, 43, 44, 45, 46, 47, 48, 49, 50, 51, 52] a a19 := by rw [qa19]; exact k18.put (by decide) _
  have e19_0 := Ev.oth qa19 (by decide) e18_0
  have e19_3 := Ev.oth qa19 (by decide) e18_3
  have e19_2 := Ev.oth qa19 (by decide) e18_2
  have e19_29 := Ev.oth qa19 (by decide) e18_29
  have e19_36 := Ev.oth qa19 (by decide) e18_36
  have e19_42 := Ev.oth qa19 (by decide) e18_42
  have e19_43 := Ev.oth qa19 (by decide) e18_43
  have e19_44 := Ev.sam qa19 (by rw [k18.1, hsz]; decide)
  rw [← qa19]
  clear qa19 e18_0 e18_3 e18_2 e18_29 e18_36 e18_42 e18_43
  clear e19_43
  refine pure_ (i := 19) (N := some 45) (v := .int .i64 ((k / 2 ^ t % 2 ^ t : Nat) : Int)) #[true, true, true, true, true, true, true, true, true, true, true, true, true, true, true, true, true, true, true, true, false, false, false, false, false, false, false, false, false, false] (Rg.of hops (Rg.atS (Rg.atS (Rg.atS (Rg.atS (Rg.atS (Rg.atS (Rg.atS (Rg.atS (Rg.atS (Rg.atS (Rg.atS (Rg.atS (Rg.atS (Rg.atS (Rg.atS (Rg.atS (Rg.atS (Rg.atS (Rg.atS Rg.at0)))))))))))))))))))) rfl (by kernel_rfl) (fun c _ _ h => hP c _ _ _ (by rfl) h) (Or.inl ⟨Ev.wanted rfl, fun w_ => ?_⟩) rfl ?_
  · have hmk_ := mask_pow (x := k / 2 ^ t) ht (by have := Nat.div_le_self k (2 ^ t); omega)
    have hmk2_ := mask_pow2 (x := k / 2 ^ t) ht (by have := Nat.div_le_self k (2 ^ t); omega)
    unfold execOp
    generalize a19.eval = ev at *
    (go_simp; try (first | exact hmk_ | exact hmk2_))
  obtain ⟨a20, qa20⟩ : ∃ z_, z_ = a19.put (some 45) (.int .i64 ((k / 2 ^ t % 2 ^ t : Nat) : Int)) := ⟨_, rfl⟩
  have k20 : Ev.Stay [4, 5, 25, 26, 27, 28, 29, 30, 31, 32, 33, 34, 35, 36, 37, 38, 39, 40, 41, 42, 43, 44, 45, 46, 47, 48, 49, 50, 51, 52] a a20 := by rw [qa20]; exact k19.put (by decide) _
  have e20_0 := Ev.oth qa20 (by decide) e19_0
  have e20_3 := Ev.oth qa20 (by decide) e19_3
  have e20_2 := Ev.oth qa20 (by decide) e19_2
  have e20_29 := Ev.oth qa20 (by decide) e19_29
  have e20_36 := Ev.oth qa20 (by decide) e19_36
  have e20_42 := Ev.oth qa20 (by decide) e19_42
  have e20_44 := Ev.oth qa20 (by decide) e19_44
  have e20_45 := Ev.sam qa20 (by rw [k19.1, hsz]; decide)
  rw [← qa20]
  clear qa20 e19_0 e19_3 e19_2 e19_29 e19_36 e19_42 e19_44
  clear e20_42
  clear e20_44
  refine pure_ (i := 20) (N := some 46) (v := .int .i64 (k : Int)) #[true, true, true, true, true, true, true, true, true, true, true, true, true, true, true, true, true, true, true, true, true, false, false, false, false, false, false, false, false, false] (Rg.of hops (Rg.atS (Rg.atS (Rg.atS (Rg.atS (Rg.atS (Rg.atS (Rg.atS (Rg.atS (Rg.atS (Rg.atS (Rg.atS (Rg.atS (Rg.atS (Rg.atS (Rg.atS (Rg.atS (Rg.atS (Rg.atS (Rg.atS (Rg.atS Rg.at0))))))))))))))))))))) rfl (by kernel_rfl) (fun c _ _ h => hP c _ _ _ (by rfl) h) (Or.inl ⟨Ev.wanted rfl, fun w_ => ?_⟩) rfl ?_
  · unfold execOp
    generalize a20.eval = ev at *
    go_simp
  obtain ⟨a21, qa21⟩ : ∃ z_, z_ = a20.put (some 46) (.int .i64 (k : Int)) := ⟨_, rfl⟩
  have k21 : Ev.Stay [4, 5, 25, 26, 27, 28, 29, 30, 31, 32, 33, 34, 35, 36, 37, 38, 39, 40, 41, 42, 43, 44, 45, 46, 47, 48, 49, 50, 51, 52] a a21 := by rw [qa21]; exact k20.put (by decide) _
  have e21_0 := Ev.oth qa21 (by decide) e20_0
  have e21_3 := Ev.oth qa21 (by decide) e20_3
  have e21_2 := Ev.oth qa21 (by decide) e20_2
  have e21_29 := Ev.oth qa21 (by decide) e20_29
  have e21_36 := Ev.oth qa21 (by decide) e20_36
  have e21_45 := Ev.oth qa21 (by decide) e20_45
  have e21_46 := Ev.sam qa21 (by rw [k20.1, hsz]; decide)
  rw [← qa21]
  clear qa21 e20_0 e20_3 e20_2 e20_29 e20_36 e20_45
  refine pure_ (i := 21) (N := some 47) (v := .int .i64 ((2 ^ t : Nat) : Int)) #[true, true, true, true, true, true, true, true, true, true, true, true, true, true, true, true, true, true, true, true, true, true, false, false, false, false, false, false, false, false] (Rg.of hops (Rg.atS (Rg.atS (Rg.atS (Rg.atS (Rg.atS (Rg.atS (Rg.atS (Rg.atS (Rg.atS (Rg.atS (Rg.atS (Rg.atS (Rg.atS (Rg.atS (Rg.atS (Rg.atS (Rg.atS (Rg.atS (Rg.atS (Rg.atS (Rg.atS Rg.at0)))))))))))))))))))))) rfl (by kernel_rfl) (fun c _ _ h => hP c _ _ _ (by rfl) h) (Or.inl ⟨Ev.wanted rfl, fun w_ => ?_⟩) rfl ?_
  · unfold execOp
    generalize a21.eval = ev at *
    go_simp
  obtain ⟨a22, qa22⟩ : ∃ z_, z_ = a21.put (some 47) (.int .i64 ((2 ^ t : Nat) : Int)) := ⟨_, rfl⟩
  have k22 : Ev.Stay [4, 5, 25, 26, 27, 28, 29, 30, 31, 32, 33, 34, 35, 36, 37, 38, 39, 40, 41, 42, 43, 44, 45, 46, 47, 48, 49, 50, 51, 52] a a22 := by rw [qa22]; exact k21.put (by decide) _
  have e22_0 := Ev.oth qa22 (by decide) e21_0
  have e22_3 := Ev.oth qa22 (by decide) e21_3
  have e22_2 := Ev.oth qa22 (by decide) e21_2
  have e22_29 := Ev.oth qa22 (by decide) e21_29
  have e22_36 := Ev.oth qa22 (by decide) e21_36
  have e22_45 := Ev.oth qa22 (by decide) e21_45
  have e22_46 := Ev.oth qa22 (by decide) e21_46
  have e22_47 := Ev.sam qa22 (by rw [k21.1, hsz]; decide)
  rw [← qa22]
  clear qa22 e21_0 e21_3 e21_2 e21_29 e21_36 e21_45 e21_46
  refine pure_ (i := 22) (N := some 48) (v := .int .i64 ((2 ^ t : Nat) - 1 : Int)) #[true, true, true, true, true, true, true, true, true, true, true, true, true, true, true, true, true, true, true, true, true, true, true, false, false, false, false, false, false, false] (Rg.of hops (Rg.atS (Rg.atS (Rg.atS (Rg.atS (Rg.atS (Rg.atS (Rg.atS (Rg.atS (Rg.atS (Rg.atS (Rg.atS (Rg.atS (Rg.atS (Rg.atS (Rg.atS (Rg.atS (Rg.atS (Rg.atS (Rg.atS (Rg.atS (Rg.atS (Rg.atS Rg.at0))))))))))))))))))))))) rfl (by kernel_rfl) (fun c _ _ h => hP c _ _ _ (by rfl) h) (Or.inl ⟨Ev.wanted rfl, fun w_ => ?_⟩) rfl ?_
  · have ec0 : a22.eval (.const (.int .i64 (1))) = .int .i64 (1) := rfl
    have hm1_ := pow_m1 ht
    unfold execOp
    generalize a22.eval = ev at *
    (go_simp; try (first | exact hm1_ | exact pow_m2 ht))
  obtain ⟨a23, qa23⟩ : ∃ z_, z_ = a22.put (some 48) (.int .i64 ((2 ^ t : Nat) - 1 : Int)) := ⟨_, rfl⟩
  have k23 : Ev.Stay [4, 5, 25, 26, 27, 28, 29, 30, 31, 32, 33, 34, 35, 36, 37, 38, 39, 40, 41, 42, 43, 44, 45, 46, 47, 48, 49, 50, 51, 52] a a23 := by rw [qa23]; exact k22.put (by decide) _
  have e23_0 := Ev.oth qa23 (by decide) e22_0
  have e23_3 := Ev.oth qa23 (by decide) e22_3
  have e23_2 := Ev.oth qa23 (by decide) e22_2
  have e23_29 := Ev.oth qa23 (by decide) e22_29
  have e23_36 := Ev.oth qa23 (by decide) e22_36
  have e23_45 := Ev.oth qa23 (by decide) e22_45
  have e23_46 := Ev.oth qa23 (by decide) e22_46
  have e23_47 := Ev.oth qa23 (by decide) e22_47
  have e23_48 := Ev.sam qa23 (by rw [k22.1, hsz]; decide)
  rw [← qa23]
  clear qa23 e22_0 e22_3 e22_2 e22_29 e22_36 e22_45 e22_46 e22_47
  clear e23_47
  refine pure_ (i := 23) (N := some 49) (v := .int .i64 ((k % 2 ^ t : Nat) : Int)) #[true, true, true, true, true, true, true, true, true, true, true, true, true, true, true, true, true, true, true, true, true, true, true, true, false, false, false, false, false, false] (Rg.of hops (Rg.atS (Rg.atS (Rg.atS (Rg.atS (Rg.atS (Rg.atS (Rg.atS (Rg.atS (Rg.atS (Rg.atS (Rg.atS (Rg.atS (Rg.atS (Rg.atS (Rg.atS (Rg.atS (Rg.atS (Rg.atS (Rg.atS (Rg.atS (Rg.atS (Rg.atS (Rg.atS Rg.at0)))))))))))))))))))))))) rfl (by kernel_rfl) (fun c _ _ h => hP c _ _ _ (by rfl) h) (Or.inl ⟨Ev.wanted rfl, fun w_ => ?_⟩) rfl ?_
  · have hmk_ := mask_pow (x := k) ht (by omega)
    have hmk2_ := mask_pow2 (x := k) ht (by omega)
    unfold execOp
    generalize a23.eval = ev at *
    (go_simp; try (first | exact hmk_ | exact hmk2_))
  obtain ⟨a24, qa24⟩ : ∃ z_, z_ = a23.put (some 49) (.int .i64 ((k % 2 ^ t : Nat) : Int)) := ⟨_, rfl⟩
  have k24 : Ev.Stay [4, 5, 25, 26, 27, 28, 29, 30, 31, 32, 33, 34, 35, 36, 37, 38, 39, 40, 41, 42, 43, 44, 45, 46, 47, 48, 49, 50, 51, 52] a a24 := by rw [qa24]; exact k23.put (by decide) _
  have e24_0 := Ev.oth qa24 (by decide) e23_0
  have e24_3 := Ev.oth qa24 (by decide) e23_3
  have e24_2 := Ev.oth qa24 (by decide) e23_2
  have e24_29 := Ev.oth qa24 (by decide) e23_29
  have e24_36 := Ev.oth qa24 (by decide) e23_36
  have e24_45 := Ev.oth qa24 (by decide) e23_45
  have e24_46 := Ev.oth qa24 (by decide) e23_46
  have e24_48 := Ev.oth qa24 (by decide) e23_48
  have e24_49 := Ev.sam qa24 (by rw [k23.1, hsz]; decide)
  rw [← qa24]
  clear qa24 e23_0 e23_3 e23_2 e23_29 e23_36 e23_45 e23_46 e23_48
  clear e24_46
  clear e24_48
  refine one_ (i := 24) (N := some 50) #[true, true, true, true, true, true, true, true, true, true, true, true, true, true, true, true, true, true, true, true, true, true, true, true, true, false, false, false, false, false] (Rg.of hops (Rg.atS (Rg.atS (Rg.atS (Rg.atS (Rg.atS (Rg.atS (Rg.atS (Rg.atS (Rg.atS (Rg.atS (Rg.atS (Rg.atS (Rg.atS (Rg.atS (Rg.atS (Rg.atS (Rg.atS (Rg.atS (Rg.atS (Rg.atS (Rg.atS (Rg.atS (Rg.atS (Rg.atS Rg.at0))))))))))))))))))))))))) rfl (by kernel_rfl) (by decide) (fun K hK => ?_)
  rw [if_pos (Ev.wanted rfl)]
  refine Ev.call (N := 50) (f := 33) (args := #[.int .i64 (t : Int), .int .i64 ((k / 2 ^ (2 * t) : Nat) : Int), .int .i64 ((k / 2 ^ t % 2 ^ t : Nat) : Int), .int .i64 ((k % 2 ^ t : Nat) : Int)]) ?_ rfl ((square (t := t) (by omega) (q_bd ht hk) (p_bd ht) (p_bd ht) _).mono ?_)
  · have ef : a24.eval (.func 33) = .func (.func 33) #[] #[] := rfl
    unfold execOp
    generalize a24.eval = ev at *
    go_simp
  rintro e W2 ⟨rfl, hbl⟩
  refine ⟨_, rfl, ?_⟩
  refine hK.out _ _ ((hbl.block _ (blk_lt hHeld)).trans hHeld) (fun hHeld => ?_)
  clear hK K
  obtain ⟨a25, qa25⟩ : ∃ z_, z_ = a24.put (some 50) (.tuple #[.int .i64 (bot t ((k / 2 ^ (2 * t) : Nat) : Int) ((k / 2 ^ t % 2 ^ t : Nat) : Int) ((k % 2 ^ t : Nat) : Int) t), .int .i64 (rig t ((k / 2 ^ (2 * t) : Nat) : Int) ((k / 2 ^ t % 2 ^ t : Nat) : Int) ((k % 2 ^ t : Nat) : Int) t)]) := ⟨_, rfl⟩
  have k25 : Ev.Stay [4, 5, 25, 26, 27, 28, 29, 30, 31, 32, 33, 34, 35, 36, 37, 38, 39, 40, 41, 42, 43, 44, 45, 46, 47, 48, 49, 50, 51, 52] a a25 := by rw [qa25]; exact k24.put (by decide) _
  have e25_0 := Ev.oth qa25 (by decide) e24_0
  have e25_3 := Ev.oth qa25 (by decide) e24_3
  have e25_2 := Ev.oth qa25 (by decide) e24_2
  have e25_29 := Ev.oth qa25 (by decide) e24_29
  have e25_36 := Ev.oth qa25 (by decide) e24_36
  have e25_45 := Ev.oth qa25 (by decide) e24_45
  have e25_49 := Ev.oth qa25 (by decide) e24_49
  have e25_50 := Ev.sam qa25 (by rw [k24.1, hsz]; decide)
  rw [← qa25]
  clear qa25 e24_0 e24_3 e24_2 e24_29 e24_36 e24_45 e24_49
  clear e25_29
  clear e25_36
  clear e25_45
  clear e25_49
  obtain ⟨bo, hbo⟩ : ∃ bo, bo = bot t ((k / 2 ^ (2 * t) : Nat) : Int) ((k / 2 ^ t % 2 ^ t : Nat) : Int) ((k % 2 ^ t : Nat) : Int) t := ⟨_, rfl⟩
  obtain ⟨ri, hri⟩ : ∃ ri, ri = rig t ((k / 2 ^ (2 * t) : Nat) : Int) ((k / 2 ^ t % 2 ^ t : Nat) : Int) ((k % 2 ^ t : Nat) : Int) t := ⟨_, rfl⟩
  rw [← hbo, ← hri] at e25_50
  have HBO := Aside0.mk hbo
  have HRI := Aside0.mk hri
  clear hbo hri
  refine pure_ (i := 25) (N := some 25) (v := .tuple #[.int .i64 bo, .int .i64 ri]) #[true, true, true, true, true, true, true, true, true, true, true, true, true, true, true, true, true, true, true, true, true, true, true, true, true, true, false, false, false, false] (Rg.of hops (Rg.atS (Rg.atS (Rg.atS (Rg.atS (Rg.atS (Rg.atS (Rg.atS (Rg.atS (Rg.atS (Rg.atS (Rg.atS (Rg.atS (Rg.atS (Rg.atS (Rg.atS (Rg.atS (Rg.atS (Rg.atS (Rg.atS (Rg.atS (Rg.atS (Rg.atS (Rg.atS (Rg.atS (Rg.atS Rg.at0)))))))))))))))))))))))))) rfl (by kernel_rfl) (fun c _ _ h => hP c _ _ _ (by rfl) h) (Or.inl ⟨Ev.wanted rfl, fun w_ => ?_⟩) rfl ?_
  · unfold execOp
    generalize a25.eval = ev at *
    go_simp
  obtain ⟨a26, qa26⟩ : ∃ z_, z_ = a25.put (some 25) (.tuple #[.int .i64 bo, .int .i64 ri]) := ⟨_, rfl⟩
  have k26 : Ev.Stay [4, 5, 25, 26, 27, 28, 29, 30, 31, 32, 33, 34, 35, 36, 37, 38, 39, 40, 41, 42, 43, 44, 45, 46, 47, 48, 49, 50, 51, 52] a a26 := by rw [qa26]; exact k25.put (by decide) _
  have e26_0 := Ev.oth qa26 (by decide) e25_0
  have e26_3 := Ev.oth qa26 (by decide) e25_3
  have e26_2 := Ev.oth qa26 (by decide) e25_2
  have e26_50 := Ev.oth qa26 (by decide) e25_50
  have e26_25 := Ev.sam qa26 (by rw [k25.1, hsz]; decide)
  rw [← qa26]
  clear qa26 e25_0 e25_3 e25_2 e25_50
  clear e26_50
  refine pure_ (i := 26) (N := some 51) (v := .int .i64 (bo)) #[true, true, true, true, true, true, true, true, true, true, true, true, true, true, true, true, true, true, true, true, true, true, true, true, true, true, true, false, false, false] (Rg.of hops (Rg.atS (Rg.atS (Rg.atS (Rg.atS (Rg.atS (Rg.atS (Rg.atS (Rg.atS (Rg.atS (Rg.atS (Rg.atS (Rg.atS (Rg.atS (Rg.atS (Rg.atS (Rg.atS (Rg.atS (Rg.atS (Rg.atS (Rg.atS (Rg.atS (Rg.atS (Rg.atS (Rg.atS (Rg.atS (Rg.atS Rg.at0))))))))))))))))))))))))))) rfl (by kernel_rfl) (fun c _ _ h => hP c _ _ _ (by rfl) h) (Or.inl ⟨Ev.wanted rfl, fun w_ => ?_⟩) rfl ?_
  · unfold execOp
    generalize a26.eval = ev at *
    go_simp
  obtain ⟨a27, qa27⟩ : ∃ z_, z_ = a26.put (some 51) (.int .i64 (bo)) := ⟨_, rfl⟩
  have k27 : Ev.Stay [4, 5, 25, 26, 27, 28, 29, 30, 31, 32, 33, 34, 35, 36, 37, 38, 39, 40, 41, 42, 43, 44, 45, 46, 47, 48, 49, 50, 51, 52] a a27 := by rw [qa27]; exact k26.put (by decide) _
  have e27_0 := Ev.oth qa27 (by decide) e26_0
  have e27_3 := Ev.oth qa27 (by decide) e26_3
  have e27_2 := Ev.oth qa27 (by decide) e26_2
  have e27_25 := Ev.oth qa27 (by decide) e26_25
  have e27_51 := Ev.sam qa27 (by rw [k26.1, hsz]; decide)
  rw [← qa27]
  clear qa27 e26_0 e26_3 e26_2 e26_25
  refine pure_ (i := 27) (N := some 52) (v := .int .i64 (ri)) #[true, true, true, true, true, true, true, true, true, true, true, true, true, true, true, true, true, true, true, true, true, true, true, true, true, true, true, true, false, false] (Rg.of hops (Rg.atS (Rg.atS (Rg.atS (Rg.atS (Rg.atS (Rg.atS (Rg.atS (Rg.atS (Rg.atS (Rg.atS (Rg.atS (Rg.atS (Rg.atS (Rg.atS (Rg.atS (Rg.atS (Rg.atS (Rg.atS (Rg.atS (Rg.atS (Rg.atS (Rg.atS (Rg.atS (Rg.atS (Rg.atS (Rg.atS (Rg.atS Rg.at0)))))))))))))))))))))))))))) rfl (by kernel_rfl) (fun c _ _ h => hP c _ _ _ (by rfl) h) (Or.inl ⟨Ev.wanted rfl, fun w_ => ?_⟩) rfl ?_
  · unfold execOp
    generalize a27.eval = ev at *
    go_simp
  obtain ⟨a28, qa28⟩ : ∃ z_, z_ = a27.put (some 52) (.int .i64 (ri)) := ⟨_, rfl⟩
  have k28 : Ev.Stay [4, 5, 25, 26, 27, 28, 29, 30, 31, 32, 33, 34, 35, 36, 37, 38, 39, 40, 41, 42, 43, 44, 45, 46, 47, 48, 49, 50, 51, 52] a a28 := by rw [qa28]; exact k27.put (by decide) _
  have e28_0 := Ev.oth qa28 (by decide) e27_0
  have e28_3 := Ev.oth qa28 (by decide) e27_3
  have e28_2 := Ev.oth qa28 (by decide) e27_2
  have e28_25 := Ev.oth qa28 (by decide) e27_25
  have e28_51 := Ev.oth qa28 (by decide) e27_51
  have e28_52 := Ev.sam qa28 (by rw [k27.1, hsz]; decide)
  rw [← qa28]
  clear qa28 e27_0 e27_3 e27_2 e27_25 e27_51
  clear e28_25
  refine pure_ (i := 28) (N := some 4) (v := .int .i64 (bo)) #[true, true, true, true, true, true, true, true, true, true, true, true, true, true, true, true, true, true, true, true, true, true, true, true, true, true, true, true, true, false] (Rg.of hops (Rg.atS (Rg.atS (Rg.atS (Rg.atS (Rg.atS (Rg.atS (Rg.atS (Rg.atS (Rg.atS (Rg.atS (Rg.atS (Rg.atS (Rg.atS (Rg.atS (Rg.atS (Rg.atS (Rg.atS (Rg.atS (Rg.atS (Rg.atS (Rg.atS (Rg.atS (Rg.atS (Rg.atS (Rg.atS (Rg.atS (Rg.atS (Rg.atS Rg.at0))))))))))))))))))))))))))))) rfl (by kernel_rfl) (fun c _ _ h => hP c _ _ _ (by rfl) h) (Or.inl ⟨Ev.wanted rfl, fun w_ => ?_⟩) rfl ?_
  · unfold execOp
    generalize a28.eval = ev at *
    go_simp
  obtain ⟨a29, qa29⟩ : ∃ z_, z_ = a28.put (some 4) (.int .i64 (bo)) := ⟨_, rfl⟩
  have k29 : Ev.Stay [4, 5, 25, 26, 27, 28, 29, 30, 31, 32, 33, 34, 35, 36, 37, 38, 39, 40, 41, 42, 43, 44, 45, 46, 47, 48, 49, 50, 51, 52] a a29 := by rw [qa29]; exact k28.put (by decide) _
  have e29_0 := Ev.oth qa29 (by decide) e28_0
  have e29_3 := Ev.oth qa29 (by decide) e28_3
  have e29_2 := Ev.oth qa29 (by decide) e28_2
  have e29_51 := Ev.oth qa29 (by decide) e28_51
  have e29_52 := Ev.oth qa29 (by decide) e28_52
  have e29_4 := Ev.sam qa29 (by rw [k28.1, hsz]; decide)
  rw [← qa29]
  clear qa29 e28_0 e28_3 e28_2 e28_51 e28_52
  refine pure_ (i := 29) (N := some 5) (v := .int .i64 (ri)) #[true, true, true, true, true, true, true, true, true, true, true, true, true, true, true, true, true, true, true, true, true, true, true, true, true, true, true, true, true, true] (Rg.of hops (Rg.atS (Rg.atS (Rg.atS (Rg.atS (Rg.atS (Rg.atS (Rg.atS (Rg.atS (Rg.atS (Rg.atS (Rg.atS (Rg.atS (Rg.atS (Rg.atS (Rg.atS (Rg.atS (Rg.atS (Rg.atS (Rg.atS (Rg.atS (Rg.atS (Rg.atS (Rg.atS (Rg.atS (Rg.atS (Rg.atS (Rg.atS (Rg.atS (Rg.atS Rg.at0)))))))))))))))))))))))))))))) rfl (by kernel_rfl) (fun c _ _ h => hP c _ _ _ (by rfl) h) (Or.inl ⟨Ev.wanted rfl, fun w_ => ?_⟩) rfl ?_
  · unfold execOp
    generalize a29.eval = ev at *
    go_simp
  obtain ⟨a30, qa30⟩ : ∃ z_, z_ = a29.put (some 5) (.int .i64 (ri)) := ⟨_, rfl⟩
  have k30 : Ev.Stay [4, 5, 25, 26, 27, 28, 29, 30, 31, 32, 33, 34, 35, 36, 37, 38, 39, 40, 41, 42, 43, 44, 45, 46, 47, 48, 49, 50, 51, 52] a a30 := by rw [qa30]; exact k29.put (by decide) _
  have e30_0 := Ev.oth qa30 (by decide) e29_0
  have e30_3 := Ev.oth qa30 (by decide) e29_3
  have e30_2 := Ev.oth qa30 (by decide) e29_2
  have e30_51 := Ev.oth qa30 (by decide) e29_51
  have e30_52 := Ev.oth qa30 (by decide) e29_52
  have e30_4 := Ev.oth qa30 (by decide) e29_4
  have e30_5 := Ev.sam qa30 (by rw [k29.1, hsz]; decide)
  rw [← qa30]
  clear qa30 e29_0 e29_3 e29_2 e29_51 e29_52 e29_4
  refine done_ (by kernel_rfl) ?_
  exact hQ _ _ k30 (by rw [← HBO.out]; exact e30_4) (by rw [← HRI.out]; exact e30_5) ((below_drew1 (Below.refl W.heap.size W)).trans hbl)
set_option maxHeartbeats 2000000 in
theorem Rg.w6 {id : Nat} {Q : Exit → Act → World → Prop} {a : Act} {W : World} {b t k g N : Nat} {d s bo ri : Int} {u : Value}
    (hsz : a.tmps.size = 69) (hP : ∀ c a a' w, a'.defers = a.defers → Q (.panic c) a w → Q (.panic c) a' w)  (h0 : a.eval (.tmp 0) = .pointer (some ⟨b, 0, none⟩)) (h3 : a.eval (.tmp 3) = .int .i64 (k : Int)) (h4 : a.eval (.tmp 4) = .int .i64 (bo)) (h5 : a.eval (.tmp 5) = .int .i64 (ri)) (hb : W.drew.heap[b]? = some (.cells (blk t d s (.slice (some ⟨g, 0, none⟩) N N)) 65 (0, 0))) (ht : 1 ≤ t ∧ t ≤ 3) (hk : k < N) (hs : IntKind.i64.wrap (ri * 2 ^ t) = ri * 2 ^ t) (ho : bits .or .i64 (ri * 2 ^ t) bo = ri * 2 ^ t + bo) (h8 : IntKind.u8.wrap (ri * 2 ^ t + bo) = ri * 2 ^ t + bo) (hcg : W.drew.cell? ⟨g, k, none⟩ = some u ∧ W.drew.frozen? ⟨g, k, none⟩ = false)
    (hQ : ∀ a', Ev.Stay [53, 54, 55, 56, 57, 58, 59, 60, 61, 62, 63, 64, 65, 66, 67] a a' → Q .normal a' (W.drew.setCell ⟨g, k, none⟩ (.int .u8 (ri * 2 ^ t + bo)))) : (Code.region id (Rg.ops 28 6) true).wp Try.prog Q a W := by
  have hops : Rg.ops 28 6 = List.toArray [_, _, _, _, _, _, _, _, _, _, _, _, _, _, _, _] := rfl
  refine start_ (S := fun w_ => w_.heap[b]? = some (.cells (blk t d s (.slice (some ⟨g, 0, none⟩) N N)) 65 (0, 0))) (ds := [15]) #[false, false, false, false, false, false, false, false, false, false, false, false, false, false, false, false] (by kernel_rfl) (n := 16) rfl rfl ?S0 (fun hHeld => ?_)
  case S0 => exact hb
  have k0 : Ev.Stay [53, 54, 55, 56, 57, 58, 59, 60, 61, 62, 63, 64, 65, 66, 67] a a := Ev.Stay.refl [53, 54, 55, 56, 57, 58, 59, 60, 61, 62, 63, 64, 65, 66, 67] a
  refine pure_ (i := 0) (N := some 53) (v := .pointer (some ⟨b, 0, none⟩)) #[true, false, false, false, false, false, false, false, false, false, false, false, false, false, false, false] (Rg.of hops Rg.at0) rfl (by kernel_rfl) (fun c _ _ h => hP c _ _ _ (by rfl) h) (Or.inl ⟨Ev.wanted rfl, fun w_ => ?_⟩) rfl ?_
  · unfold execOp
    generalize a.eval = ev at *
    go_simp
  obtain ⟨a1, qa1⟩ : ∃ z_, z_ = a.put (some 53) (.pointer (some ⟨b, 0, none⟩)) := ⟨_, rfl⟩
  have k1 : Ev.Stay [53, 54, 55, 56, 57, 58, 59, 60, 61, 62, 63, 64, 65, 66, 67] a a1 := by rw [qa1]; exact k0.put (by decide) _
  have e1_0 := Ev.oth qa1 (by decide) h0
  have e1_3 := Ev.oth qa1 (by decide) h3
  have e1_4 := Ev.oth qa1 (by decide) h4
  have e1_5 := Ev.oth qa1 (by decide) h5
  have e1_53 := Ev.sam qa1 (by rw [k0.1, hsz]; decide)
  rw [← qa1]
  clear qa1 
  refine pure_ (i := 1) (N := some 54) (v := .pointer (some ⟨b, 0, none⟩)) #[true, true, false, false, false, false, false, false, false, false, false, false, false, false, false, false] (Rg.of hops (Rg.atS Rg.at0)) rfl (by kernel_rfl) (fun c _ _ h => hP c _ _ _ (by rfl) h) (Or.inl ⟨Ev.wanted rfl, fun w_ => ?_⟩) rfl ?_
  · unfold execOp
    generalize a1.eval = ev at *
    go_simp
  obtain ⟨a2, qa2⟩ : ∃ z_, z_ = a1.put (some 54) (.pointer (some ⟨b, 0, none⟩)) := ⟨_, rfl⟩
  have k2 : Ev.Stay [53, 54, 55, 56, 57, 58, 59, 60, 61, 62, 63, 64, 65, 66, 67] a a2 := by rw [qa2]; exact k1.put (by decide) _
  have e2_0 := Ev.oth qa2 (by decide) e1_0
  have e2_3 := Ev.oth qa2 (by decide) e1_3
  have e2_4 := Ev.oth qa2 (by decide) e1_4
  have e2_5 := Ev.oth qa2 (by decide) e1_5
  have e2_53 := Ev.oth qa2 (by decide) e1_53
  have e2_54 := Ev.sam qa2 (by rw [k1.1, hsz]; decide)
  rw [← qa2]
  clear qa2 e1_0 e1_3 e1_4 e1_5 e1_53
  clear e2_53
  refine pure_ (i := 2) (N := some 55) (v := .pointer (some ⟨b, 4, none⟩)) #[true, true, true, false, false, false, false, false, false, false, false, false, false, false, false, false] (Rg.of hops (Rg.atS (Rg.atS Rg.at0))) rfl (by kernel_rfl) (fun c _ _ h => hP c _ _ _ (by rfl) h) (Or.inl ⟨Ev.wanted rfl, fun w_ => ?_⟩) rfl ?_
  · unfold execOp
    generalize a2.eval = ev at *
    go_simp
  obtain ⟨a3, qa3⟩ : ∃ z_, z_ = a2.put (some 55) (.pointer (some ⟨b, 4, none⟩)) := ⟨_, rfl⟩
  have k3 : Ev.Stay [53, 54, 55, 56, 57, 58, 59, 60, 61, 62, 63, 64, 65, 66, 67] a a3 := by rw [qa3]; exact k2.put (by decide) _
  have e3_0 := Ev.oth qa3 (by decide) e2_0
  have e3_3 := Ev.oth qa3 (by decide) e2_3
  have e3_4 := Ev.oth qa3 (by decide) e2_4
  have e3_5 := Ev.oth qa3 (by decide) e2_5
  have e3_54 := Ev.oth qa3 (by decide) e2_54
  have e3_55 := Ev.sam qa3 (by rw [k2.1, hsz]; decide)
  rw [← qa3]
  clear qa3 e2_0 e2_3 e2_4 e2_5 e2_54
  clear e3_54
  refine take_ (i := 3) (N := some 56) (v := .slice (some ⟨g, 0, none⟩) N N) #[true, true, true, true, false, false, false, false, false, false, false, false, false, false, false, false] (Rg.of hops (Rg.atS (Rg.atS (Rg.atS Rg.at0)))) rfl (by kernel_rfl) (fun c _ _ h => hP c _ _ _ (by rfl) h) (Ev.loadW (Ev.wanted rfl) rfl e3_55 (fun w hw => Ev.load50 (blk_all hw))) hHeld rfl ?_
  obtain ⟨a4, qa4⟩ : ∃ z_, z_ = a3.put (some 56) (.slice (some ⟨g, 0, none⟩) N N) := ⟨_, rfl⟩
  have k4 : Ev.Stay [53, 54, 55, 56, 57, 58, 59, 60, 61, 62, 63, 64, 65, 66, 67] a a4 := by rw [qa4]; exact k3.put (by decide) _
  have e4_0 := Ev.oth qa4 (by decide) e3_0
  have e4_3 := Ev.oth qa4 (by decide) e3_3
  have e4_4 := Ev.oth qa4 (by decide) e3_4
  have e4_5 := Ev.oth qa4 (by decide) e3_5
  have e4_55 := Ev.oth qa4 (by decide) e3_55
  have e4_56 := Ev.sam qa4 (by rw [k3.1, hsz]; decide)
  rw [← qa4]
  clear qa4 e3_0 e3_3 e3_4 e3_5 e3_55
  clear e4_55
  refine pure_ (i := 4) (N := some 57) (v := .int .i64 (k : Int)) #[true, true, true, true, true, false, false, false, false, false, false, false, false, false, false, false] (Rg.of hops (Rg.atS (Rg.atS (Rg.atS (Rg.atS Rg.at0))))) rfl (by kernel_rfl) (fun c _ _ h => hP c _ _ _ (by rfl) h) (Or.inl ⟨Ev.wanted rfl, fun w_ => ?_⟩) rfl ?_
  · unfold execOp
    generalize a4.eval = ev at *
    go_simp
  obtain ⟨a5, qa5⟩ : ∃ z_, z_ = a4.put (some 57) (.int .i64 (k : Int)) := ⟨_, rfl⟩
  have k5 : Ev.Stay [53, 54, 55, 56, 57, 58, 59, 60, 61, 62, 63, 64, 65, 66, 67] a a5 := by rw [qa5]; exact k4.put (by decide) _
  have e5_0 := Ev.oth qa5 (by decide) e4_0
  have e5_3 := Ev.oth qa5 (by decide) e4_3
  have e5_4 := Ev.oth qa5 (by decide) e4_4
  have e5_5 := Ev.oth qa5 (by decide) e4_5
  have e5_56 := Ev.oth qa5 (by decide) e4_56
  have e5_57 := Ev.sam qa5 (by rw [k4.1, hsz]; decide)
  rw [← qa5]
  clear qa5 e4_0 e4_3 e4_4 e4_5 e4_56
  refine pure_ (i := 5) (N := some 58) (v := .int .i64 (ri)) #[true, true, true, true, true, true, false, false, false, false, false, false, false, false, false, false] (Rg.of hops (Rg.atS (Rg.atS (Rg.atS (Rg.atS (Rg.atS Rg.at0)))))) rfl (by kernel_rfl) (fun c _ _ h => hP c _ _ _ (by rfl) h) (Or.inl ⟨Ev.wanted rfl, fun w_ => ?_⟩) rfl ?_
  · unfold execOp
    generalize a5.eval = ev at *
    go_simp
  obtain ⟨a6, qa6⟩ : ∃ z_, z_ = a5.put (some 58) (.int .i64 (ri)) := ⟨_, rfl⟩
  have k6 : Ev.Stay [53, 54, 55, 56, 57, 58, 59, 60, 61, 62, 63, 64, 65, 66, 67] a a6 := by rw [qa6]; exact k5.put (by decide) _
  have e6_0 := Ev.oth qa6 (by decide) e5_0
  have e6_3 := Ev.oth qa6 (by decide) e5_3
  have e6_4 := Ev.oth qa6 (by decide) e5_4
  have e6_5 := Ev.oth qa6 (by decide) e5_5
  have e6_56 := Ev.oth qa6 (by decide) e5_56
  have e6_57 := Ev.oth qa6 (by decide) e5_57
  have e6_58 := Ev.sam qa6 (by rw [k5.1, hsz]; decide)
  rw [← qa6]
  clear qa6 e5_0 e5_3 e5_4 e5_5 e5_56 e5_57
  refine pure_ (i := 6) (N := some 59) (v := .pointer (some ⟨b, 0, none⟩)) #[true, true, true, true, true, true, true, false, false, false, false, false, false, false, false, false] (Rg.of hops (Rg.atS (Rg.atS (Rg.atS (Rg.atS (Rg.atS (Rg.atS Rg.at0))))))) rfl (by kernel_rfl) (fun c _ _ h => hP c _ _ _ (by rfl) h) (Or.inl ⟨Ev.wanted rfl, fun w_ => ?_⟩) rfl ?_
  · unfold execOp
    generalize a6.eval = ev at *
    go_simp
  obtain ⟨a7, qa7⟩ : ∃ z_, z_ = a6.put (some 59) (.pointer (some ⟨b, 0, none⟩)) := ⟨_, rfl⟩
  have k7 : Ev.Stay [53, 54, 55, 56, 57, 58, 59, 60, 61, 62, 63, 64, 65, 66, 67] a a7 := by rw [qa7]; exact k6.put (by decide) _
  have e7_0 := Ev.oth qa7 (by decide) e6_0
  have e7_3 := Ev.oth qa7 (by decide) e6_3
  have e7_4 := Ev.oth qa7 (by decide) e6_4
  have e7_5 := Ev.oth qa7 (by decide) e6_5
  have e7_56 := Ev.oth qa7 (by decide) e6_56
  have e7_57 := Ev.oth qa7 (by decide) e6_57
  have e7_58 := Ev.oth qa7 (by decide) e6_58
  have e7_59 := Ev.sam qa7 (by rw [k6.1, hsz]; decide)
  rw [← qa7]
  clear qa7 e6_0 e6_3 e6_4 e6_5 e6_56 e6_57 e6_58
  refine pure_ (i := 7) (N := some 60) (v := .pointer (some ⟨b, 0, none⟩)) #[true, true, true, true, true, true, true, true, false, false, false, false, false, false, false, false] (Rg.of hops (Rg.atS (Rg.atS (Rg.atS (Rg.atS (Rg.atS (Rg.atS (Rg.atS Rg.at0)))))))) rfl (by kernel_rfl) (fun c _ _ h => hP c _ _ _ (by rfl) h) (Or.inl ⟨Ev.wanted rfl, fun w_ => ?_⟩) rfl ?_
  · unfold execOp
    generalize a7.eval = ev at *
    go_simp
  obtain ⟨a8, qa8⟩ : ∃ z_, z_ = a7.put (some 60) (.pointer (some ⟨b, 0, none⟩)) := ⟨_, rfl⟩
  have k8 : Ev.Stay [53, 54, 55, 56, 57, 58, 59, 60, 61, 62, 63, 64, 65, 66, 67] a a8 := by rw [qa8]; exact k7.put (by decide) _
  have e8_0 := Ev.oth qa8 (by decide) e7_0
  have e8_3 := Ev.oth qa8 (by decide) e7_3
  have e8_4 := Ev.oth qa8 (by decide) e7_4
  have e8_5 := Ev.oth qa8 (by decide) e7_5
  have e8_56 := Ev.oth qa8 (by decide) e7_56
  have e8_57 := Ev.oth qa8 (by decide) e7_57
  have e8_58 := Ev.oth qa8 (by decide) e7_58
  have e8_59 := Ev.oth qa8 (by decide) e7_59
  have e8_60 := Ev.sam qa8 (by rw [k7.1, hsz]; decide)
  rw [← qa8]
  clear qa8 e7_0 e7_3 e7_4 e7_5 e7_56 e7_57 e7_58 e7_59
  clear e8_59
  refine pure_ (i := 8) (N := some 61) (v := .pointer (some ⟨b, 0, none⟩)) #[true, true, true, true, true, true, true, true, true, false, false, false, false, false, false, false] (Rg.of hops (Rg.atS (Rg.atS (Rg.atS (Rg.atS (Rg.atS (Rg.atS (Rg.atS (Rg.atS Rg.at0))))))))) rfl (by kernel_rfl) (fun c _ _ h => hP c _ _ _ (by rfl) h) (Or.inl ⟨Ev.wanted rfl, fun w_ => ?_⟩) rfl ?_
  · unfold execOp
    generalize a8.eval = ev at *
    go_simp
  obtain ⟨a9, qa9⟩ : ∃ z_, z_ = a8.put (some 61) (.pointer (some ⟨b, 0, none⟩)) := ⟨_, rfl⟩
  have k9 : Ev.Stay [53, 54, 55, 56, 57, 58, 59, 60, 61, 62, 63, 64, 65, 66, 67] a a9 := by rw [qa9]; exact k8.put (by decide) _
  have e9_0 := Ev.oth qa9 (by decide) e8_0
  have e9_3 := Ev.oth qa9 (by decide) e8_3
  have e9_4 := Ev.oth qa9 (by decide) e8_4
  have e9_5 := Ev.oth qa9 (by decide) e8_5
  have e9_56 := Ev.oth qa9 (by decide) e8_56
  have e9_57 := Ev.oth qa9 (by decide) e8_57
  have e9_58 := Ev.oth qa9 (by decide) e8_58
  have e9_60 := Ev.oth qa9 (by decide) e8_60
  have e9_61 := Ev.sam qa9 (by rw [k8.1, hsz]; decide)
  rw [← qa9]
  clear qa9 e8_0 e8_3 e8_4 e8_5 e8_56 e8_57 e8_58 e8_60
  clear e9_60
  refine take_ (i := 9) (N := some 62) (v := .int .i64 (t : Int)) #[true, true, true, true, true, true, true, true, true, true, false, false, false, false, false, false] (Rg.of hops (Rg.atS (Rg.atS (Rg.atS (Rg.atS (Rg.atS (Rg.atS (Rg.atS (Rg.atS (Rg.atS Rg.at0)))))))))) rfl (by kernel_rfl) (fun c _ _ h => hP c _ _ _ (by rfl) h) (Ev.loadW (Ev.wanted rfl) rfl e9_61 (fun w hw => Ev.load3 (blk_t hw))) hHeld rfl ?_
  obtain ⟨a10, qa10⟩ : ∃ z_, z_ = a9.put (some 62) (.int .i64 (t : Int)) := ⟨_, rfl⟩
  have k10 : Ev.Stay [53, 54, 55, 56, 57, 58, 59, 60, 61, 62, 63, 64, 65, 66, 67] a a10 := by rw [qa10]; exact k9.put (by decide) _
  have e10_0 := Ev.oth qa10 (by decide) e9_0
  have e10_3 := Ev.oth qa10 (by decide) e9_3
  have e10_4 := Ev.oth qa10 (by decide) e9_4
  have e10_5 := Ev.oth qa10 (by decide) e9_5
  have e10_56 := Ev.oth qa10 (by decide) e9_56
  have e10_57 := Ev.oth qa10 (by decide) e9_57
  have e10_58 := Ev.oth qa10 (by decide) e9_58
  have e10_61 := Ev.oth qa10 (by decide) e9_61
  have e10_62 := Ev.sam qa10 (by rw [k9.1, hsz]; decide)
  rw [← qa10]
  clear qa10 e9_0 e9_3 e9_4 e9_5 e9_56 e9_57 e9_58 e9_61
  clear e10_61
  refine pure_ (i := 10) (N := some 63) (v := .int .i64 (ri * 2 ^ t)) #[true, true, true, true, true, true, true, true, true, true, true, false, false, false, false, false] (Rg.of hops (Rg.atS (Rg.atS (Rg.atS (Rg.atS (Rg.atS (Rg.atS (Rg.atS (Rg.atS (Rg.atS (Rg.atS Rg.at0))))))))))) rfl (by kernel_rfl) (fun c _ _ h => hP c _ _ _ (by rfl) h) (Or.inl ⟨Ev.wanted rfl, fun w_ => ?_⟩) rfl ?_
  · have l0_ : (0 : Int) ≤ (t : Int) := by omega
    have mn_ : min t 64 = t := by omega
    have hs_ := hs
    unfold execOp
    generalize a10.eval = ev at *
    go_simp
  obtain ⟨a11, qa11⟩ : ∃ z_, z_ = a10.put (some 63) (.int .i64 (ri * 2 ^ t)) := ⟨_, rfl⟩
  have k11 : Ev.Stay [53, 54, 55, 56, 57, 58, 59, 60, 61, 62, 63, 64, 65, 66, 67] a a11 := by rw [qa11]; exact k10.put (by decide) _
  have e11_0 := Ev.oth qa11 (by decide) e10_0
  have e11_3 := Ev.oth qa11 (by decide) e10_3
  have e11_4 := Ev.oth qa11 (by decide) e10_4
  have e11_5 := Ev.oth qa11 (by decide) e10_5
  have e11_56 := Ev.oth qa11 (by decide) e10_56
  have e11_57 := Ev.oth qa11 (by decide) e10_57
  have e11_58 := Ev.oth qa11 (by decide) e10_58
  have e11_62 := Ev.oth qa11 (by decide) e10_62
  have e11_63 := Ev.sam qa11 (by rw [k10.1, hsz]; decide)
  rw [← qa11]
  clear qa11 e10_0 e10_3 e10_4 e10_5 e10_56 e10_57 e10_58 e10_62
  clear e11_58
  clear e11_62
  refine pure_ (i := 11) (N := some 64) (v := .int .i64 (bo)) #[true, true, true, true, true, true, true, true, true, true, true, true, false, false, false, false] (Rg.of hops (Rg.atS (Rg.atS (Rg.atS (Rg.atS (Rg.atS (Rg.atS (Rg.atS (Rg.atS (Rg.atS (Rg.atS (Rg.atS Rg.at0)))))))))))) rfl (by kernel_rfl) (fun c _ _ h => hP c _ _ _ (by rfl) h) (Or.inl ⟨Ev.wanted rfl, fun w_ => ?_⟩) rfl ?_
  · unfold execOp
    generalize a11.eval = ev at *
    go_simp
  obtain ⟨a12, qa12⟩ : ∃ z_, z_ = a11.put (some 64) (.int .i64 (bo)) := ⟨_, rfl⟩
  have k12 : Ev.Stay [53, 54, 55, 56, 57, 58, 59, 60, 61, 62, 63, 64, 65, 66, 67] a a12 := by rw [qa12]; exact k11.put (by decide) _
  have e12_0 := Ev.oth qa12 (by decide) e11_0
  have e12_3 := Ev.oth qa12 (by decide) e11_3
  have e12_4 := Ev.oth qa12 (by decide) e11_4
  have e12_5 := Ev.oth qa12 (by decide) e11_5
  have e12_56 := Ev.oth qa12 (by decide) e11_56
  have e12_57 := Ev.oth qa12 (by decide) e11_57
  have e12_63 := Ev.oth qa12 (by decide) e11_63
  have e12_64 := Ev.sam qa12 (by rw [k11.1, hsz]; decide)
  rw [← qa12]
  clear qa12 e11_0 e11_3 e11_4 e11_5 e11_56 e11_57 e11_63
  refine pure_ (i := 12) (N := some 65) (v := .int .i64 (ri * 2 ^ t + bo)) #[true, true, true, true, true, true, true, true, true, true, true, true, true, false, false, false] (Rg.of hops (Rg.atS (Rg.atS (Rg.atS (Rg.atS (Rg.atS (Rg.atS (Rg.atS (Rg.atS (Rg.atS (Rg.atS (Rg.atS (Rg.atS Rg.at0))))))))))))) rfl (by kernel_rfl) (fun c _ _ h => hP c _ _ _ (by rfl) h) (Or.inl ⟨Ev.wanted rfl, fun w_ => ?_⟩) rfl ?_
  · have ho_ := ho
    unfold execOp
    generalize a12.eval = ev at *
    go_simp
  obtain ⟨a13, qa13⟩ : ∃ z_, z_ = a12.put (some 65) (.int .i64 (ri * 2 ^ t + bo)) := ⟨_, rfl⟩
  have k13 : Ev.Stay [53, 54, 55, 56, 57, 58, 59, 60, 61, 62, 63, 64, 65, 66, 67] a a13 := by rw [qa13]; exact k12.put (by decide) _
  have e13_0 := Ev.oth qa13 (by decide) e12_0
  have e13_3 := Ev.oth qa13 (by decide) e12_3
  have e13_4 := Ev.oth qa13 (by decide) e12_4
  have e13_5 := Ev.oth qa13 (by decide) e12_5
  have e13_56 := Ev.oth qa13 (by decide) e12_56
  have e13_57 := Ev.oth qa13 (by decide) e12_57
  have e13_63 := Ev.oth qa13 (by decide) e12_63
  have e13_64 := Ev.oth qa13 (by decide) e12_64
  have e13_65 := Ev.sam qa13 (by rw [k12.1, hsz]; decide)
  rw [← qa13]
  clear qa13 e12_0 e12_3 e12_4 e12_5 e12_56 e12_57 e12_63 e12_64
  clear e13_63
  clear e13_64
  refine pure_ (i := 13) (N := some 66) (v := .int .u8 (ri * 2 ^ t + bo)) #[true, true, true, true, true, true, true, true, true, true, true, true, true, true, false, false] (Rg.of hops (Rg.atS (Rg.atS (Rg.atS (Rg.atS (Rg.atS (Rg.atS (Rg.atS (Rg.atS (Rg.atS (Rg.atS (Rg.atS (Rg.atS (Rg.atS Rg.at0)))))))))))))) rfl (by kernel_rfl) (fun c _ _ h => hP c _ _ _ (by rfl) h) (Or.inl ⟨Ev.wanted rfl, fun w_ => ?_⟩) rfl ?_
  · have h8_ := h8
    unfold execOp
    generalize a13.eval = ev at *
    go_simp
  obtain ⟨a14, qa14⟩ : ∃ z_, z_ = a13.put (some 66) (.int .u8 (ri * 2 ^ t + bo)) := ⟨_, rfl⟩
  have k14 : Ev.Stay [53, 54, 55, 56, 57, 58, 59, 60, 61, 62, 63, 64, 65, 66, 67] a a14 := by rw [qa14]; exact k13.put (by decide) _
  have e14_0 := Ev.oth qa14 (by decide) e13_0
  have e14_3 := Ev.oth qa14 (by decide) e13_3
  have e14_4 := Ev.oth qa14 (by decide) e13_4
  have e14_5 := Ev.oth qa14 (by decide) e13_5
  have e14_56 := Ev.oth qa14 (by decide) e13_56
  have e14_57 := Ev.oth qa14 (by decide) e13_57
  have e14_65 := Ev.oth qa14 (by decide) e13_65
  have e14_66 := Ev.sam qa14 (by rw [k13.1, hsz]; decide)
  rw [← qa14]
  clear qa14 e13_0 e13_3 e13_4 e13_5 e13_56 e13_57 e13_65
  clear e14_65
  refine pure_ (i := 14) (N := some 67) (v := .pointer (some ⟨g, k, none⟩)) #[true, true, true, true, true, true, true, true, true, true, true, true, true, true, true, false] (Rg.of hops (Rg.atS (Rg.atS (Rg.atS (Rg.atS (Rg.atS (Rg.atS (Rg.atS (Rg.atS (Rg.atS (Rg.atS (Rg.atS (Rg.atS (Rg.atS (Rg.atS Rg.at0))))))))))))))) rfl (by kernel_rfl) (fun c _ _ h => hP c _ _ _ (by rfl) h) (Or.inl ⟨Ev.wanted rfl, fun w_ => ?_⟩) rfl ?_
  · have lk_ := hk
    have lk0_ : (0 : Int) ≤ (k : Int) := by omega
    unfold execOp
    generalize a14.eval = ev at *
    go_simp
  obtain ⟨a15, qa15⟩ : ∃ z_, z_ = a14.put (some 67) (.pointer (some ⟨g, k, none⟩)) := ⟨_, rfl⟩
  have k15 : Ev.Stay [53, 54, 55, 56, 57, 58, 59, 60, 61, 62, 63, 64, 65, 66, 67] a a15 := by rw [qa15]; exact k14.put (by decide) _
  have e15_0 := Ev.oth qa15 (by decide) e14_0
  have e15_3 := Ev.oth qa15 (by decide) e14_3
  have e15_4 := Ev.oth qa15 (by decide) e14_4
  have e15_5 := Ev.oth qa15 (by decide) e14_5
  have e15_56 := Ev.oth qa15 (by decide) e14_56
  have e15_57 := Ev.oth qa15 (by decide) e14_57
  have e15_66 := Ev.oth qa15 (by decide) e14_66
  have e15_67 := Ev.sam qa15 (by rw [k14.1, hsz]; decide)
  rw [← qa15]
  clear qa15 e14_0 e14_3 e14_4 e14_5 e14_56 e14_57 e14_66
  clear e15_56
  clear e15_57
  have hlk := hk
  refine last_ (i := 15) (N := none) #[true, true, true, true, true, true, true, true, true, true, true, true, true, true, true, true] (Rg.of hops (Rg.atS (Rg.atS (Rg.atS (Rg.atS (Rg.atS (Rg.atS (Rg.atS (Rg.atS (Rg.atS (Rg.atS (Rg.atS (Rg.atS (Rg.atS (Rg.atS (Rg.atS Rg.at0)))))))))))))))) rfl (by kernel_rfl) (by decide) (fun K hK => ?_)
  rw [if_pos (Ev.wanted rfl)]
  refine Ev.store rfl rfl e15_67 e15_66 (Ev.store5 hcg.1 hcg.2) ?_
  refine hK.out _ _ ?_
  refine done_ (by kernel_rfl) ?_
  exact hQ _ k15
/-- What the table holds at a number. -/
def tabv (t k : Nat) : Int := rig t ((k / 2 ^ (2 * t) : Nat) : Int) ((k / 2 ^ t % 2 ^ t : Nat) : Int) ((k % 2 ^ t : Nat) : Int) t * 2 ^ t + bot t ((k / 2 ^ (2 * t) : Nat) : Int) ((k / 2 ^ t % 2 ^ t : Nat) : Int) ((k % 2 ^ t : Nat) : Int) t
theorem bot_bd {t : Nat} {q p l : Int} (hp : 0 ≤ p ∧ p < 1024) (hl : 0 ≤ l ∧ l < 1024) : 0 ≤ bot t q p l t ∧ bot t q p l t < 2 ^ t := side_bd _ (fun i => (F_steps (t := t) (q := q) hp hl t).1 i) t
theorem rig_bd {t : Nat} {q p l : Int} (hp : 0 ≤ p ∧ p < 1024) (hl : 0 ≤ l ∧ l < 1024) : 0 ≤ rig t q p l t ∧ rig t q p l t < 2 ^ t := side_bd _ (fun i => (F_steps (t := t) (q := q) hp hl i).2 t) t
theorem byte_facts {t : Nat} (ht : 1 ≤ t ∧ t ≤ 3) {r o : Int} (hr : 0 ≤ r ∧ r < 2 ^ t) (ho : 0 ≤ o ∧ o < 2 ^ t) : IntKind.i64.wrap (r * 2 ^ t) = r * 2 ^ t ∧ bits .or .i64 (r * 2 ^ t) o = r * 2 ^ t + o ∧ IntKind.u8.wrap (r * 2 ^ t + o) = r * 2 ^ t + o ∧ bits .and .i64 (r * 2 ^ t + o) (2 ^ t - 1) = o ∧ (r * 2 ^ t + o) / 2 ^ t = r ∧ 0 ≤ r * 2 ^ t + o ∧ r * 2 ^ t + o < 256 := by
  have all : ∀ t : Fin 4, 1 ≤ t.val → ∀ r o : Fin 8, r.val < 2 ^ t.val → o.val < 2 ^ t.val → (IntKind.i64.wrap ((r.val : Int) * 2 ^ t.val) = (r.val : Int) * 2 ^ t.val ∧ bits .or .i64 ((r.val : Int) * 2 ^ t.val) (o.val : Int) = (r.val : Int) * 2 ^ t.val + (o.val : Int) ∧ IntKind.u8.wrap ((r.val : Int) * 2 ^ t.val + (o.val : Int)) = (r.val : Int) * 2 ^ t.val + (o.val : Int) ∧ bits .and .i64 ((r.val : Int) * 2 ^ t.val + (o.val : Int)) (2 ^ t.val - 1) = (o.val : Int) ∧ ((r.val : Int) * 2 ^ t.val + (o.val : Int)) / 2 ^ t.val = (r.val : Int) ∧ 0 ≤ (r.val : Int) * 2 ^ t.val + (o.val : Int) ∧ (r.val : Int) * 2 ^ t.val + (o.val : Int) < 256) := by decide +kernel
  obtain ⟨n, rfl⟩ := Int.eq_ofNat_of_zero_le hr.1
  obtain ⟨m, rfl⟩ := Int.eq_ofNat_of_zero_le ho.1
  have hn : n < 2 ^ t := by exact_mod_cast hr.2
  have hm : m < 2 ^ t := by exact_mod_cast ho.2
  have h8 : 2 ^ t ≤ 2 ^ 3 := Nat.pow_le_pow_right (by decide) ht.2
  exact all ⟨t, by omega⟩ ht.1 ⟨n, by omega⟩ ⟨m, by omega⟩ hn hm
noncomputable def Rg.R18 (k : Nat) : Code := .region k (Rg.ops 28 k) false
noncomputable def Rg.D18 (k : Nat) : Code := .region k (Rg.ops 28 k) true
noncomputable def Rg.bodyW : Code := .seq (Rg.R18 3) (.seq (.cond (.tmp 23) .skip (.exit 0)) (.seq (.block 1 (.seq (Rg.R18 4) (.seq (Rg.D18 5) (Rg.D18 6)))) (Rg.R18 7)))
noncomputable def Rg.code18 : Code := .seq (Rg.R18 0) (.seq (Rg.R18 1) (.seq (Rg.R18 2) (.block 0 (.loop Rg.bodyW))))
def Rg.LW : List Nat := 3 :: 4 :: 5 :: List.range' 22 47
theorem Rg.loopW {t b g n0 N : Nat} {d s : Int} {Q : Exit → Act → World → Prop} (ht : 1 ≤ t ∧ t ≤ 3) (hN : N = 2 ^ (t * t + 2 * t)) (hP : Rg.PQ Q) (hbg : b ≠ g) (hn0 : n0 ≤ g) : ∀ (m k : Nat) (a : Act) (W : World) (H : Nat → Int), k + m = N → a.tmps.size = 69 → a.eval (.tmp 0) = .pointer (some ⟨b, 0, none⟩) → a.eval (.tmp 2) = .int .i64 ((2 ^ t : Nat) : Int) → a.eval (.tmp 22) = .int .i64 (k : Int) → a.eval (.tmp 21) = .int .i64 (N : Int) →
    W.heap[b]? = some (.cells (blk t d s (.slice (some ⟨g, 0, none⟩) N N)) 65 (0, 0)) → W.heap[g]? = some (.cells (tabA N H) 5 (0, 0)) → (∀ i, i < k → H i = tabv t i) → n0 ≤ W.heap.size →
    (∀ a' W' H', Ev.Stay Rg.LW a a' → W'.heap[b]? = some (.cells (blk t d s (.slice (some ⟨g, 0, none⟩) N N)) 65 (0, 0)) → W'.heap[g]? = some (.cells (tabA N H') 5 (0, 0)) → (∀ i, i < N → H' i = tabv t i) → Below n0 W W' → Kept W W' (fun k => k = g) → Q (.exit 0) a' W') →
    Code.rounds Try.prog Rg.bodyW Q (m + 1) a W
  | 0, k, a, W, H, hk, hsz, h0, h2, h22, h21, hb, hg, hH, hnW, hQ => by
    rw [rounds_succ]
    refine wp_seq (Rg.w3 hsz h22 h21 ?_)
    intro a1 k1 e23
    refine wp_seq (wp_cond_false (by rw [e23, decide_eq_false (by omega)]) (wp_exit ?_))
    show Q (.exit 0) a1 W
    exact hQ a1 W H (k1.trans (Ev.Stay.refl [] _) (by decide) (by decide)) hb hg (fun i hi => hH i (by omega)) (Below.refl _ _) (Kept.refl _ _)
  | m + 1, k, a, W, H, hk, hsz, h0, h2, h22, h21, hb, hg, hH, hnW, hQ => by
    have hbd := pow_bd ht
    rw [rounds_succ]
    refine wp_seq (Rg.w3 hsz h22 h21 ?_)
    intro a1 k1 e23
    refine wp_seq (wp_cond_true (by rw [e23, decide_eq_true (by omega)]) (wp_skip ?_))
    refine wp_seq (wp_block (wp_seq (Rg.w4 (k1.1.trans hsz) ((k1.2.2 22 (by decide)).trans h22) ?_)))
    intro a2 k2 e3
    have st2 : Ev.Stay Rg.LW a a2 := k1.trans k2 (by decide) (by decide)
    refine wp_seq (Rg.w5 (k := k) (st2.1.trans hsz) (fun c a a' w hd h => hP c a a' w hd h) ((st2.2.2 0 (by decide)).trans h0) e3 ((st2.2.2 2 (by decide)).trans h2) ht (by omega) (by omega) hb ?_)
    intro a3 W3 k3 e4 e5 b3
    have st3 : Ev.Stay Rg.LW a a3 := st2.trans k3 (fun _ h => h) (by decide)
    have hb3 := (b3.block b (blk_lt hb)).trans hb
    have hg3 := (b3.block g (blk_lt hg)).trans hg
    have hpb : (0 : Int) ≤ ((k / 2 ^ t % 2 ^ t : Nat) : Int) ∧ ((k / 2 ^ t % 2 ^ t : Nat) : Int) < 1024 := p_bd ht
    have hlb : (0 : Int) ≤ ((k % 2 ^ t : Nat) : Int) ∧ ((k % 2 ^ t : Nat) : Int) < 1024 := p_bd ht
    have bf := byte_facts ht (rig_bd (t := t) (q := ((k / 2 ^ (2 * t) : Nat) : Int)) hpb hlb) (bot_bd (t := t) (q := ((k / 2 ^ (2 * t) : Nat) : Int)) hpb hlb)
    refine (Rg.w6 (k := k) (g := g) (N := N) (st3.1.trans hsz) (fun c a a' w hd h => hP c a a' w hd h) ((st3.2.2 0 (by decide)).trans h0) ((k3.2.2 3 (by decide)).trans e3) e4 e5 (show W3.drew.heap[b]? = _ from hb3) ht (by omega) bf.1 bf.2.1 bf.2.2.1 ⟨tab_cell (show W3.drew.heap[g]? = _ from hg3) (by omega), blk_frozen (show W3.drew.heap[g]? = _ from hg3) k⟩ ?_)
    intro a4 k4
    show Code.wp _ _ _ _ _
    have hg4 := tab_set (i := k) (show W3.drew.heap[g]? = _ from hg3) (tabv t k)
    have hb4 : (W3.drew.setCell ⟨g, k, none⟩ (.int .u8 (tabv t k))).heap[b]? = some (.cells (blk t d s (.slice (some ⟨g, 0, none⟩) N N)) 65 (0, 0)) := (Below.heap_setCell W3.drew ⟨g, k, none⟩ _ b hbg).trans hb3
    have B4 : Below n0 W (W3.drew.setCell ⟨g, k, none⟩ (.int .u8 (tabv t k))) := ((b3.mono hnW).trans (below_drew1 (Below.refl _ _))).setCell (p := ⟨g, k, none⟩) hn0 _
    have K4 : Kept W (W3.drew.setCell ⟨g, k, none⟩ (.int .u8 (tabv t k))) (fun k => k = g) := Kept.setCell (S := fun k => k = g) ((Kept.of_below b3 _).drew) (p := ⟨g, k, none⟩) (Or.inl rfl) _
    show Code.wp _ _ _ a4 (W3.drew.setCell ⟨g, k, none⟩ (.int .u8 (tabv t k)))
    generalize (W3.drew.setCell ⟨g, k, none⟩ (.int .u8 (tabv t k))) = W4 at hg4 hb4 B4 K4 ⊢
    have st4 : Ev.Stay Rg.LW a a4 := st3.trans k4 (fun _ h => h) (by decide)
    refine Rg.w7 (k := k) (st4.1.trans hsz) ((k4.2.2 22 (by decide)).trans ((k3.2.2 22 (by decide)).trans ((k2.2.2 22 (by decide)).trans ((k1.2.2 22 (by decide)).trans h22)))) (by omega) ?_
    intro a5 k5 e22
    show Code.rounds _ _ _ _ _ _
    have st5 : Ev.Stay Rg.LW a a5 := st4.trans k5 (fun _ h => h) (by decide)
    refine Rg.loopW ht hN hP hbg hn0 m (k + 1) a5 W4 _ (by omega) (st5.1.trans hsz) ((st5.2.2 0 (by decide)).trans h0) ((st5.2.2 2 (by decide)).trans h2) e22 ((st5.2.2 21 (by decide)).trans h21) hb4 hg4 ?_ (Nat.le_trans hnW K4.1) ?_
    · intro i hi
      unfold upd
      by_cases e : i = k
      · rw [if_pos e, e]
      · rw [if_neg e]; exact hH i (by omega)
    · intro a' W' H' st' hb' hg' hH' bb kk
      exact hQ a' W' H' (st5.trans st' (fun _ h => h) (fun _ h => h)) hb' hg' hH' (B4.trans bb) (K4.then_ kk (fun k hk => Or.inl hk))
theorem work {b t n0 : Nat} {d s : Int} {all : Value} (ht : 1 ≤ t ∧ t ≤ 3) (w : World) (hn0 : n0 ≤ b) (hb : w.heap[b]? = some (.cells (blk t d s all) 65 (0, 0))) :
    Calls Try.prog 28 #[.pointer (some ⟨b, 0, none⟩)] w fun e w' => e = .returned (.tuple #[]) ∧ ∃ g, w.heap.size ≤ g ∧ w'.heap[b]? = some (.cells (blk t d s (.slice (some ⟨g, 0, none⟩) (2 ^ (t * t + 2 * t)) (2 ^ (t * t + 2 * t)))) 65 (0, 0)) ∧ w'.heap[g]? = some (.cells (tabA (2 ^ (t * t + 2 * t)) (tabv t)) 5 (0, 0)) ∧ Below n0 w w' ∧ Kept w w' (fun k => k = b) := by
  refine calls_of_wp Try.func28 rfl ?_
  show Rg.code18.wp _ _ _ _
  generalize hR : (fun (e : Ending) (w' : World) => e = .returned (.tuple #[]) ∧ ∃ g, w.heap.size ≤ g ∧ w'.heap[b]? = some (.cells (blk t d s (.slice (some ⟨g, 0, none⟩) (2 ^ (t * t + 2 * t)) (2 ^ (t * t + 2 * t)))) 65 (0, 0)) ∧ w'.heap[g]? = some (.cells (tabA (2 ^ (t * t + 2 * t)) (tabv t)) 5 (0, 0)) ∧ Below n0 w w' ∧ Kept w w' (fun k => k = b)) = R
  have hP : Rg.PQ (bodyPost Try.prog Try.f28 R) := fun c a a' w hd h => ⟨hd.trans h.1, h.2⟩
  obtain ⟨a0, ha0⟩ : ∃ a0 : Act, a0 = { tmps := #[.pointer (some ⟨b, 0, none⟩)] ++ Array.replicate (Try.f28.ntmps - (#[.pointer (some ⟨b, 0, none⟩)] : Array Value).size) undef, defers := [] } := ⟨_, rfl⟩
  have hsz : a0.tmps.size = 69 := by rw [ha0]; simp [Try.ntmps28]
  have e0 : a0.eval (.tmp 0) = .pointer (some ⟨b, 0, none⟩) := by rw [ha0]; exact Ev.entry rfl
  have hd0 : a0.defers = [] := by rw [ha0]
  rw [← ha0]
  clear ha0
  refine wp_seq (Rg.w0 hsz e0 ht hb ?_)
  intro a1 nd k1
  have e01 := (k1.2.2 0 (by decide)).trans e0
  have hlt := blk_lt hb
  have hg1 : (((w.drewN nd).alloc (.cells (tabA (2 ^ (t * t + 2 * t)) (fun _ => 0)) 5)).setCell ⟨b, 4, none⟩ (.slice (some ⟨w.heap.size, 0, none⟩) (2 ^ (t * t + 2 * t)) (2 ^ (t * t + 2 * t)))).heap[w.heap.size]? = some (.cells (tabA (2 ^ (t * t + 2 * t)) (fun _ => 0)) 5 (0, 0)) := (Below.heap_setCell _ ⟨b, 4, none⟩ _ w.heap.size (by show w.heap.size ≠ b; omega)).trans (blk_new (w.drewN nd) _)
  have hb1 : (((w.drewN nd).alloc (.cells (tabA (2 ^ (t * t + 2 * t)) (fun _ => 0)) 5)).setCell ⟨b, 4, none⟩ (.slice (some ⟨w.heap.size, 0, none⟩) (2 ^ (t * t + 2 * t)) (2 ^ (t * t + 2 * t)))).heap[b]? = some (.cells (blk t d s (.slice (some ⟨w.heap.size, 0, none⟩) (2 ^ (t * t + 2 * t)) (2 ^ (t * t + 2 * t)))) 65 (0, 0)) := by
    have := blk_set (show ((w.drewN nd).alloc (.cells (tabA (2 ^ (t * t + 2 * t)) (fun _ => 0)) 5)).heap[b]? = some (.cells (blk t d s all) 65 (0, 0)) from blk_alloc (w := w.drewN nd) hb _) 4 (.slice (some ⟨w.heap.size, 0, none⟩) (2 ^ (t * t + 2 * t)) (2 ^ (t * t + 2 * t)))
    rw [this]; rfl
  have B1 : Below n0 w (((w.drewN nd).alloc (.cells (tabA (2 ^ (t * t + 2 * t)) (fun _ => 0)) 5)).setCell ⟨b, 4, none⟩ (.slice (some ⟨w.heap.size, 0, none⟩) (2 ^ (t * t + 2 * t)) (2 ^ (t * t + 2 * t)))) := ((pw_below_drewN (Below.refl _ _) nd).alloc (by show n0 ≤ w.heap.size; omega) _).setCell (p := ⟨b, 4, none⟩) hn0 _
  have K1 : Kept w (((w.drewN nd).alloc (.cells (tabA (2 ^ (t * t + 2 * t)) (fun _ => 0)) 5)).setCell ⟨b, 4, none⟩ (.slice (some ⟨w.heap.size, 0, none⟩) (2 ^ (t * t + 2 * t)) (2 ^ (t * t + 2 * t)))) (fun k => k = b) := Kept.setCell (S := fun k => k = b) (((Kept.refl w _).drewN nd).alloc _) (p := ⟨b, 4, none⟩) (Or.inl rfl) _
  show Code.wp _ _ _ _ _
  generalize (((w.drewN nd).alloc (.cells (tabA (2 ^ (t * t + 2 * t)) (fun _ => 0)) 5)).setCell ⟨b, 4, none⟩ (.slice (some ⟨w.heap.size, 0, none⟩) (2 ^ (t * t + 2 * t)) (2 ^ (t * t + 2 * t)))) = W at hg1 hb1 B1 K1 ⊢
  obtain ⟨N, hN⟩ : ∃ N, N = 2 ^ (t * t + 2 * t) := ⟨_, rfl⟩
  rw [← hN] at hg1 hb1 hR
  refine wp_seq (Rg.w1 (k1.1.trans hsz) e01 ht hb1 ?_)
  intro a2 k2 e2
  have e02 := (k2.2.2 0 (by decide)).trans e01
  have z2 := k2.1.trans (k1.1.trans hsz)
  refine wp_seq (Rg.w2 z2 e02 hb1 ?_)
  intro a3 k3 e21 e22
  refine wp_block (wp_loop_rounds (N + 1) ?_)
  refine Rg.loopW (n0 := n0) (N := N) ht hN ?hP (by omega) (by omega) N 0 a3 W (fun _ => 0) (by omega) (k3.1.trans z2) ((k3.2.2 0 (by decide)).trans e02) ((k3.2.2 2 (by decide)).trans e2) e22 e21 hb1 hg1 (fun i hi => absurd hi (Nat.not_lt_zero _)) (by have := K1.1; omega) ?_
  case hP => exact fun c a a' w hd h => hP c a a' w hd h
  intro a4 W4 H4 k4 hb4 hg4 hH4 b4 kk4
  have eT : tabA N H4 = tabA N (tabv t) := by
    unfold tabA
    congr 1
    apply List.map_congr_left
    intro i hi
    rw [hH4 i (List.mem_range.mp hi)]
  rw [eT] at hg4
  refine ⟨k4.2.1.trans (k3.2.1.trans (k2.2.1.trans (k1.2.1.trans hd0))), .tuple #[], results_none rfl _ _ _, ?_⟩
  rw [← hR]
  exact ⟨rfl, w.heap.size, Nat.le_refl _, hb4, hg4, B1.trans b4, K1.then_ kk4 (fun k hk => Or.inr (by omega))⟩
end Go.Proofs.Ytpdjdffimighkaa.Tile
