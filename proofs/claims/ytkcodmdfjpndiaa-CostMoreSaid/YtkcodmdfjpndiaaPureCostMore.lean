/- With a number more in one list, or in both, no engine needs less room; as many words as it needs are enough, one less are not. -/
import Derived.Test.YtkcodmdfjpndiaaPCostMorex4
import Derived.Test.YtkcodmdfjpndiaaWSized
namespace Go.Proofs.Ytkcodmdfjpndiaa.PrintWords
set_option linter.defProp false in
/-- The printed row names this lemma without the seat-wide namespace. -/
def sized_ints := @Go.Proofs.YtkcodmdfjpndiaaW.PrintWords.sized_ints
end Go.Proofs.Ytkcodmdfjpndiaa.PrintWords
namespace Go.Proofs.Ytkcodmdfjpndiaa.Pure
open Go.RowKit Go.Proofs.Ytkcodmdfjpndiaa.PCostMore Go.Proofs.YtkcodmdfjpndiaaW.PrintWords Go.Proofs.YtkcodmdfjpndiaaW.PrintLast Go.Proofs.YtkcodmdfjpndiaaW.PrintMore
set_option linter.unusedVariables false
set_option linter.unusedSimpArgs false

theorem wrap_id {i : Int} (h0 : -9223372036854775808 ≤ i) (h1 : i < 9223372036854775808) : wrap64 i = i := by unfold wrap64; omega
theorem wrap_succ {n : Nat} (h : n < 9223372036854775807) : wrap64 ((n : Int) + 1) = ((n + 1 : Nat) : Int) := by unfold wrap64; omega

theorem rd_at (l : List Int) {n : Nat} (h : n < l.length) : rd l (n : Int) = l[n] := by
  unfold rd; rw [Int.toNat_natCast, List.getD_eq_getElem?_getD, List.getElem?_eq_getElem h]; rfl
theorem rd_d (l : List Int) (n : Nat) : rd l (n : Int) = l.getD n 0 := rfl
theorem rd_out (l : List Int) {n : Nat} (h : l.length ≤ n) : rd l (n : Int) = 0 := by
  rw [rd_d, List.getD_eq_getElem?_getD, List.getElem?_eq_none h]; rfl
theorem drop_rd (l : List Int) {n : Nat} (h : n < l.length) : l.drop n = rd l (n : Int) :: l.drop (n + 1) := by
  rw [rd_at l h]; exact List.drop_eq_getElem_cons h
theorem take_rd (l : List Int) {n : Nat} (h : n < l.length) : l.take (n + 1) = l.take n ++ [rd l (n : Int)] := by
  rw [rd_at l h, List.take_succ_eq_append_getElem h]
theorem rd_mem (l : List Int) {n : Nat} (h : n < l.length) : rd l (n : Int) ∈ l := by rw [rd_at l h]; exact List.getElem_mem h
theorem rd_app_lt (l : List Int) (x : Int) {n : Nat} (h : n < l.length) : rd (l ++ [x]) (n : Int) = rd l (n : Int) := by
  rw [rd_at _ (by rw [List.length_append]; omega), rd_at _ h, List.getElem_append_left h]
theorem rd_app_eq (l : List Int) (x : Int) : rd (l ++ [x]) (l.length : Int) = x := by
  rw [rd_at _ (by rw [List.length_append, List.length_singleton]; omega)]; simp
theorem rd_app (l : List Int) (x : Int) (n : Nat) (h : n ≤ l.length) : rd (l ++ [x]) (n : Int) = if n = l.length then x else rd l (n : Int) := by
  by_cases e : n = l.length
  · rw [if_pos e, e, rd_app_eq]
  · rw [if_neg e, rd_app_lt _ _ (by omega)]
theorem rd_set (l : List Int) (i n : Nat) (x : Int) (h : n < l.length) : rd (l.set i x) (n : Int) = if n = i then x else rd l (n : Int) := by
  rw [rd_at _ (by rw [List.length_set]; exact h), rd_at _ h, List.getElem_set]
  by_cases e : n = i
  · rw [if_pos e, if_pos e.symm]
  · rw [if_neg e, if_neg (fun q => e q.symm)]
theorem rd_replicate (m n : Nat) (x : Int) (h : n < m) : rd (List.replicate m x) (n : Int) = x := by
  rw [rd_at _ (by rw [List.length_replicate]; exact h), List.getElem_replicate]
theorem rd_take (l : List Int) {m n : Nat} (h : n < m) (hm : m ≤ l.length) : rd (l.take m) (n : Int) = rd l (n : Int) := by
  rw [rd_at _ (by rw [List.length_take]; omega), rd_at _ (by omega), List.getElem_take]
theorem rd_drop (l : List Int) (m n : Nat) : rd (l.drop m) (n : Int) = rd l ((m + n : Nat) : Int) := by
  rw [rd_d, rd_d, List.getD_eq_getElem?_getD, List.getD_eq_getElem?_getD, List.getElem?_drop]
theorem list_ext {l m : List Int} (h : l.length = m.length) (k : ∀ n : Nat, n < l.length → rd l (n : Int) = rd m (n : Int)) : l = m := by
  apply List.ext_getElem h
  intro i h1 h2
  have := k i h1
  rwa [rd_at _ h1, rd_at _ h2] at this
theorem wf64 {a : Int} (h : (Lit.int .i64 a).wf = true) : -9223372036854775808 ≤ a ∧ a ≤ 9223372036854775807 := by
  simp only [Lit.wf, IntKind.min, IntKind.max, IntKind.signed, IntKind.bits, Bool.and_eq_true, decide_eq_true_eq, if_true] at h
  omega
/-- At least one round. -/
theorem round {k d : Nat} (h : d < k) : ∃ m, k = m + 1 := ⟨k - 1, by omega⟩

theorem wN {i : Int} (n : Nat) (h : i = (n : Int)) (hb : n < 9223372036854775808) : wrap64 i = (n : Int) := by rw [h, wrap_id (by omega) (by omega)]
def upN (n t : Nat) : Nat := (n + t - 1) / t
theorem costUp (n t : Nat) (hn : n ≤ 10000000) (h0 : 1 ≤ t) (h1 : t ≤ 100) : cost_up.f (n : Int) (t : Int) = some ((upN n t : Nat) : Int) := by
  unfold cost_up.f upN
  have e : Int.tdiv ((n + t - 1 : Nat) : Int) (t : Int) = (((n + t - 1) / t : Nat) : Int) := by rw [Int.tdiv_eq_ediv_of_nonneg (by omega)]; rfl
  have hl := Nat.div_le_self (n + t - 1) t
  rw [if_neg (by omega), wN (i := (n : Int) + (t : Int)) (n + t) (by omega) (by omega), wN (i := ((n + t : Nat) : Int) - 1) (n + t - 1) (by omega) (by omega), e, wN (i := (((n + t - 1) / t : Nat) : Int)) _ rfl (by omega)]
theorem upN_le (n t : Nat) (h1 : 1 ≤ t) : upN n t ≤ n := by
  unfold upN
  rcases Nat.eq_zero_or_pos n with h | h
  · subst h; rw [Nat.zero_add, Nat.div_eq_of_lt (by omega)]; exact Nat.le_refl _
  · refine Nat.le_of_lt_succ ((Nat.div_lt_iff_lt_mul (by omega)).2 ?_)
    have e : n.succ * t = n * t + t := Nat.succ_mul n t
    have := Nat.mul_le_mul (Nat.le_refl n) h1
    omega
/-- What lists can look like. -/
structure Looks (n m s r : Nat) : Prop where
  n_le : n ≤ 1048576
  m_le : m ≤ 1048576
  s_le : s ≤ n + m
  r_le : r ≤ n * m
theorem mul_small {a b A B : Nat} (ha : a ≤ A) (hb : b ≤ B) : a * b ≤ A * B := Nat.mul_le_mul ha hb
theorem costRight (n m s r : Nat) (h : Looks n m s r) : cost_Right.f (n : Int) (m : Int) (s : Int) (r : Int) = some true := by
  obtain ⟨h1, h2, h3, h4⟩ := h
  have hp := mul_small h1 h2
  unfold cost_Right.f cost_is.f
  rw [if_pos (by omega), Option.bind_some, if_pos (by simp; omega), if_pos (by omega), Option.bind_some, if_pos (by simp; omega), if_pos (by omega), wN (i := (n : Int) + (m : Int)) (n + m) (by omega) (by omega), if_pos (by omega), if_pos (by omega), wN (i := (n : Int) * (m : Int)) (n * m) (Int.natCast_mul _ _).symm (by omega)]
  simp; exact_mod_cast h4
theorem costAsk (e n m s r : Nat) (h0 : 1 ≤ e) (h1 : e ≤ 8) (h : Looks n m s r) : cost_ask.f (e : Int) (n : Int) (m : Int) (s : Int) (r : Int) = some true := by
  unfold cost_ask.f
  rw [if_pos (by omega), if_pos (by omega), costRight n m s r h, Option.bind_some]
/-- How many words an engine takes. -/
def roomA (n m s r a b c : Nat) : Nat → Nat
  | 1 => (n + 1) * (m + 1)
  | 2 => 2 * (m + 1)
  | 3 => 256 + b * (m + 1) + c * (n + 1)
  | 4 => m + 3 * r
  | 5 => 4 * (n + m + 3)
  | 6 => 2 * (n + m + 1)
  | 7 => (s + n + 1) * a
  | _ => (2 * s + n + 1) * a
def roomN (e n m s r : Nat) : Nat := roomA n m s r (upN m 64) (upN n 2) (upN m 2) e
theorem costRoom (e n m s r : Nat) (h0 : 1 ≤ e) (h1 : e ≤ 8) (h : Looks n m s r) : cost_Room.f (e : Int) (n : Int) (m : Int) (s : Int) (r : Int) = some (((roomN e n m s r : Nat) : Int), 0) ∧ roomN e n m s r ≤ 1000000000000000 := by
  obtain ⟨n1, m1, s1, r1⟩ := id h
  have u1 := upN_le m 64 (by omega)
  have u2 := upN_le n 2 (by omega)
  have u3 := upN_le m 2 (by omega)
  have e64 := costUp m 64 (by omega) (by omega) (by omega)
  have e2n := costUp n 2 (by omega) (by omega) (by omega)
  have e2m := costUp m 2 (by omega) (by omega) (by omega)
  have p1 := mul_small (show n + 1 ≤ 1048577 by omega) (show m + 1 ≤ 1048577 by omega)
  have p2 := mul_small (show upN n 2 ≤ 1048576 by omega) (show m + 1 ≤ 1048577 by omega)
  have p3 := mul_small (show upN m 2 ≤ 1048576 by omega) (show n + 1 ≤ 1048577 by omega)
  have p4 := mul_small n1 m1
  have p5 := mul_small (show s + n + 1 ≤ 4000000 by omega) (show upN m 64 ≤ 1048576 by omega)
  have p6 := mul_small (show 2 * s + n + 1 ≤ 6000000 by omega) (show upN m 64 ≤ 1048576 by omega)
  have c64 : ((64 : Nat) : Int) = 64 := rfl
  have c2 : ((2 : Nat) : Int) = 2 := rfl
  rw [c64] at e64
  rw [c2] at e2n e2m
  have m1 := p1
  have m2 := p2
  have m3 := p3
  have m5 := p5
  have m6 := p6
  unfold cost_Room.f
  rw [costAsk e n m s r h0 h1 h, Option.bind_some, if_pos rfl, e64, Option.bind_some]
  unfold roomN
  clear e64 h
  generalize upN m 64 = a at *
  generalize upN n 2 = b at *
  generalize upN m 2 = c at *
  obtain rfl | rfl | rfl | rfl | rfl | rfl | rfl | rfl : e = 1 ∨ e = 2 ∨ e = 3 ∨ e = 4 ∨ e = 5 ∨ e = 6 ∨ e = 7 ∨ e = 8 := by omega
  · rw [if_pos (by decide), wN (i := (n : Int) + 1) (n + 1) (by omega) (by omega), wN (i := (m : Int) + 1) (m + 1) (by omega) (by omega), wN (i := ((n + 1 : Nat) : Int) * ((m + 1 : Nat) : Int)) _ (Int.natCast_mul _ _).symm (by omega)]
    exact ⟨rfl, Nat.le_trans p1 (by decide)⟩
  · rw [if_neg (by decide), if_pos (by decide), wN (i := (m : Int) + 1) (m + 1) (by omega) (by omega), wN (i := 2 * ((m + 1 : Nat) : Int)) (2 * (m + 1)) (by omega) (by omega)]
    exact ⟨rfl, by show 2 * (m + 1) ≤ _; omega⟩
  · rw [if_neg (by decide), if_neg (by decide), if_pos (by decide), e2n, Option.bind_some, e2m, Option.bind_some, wN (i := (n : Int) + 1) (n + 1) (by omega) (by omega), wN (i := (m : Int) + 1) (m + 1) (by omega) (by omega), wN (i := (b : Int) * ((m + 1 : Nat) : Int)) _ (Int.natCast_mul _ _).symm (by omega), wN (i := (c : Int) * ((n + 1 : Nat) : Int)) _ (Int.natCast_mul _ _).symm (by omega)]
    show some (_, (0 : Int)) = some (((256 + b * (m + 1) + c * (n + 1) : Nat) : Int), (0 : Int)) ∧ 256 + b * (m + 1) + c * (n + 1) ≤ 1000000000000000
    generalize b * (m + 1) = x at *
    generalize c * (n + 1) = y at *
    rw [wN (i := 256 + (x : Int)) (256 + x) (by omega) (by omega), wN (i := ((256 + x : Nat) : Int) + (y : Int)) (256 + x + y) (by omega) (by omega)]
    exact ⟨rfl, by omega⟩
  · rw [if_neg (by decide), if_neg (by decide), if_neg (by decide), if_pos (by decide), wN (i := 3 * (r : Int)) (3 * r) (by omega) (by omega), wN (i := (m : Int) + ((3 * r : Nat) : Int)) (m + 3 * r) (by omega) (by omega)]
    exact ⟨rfl, by show m + 3 * r ≤ _; omega⟩
  · rw [if_neg (by decide), if_neg (by decide), if_neg (by decide), if_neg (by decide), if_pos (by decide), wN (i := (n : Int) + (m : Int)) (n + m) (by omega) (by omega), wN (i := ((n + m : Nat) : Int) + 3) (n + m + 3) (by omega) (by omega), wN (i := 4 * ((n + m + 3 : Nat) : Int)) (4 * (n + m + 3)) (by omega) (by omega)]
    exact ⟨rfl, by show 4 * (n + m + 3) ≤ _; omega⟩
  · rw [if_neg (by decide), if_neg (by decide), if_neg (by decide), if_neg (by decide), if_neg (by decide), if_pos (by decide), wN (i := (n : Int) + (m : Int)) (n + m) (by omega) (by omega), wN (i := ((n + m : Nat) : Int) + 1) (n + m + 1) (by omega) (by omega), wN (i := 2 * ((n + m + 1 : Nat) : Int)) (2 * (n + m + 1)) (by omega) (by omega)]
    exact ⟨rfl, by show 2 * (n + m + 1) ≤ _; omega⟩
  · rw [if_neg (by decide), if_neg (by decide), if_neg (by decide), if_neg (by decide), if_neg (by decide), if_neg (by decide), if_pos (by decide), wN (i := (s : Int) + (n : Int)) (s + n) (by omega) (by omega), wN (i := ((s + n : Nat) : Int) + 1) (s + n + 1) (by omega) (by omega), wN (i := ((s + n + 1 : Nat) : Int) * (a : Int)) _ (Int.natCast_mul _ _).symm (by omega)]
    exact ⟨rfl, Nat.le_trans m5 (by decide)⟩
  · rw [if_neg (by decide), if_neg (by decide), if_neg (by decide), if_neg (by decide), if_neg (by decide), if_neg (by decide), if_neg (by decide), if_pos (by decide), wN (i := 2 * (s : Int)) (2 * s) (by omega) (by omega), wN (i := ((2 * s : Nat) : Int) + (n : Int)) (2 * s + n) (by omega) (by omega), wN (i := ((2 * s + n : Nat) : Int) + 1) (2 * s + n + 1) (by omega) (by omega), wN (i := ((2 * s + n + 1 : Nat) : Int) * (a : Int)) _ (Int.natCast_mul _ _).symm (by omega)]
    exact ⟨rfl, Nat.le_trans m6 (by decide)⟩

theorem awake : tattinglaw27_awake.f 60 = some true := by decide +kernel
theorem upN_mono (n n' t : Nat) (h : n ≤ n') : upN n t ≤ upN n' t := by
  unfold upN
  exact Nat.div_le_div_right (by omega)
theorem room_mono (e n m s r n' m' : Nat) (hn : n ≤ n') (hm : m ≤ m') (h0 : 1 ≤ e) (h1 : e ≤ 8) : roomN e n m s r ≤ roomN e n' m' s r := by
  have a1 := upN_mono m m' 64 hm
  have a2 := upN_mono n n' 2 hn
  have a3 := upN_mono m m' 2 hm
  unfold roomN
  generalize upN m 64 = a at *
  generalize upN n 2 = b at *
  generalize upN m 2 = c at *
  generalize upN m' 64 = a' at *
  generalize upN n' 2 = b' at *
  generalize upN m' 2 = c' at *
  obtain rfl | rfl | rfl | rfl | rfl | rfl | rfl | rfl : e = 1 ∨ e = 2 ∨ e = 3 ∨ e = 4 ∨ e = 5 ∨ e = 6 ∨ e = 7 ∨ e = 8 := by omega
  · exact Nat.mul_le_mul (by omega) (by omega)
  · exact Nat.mul_le_mul (by omega) (by omega)
  · exact Nat.add_le_add (Nat.add_le_add (Nat.le_refl _) (Nat.mul_le_mul a2 (by omega))) (Nat.mul_le_mul a3 (by omega))
  · show m + 3 * r ≤ m' + 3 * r; omega
  · exact Nat.mul_le_mul (by omega) (by omega)
  · exact Nat.mul_le_mul (by omega) (by omega)
  · exact Nat.mul_le_mul (by omega) a1
  · exact Nat.mul_le_mul (by omega) a1
theorem fits (e n m s r : Nat) (w : Int) (h0 : 1 ≤ e) (h1 : e ≤ 8) (h : Looks n m s r) : (((roomN e n m s r : Nat) : Int) ≤ w → cost_Fits.f (e : Int) (n : Int) (m : Int) (s : Int) (r : Int) w = some 0) ∧ (((roomN e n m s r : Nat) : Int) > w → cost_Fits.f (e : Int) (n : Int) (m : Int) (s : Int) (r : Int) w = some 2) := by
  unfold cost_Fits.f
  rw [(costRoom e n m s r h0 h1 h).1, Option.bind_some, if_pos rfl]
  exact ⟨fun q => by rw [if_neg (by show ¬ ((roomN e n m s r : Nat) : Int) > w; omega)], fun q => by rw [if_pos q]⟩
theorem law (e n m s r n' k : Nat) (h0 : 1 ≤ e) (h1 : e ≤ 8) (hn : n ≤ n') (h : Looks n m s r) (h' : Looks n' (m + 1) s r) : tattinglaw27_CostMore.j0 (k + 1) (e : Int) n m s r n' ((m + 1 : Nat) : Int) s r = some true := by
  have q := costRoom e n m s r h0 h1 h
  have q' := costRoom e n' (m + 1) s r h0 h1 h'
  have hm := room_mono e n m s r n' (m + 1) hn (by omega) h0 h1
  simp only [tattinglaw27_CostMore.j0]
  have f1 := (fits e n m s r (roomN e n m s r : Nat) h0 h1 h).1 (Int.le_refl _)
  have f2 := (fits e n m s r (((roomN e n m s r : Nat) : Int) - 1) h0 h1 h).2 (by omega)
  have f3 := (fits e n' (m + 1) s r (((roomN e n m s r : Nat) : Int) - 1) h0 h1 h').2 (by omega)
  rw [q.1, Option.bind_some, q'.1, Option.bind_some]
  dsimp only
  rw [if_pos rfl, if_pos rfl, if_pos (by omega), f1, Option.bind_some, if_pos rfl, wrap_id (by omega) (by omega), f2, Option.bind_some, if_pos rfl, f3, Option.bind_some]
  rfl
theorem wfu {q : IntKind} {B : Int} (hq : q.min = 0) (hB : q.max = B) {a : Int} (h : (Lit.int q a).wf = true) : 0 ≤ a ∧ a ≤ B := by
  simp only [Lit.wf, hq, hB, Bool.and_eq_true, decide_eq_true_eq] at h
  exact h
theorem CostMore : tattinglaw27_CostMore.Pure := by
  intro a0 a1 a2 a3 a4 a5 h0 h1 h2 h3 h4
  refine ⟨60, ?_⟩
  have b0 := wfu (q := .u8) (B := 255) (by decide) (by decide) h0
  have b1 := wfu (q := .u16) (B := 65535) (by decide) (by decide) h1
  have b2 := wfu (q := .u16) (B := 65535) (by decide) (by decide) h2
  have b3 := wfu (q := .u16) (B := 65535) (by decide) (by decide) h3
  have b4 := wfu (q := .u32) (B := 4294967295) (by decide) (by decide) h4
  clear h0 h1 h2 h3 h4
  unfold tattinglaw27_CostMore.f
  rw [awake, Option.bind_some, if_pos rfl]
  obtain ⟨e, rfl⟩ : ∃ e : Nat, a0 = e := ⟨a0.toNat, by omega⟩
  obtain ⟨n, rfl⟩ : ∃ n : Nat, a1 = n := ⟨a1.toNat, by omega⟩
  obtain ⟨m, rfl⟩ : ∃ m : Nat, a2 = m := ⟨a2.toNat, by omega⟩
  obtain ⟨s, rfl⟩ : ∃ s : Nat, a3 = s := ⟨a3.toNat, by omega⟩
  obtain ⟨r, rfl⟩ : ∃ r : Nat, a4 = r := ⟨a4.toNat, by omega⟩
  have hp : n * m ≤ 65535 * 65535 := Nat.mul_le_mul (by omega) (by omega)
  have he : Int.tmod (e : Int) 8 = ((e % 8 : Nat) : Int) := by rw [Int.tmod_eq_emod_of_nonneg (by omega)]; rfl
  have hs : Int.tmod (s : Int) ((n + m + 1 : Nat) : Int) = ((s % (n + m + 1) : Nat) : Int) := by rw [Int.tmod_eq_emod_of_nonneg (by omega)]; rfl
  have hr : Int.tmod (r : Int) ((n * m + 1 : Nat) : Int) = ((r % (n * m + 1) : Nat) : Int) := by rw [Int.tmod_eq_emod_of_nonneg (by omega)]; rfl
  have ls : s % (n + m + 1) < n + m + 1 := Nat.mod_lt _ (by omega)
  have lr : r % (n * m + 1) < n * m + 1 := Nat.mod_lt _ (by omega)
  have le : e % 8 < 8 := Nat.mod_lt _ (by omega)
  rw [wN (i := (e : Int)) e rfl (by omega), wN (i := (n : Int)) n rfl (by omega), wN (i := (m : Int)) m rfl (by omega), wN (i := (s : Int)) s rfl (by omega), wN (i := (r : Int)) r rfl (by omega)]
  rw [wN (i := (n : Int) + (m : Int)) (n + m) (by omega) (by omega), wN (i := ((n + m : Nat) : Int) + 1) (n + m + 1) (by omega) (by omega), wN (i := (n : Int) * (m : Int)) (n * m) (Int.natCast_mul _ _).symm (by omega)]
  rw [wN (i := ((n * m : Nat) : Int) + 1) (n * m + 1) (by omega) (by omega), wN (i := (n : Int) + 1) (n + 1) (by omega) (by omega), wN (i := (m : Int) + 1) (m + 1) (by omega) (by omega), he, hs, hr]
  rw [wN (i := 1 + ((e % 8 : Nat) : Int)) (1 + e % 8) (by omega) (by omega), if_neg (by omega), if_neg (by omega)]
  have L0 : Looks n m (s % (n + m + 1)) (r % (n * m + 1)) := ⟨by omega, by omega, by omega, by omega⟩
  have k1 : n * m ≤ n * (m + 1) := Nat.mul_le_mul (Nat.le_refl _) (by omega)
  have k2 : n * m ≤ (n + 1) * (m + 1) := Nat.mul_le_mul (by omega) (by omega)
  by_cases c : a5 = true
  · rw [if_pos c]
    exact law _ n m _ _ (n + 1) 59 (by omega) (by omega) (by omega) L0 ⟨by omega, by omega, by omega, by omega⟩
  · rw [if_neg c]
    exact law _ n m _ _ n 59 (by omega) (by omega) (by omega) L0 ⟨by omega, by omega, by omega, by omega⟩

end Go.Proofs.Ytkcodmdfjpndiaa.Pure
