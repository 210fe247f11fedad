/- Of every shape the engine whose work is least, the first of several; whether its room is enough. -/
import Derived.Test.YtkcodmdfjpndiaaPCostChoosesx6
import Derived.Test.YtkcodmdfjpndiaaWSized
namespace Go.Proofs.Ytkcodmdfjpndiaa.PrintWords
set_option linter.defProp false in
/-- The printed row names this lemma without the seat-wide namespace. -/
def sized_ints := @Go.Proofs.YtkcodmdfjpndiaaW.PrintWords.sized_ints
end Go.Proofs.Ytkcodmdfjpndiaa.PrintWords
namespace Go.Proofs.Ytkcodmdfjpndiaa.Pure
open Go.RowKit Go.Proofs.Ytkcodmdfjpndiaa.PCostChooses Go.Proofs.YtkcodmdfjpndiaaW.PrintWords Go.Proofs.YtkcodmdfjpndiaaW.PrintLast Go.Proofs.YtkcodmdfjpndiaaW.PrintMore
set_option linter.unusedVariables false
set_option linter.unusedSimpArgs false

theorem wrap_id {i : Int} (h0 : -9223372036854775808 ≤ i) (h1 : i < 9223372036854775808) : wrap64 i = i := by unfold wrap64; omega
theorem wrap_succ {n : Nat} (h : n < 9223372036854775807) : wrap64 ((n : Int) + 1) = ((n + 1 : Nat) : Int) := by unfold wrap64; omega

theorem rd_at (l : List Int) {n : Nat} (h : n < l.length) : rd l (n : Int) = l[n] := by
  unfold rd; rw [Int.toNat_natCast, List.getD_eq_getElem?_getD, List.getElem?_eq_getElem h]; rfl
theorem rd_d (l : List Int) (n : Nat) : rd l (n : Int) = l.getD n 0 := rfl
theorem rd_out (l : List Int) {n : Nat} (h : l.length ≤ n) : rd l (n : Int) = 0 := by
  rw [rd_d, List.getD_eq_getElem?_getD, List.getElem?_eq_none h]; rfl
theorem drop_rd (l : List Int) {n : Nat} (h : n < l.length) : l.drop n = rd l (n : Int) :: l.drop (n + 1) := by
  rw [rd_at l h]; exact List.drop_eq_getElem_cons h
theorem take_rd (l : List Int) {n : Nat} (h : n < l.length) : l.take (n + 1) = l.take n ++ [rd l (n : Int)] := by
  rw [rd_at l h, List.take_succ_eq_append_getElem h]
theorem rd_mem (l : List Int) {n : Nat} (h : n < l.length) : rd l (n : Int) ∈ l := by rw [rd_at l h]; exact List.getElem_mem h
theorem rd_app_lt (l : List Int) (x : Int) {n : Nat} (h : n < l.length) : rd (l ++ [x]) (n : Int) = rd l (n : Int) := by
  rw [rd_at _ (by rw [List.length_append]; omega), rd_at _ h, List.getElem_append_left h]
theorem rd_app_eq (l : List Int) (x : Int) : rd (l ++ [x]) (l.length : Int) = x := by
  rw [rd_at _ (by rw [List.length_append, List.length_singleton]; omega)]; simp
theorem rd_app (l : List Int) (x : Int) (n : Nat) (h : n ≤ l.length) : rd (l ++ [x]) (n : Int) = if n = l.length then x else rd l (n : Int) := by
  by_cases e : n = l.length
  · rw [if_pos e, e, rd_app_eq]
  · rw [if_neg e, rd_app_lt _ _ (by omega)]
theorem rd_set (l : List Int) (i n : Nat) (x : Int) (h : n < l.length) : rd (l.set i x) (n : Int) = if n = i then x else rd l (n : Int) := by
  rw [rd_at _ (by rw [List.length_set]; exact h), rd_at _ h, List.getElem_set]
  by_cases e : n = i
  · rw [if_pos e, if_pos e.symm]
  · rw [if_neg e, if_neg (fun q => e q.symm)]
theorem rd_replicate (m n : Nat) (x : Int) (h : n < m) : rd (List.replicate m x) (n : Int) = x := by
  rw [rd_at _ (by rw [List.length_replicate]; exact h), List.getElem_replicate]
theorem rd_take (l : List Int) {m n : Nat} (h : n < m) (hm : m ≤ l.length) : rd (l.take m) (n : Int) = rd l (n : Int) := by
  rw [rd_at _ (by rw [List.length_take]; omega), rd_at _ (by omega), List.getElem_take]
theorem rd_drop (l : List Int) (m n : Nat) : rd (l.drop m) (n : Int) = rd l ((m + n : Nat) : Int) := by
  rw [rd_d, rd_d, List.getD_eq_getElem?_getD, List.getD_eq_getElem?_getD, List.getElem?_drop]
theorem list_ext {l m : List Int} (h : l.length = m.length) (k : ∀ n : Nat, n < l.length → rd l (n : Int) = rd m (n : Int)) : l = m := by
  apply List.ext_getElem h
  intro i h1 h2
  have := k i h1
  rwa [rd_at _ h1, rd_at _ h2] at this
theorem wf64 {a : Int} (h : (Lit.int .i64 a).wf = true) : -9223372036854775808 ≤ a ∧ a ≤ 9223372036854775807 := by
  simp only [Lit.wf, IntKind.min, IntKind.max, IntKind.signed, IntKind.bits, Bool.and_eq_true, decide_eq_true_eq, if_true] at h
  omega
/-- At least one round. -/
theorem round {k d : Nat} (h : d < k) : ∃ m, k = m + 1 := ⟨k - 1, by omega⟩

theorem wN {i : Int} (n : Nat) (h : i = (n : Int)) (hb : n < 9223372036854775808) : wrap64 i = (n : Int) := by rw [h, wrap_id (by omega) (by omega)]
def upN (n t : Nat) : Nat := (n + t - 1) / t
theorem costUp (n t : Nat) (hn : n ≤ 10000000) (h0 : 1 ≤ t) (h1 : t ≤ 100) : cost_up.f (n : Int) (t : Int) = some ((upN n t : Nat) : Int) := by
  unfold cost_up.f upN
  have e : Int.tdiv ((n + t - 1 : Nat) : Int) (t : Int) = (((n + t - 1) / t : Nat) : Int) := by rw [Int.tdiv_eq_ediv_of_nonneg (by omega)]; rfl
  have hl := Nat.div_le_self (n + t - 1) t
  rw [if_neg (by omega), wN (i := (n : Int) + (t : Int)) (n + t) (by omega) (by omega), wN (i := ((n + t : Nat) : Int) - 1) (n + t - 1) (by omega) (by omega), e, wN (i := (((n + t - 1) / t : Nat) : Int)) _ rfl (by omega)]
theorem upN_le (n t : Nat) (h1 : 1 ≤ t) : upN n t ≤ n := by
  unfold upN
  rcases Nat.eq_zero_or_pos n with h | h
  · subst h; rw [Nat.zero_add, Nat.div_eq_of_lt (by omega)]; exact Nat.le_refl _
  · refine Nat.le_of_lt_succ ((Nat.div_lt_iff_lt_mul (by omega)).2 ?_)
    have e : n.succ * t = n * t + t := Nat.succ_mul n t
    have := Nat.mul_le_mul (Nat.le_refl n) h1
    omega
/-- What lists can look like. -/
structure Looks (n m s r : Nat) : Prop where
  n_le : n ≤ 1048576
  m_le : m ≤ 1048576
  s_le : s ≤ n + m
  r_le : r ≤ n * m
theorem mul_small {a b A B : Nat} (ha : a ≤ A) (hb : b ≤ B) : a * b ≤ A * B := Nat.mul_le_mul ha hb
theorem costRight (n m s r : Nat) (h : Looks n m s r) : cost_Right.f (n : Int) (m : Int) (s : Int) (r : Int) = some true := by
  obtain ⟨h1, h2, h3, h4⟩ := h
  have hp := mul_small h1 h2
  unfold cost_Right.f cost_is.f
  rw [if_pos (by omega), Option.bind_some, if_pos (by simp; omega), if_pos (by omega), Option.bind_some, if_pos (by simp; omega), if_pos (by omega), wN (i := (n : Int) + (m : Int)) (n + m) (by omega) (by omega), if_pos (by omega), if_pos (by omega), wN (i := (n : Int) * (m : Int)) (n * m) (Int.natCast_mul _ _).symm (by omega)]
  simp; exact_mod_cast h4
theorem costAsk (e n m s r : Nat) (h0 : 1 ≤ e) (h1 : e ≤ 8) (h : Looks n m s r) : cost_ask.f (e : Int) (n : Int) (m : Int) (s : Int) (r : Int) = some true := by
  unfold cost_ask.f
  rw [if_pos (by omega), if_pos (by omega), costRight n m s r h, Option.bind_some]
/-- How many words an engine takes. -/
def roomA (n m s r a b c : Nat) : Nat → Nat
  | 1 => (n + 1) * (m + 1)
  | 2 => 2 * (m + 1)
  | 3 => 256 + b * (m + 1) + c * (n + 1)
  | 4 => m + 3 * r
  | 5 => 4 * (n + m + 3)
  | 6 => 2 * (n + m + 1)
  | 7 => (s + n + 1) * a
  | _ => (2 * s + n + 1) * a
def roomN (e n m s r : Nat) : Nat := roomA n m s r (upN m 64) (upN n 2) (upN m 2) e
theorem costRoom (e n m s r : Nat) (h0 : 1 ≤ e) (h1 : e ≤ 8) (h : Looks n m s r) : cost_Room.f (e : Int) (n : Int) (m : Int) (s : Int) (r : Int) = some (((roomN e n m s r : Nat) : Int), 0) ∧ roomN e n m s r ≤ 1000000000000000 := by
  obtain ⟨n1, m1, s1, r1⟩ := id h
  have u1 := upN_le m 64 (by omega)
  have u2 := upN_le n 2 (by omega)
  have u3 := upN_le m 2 (by omega)
  have e64 := costUp m 64 (by omega) (by omega) (by omega)
  have e2n := costUp n 2 (by omega) (by omega) (by omega)
  have e2m := costUp m 2 (by omega) (by omega) (by omega)
  have p1 := mul_small (show n + 1 ≤ 1048577 by omega) (show m + 1 ≤ 1048577 by omega)
  have p2 := mul_small (show upN n 2 ≤ 1048576 by omega) (show m + 1 ≤ 1048577 by omega)
  have p3 := mul_small (show upN m 2 ≤ 1048576 by omega) (show n + 1 ≤ 1048577 by omega)
  have p4 := mul_small n1 m1
  have p5 := mul_small (show s + n + 1 ≤ 4000000 by omega) (show upN m 64 ≤ 1048576 by omega)
  have p6 := mul_small (show 2 * s + n + 1 ≤ 6000000 by omega) (show upN m 64 ≤ 1048576 by omega)
  have c64 : ((64 : Nat) : Int) = 64 := rfl
  have c2 : ((2 : Nat) : Int) = 2 := rfl
  rw [c64] at e64
  rw [c2] at e2n e2m
  have m1 := p1
  have m2 := p2
  have m3 := p3
  have m5 := p5
  have m6 := p6
  unfold cost_Room.f
  rw [costAsk e n m s r h0 h1 h, Option.bind_some, if_pos rfl, e64, Option.bind_some]
  unfold roomN
  clear e64 h
  generalize upN m 64 = a at *
  generalize upN n 2 = b at *
  generalize upN m 2 = c at *
  obtain rfl | rfl | rfl | rfl | rfl | rfl | rfl | rfl : e = 1 ∨ e = 2 ∨ e = 3 ∨ e = 4 ∨ e = 5 ∨ e = 6 ∨ e = 7 ∨ e = 8 := by omega
  · rw [if_pos (by decide), wN (i := (n : Int) + 1) (n + 1) (by omega) (by omega), wN (i := (m : Int) + 1) (m + 1) (by omega) (by omega), wN (i := ((n + 1 : Nat) : Int) * ((m + 1 : Nat) : Int)) _ (Int.natCast_mul _ _).symm (by omega)]
    exact ⟨rfl, Nat.le_trans p1 (by decide)⟩
  · rw [if_neg (by decide), if_pos (by decide), wN (i := (m : Int) + 1) (m + 1) (by omega) (by omega), wN (i := 2 * ((m + 1 : Nat) : Int)) (2 * (m + 1)) (by omega) (by omega)]
    exact ⟨rfl, by show 2 * (m + 1) ≤ _; omega⟩
  · rw [if_neg (by decide), if_neg (by decide), if_pos (by decide), e2n, Option.bind_some, e2m, Option.bind_some, wN (i := (n : Int) + 1) (n + 1) (by omega) (by omega), wN (i := (m : Int) + 1) (m + 1) (by omega) (by omega), wN (i := (b : Int) * ((m + 1 : Nat) : Int)) _ (Int.natCast_mul _ _).symm (by omega), wN (i := (c : Int) * ((n + 1 : Nat) : Int)) _ (Int.natCast_mul _ _).symm (by omega)]
    show some (_, (0 : Int)) = some (((256 + b * (m + 1) + c * (n + 1) : Nat) : Int), (0 : Int)) ∧ 256 + b * (m + 1) + c * (n + 1) ≤ 1000000000000000
    generalize b * (m + 1) = x at *
    generalize c * (n + 1) = y at *
    rw [wN (i := 256 + (x : Int)) (256 + x) (by omega) (by omega), wN (i := ((256 + x : Nat) : Int) + (y : Int)) (256 + x + y) (by omega) (by omega)]
    exact ⟨rfl, by omega⟩
  · rw [if_neg (by decide), if_neg (by decide), if_neg (by decide), if_pos (by decide), wN (i := 3 * (r : Int)) (3 * r) (by omega) (by omega), wN (i := (m : Int) + ((3 * r : Nat) : Int)) (m + 3 * r) (by omega) (by omega)]
    exact ⟨rfl, by show m + 3 * r ≤ _; omega⟩
  · rw [if_neg (by decide), if_neg (by decide), if_neg (by decide), if_neg (by decide), if_pos (by decide), wN (i := (n : Int) + (m : Int)) (n + m) (by omega) (by omega), wN (i := ((n + m : Nat) : Int) + 3) (n + m + 3) (by omega) (by omega), wN (i := 4 * ((n + m + 3 : Nat) : Int)) (4 * (n + m + 3)) (by omega) (by omega)]
    exact ⟨rfl, by show 4 * (n + m + 3) ≤ _; omega⟩
  · rw [if_neg (by decide), if_neg (by decide), if_neg (by decide), if_neg (by decide), if_neg (by decide), if_pos (by decide), wN (i := (n : Int) + (m : Int)) (n + m) (by omega) (by omega), wN (i := ((n + m : Nat) : Int) + 1) (n + m + 1) (by omega) (by omega), wN (i := 2 * ((n + m + 1 : Nat) : Int)) (2 * (n + m + 1)) (by omega) (by omega)]
    exact ⟨rfl, by show 2 * (n + m + 1) ≤ _; omega⟩
  · rw [if_neg (by decide), if_neg (by decide), if_neg (by decide), if_neg (by decide), if_neg (by decide), if_neg (by decide), if_pos (by decide), wN (i := (s : Int) + (n : Int)) (s + n) (by omega) (by omega), wN (i := ((s + n : Nat) : Int) + 1) (s + n + 1) (by omega) (by omega), wN (i := ((s + n + 1 : Nat) : Int) * (a : Int)) _ (Int.natCast_mul _ _).symm (by omega)]
    exact ⟨rfl, Nat.le_trans m5 (by decide)⟩
  · rw [if_neg (by decide), if_neg (by decide), if_neg (by decide), if_neg (by decide), if_neg (by decide), if_neg (by decide), if_neg (by decide), if_pos (by decide), wN (i := 2 * (s : Int)) (2 * s) (by omega) (by omega), wN (i := ((2 * s : Nat) : Int) + (n : Int)) (2 * s + n) (by omega) (by omega), wN (i := ((2 * s + n : Nat) : Int) + 1) (2 * s + n + 1) (by omega) (by omega), wN (i := ((2 * s + n + 1 : Nat) : Int) * (a : Int)) _ (Int.natCast_mul _ _).symm (by omega)]
    exact ⟨rfl, Nat.le_trans m6 (by decide)⟩

theorem bitsLen (x : Nat) (h : x < 4611686018427387904) : bits_Len.f (IntKind.u64.wrap (x : Int)) = some ((Lib.bitLen x : Nat) : Int) := by
  have e : IntKind.u64.wrap (x : Int) = (x : Int) := by
    simp [IntKind.wrap, IntKind.signed, IntKind.bits]
    omega
  unfold bits_Len.f
  rw [e, if_pos (by omega), Int.toNat_natCast]

/-- How much an engine does. -/
def workA (n m r a b c w x y : Nat) : Nat → Nat
  | 1 => n * m
  | 2 => (2 * n + x) * m
  | 3 => 256 + 3 * b * c
  | 4 => (n + m + r) * (1 + y)
  | 5 => (n + m + 1) * (w + 1)
  | 6 => (n + m + 1) * (2 * w + 1)
  | 7 => 2 * n * a
  | _ => 3 * n * a
def apartN (n m : Nat) : Nat := (n - m) + (m - n)
def workN (e n m r : Nat) : Nat := workA n m r (upN m 64) (upN n 2) (upN m 2) (apartN n m) (Lib.bitLen n) (Lib.bitLen m) e
theorem digits (x : Nat) (h : x < 4611686018427387904) : cost_digits.f (x : Int) = some ((Lib.bitLen x : Nat) : Int) := by
  unfold cost_digits.f
  rw [bitsLen x h, Option.bind_some]
theorem costWork (e n m s r : Nat) (h0 : 1 ≤ e) (h1 : e ≤ 8) (h : Looks n m s r) : cost_Work.f (e : Int) (n : Int) (m : Int) (s : Int) (r : Int) = some (((workN e n m r : Nat) : Int), 0) := by
  obtain ⟨n1, m1, s1, r1⟩ := id h
  have u1 := upN_le m 64 (by omega)
  have u2 := upN_le n 2 (by omega)
  have u3 := upN_le m 2 (by omega)
  have e64 := costUp m 64 (by omega) (by omega) (by omega)
  have e2n := costUp n 2 (by omega) (by omega) (by omega)
  have e2m := costUp m 2 (by omega) (by omega) (by omega)
  have dn := digits n (by omega)
  have dm := digits m (by omega)
  have ln : Lib.bitLen n ≤ 21 := Lib.bitLen_le _ 21 (by decide) (show n < 2097152 by omega)
  have lm : Lib.bitLen m ≤ 21 := Lib.bitLen_le _ 21 (by decide) (show m < 2097152 by omega)
  have ea : mx (wrap64 ((n : Int) - (m : Int))) (wrap64 ((m : Int) - (n : Int))) = ((apartN n m : Nat) : Int) := by
    rw [wrap_id (i := (n : Int) - (m : Int)) (by omega) (by omega), wrap_id (i := (m : Int) - (n : Int)) (by omega) (by omega)]
    unfold mx apartN
    split <;> omega
  have la : apartN n m ≤ 1048576 := by unfold apartN; omega
  have p2 := mul_small (show upN n 2 ≤ 1048576 by omega) (show upN m 2 ≤ 1048576 by omega)
  have p4 := mul_small n1 m1
  have p1 := mul_small (show 2 * n + Lib.bitLen n ≤ 3000000 by generalize Lib.bitLen n = z at *; omega) (show m ≤ 1048576 by omega)
  have p8 := mul_small (show n ≤ 1048576 by omega) (show upN m 64 ≤ 1048576 by omega)
  have c64 : ((64 : Nat) : Int) = 64 := rfl
  have c2 : ((2 : Nat) : Int) = 2 := rfl
  rw [c64] at e64
  rw [c2] at e2n e2m
  unfold cost_Work.f
  rw [costAsk e n m s r h0 h1 h, Option.bind_some, if_pos rfl, e64, Option.bind_some, ea]
  unfold workN
  clear e64 h ea
  generalize upN m 64 = a at *
  generalize upN n 2 = b at *
  generalize upN m 2 = c at *
  generalize apartN n m = w at *
  generalize Lib.bitLen n = x at *
  generalize Lib.bitLen m = y at *
  have p5 := mul_small (show n + m + 1 ≤ 3000000 by omega) (show w + 1 ≤ 1048577 by omega)
  have p6 := mul_small (show n + m + 1 ≤ 3000000 by omega) (show 2 * w + 1 ≤ 3000000 by omega)
  have p7 := mul_small (show n + m + r ≤ 1099513724928 by omega) (show 1 + y ≤ 22 by omega)
  obtain rfl | rfl | rfl | rfl | rfl | rfl | rfl | rfl : e = 1 ∨ e = 2 ∨ e = 3 ∨ e = 4 ∨ e = 5 ∨ e = 6 ∨ e = 7 ∨ e = 8 := by omega
  · rw [if_pos (by decide), wN (i := (n : Int) * (m : Int)) _ (Int.natCast_mul _ _).symm (by omega)]; rfl
  · rw [if_neg (by decide), if_pos (by decide), dn, Option.bind_some, wN (i := 2 * (n : Int)) (2 * n) (by omega) (by omega), wN (i := ((2 * n : Nat) : Int) + (x : Int)) (2 * n + x) (by omega) (by omega), wN (i := ((2 * n + x : Nat) : Int) * (m : Int)) _ (Int.natCast_mul _ _).symm (by omega)]; rfl
  · have p9 : 3 * b * c = 3 * (b * c) := Nat.mul_assoc _ _ _
    rw [if_neg (by decide), if_neg (by decide), if_pos (by decide), e2n, Option.bind_some, e2m, Option.bind_some, wN (i := 3 * (b : Int)) (3 * b) (by omega) (by omega), wN (i := ((3 * b : Nat) : Int) * (c : Int)) (3 * b * c) (Int.natCast_mul _ _).symm (by omega)]
    show _ = some (((256 + 3 * b * c : Nat) : Int), (0 : Int))
    generalize 3 * b * c = z at *
    rw [wN (i := 256 + (z : Int)) (256 + z) (by omega) (by omega)]
  · rw [if_neg (by decide), if_neg (by decide), if_neg (by decide), if_pos (by decide), dm, Option.bind_some, wN (i := (n : Int) + (m : Int)) (n + m) (by omega) (by omega), wN (i := ((n + m : Nat) : Int) + (r : Int)) (n + m + r) (by omega) (by omega), wN (i := 1 + (y : Int)) (1 + y) (by omega) (by omega), wN (i := ((n + m + r : Nat) : Int) * ((1 + y : Nat) : Int)) _ (Int.natCast_mul _ _).symm (by omega)]; rfl
  · rw [if_neg (by decide), if_neg (by decide), if_neg (by decide), if_neg (by decide), if_pos (by decide), wN (i := (n : Int) + (m : Int)) (n + m) (by omega) (by omega), wN (i := ((n + m : Nat) : Int) + 1) (n + m + 1) (by omega) (by omega), wN (i := (w : Int) + 1) (w + 1) (by omega) (by omega), wN (i := ((n + m + 1 : Nat) : Int) * ((w + 1 : Nat) : Int)) _ (Int.natCast_mul _ _).symm (by omega)]; rfl
  · rw [if_neg (by decide), if_neg (by decide), if_neg (by decide), if_neg (by decide), if_neg (by decide), if_pos (by decide), wN (i := (n : Int) + (m : Int)) (n + m) (by omega) (by omega), wN (i := ((n + m : Nat) : Int) + 1) (n + m + 1) (by omega) (by omega), wN (i := 2 * (w : Int)) (2 * w) (by omega) (by omega), wN (i := ((2 * w : Nat) : Int) + 1) (2 * w + 1) (by omega) (by omega), wN (i := ((n + m + 1 : Nat) : Int) * ((2 * w + 1 : Nat) : Int)) _ (Int.natCast_mul _ _).symm (by omega)]; rfl
  · have p9 : 2 * n * a = 2 * (n * a) := Nat.mul_assoc _ _ _
    rw [if_neg (by decide), if_neg (by decide), if_neg (by decide), if_neg (by decide), if_neg (by decide), if_neg (by decide), if_pos (by decide), wN (i := 2 * (n : Int)) (2 * n) (by omega) (by omega), wN (i := ((2 * n : Nat) : Int) * (a : Int)) _ (Int.natCast_mul _ _).symm (by omega)]; rfl
  · have p9 : 3 * n * a = 3 * (n * a) := Nat.mul_assoc _ _ _
    rw [if_neg (by decide), if_neg (by decide), if_neg (by decide), if_neg (by decide), if_neg (by decide), if_neg (by decide), if_neg (by decide), if_pos (by decide), wN (i := 3 * (n : Int)) (3 * n) (by omega) (by omega), wN (i := ((3 * n : Nat) : Int) * (a : Int)) _ (Int.natCast_mul _ _).symm (by omega)]; rfl

theorem right_some (a b c d : Int) : (cost_Right.f a b c d = some true ∧ tattingref27_Right.f a b c d = some true ∧ ((-9223372036854775808 ≤ c ∧ c ≤ 9223372036854775807 ∧ -9223372036854775808 ≤ d ∧ d ≤ 9223372036854775807) → ∃ n m s r : Nat, a = n ∧ b = m ∧ c = s ∧ d = r ∧ Looks n m s r)) ∨ (cost_Right.f a b c d = some false ∧ tattingref27_Right.f a b c d = some false) := by
  unfold cost_Right.f tattingref27_Right.f cost_is.f
  by_cases h1 : a ≥ 0
  · rw [if_pos h1, if_pos h1, Option.bind_some]
    by_cases h2 : a ≤ 1048576
    · rw [if_pos h2, if_pos (decide_eq_true h2)]
      by_cases h3 : b ≥ 0
      · rw [if_pos h3, if_pos h3, Option.bind_some]
        by_cases h4 : b ≤ 1048576
        · rw [if_pos h4, if_pos (decide_eq_true h4)]
          by_cases h5 : c ≥ 0
          · rw [if_pos h5]
            by_cases h6 : c ≤ wrap64 (a + b)
            · rw [if_pos h6]
              by_cases h7 : d ≥ 0
              · rw [if_pos h7]
                by_cases h8 : d ≤ wrap64 (a * b)
                · rw [decide_eq_true h8]
                  refine Or.inl ⟨rfl, rfl, fun _ => ?_⟩
                  have A6 := Aside0.mk h6
                  have A8 := Aside0.mk h8
                  clear h6 h8
                  obtain ⟨n, rfl⟩ : ∃ n : Nat, a = n := ⟨a.toNat, by omega⟩
                  obtain ⟨m, rfl⟩ : ∃ n : Nat, b = n := ⟨b.toNat, by omega⟩
                  obtain ⟨s, rfl⟩ : ∃ n : Nat, c = n := ⟨c.toNat, by omega⟩
                  obtain ⟨r, rfl⟩ : ∃ n : Nat, d = n := ⟨d.toNat, by omega⟩
                  have hp := mul_small (show n ≤ 1048576 by omega) (show m ≤ 1048576 by omega)
                  rw [wN (i := (n : Int) + (m : Int)) (n + m) (by omega) (by omega)] at A6
                  rw [wN (i := (n : Int) * (m : Int)) (n * m) (Int.natCast_mul _ _).symm (by omega)] at A8
                  have h6 := A6.out
                  have h8 := A8.out
                  exact ⟨n, m, s, r, rfl, rfl, rfl, rfl, by omega, by omega, by omega, by omega⟩
                · rw [decide_eq_false h8]; exact Or.inr ⟨rfl, rfl⟩
              · rw [if_neg h7]; exact Or.inr ⟨rfl, rfl⟩
            · rw [if_neg h6]; exact Or.inr ⟨rfl, rfl⟩
          · rw [if_neg h5]; exact Or.inr ⟨rfl, rfl⟩
        · rw [if_neg h4, if_neg (by simpa using h4)]; exact Or.inr ⟨rfl, rfl⟩
      · rw [if_neg h3, if_neg h3, Option.bind_some, if_neg (by decide)]; exact Or.inr ⟨rfl, rfl⟩
    · rw [if_neg h2, if_neg (by simpa using h2)]; exact Or.inr ⟨rfl, rfl⟩
  · rw [if_neg h1, if_neg h1, Option.bind_some, if_neg (by decide)]; exact Or.inr ⟨rfl, rfl⟩
theorem half_up (n : Nat) (hn : n ≤ 1048576) : wrap64 (Int.tdiv (wrap64 ((n : Int) + 1)) 2) = ((upN n 2 : Nat) : Int) := by
  rw [wN (i := (n : Int) + 1) (n + 1) (by omega) (by omega), Int.tdiv_eq_ediv_of_nonneg (by omega)]
  have e : ((n + 1 : Nat) : Int) / 2 = ((upN n 2 : Nat) : Int) := by unfold upN; rw [show n + 2 - 1 = n + 1 by omega]; rfl
  have u := upN_le n 2 (by omega)
  rw [e]
  generalize upN n 2 = z at *
  exact wN _ rfl (by omega)
theorem words_up (n : Nat) (hn : n ≤ 1048576) : wrap64 (Int.tdiv (wrap64 ((n : Int) + 63)) 64) = ((upN n 64 : Nat) : Int) := by
  rw [wN (i := (n : Int) + 63) (n + 63) (by omega) (by omega), Int.tdiv_eq_ediv_of_nonneg (by omega)]
  have e : ((n + 63 : Nat) : Int) / 64 = ((upN n 64 : Nat) : Int) := by unfold upN; rw [show n + 64 - 1 = n + 63 by omega]; rfl
  have u := upN_le n 64 (by omega)
  rw [e]
  generalize upN n 64 = z at *
  exact wN _ rfl (by omega)

theorem refRoom (e n m s r : Nat) (h0 : 1 ≤ e) (h1 : e ≤ 8) (h : Looks n m s r) (hr : tattingref27_Right.f (n : Int) (m : Int) (s : Int) (r : Int) = some true) {k : Nat} (hk : 2 ≤ k) : tattingref27_Room.f k (e : Int) (n : Int) (m : Int) (s : Int) (r : Int) = some (((roomN e n m s r : Nat) : Int), 0) := by
  obtain ⟨k, rfl⟩ : ∃ q, k = q + 1 := ⟨k - 1, by omega⟩
  obtain ⟨n1, m1, s1, r1⟩ := id h
  have u1 := upN_le m 64 (by omega)
  have u2 := upN_le n 2 (by omega)
  have u3 := upN_le m 2 (by omega)
  have e64 := Aside0.mk (words_up m (by omega))
  have e2n := Aside0.mk (half_up n (by omega))
  have e2m := Aside0.mk (half_up m (by omega))
  have p1 := mul_small (show n + 1 ≤ 1048577 by omega) (show m + 1 ≤ 1048577 by omega)
  have p2 := mul_small (show upN n 2 ≤ 1048576 by omega) (show m + 1 ≤ 1048577 by omega)
  have p3 := mul_small (show upN m 2 ≤ 1048576 by omega) (show n + 1 ≤ 1048577 by omega)
  have p4 := mul_small n1 m1
  have p5 := mul_small (show s + n + 1 ≤ 4000000 by omega) (show upN m 64 ≤ 1048576 by omega)
  have p6 := mul_small (show 2 * s + n + 1 ≤ 6000000 by omega) (show upN m 64 ≤ 1048576 by omega)
  unfold tattingref27_Room.f
  rw [if_neg (by omega), if_neg (by omega), hr, Option.bind_some]
  simp only [tattingref27_Room.j0]
  rw [if_neg (by decide), e64.out, e2n.out, e2m.out]
  unfold roomN
  clear e64 e2n e2m h hr
  generalize upN m 64 = a at *
  generalize upN n 2 = b at *
  generalize upN m 2 = c at *
  obtain rfl | rfl | rfl | rfl | rfl | rfl | rfl | rfl : e = 1 ∨ e = 2 ∨ e = 3 ∨ e = 4 ∨ e = 5 ∨ e = 6 ∨ e = 7 ∨ e = 8 := by omega
  · rw [if_pos (by decide), wN (i := (n : Int) + 1) (n + 1) (by omega) (by omega), wN (i := (m : Int) + 1) (m + 1) (by omega) (by omega), wN (i := ((n + 1 : Nat) : Int) * ((m + 1 : Nat) : Int)) _ (Int.natCast_mul _ _).symm (by omega)]; rfl
  · rw [if_neg (by decide), if_pos (by decide), wN (i := (m : Int) + 1) (m + 1) (by omega) (by omega), wN (i := 2 * ((m + 1 : Nat) : Int)) (2 * (m + 1)) (by omega) (by omega)]; rfl
  · rw [if_neg (by decide), if_neg (by decide), if_pos (by decide), wN (i := (n : Int) + 1) (n + 1) (by omega) (by omega), wN (i := (m : Int) + 1) (m + 1) (by omega) (by omega), wN (i := (b : Int) * ((m + 1 : Nat) : Int)) _ (Int.natCast_mul _ _).symm (by omega), wN (i := (c : Int) * ((n + 1 : Nat) : Int)) _ (Int.natCast_mul _ _).symm (by omega)]
    show _ = some (((256 + b * (m + 1) + c * (n + 1) : Nat) : Int), (0 : Int))
    generalize b * (m + 1) = x at *
    generalize c * (n + 1) = y at *
    rw [wN (i := 256 + (x : Int)) (256 + x) (by omega) (by omega), wN (i := ((256 + x : Nat) : Int) + (y : Int)) (256 + x + y) (by omega) (by omega)]
  · rw [if_neg (by decide), if_neg (by decide), if_neg (by decide), if_pos (by decide), wN (i := 3 * (r : Int)) (3 * r) (by omega) (by omega), wN (i := (m : Int) + ((3 * r : Nat) : Int)) (m + 3 * r) (by omega) (by omega)]; rfl
  · rw [if_neg (by decide), if_neg (by decide), if_neg (by decide), if_neg (by decide), if_pos (by decide), wN (i := (n : Int) + (m : Int)) (n + m) (by omega) (by omega), wN (i := ((n + m : Nat) : Int) + 3) (n + m + 3) (by omega) (by omega), wN (i := 4 * ((n + m + 3 : Nat) : Int)) (4 * (n + m + 3)) (by omega) (by omega)]; rfl
  · rw [if_neg (by decide), if_neg (by decide), if_neg (by decide), if_neg (by decide), if_neg (by decide), if_pos (by decide), wN (i := (n : Int) + (m : Int)) (n + m) (by omega) (by omega), wN (i := ((n + m : Nat) : Int) + 1) (n + m + 1) (by omega) (by omega), wN (i := 2 * ((n + m + 1 : Nat) : Int)) (2 * (n + m + 1)) (by omega) (by omega)]; rfl
  · rw [if_neg (by decide), if_neg (by decide), if_neg (by decide), if_neg (by decide), if_neg (by decide), if_neg (by decide), if_pos (by decide), wN (i := (s : Int) + (n : Int)) (s + n) (by omega) (by omega), wN (i := ((s + n : Nat) : Int) + 1) (s + n + 1) (by omega) (by omega), wN (i := ((s + n + 1 : Nat) : Int) * (a : Int)) _ (Int.natCast_mul _ _).symm (by omega)]; rfl
  · rw [if_neg (by decide), if_neg (by decide), if_neg (by decide), if_neg (by decide), if_neg (by decide), if_neg (by decide), if_neg (by decide), wN (i := 2 * (s : Int)) (2 * s) (by omega) (by omega), wN (i := ((2 * s : Nat) : Int) + (n : Int)) (2 * s + n) (by omega) (by omega), wN (i := ((2 * s + n : Nat) : Int) + 1) (2 * s + n + 1) (by omega) (by omega), wN (i := ((2 * s + n + 1 : Nat) : Int) * (a : Int)) _ (Int.natCast_mul _ _).symm (by omega)]; rfl
theorem refRoom_none (e a b c d : Int) (h : e < 1 ∨ e > 8 ∨ tattingref27_Right.f a b c d = some false) {k : Nat} (hk : 2 ≤ k) : tattingref27_Room.f k e a b c d = some (0, 1) := by
  obtain ⟨k, rfl⟩ : ∃ q, k = q + 1 := ⟨k - 1, by omega⟩
  unfold tattingref27_Room.f
  have j : tattingref27_Room.j0 (k + 1) e true a b c d = some (0, 1) := by simp only [tattingref27_Room.j0]; rw [if_pos True.intro]
  by_cases h1 : e < 1
  · rw [if_pos h1]; exact j
  rw [if_neg h1]
  by_cases h2 : e > 8
  · rw [if_pos h2]; exact j
  rw [if_neg h2]
  rcases h with h | h | h
  · exact absurd h h1
  · exact absurd h h2
  · rw [h, Option.bind_some]; exact j
theorem costRoom_none (e a b c d : Int) (h : e < 1 ∨ e > 8 ∨ cost_Right.f a b c d = some false) (hs : ∃ v, cost_Right.f a b c d = some v) : cost_Room.f e a b c d = some (0, 1) ∧ cost_Work.f e a b c d = some (0, 1) := by
  have q : cost_ask.f e a b c d = some false := by
    unfold cost_ask.f
    by_cases h1 : e ≥ 1
    · rw [if_pos h1]
      by_cases h2 : e ≤ 8
      · rw [if_pos h2]
        rcases h with h | h | h
        · omega
        · omega
        · rw [h, Option.bind_some]
      · rw [if_neg h2]
    · rw [if_neg h1]
  unfold cost_Room.f cost_Work.f
  rw [q, Option.bind_some, Option.bind_some, if_neg (by decide), if_neg (by decide)]
  exact ⟨rfl, rfl⟩

theorem refBits_l0 (f : Nat) : ∀ (x n k : Nat), x < 2 ^ f → x < 4611686018427387904 → f < k → n + f ≤ 1000 → tattingref7_Bits.l0 k (n : Int) (x : Int) = some ((n + Lib.bitLenAux f x : Nat) : Int) := by
  induction f with
  | zero =>
    intro x n k hx hb hk hn
    obtain ⟨k, rfl⟩ := round hk
    have hx0 : x = 0 := by rw [Nat.pow_zero] at hx; omega
    simp only [tattingref7_Bits.l0]
    rw [if_neg (by omega)]
    rfl
  | succ f ih =>
    intro x n k hx hb hk hn
    obtain ⟨k, rfl⟩ : ∃ m, k = m + 1 := ⟨k - 1, by omega⟩
    simp only [tattingref7_Bits.l0]
    by_cases c : x = 0
    · rw [if_neg (by omega)]
      rw [Lib.bitLenAux, if_pos c]; rfl
    · rw [if_pos (by omega)]
      rw [Nat.pow_succ] at hx
      have e : Int.tdiv (x : Int) 2 = ((x / 2 : Nat) : Int) := by rw [Int.tdiv_eq_ediv_of_nonneg (by omega)]; omega
      rw [wrap_succ (by omega), e, wrap_id (i := ((x / 2 : Nat) : Int)) (by omega) (by omega), ih (x / 2) (n + 1) k (by omega) (by omega) (by omega) (by omega)]
      rw [Lib.bitLenAux, if_neg c]
      congr 1; omega
theorem refBits (x : Nat) (h : x < 4611686018427387904) {k : Nat} (hk : 64 < k) : tattingref7_Bits.f k (x : Int) = some ((Lib.bitLen x : Nat) : Int) := by
  have := refBits_l0 64 x 0 k (by omega) h hk (by omega)
  rw [Nat.zero_add] at this
  exact this

theorem refWork (e n m s r : Nat) (h0 : 1 ≤ e) (h1 : e ≤ 8) (h : Looks n m s r) (hr : tattingref27_Right.f (n : Int) (m : Int) (s : Int) (r : Int) = some true) {k : Nat} (hk : 80 ≤ k) : tattingref27_Work.f k (e : Int) (n : Int) (m : Int) (s : Int) (r : Int) = some (((workN e n m r : Nat) : Int), 0) := by
  obtain ⟨k, rfl⟩ : ∃ q, k = q + 2 := ⟨k - 2, by omega⟩
  obtain ⟨n1, m1, s1, r1⟩ := id h
  have u1 := upN_le m 64 (by omega)
  have u2 := upN_le n 2 (by omega)
  have u3 := upN_le m 2 (by omega)
  have e64 := Aside0.mk (words_up m (by omega))
  have e2n := Aside0.mk (half_up n (by omega))
  have e2m := Aside0.mk (half_up m (by omega))
  have dn := refBits n (by omega) (k := k) (by omega)
  have dm := refBits m (by omega) (k := k) (by omega)
  have ln : Lib.bitLen n ≤ 21 := Lib.bitLen_le _ 21 (by decide) (show n < 2097152 by omega)
  have lm : Lib.bitLen m ≤ 21 := Lib.bitLen_le _ 21 (by decide) (show m < 2097152 by omega)
  have la : apartN n m ≤ 1048576 := by unfold apartN; omega
  have p2 := mul_small (show upN n 2 ≤ 1048576 by omega) (show upN m 2 ≤ 1048576 by omega)
  have p4 := mul_small n1 m1
  have p1 := mul_small (show 2 * n + Lib.bitLen n ≤ 3000000 by generalize Lib.bitLen n = z at *; omega) (show m ≤ 1048576 by omega)
  have p8 := mul_small (show n ≤ 1048576 by omega) (show upN m 64 ≤ 1048576 by omega)
  unfold tattingref27_Work.f
  rw [if_neg (by omega), if_neg (by omega), hr, Option.bind_some]
  simp only [tattingref27_Work.j0]
  rw [if_neg (by decide), e64.out, e2n.out, e2m.out, wrap_id (i := (n : Int) - (m : Int)) (by omega) (by omega), wrap_id (i := (m : Int) - (n : Int)) (by omega) (by omega)]
  have ea : ∀ f : Int → Option (Int × Int), (if (n : Int) - (m : Int) < 0 then f ((m : Int) - (n : Int)) else f ((n : Int) - (m : Int))) = f ((apartN n m : Nat) : Int) := by
    intro f
    unfold apartN
    split
    · rw [show ((n - m + (m - n) : Nat) : Int) = (m : Int) - (n : Int) by omega]
    · rw [show ((n - m + (m - n) : Nat) : Int) = (n : Int) - (m : Int) by omega]
  rw [ea (fun v => tattingref27_Work.j1 (k + 1) (e : Int) n m (upN n 2 : Nat) (upN m 2 : Nat) (upN m 64 : Nat) v n m s r)]
  unfold workN
  clear e64 e2n e2m h hr ea
  simp only [tattingref27_Work.j1]
  generalize upN m 64 = a at *
  generalize upN n 2 = b at *
  generalize upN m 2 = c at *
  generalize apartN n m = w at *
  generalize Lib.bitLen n = x at *
  generalize Lib.bitLen m = y at *
  have p5 := mul_small (show n + m + 1 ≤ 3000000 by omega) (show w + 1 ≤ 1048577 by omega)
  have p6 := mul_small (show n + m + 1 ≤ 3000000 by omega) (show 2 * w + 1 ≤ 3000000 by omega)
  have p7 := mul_small (show n + m + r ≤ 1099513724928 by omega) (show 1 + y ≤ 22 by omega)
  obtain rfl | rfl | rfl | rfl | rfl | rfl | rfl | rfl : e = 1 ∨ e = 2 ∨ e = 3 ∨ e = 4 ∨ e = 5 ∨ e = 6 ∨ e = 7 ∨ e = 8 := by omega
  · rw [if_pos (by decide), wN (i := (n : Int) * (m : Int)) _ (Int.natCast_mul _ _).symm (by omega)]; rfl
  · rw [if_neg (by decide), if_pos (by decide), dn, Option.bind_some, wN (i := 2 * (n : Int)) (2 * n) (by omega) (by omega), wN (i := ((2 * n : Nat) : Int) + (x : Int)) (2 * n + x) (by omega) (by omega), wN (i := ((2 * n + x : Nat) : Int) * (m : Int)) _ (Int.natCast_mul _ _).symm (by omega)]; rfl
  · have p9 : 3 * b * c = 3 * (b * c) := Nat.mul_assoc _ _ _
    rw [if_neg (by decide), if_neg (by decide), if_pos (by decide), wN (i := 3 * (b : Int)) (3 * b) (by omega) (by omega), wN (i := ((3 * b : Nat) : Int) * (c : Int)) (3 * b * c) (Int.natCast_mul _ _).symm (by omega)]
    show _ = some (((256 + 3 * b * c : Nat) : Int), (0 : Int))
    generalize 3 * b * c = z at *
    rw [wN (i := 256 + (z : Int)) (256 + z) (by omega) (by omega)]
  · rw [if_neg (by decide), if_neg (by decide), if_neg (by decide), if_pos (by decide), dm, Option.bind_some, wN (i := (n : Int) + (m : Int)) (n + m) (by omega) (by omega), wN (i := ((n + m : Nat) : Int) + (r : Int)) (n + m + r) (by omega) (by omega), wN (i := 1 + (y : Int)) (1 + y) (by omega) (by omega), wN (i := ((n + m + r : Nat) : Int) * ((1 + y : Nat) : Int)) _ (Int.natCast_mul _ _).symm (by omega)]; rfl
  · rw [if_neg (by decide), if_neg (by decide), if_neg (by decide), if_neg (by decide), if_pos (by decide), wN (i := (n : Int) + (m : Int)) (n + m) (by omega) (by omega), wN (i := ((n + m : Nat) : Int) + 1) (n + m + 1) (by omega) (by omega), wN (i := (w : Int) + 1) (w + 1) (by omega) (by omega), wN (i := ((n + m + 1 : Nat) : Int) * ((w + 1 : Nat) : Int)) _ (Int.natCast_mul _ _).symm (by omega)]; rfl
  · rw [if_neg (by decide), if_neg (by decide), if_neg (by decide), if_neg (by decide), if_neg (by decide), if_pos (by decide), wN (i := (n : Int) + (m : Int)) (n + m) (by omega) (by omega), wN (i := ((n + m : Nat) : Int) + 1) (n + m + 1) (by omega) (by omega), wN (i := 2 * (w : Int)) (2 * w) (by omega) (by omega), wN (i := ((2 * w : Nat) : Int) + 1) (2 * w + 1) (by omega) (by omega), wN (i := ((n + m + 1 : Nat) : Int) * ((2 * w + 1 : Nat) : Int)) _ (Int.natCast_mul _ _).symm (by omega)]; rfl
  · have p9 : 2 * n * a = 2 * (n * a) := Nat.mul_assoc _ _ _
    rw [if_neg (by decide), if_neg (by decide), if_neg (by decide), if_neg (by decide), if_neg (by decide), if_neg (by decide), if_pos (by decide), wN (i := 2 * (n : Int)) (2 * n) (by omega) (by omega), wN (i := ((2 * n : Nat) : Int) * (a : Int)) _ (Int.natCast_mul _ _).symm (by omega)]; rfl
  · have p9 : 3 * n * a = 3 * (n * a) := Nat.mul_assoc _ _ _
    rw [if_neg (by decide), if_neg (by decide), if_neg (by decide), if_neg (by decide), if_neg (by decide), if_neg (by decide), if_neg (by decide), wN (i := 3 * (n : Int)) (3 * n) (by omega) (by omega), wN (i := ((3 * n : Nat) : Int) * (a : Int)) _ (Int.natCast_mul _ _).symm (by omega)]; rfl
theorem refWork_none (e a b c d : Int) (h : e < 1 ∨ e > 8 ∨ tattingref27_Right.f a b c d = some false) {k : Nat} (hk : 2 ≤ k) : tattingref27_Work.f k e a b c d = some (0, 1) := by
  obtain ⟨k, rfl⟩ : ∃ q, k = q + 1 := ⟨k - 1, by omega⟩
  unfold tattingref27_Work.f
  have j : tattingref27_Work.j0 (k + 1) e true a b c d = some (0, 1) := by simp only [tattingref27_Work.j0]; rw [if_pos True.intro]
  by_cases h1 : e < 1
  · rw [if_pos h1]; exact j
  rw [if_neg h1]
  by_cases h2 : e > 8
  · rw [if_pos h2]; exact j
  rw [if_neg h2]
  rcases h with h | h | h
  · exact absurd h h1
  · exact absurd h h2
  · rw [h, Option.bind_some]; exact j

theorem awake : tattinglaw27_awake.f 60 = some true := by decide +kernel
/-- The first of the engines up to one that do least. -/
def am (n m r : Nat) : Nat → Nat
  | 0 => 0
  | i + 1 => if i = 0 then 1 else if workN (i + 1) n m r < workN (am n m r i) n m r then i + 1 else am n m r i
theorem am_spec (n m r i : Nat) (hi : 1 ≤ i) : 1 ≤ am n m r i ∧ am n m r i ≤ i ∧ ∀ j, 1 ≤ j → j ≤ i → workN (am n m r i) n m r ≤ workN j n m r ∧ (workN j n m r = workN (am n m r i) n m r → am n m r i ≤ j) := by
  induction i with
  | zero => omega
  | succ i ih =>
    rw [am]
    by_cases c : i = 0
    · rw [if_pos c]
      refine ⟨by omega, by omega, fun j h1 h2 => ?_⟩
      rw [show j = 1 by omega]; exact ⟨Nat.le_refl _, fun _ => Nat.le_refl _⟩
    · rw [if_neg c]
      obtain ⟨a1, a2, a3⟩ := ih (by omega)
      by_cases d : workN (i + 1) n m r < workN (am n m r i) n m r
      · rw [if_pos d]
        refine ⟨by omega, by omega, fun j h1 h2 => ?_⟩
        by_cases e : j = i + 1
        · rw [e]; exact ⟨Nat.le_refl _, fun _ => Nat.le_refl _⟩
        · have q := a3 j h1 (by omega)
          exact ⟨by omega, fun z => by omega⟩
      · rw [if_neg d]
        refine ⟨a1, by omega, fun j h1 h2 => ?_⟩
        by_cases e : j = i + 1
        · rw [e]; exact ⟨by omega, fun z => by omega⟩
        · exact a3 j h1 (by omega)
theorem choose_l0 (n m s r : Nat) (h : Looks n m s r) (d : Nat) : ∀ (k i : Nat), 1 ≤ i → i + d = 8 → d < k → cost_Choose.l0 k (am n m r i : Nat) (workN (am n m r i) n m r : Nat) ((i + 1 : Nat) : Int) n m s r = some ((am n m r 8 : Nat) : Int) := by
  induction d with
  | zero =>
    intro k i h1 hi hk
    obtain ⟨k, rfl⟩ := round hk
    simp only [cost_Choose.l0]
    rw [if_neg (by omega), show i = 8 by omega]
  | succ d ih =>
    intro k i h1 hi hk
    obtain ⟨k, rfl⟩ := round hk
    have a1 := (am_spec n m r i h1).1
    have next := ih k (i + 1) (by omega) (by omega) (by omega)
    rw [am, if_neg (by omega)] at next
    simp only [cost_Choose.l0]
    rw [if_pos (by omega), costWork (i + 1) n m s r (by omega) (by omega) h, Option.bind_some]
    dsimp only
    rw [if_pos rfl, if_neg (by omega), wrap_succ (n := i + 1) (by omega)]
    by_cases c : workN (i + 1) n m r < workN (am n m r i) n m r
    · rw [if_pos c] at next
      rw [if_pos (by omega)]; exact next
    · rw [if_neg c] at next
      rw [if_neg (by omega)]; exact next
theorem refChoose_l0 (n m s r : Nat) (h : Looks n m s r) (hr : tattingref27_Right.f (n : Int) (m : Int) (s : Int) (r : Int) = some true) (d : Nat) : ∀ (k i : Nat), 1 ≤ i → i + d = 8 → d + 80 < k → tattingref27_Choose.l0 k (am n m r i : Nat) (workN (am n m r i) n m r : Nat) ((i + 1 : Nat) : Int) n m s r = some ((am n m r 8 : Nat) : Int) := by
  induction d with
  | zero =>
    intro k i h1 hi hk
    obtain ⟨k, rfl⟩ := round hk
    simp only [tattingref27_Choose.l0]
    rw [if_neg (by omega), show i = 8 by omega]
  | succ d ih =>
    intro k i h1 hi hk
    obtain ⟨k, rfl⟩ := round hk
    have next := ih k (i + 1) (by omega) (by omega) (by omega)
    rw [am, if_neg (by omega)] at next
    simp only [tattingref27_Choose.l0]
    rw [if_pos (by omega), refWork (i + 1) n m s r (by omega) (by omega) h hr (by omega), Option.bind_some]
    dsimp only
    rw [wrap_succ (n := i + 1) (by omega)]
    by_cases c : workN (i + 1) n m r < workN (am n m r i) n m r
    · rw [if_pos c] at next
      rw [if_pos (by omega)]; exact next
    · rw [if_neg c] at next
      rw [if_neg (by omega)]; exact next
theorem choose (n m s r : Nat) (h : Looks n m s r) (K : Nat) (hK : 100 < K) : cost_Choose.f K (n : Int) (m : Int) (s : Int) (r : Int) = some ((am n m r 8 : Nat) : Int) := by
  unfold cost_Choose.f
  obtain ⟨K, rfl⟩ := round hK
  have q := choose_l0 n m s r h 7 K 1 (by omega) (by omega) (by omega)
  have e1 : am n m r 1 = 1 := rfl
  rw [e1] at q
  simp only [cost_Choose.l0]
  have c := costWork 1 n m s r (by omega) (by omega) h
  have e2 : ((1 : Nat) : Int) = 1 := rfl
  rw [e2] at c q
  rw [if_pos (by decide), c, Option.bind_some]
  dsimp only
  rw [if_pos rfl, if_pos True.intro, show wrap64 (1 + 1) = ((1 + 1 : Nat) : Int) from wrap_succ (n := 1) (by decide)]
  exact q
theorem refChoose (n m s r : Nat) (h : Looks n m s r) (hr : tattingref27_Right.f (n : Int) (m : Int) (s : Int) (r : Int) = some true) : tattingref27_Choose.f 200 (n : Int) (m : Int) (s : Int) (r : Int) = some ((am n m r 8 : Nat) : Int) := by
  unfold tattingref27_Choose.f
  have q := refChoose_l0 n m s r h hr 7 200 1 (by omega) (by omega) (by omega)
  have e1 : am n m r 1 = 1 := rfl
  rw [e1] at q
  have c := refWork 1 n m s r (by omega) (by omega) h hr (k := 200) (by omega)
  have e2 : ((1 : Nat) : Int) = 1 := rfl
  rw [e2] at c q
  rw [hr, Option.bind_some, if_pos rfl, c, Option.bind_some]
  exact q
theorem choose_none (a b c d : Int) (h : cost_Right.f a b c d = some false) (q : Nat) : ∀ (k : Nat) (e : Int), 1 ≤ e → e + q = 9 → q < k → cost_Choose.l0 k 0 0 e a b c d = some 0 := by
  induction q with
  | zero =>
    intro k e h1 hi hk
    obtain ⟨k, rfl⟩ := round hk
    simp only [cost_Choose.l0]
    rw [if_neg (by omega)]
  | succ q ih =>
    intro k e h1 hi hk
    obtain ⟨k, rfl⟩ := round hk
    simp only [cost_Choose.l0]
    rw [if_pos (by omega), (costRoom_none e a b c d (Or.inr (Or.inr h)) ⟨_, h⟩).2, Option.bind_some]
    dsimp only
    rw [if_neg (by decide), wrap_id (by omega) (by omega)]
    exact ih k (e + 1) (by omega) (by omega) (by omega)
theorem fits_same (e n m s r : Nat) (w : Int) (h0 : 1 ≤ e) (h1 : e ≤ 8) (h : Looks n m s r) (hr : tattingref27_Right.f (n : Int) (m : Int) (s : Int) (r : Int) = some true) {k : Nat} (hk : 2 ≤ k) : ∃ v, cost_Fits.f (e : Int) (n : Int) (m : Int) (s : Int) (r : Int) w = some v ∧ tattingref27_Fits.f k (e : Int) (n : Int) (m : Int) (s : Int) (r : Int) w = some v := by
  unfold cost_Fits.f tattingref27_Fits.f
  rw [(costRoom e n m s r h0 h1 h).1, Option.bind_some, refRoom e n m s r h0 h1 h hr hk, Option.bind_some]
  dsimp only
  rw [if_pos rfl]
  by_cases c : ((roomN e n m s r : Nat) : Int) > w
  · rw [if_pos c]; exact ⟨_, rfl, rfl⟩
  · rw [if_neg c]; exact ⟨_, rfl, rfl⟩
theorem law_l0 (n m s r : Nat) (w : Int) (h : Looks n m s r) (hr : tattingref27_Right.f (n : Int) (m : Int) (s : Int) (r : Int) = some true) (d : Nat) : ∀ (k i : Nat), 1 ≤ i → i + d = 9 → d + 5 < k → tattinglaw27_CostChooses.l0 k w (am n m r 8 : Nat) (workN (am n m r 8) n m r : Nat) 0 (i : Int) n m s r = some true := by
  induction d with
  | zero =>
    intro k i h1 hi hk
    obtain ⟨k, rfl⟩ := round hk
    simp only [tattinglaw27_CostChooses.l0]
    rw [if_neg (by omega)]
  | succ d ih =>
    intro k i h1 hi hk
    obtain ⟨k, rfl⟩ := round hk
    obtain ⟨a1, a2, a3⟩ := am_spec n m r 8 (by omega)
    obtain ⟨b1, b2⟩ := a3 i h1 (by omega)
    obtain ⟨v, f1, f2⟩ := fits_same i n m s r w h1 (by omega) h hr (k := k) (by omega)
    have next := ih k (i + 1) (by omega) (by omega) (by omega)
    simp only [tattinglaw27_CostChooses.l0]
    rw [if_pos (by omega), costWork i n m s r h1 (by omega) h, Option.bind_some]
    dsimp only
    rw [if_pos rfl, if_pos True.intro, if_neg (by omega), f1, f2, wrap_succ (by omega)]
    rw [Option.bind_some, Option.bind_some, if_pos rfl]
    by_cases c : workN i n m r = workN (am n m r 8) n m r
    · rw [if_pos (by omega), if_neg (by have := b2 c; omega)]; exact next
    · rw [if_neg (by omega)]; exact next
theorem CostChooses : tattinglaw27_CostChooses.Pure := by
  intro a b c d w _ _ hc hd _
  have wc := wf64 hc
  have wd := wf64 hd
  refine ⟨200, ?_⟩
  unfold tattinglaw27_CostChooses.f
  rw [at_rounds tattinglaw27_awake.mono (by decide) awake, Option.bind_some, if_pos rfl]
  rcases right_some a b c d with ⟨h1, h2, h3⟩ | ⟨h1, h2⟩
  · obtain ⟨n, m, s, r, rfl, rfl, rfl, rfl, hl⟩ := h3 ⟨by omega, by omega, by omega, by omega⟩
    obtain ⟨a1, a2, _⟩ := am_spec n m r 8 (by omega)
    rw [choose n m s r hl 200 (by omega), Option.bind_some, refChoose n m s r hl h2, Option.bind_some, if_pos rfl, if_neg (by omega), costWork (am n m r 8) n m s r a1 a2 hl, Option.bind_some]
    exact law_l0 n m s r w hl h2 8 200 1 (by omega) (by omega) (by omega)
  · have q := choose_none a b c d h1 8 200 1 (by omega) (by omega) (by omega)
    have q' : cost_Choose.f 200 a b c d = some 0 := q
    have p' : tattingref27_Choose.f 200 a b c d = some 0 := by unfold tattingref27_Choose.f; rw [h2, Option.bind_some, if_neg (by decide)]
    rw [q', Option.bind_some, p', Option.bind_some, if_pos rfl, if_pos rfl, h2, Option.bind_some]; rfl

end Go.Proofs.Ytkcodmdfjpndiaa.Pure
