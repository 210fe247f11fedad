/- For every two lists of at most 40 and 130 numbers, brought to three: walk's two ways agree. -/
import Derived.Test.YtjkjanegankdhaaGreatZPTopWordsx5
import Derived.Test.YtjkjanegankdhaaGreatZWSized
namespace Go.Proofs.YtjkjanegankdhaaGreat.PrintWords
end Go.Proofs.YtjkjanegankdhaaGreat.PrintWords
namespace Go.Proofs.YtjkjanegankdhaaGreat.Pure
open Go.RowKit Go.Proofs.YtjkjanegankdhaaGreat.PTopWords Go.Proofs.YtjkjanegankdhaaGreatW.PrintWords Go.Proofs.YtjkjanegankdhaaGreatW.PrintLast Go.Proofs.YtjkjanegankdhaaGreatW.PrintMore
set_option linter.unusedVariables false
set_option linter.unusedSimpArgs false
theorem wrap_id {i : Int} (h0 : -9223372036854775808 ≤ i) (h1 : i < 9223372036854775808) : wrap64 i = i := by unfold wrap64; omega
theorem wrap_succ {n : Nat} (h : n < 9223372036854775807) : wrap64 ((n : Int) + 1) = ((n + 1 : Nat) : Int) := by unfold wrap64; omega
theorem rd_at (l : List Int) {n : Nat} (h : n < l.length) : rd l (n : Int) = l[n] := by
  unfold rd; rw [Int.toNat_natCast, List.getD_eq_getElem?_getD, List.getElem?_eq_getElem h]; rfl
theorem rd_d (l : List Int) (n : Nat) : rd l (n : Int) = l.getD n 0 := rfl
theorem rd_out (l : List Int) {n : Nat} (h : l.length ≤ n) : rd l (n : Int) = 0 := by
  rw [rd_d, List.getD_eq_getElem?_getD, List.getElem?_eq_none h]; rfl
theorem drop_rd (l : List Int) {n : Nat} (h : n < l.length) : l.drop n = rd l (n : Int) :: l.drop (n + 1) := by
  rw [rd_at l h]; exact List.drop_eq_getElem_cons h
theorem take_rd (l : List Int) {n : Nat} (h : n < l.length) : l.take (n + 1) = l.take n ++ [rd l (n : Int)] := by
  rw [rd_at l h, List.take_succ_eq_append_getElem h]
/-- At least one round. -/
theorem round {k d : Nat} (h : d < k) : ∃ m, k = m + 1 := ⟨k - 1, by omega⟩
/-- The numbers brought to a few. -/
def fewOf (l : List Int) (n : Int) : List Int := l.map (· % n)
theorem fewOf_length (l : List Int) (n : Int) : (fewOf l n).length = l.length := by unfold fewOf; rw [List.length_map]
theorem fewOf_range (l : List Int) (n : Int) (hn : 0 < n) : ∀ x ∈ fewOf l n, 0 ≤ x ∧ x < n := by
  intro x hx
  unfold fewOf at hx
  obtain ⟨y, _, rfl⟩ := List.mem_map.mp hx
  exact ⟨Int.emod_nonneg y (by omega), Int.emod_lt_of_pos y hn⟩
theorem tmod_emod (x n : Int) (hn : 0 < n) : (if Int.tmod x n < 0 then Int.tmod x n + n else Int.tmod x n) = x % n := by
  have h0 := Int.emod_nonneg x (show n ≠ 0 by omega)
  have h1 := Int.emod_lt_of_pos x hn
  have h := Int.tmod_eq_emod (a := x) (b := n)
  by_cases c : 0 ≤ x ∨ n ∣ x
  · rw [if_pos c] at h; rw [if_neg (by omega)]; omega
  · rw [if_neg c] at h; rw [if_pos (by omega)]; omega
theorem few_l0 (l : List Int) (n : Int) (hn : 0 < n) (hn' : n ≤ 1000000) (hl : l.length ≤ 1000000) (d : Nat) : ∀ (k i : Nat) (out : List Int), i + d = l.length → d < k → out.length = i → tattingref1_Few.l0 k l n out (i : Int) = some (out ++ fewOf (l.drop i) n) := by
  induction d with
  | zero =>
    intro k i out hi hk ho
    obtain ⟨k, rfl⟩ := round hk
    simp only [tattingref1_Few.l0]
    rw [if_neg (by omega), List.drop_eq_nil_of_le (by omega)]
    simp [fewOf]
  | succ d ih =>
    intro k i out hi hk ho
    obtain ⟨k, rfl⟩ := round hk
    simp only [tattingref1_Few.l0]
    rw [if_pos (by omega), if_pos (by omega), if_neg (by omega), drop_rd l (by omega)]
    have h := tmod_emod (rd l (i : Int)) n hn
    have h0 := Int.emod_nonneg (rd l (i : Int)) (show n ≠ 0 by omega)
    have h1 := Int.emod_lt_of_pos (rd l (i : Int)) hn
    have e : fewOf (rd l (i : Int) :: l.drop (i + 1)) n = (rd l (i : Int) % n) :: fewOf (l.drop (i + 1)) n := rfl
    rw [e]
    by_cases c : Int.tmod (rd l (i : Int)) n < 0
    · rw [if_pos c] at h
      rw [if_pos c, if_pos (by omega), wrap_succ (by omega), wrap_id (by omega) (by omega), h, ih k (i + 1) _ (by omega) (by omega) (by rw [List.length_append, List.length_singleton]; omega)]
      simp
    · rw [if_neg c] at h
      rw [if_neg c, if_pos (by omega), wrap_succ (by omega), h, ih k (i + 1) _ (by omega) (by omega) (by rw [List.length_append, List.length_singleton]; omega)]
      simp
theorem few (l : List Int) (n : Int) (hn : 0 < n) (hn' : n ≤ 1000000) (hl : l.length ≤ 1000000) {k : Nat} (hk : l.length < k) : tattingref1_Few.f k l n = some (fewOf l n) := by
  have h := few_l0 l n hn hn' hl l.length k 0 [] (by omega) hk rfl
  rwa [List.nil_append, List.drop_zero] at h
/-- The longest common subsequence's length. -/
def L : List Int → List Int → Nat
  | [], _ => 0
  | _ :: _, [] => 0
  | x :: xs, y :: ys => if x = y then L xs ys + 1 else max (L xs (y :: ys)) (L (x :: xs) ys)
termination_by a b => a.length + b.length
theorem L_nil_left (b : List Int) : L [] b = 0 := by rw [L]
theorem L_nil_right (a : List Int) : L a [] = 0 := by cases a <;> rw [L]
theorem L_cons_eq (x : Int) (xs ys : List Int) : L (x :: xs) (x :: ys) = L xs ys + 1 := by rw [L, if_pos rfl]
theorem L_cons_ne {x y : Int} (h : x ≠ y) (xs ys : List Int) : L (x :: xs) (y :: ys) = max (L xs (y :: ys)) (L (x :: xs) ys) := by rw [L, if_neg h]
theorem L_ub (a b : List Int) : ∀ s : List Int, s.Sublist a → s.Sublist b → s.length ≤ L a b := by
  induction a, b using L.induct with
  | case1 b => intro s h _; rw [List.sublist_nil.mp h]; simp
  | case2 x xs => intro s _ h; rw [List.sublist_nil.mp h]; simp
  | case3 xs y ys ih =>
    intro s h1 h2
    rw [L_cons_eq]
    have h3 := ih s.tail (by simpa using h1.tail) (by simpa using h2.tail)
    have h4 : s.length ≤ s.tail.length + 1 := by rw [List.length_tail]; omega
    omega
  | case4 x xs y ys hne ih1 ih2 =>
    intro s h1 h2
    rw [L_cons_ne hne]
    rcases List.sublist_cons_iff.mp h1 with h | ⟨r, rfl, hr⟩
    · have := ih1 s h h2; omega
    · rcases List.sublist_cons_iff.mp h2 with h | ⟨r', he, hr'⟩
      · have := ih2 _ h1 h; omega
      · injection he with he1 he2; exact absurd he1 hne
theorem L_has (a b : List Int) : ∃ s : List Int, s.Sublist a ∧ s.Sublist b ∧ s.length = L a b := by
  induction a, b using L.induct with
  | case1 b => exact ⟨[], by simp, by simp, by rw [L_nil_left]; rfl⟩
  | case2 x xs => exact ⟨[], by simp, by simp, by rw [L_nil_right]; rfl⟩
  | case3 xs y ys ih =>
    obtain ⟨s, h1, h2, h3⟩ := ih
    exact ⟨y :: s, h1.cons_cons y, h2.cons_cons y, by rw [L_cons_eq]; simp [h3]⟩
  | case4 x xs y ys hne ih1 ih2 =>
    obtain ⟨s, h1, h2, h3⟩ := ih1
    obtain ⟨t, k1, k2, k3⟩ := ih2
    rw [L_cons_ne hne]
    by_cases h : L (x :: xs) ys ≤ L xs (y :: ys)
    · exact ⟨s, h1.cons x, h2, by omega⟩
    · exact ⟨t, k1, k2.cons y, by omega⟩
theorem L_le_of (a b c d : List Int) (h : ∀ s : List Int, s.Sublist a → s.Sublist b → ∃ t : List Int, t.length = s.length ∧ t.Sublist c ∧ t.Sublist d) : L a b ≤ L c d := by
  obtain ⟨s, h1, h2, h3⟩ := L_has a b
  obtain ⟨t, k1, k2, k3⟩ := h s h1 h2
  have := L_ub c d t k2 k3
  omega
theorem L_mono {a b c d : List Int} (h : a.Sublist c) (k : b.Sublist d) : L a b ≤ L c d :=
  L_le_of _ _ _ _ fun s h1 h2 => ⟨s, rfl, h1.trans h, h2.trans k⟩
theorem L_comm (a b : List Int) : L a b = L b a :=
  Nat.le_antisymm (L_le_of _ _ _ _ fun s h k => ⟨s, rfl, k, h⟩) (L_le_of _ _ _ _ fun s h k => ⟨s, rfl, k, h⟩)
theorem L_rev_le (a b : List Int) : L a b ≤ L a.reverse b.reverse :=
  L_le_of _ _ _ _ fun s h k => ⟨s.reverse, by simp, h.reverse, k.reverse⟩
theorem L_rev (a b : List Int) : L a.reverse b.reverse = L a b :=
  Nat.le_antisymm (by simpa using L_rev_le a.reverse b.reverse) (L_rev_le a b)
theorem L_le_left (a b : List Int) : L a b ≤ a.length := by
  obtain ⟨s, h1, _, h3⟩ := L_has a b
  have := h1.length_le; omega
/-- One element more makes it at most one longer. -/
theorem L_cons_le (x : Int) (a b : List Int) : L (x :: a) b ≤ L a b + 1 := by
  obtain ⟨s, h1, h2, h3⟩ := L_has (x :: a) b
  have h := L_ub a b s.tail (by simpa using h1.tail) ((List.tail_sublist s).trans h2)
  rw [List.length_tail] at h
  omega
theorem L_cons_le' (y : Int) (a b : List Int) : L a (y :: b) ≤ L a b + 1 := by
  rw [L_comm a, L_comm a]; exact L_cons_le y b a
/-- The same, from the end. -/
theorem L_snoc_eq (x : Int) (a b : List Int) : L (a ++ [x]) (b ++ [x]) = L a b + 1 := by
  rw [← L_rev]; simp only [List.reverse_append, List.reverse_cons, List.reverse_nil, List.nil_append, List.singleton_append]; rw [L_cons_eq, L_rev]
theorem L_snoc_ne {x y : Int} (h : x ≠ y) (a b : List Int) : L (a ++ [x]) (b ++ [y]) = max (L a (b ++ [y])) (L (a ++ [x]) b) := by
  have e1 : L a (b ++ [y]) = L a.reverse (y :: b.reverse) := by rw [← L_rev]; simp
  have e2 : L (a ++ [x]) b = L (x :: a.reverse) b.reverse := by rw [← L_rev]; simp
  rw [← L_rev, e1, e2]; simp only [List.reverse_append, List.reverse_cons, List.reverse_nil, List.nil_append, List.singleton_append]; rw [L_cons_ne h]
theorem rdL_d (o : List (List Int)) (n : Nat) : rd_L3 o (n : Int) = o.getD n [] := rfl
/-- From none on, step by step. -/
def Stair (n : Nat) (F : Nat → Nat) : Prop := F 0 = 0 ∧ ∀ j : Nat, j < n → F j ≤ F (j + 1) ∧ F (j + 1) ≤ F j + 1
theorem Stair.le {n : Nat} {F : Nat → Nat} (h : Stair n F) (d : Nat) : ∀ i : Nat, i + d ≤ n → F i ≤ F (i + d) := by
  induction d with
  | zero => intro i _; exact Nat.le_refl _
  | succ d ih =>
    intro i hi
    have := ih i (by omega)
    have := (h.2 (i + d) (by omega)).1
    rw [show i + (d + 1) = i + d + 1 by omega]; omega
theorem Stair.mono {n : Nat} {F : Nat → Nat} (h : Stair n F) {i j : Nat} (hij : i ≤ j) (hj : j ≤ n) : F i ≤ F j := by
  have := h.le (j - i) i (by omega)
  rw [show i + (j - i) = j by omega] at this; exact this
def Lf (a b : List Int) (j : Nat) : Nat := L a (b.take j)
theorem Lf_stair (a b : List Int) : Stair b.length (Lf a b) := by
  refine ⟨by unfold Lf; rw [List.take_zero, L_nil_right], fun j hj => ?_⟩
  unfold Lf
  refine ⟨L_mono (List.Sublist.refl a) ?_, ?_⟩
  · rw [take_rd b hj]; exact List.sublist_append_left _ _
  · rw [take_rd b hj, ← L_rev a (b.take j ++ [_]), ← L_rev a (b.take j), List.reverse_append]
    exact L_cons_le' _ _ _
/-! the addition of two numbers, bit by bit -/
def maj (a b c : Bool) : Bool := (a && b) || (c && (a || b))
def cry : Nat → Nat → Bool → Nat → Bool
  | _, _, c, 0 => c
  | x, y, c, j + 1 => cry (x / 2) (y / 2) (maj (x.testBit 0) (y.testBit 0) c) j
theorem cry_succ : ∀ (j x y : Nat) (c : Bool), cry x y c (j + 1) = maj (x.testBit j) (y.testBit j) (cry x y c j)
  | 0, _, _, _ => rfl
  | j + 1, x, y, c => by
    have h := cry_succ j (x / 2) (y / 2) (maj (x.testBit 0) (y.testBit 0) c)
    rw [← Nat.testBit_succ, ← Nat.testBit_succ] at h
    exact h
theorem half_sum (x y : Nat) (c : Bool) : (x + y + c.toNat) / 2 = x / 2 + y / 2 + (maj (x.testBit 0) (y.testBit 0) c).toNat := by
  rw [Nat.testBit_zero, Nat.testBit_zero]
  have hx : x % 2 = 0 ∨ x % 2 = 1 := by omega
  have hy : y % 2 = 0 ∨ y % 2 = 1 := by omega
  rcases hx with hx | hx <;> rcases hy with hy | hy <;> cases c <;> simp [hx, hy, maj] <;> omega
theorem sum_bit : ∀ (j x y : Nat) (c : Bool), (x + y + c.toNat).testBit j = (x.testBit j ^^ (y.testBit j ^^ cry x y c j))
  | 0, x, y, c => by
    rw [Nat.testBit_zero, Nat.testBit_zero, Nat.testBit_zero]
    have hx : x % 2 = 0 ∨ x % 2 = 1 := by omega
    have hy : y % 2 = 0 ∨ y % 2 = 1 := by omega
    rcases hx with hx | hx <;> rcases hy with hy | hy <;> cases c <;> simp [hx, hy, cry] <;> omega
  | j + 1, x, y, c => by
    rw [Nat.testBit_succ, half_sum, sum_bit j, ← Nat.testBit_succ, ← Nat.testBit_succ]
    rfl
theorem cry_none {x y : Nat} (h : ∀ j, (x.testBit j && y.testBit j) = false) : ∀ j, cry x y false j = false
  | 0 => rfl
  | j + 1 => by
    rw [cry_succ, cry_none h j]
    have := h j
    revert this
    cases x.testBit j <;> cases y.testBit j <;> simp [maj]
theorem add_apart {x y : Nat} (h : ∀ j, (x.testBit j && y.testBit j) = false) : x + y = x ||| y := by
  refine Nat.eq_of_testBit_eq fun j => ?_
  have h1 := sum_bit j x y false
  rw [cry_none h j] at h1
  simp only [Bool.toNat_false, Nat.add_zero, Bool.xor_false] at h1
  rw [h1, Nat.testBit_or]
  have := h j
  revert this
  cases x.testBit j <;> cases y.testBit j <;> simp
/-- A number less some of its bits. -/
theorem sub_and (v u j : Nat) : (v - (v &&& u)).testBit j = (v.testBit j && !u.testBit j) := by
  have hb : ∀ j, (v ^^^ (v &&& u)).testBit j = (v.testBit j && !u.testBit j) := by
    intro j
    rw [Nat.testBit_xor, Nat.testBit_and]
    cases v.testBit j <;> cases u.testBit j <;> rfl
  have h : (v ^^^ (v &&& u)) + (v &&& u) = v := by
    rw [add_apart]
    · refine Nat.eq_of_testBit_eq fun j => ?_
      rw [Nat.testBit_or, hb, Nat.testBit_and]
      cases v.testBit j <;> cases u.testBit j <;> rfl
    · intro j
      rw [hb, Nat.testBit_and]
      cases v.testBit j <;> cases u.testBit j <;> rfl
  have e : v - (v &&& u) = v ^^^ (v &&& u) := by omega
  rw [e, hb]
/-- The steps of the table's next row are the carries of this addition. -/
theorem row_bits {d e : Nat → Int} {v u : Nat} {M : Nat → Prop} [∀ j, Decidable (M j)] (m : Nat) (V : Nat → Int)
    (hd : ∀ j, d j = 0 ∨ d j = 1) (hV0 : V 0 = 0) (hV : ∀ j, j < m → V (j + 1) = (if M j then 1 else max (d j) (V j)) - d j)
    (he : ∀ j, j < m → e j = (if M j then 1 else max (d j) (V j)) - V j)
    (hv : ∀ j, j < m → v.testBit j = decide (d j = 0)) (hu : ∀ j, j < m → u.testBit j = decide (M j)) :
    ∀ j, j ≤ m → ((V j = 0 ∧ cry v (v &&& u) false j = false) ∨ (V j = 1 ∧ cry v (v &&& u) false j = true)) ∧ (j < m → (((v + (v &&& u)) ||| (v - (v &&& u))).testBit j = decide (e j = 0))) := by
  have step : ∀ j, j < m → ((V j = 0 ∧ cry v (v &&& u) false j = false) ∨ (V j = 1 ∧ cry v (v &&& u) false j = true)) → ((V (j + 1) = 0 ∧ cry v (v &&& u) false (j + 1) = false) ∨ (V (j + 1) = 1 ∧ cry v (v &&& u) false (j + 1) = true)) ∧ (((v + (v &&& u)) ||| (v - (v &&& u))).testBit j = decide (e j = 0)) := by
    intro j hj hc
    have h1 := hV j hj
    have h2 := he j hj
    have h3 := hv j hj
    have h4 := hu j hj
    have hs := sum_bit j v (v &&& u) false
    simp only [Bool.toNat_false, Nat.add_zero] at hs
    rw [cry_succ, Nat.testBit_or, sub_and, hs, Nat.testBit_and, h3, h4, h1, h2]
    rcases hd j with q | q <;> rcases hc with ⟨c1, c2⟩ | ⟨c1, c2⟩ <;> by_cases g : M j <;> rw [q, c1, c2] <;> simp [g, maj] <;> omega
  intro j
  induction j with
  | zero => exact fun _ => ⟨Or.inl ⟨hV0, rfl⟩, fun h => (step 0 h (Or.inl ⟨hV0, rfl⟩)).2⟩
  | succ j ih =>
    intro hj
    have h1 := (step j (by omega) (ih (by omega)).1).1
    exact ⟨h1, fun h => (step (j + 1) h h1).2⟩
/-! words: a number by its words -/
def vN (x : Nat → Nat) : Nat → Nat
  | 0 => 0
  | n + 1 => 2 ^ (64 * n) * x n + vN x n
theorem vN_lt {x : Nat → Nat} (h : ∀ k, x k < 2 ^ 64) : ∀ n, vN x n < 2 ^ (64 * n)
  | 0 => by simp [vN]
  | n + 1 => by
    have ih := vN_lt h n
    have hn := h n
    have e : 2 ^ (64 * (n + 1)) = 2 ^ (64 * n) * 2 ^ 64 := by rw [← Nat.pow_add]; rfl
    have : 2 ^ (64 * n) * (x n + 1) ≤ 2 ^ (64 * n) * 2 ^ 64 := Nat.mul_le_mul_left _ hn
    rw [Nat.mul_add] at this
    rw [e]
    show 2 ^ (64 * n) * x n + vN x n < _
    omega
theorem vN_bit {x : Nat → Nat} (h : ∀ k, x k < 2 ^ 64) : ∀ n j, j < 64 * n → (vN x n).testBit j = (x (j / 64)).testBit (j % 64)
  | 0, j, hj => by omega
  | n + 1, j, hj => by
    show (2 ^ (64 * n) * x n + vN x n).testBit j = _
    rw [Nat.testBit_two_pow_mul_add _ (vN_lt h n)]
    by_cases c : j < 64 * n
    · rw [if_pos c]; exact vN_bit h n j c
    · rw [if_neg c]
      have e1 : j / 64 = n := by omega
      have e2 : j % 64 = j - 64 * n := by omega
      rw [e1, e2]
/-- The carries of an addition word by word. -/
def cw (x y : Nat → Nat) : Nat → Nat
  | 0 => 0
  | k + 1 => (x k + y k + cw x y k) / 2 ^ 64
def addW (x y : Nat → Nat) (k : Nat) : Nat := (x k + y k + cw x y k) % 2 ^ 64
theorem addW_lt (x y : Nat → Nat) (k : Nat) : addW x y k < 2 ^ 64 := Nat.mod_lt _ (by decide)
theorem add_val {x y : Nat → Nat} : ∀ n, vN (addW x y) n + 2 ^ (64 * n) * cw x y n = vN x n + vN y n
  | 0 => by simp [vN, cw]
  | n + 1 => by
    have ih := add_val (x := x) (y := y) n
    have e : 2 ^ (64 * (n + 1)) = 2 ^ (64 * n) * 2 ^ 64 := by rw [← Nat.pow_add]; rfl
    have h1 := Nat.div_add_mod (x n + y n + cw x y n) (2 ^ 64)
    have hc : cw x y (n + 1) = (x n + y n + cw x y n) / 2 ^ 64 := rfl
    have ha : addW x y n = (x n + y n + cw x y n) % 2 ^ 64 := rfl
    have h2 : 2 ^ (64 * n) * (2 ^ 64 * cw x y (n + 1) + addW x y n) = 2 ^ (64 * n) * (x n + y n + cw x y n) := by rw [hc, ha, h1]
    rw [Nat.mul_add, Nat.mul_add, Nat.mul_add, ← Nat.mul_assoc, ← e] at h2
    show 2 ^ (64 * n) * addW x y n + vN (addW x y) n + 2 ^ (64 * (n + 1)) * cw x y (n + 1) = (2 ^ (64 * n) * x n + vN x n) + (2 ^ (64 * n) * y n + vN y n)
    omega
theorem add_bit {x y : Nat → Nat} (n j : Nat) (hj : j < 64 * n) : (vN (addW x y) n).testBit j = (vN x n + vN y n).testBit j := by
  rw [← add_val, Nat.add_comm, Nat.testBit_two_pow_mul_add _ (vN_lt (addW_lt x y) n), if_pos hj]
theorem addW_bit {x y : Nat → Nat} (n j : Nat) (hj : j < 64 * n) : (addW x y (j / 64)).testBit (j % 64) = (vN x n + vN y n).testBit j := by
  rw [← add_bit n j hj, vN_bit (addW_lt x y) n j hj]
theorem vN_and {x y : Nat → Nat} (hx : ∀ k, x k < 2 ^ 64) (hy : ∀ k, y k < 2 ^ 64) (n : Nat) : vN (fun k => x k &&& y k) n = vN x n &&& vN y n := by
  have hz : ∀ k, x k &&& y k < 2 ^ 64 := fun k => Nat.lt_of_le_of_lt Nat.and_le_left (hx k)
  refine Nat.eq_of_testBit_eq fun j => ?_
  by_cases c : j < 64 * n
  · rw [vN_bit hz n j c, Nat.testBit_and, Nat.testBit_and, vN_bit hx n j c, vN_bit hy n j c]
  · have hb : ∀ z : Nat, z < 2 ^ (64 * n) → z.testBit j = false := fun z h => Nat.testBit_lt_two_pow (Nat.lt_of_lt_of_le h (Nat.pow_le_pow_right (by decide) (by omega)))
    rw [hb _ (vN_lt hz n), Nat.testBit_and, hb _ (vN_lt hx n)]; rfl
/-- The row of bits behind a number more, word by word: either way to reckon it. -/
def hyW (v u : Nat → Nat) (k : Nat) : Nat := addW v (fun k => v k &&& u k) k ||| (v k - (v k &&& u k))
theorem hyW_bit {v u : Nat → Nat} (hv : ∀ k, v k < 2 ^ 64) (hu : ∀ k, u k < 2 ^ 64) (n j : Nat) (hj : j < 64 * n) :
    (hyW v u (j / 64)).testBit (j % 64) = ((vN v n + (vN v n &&& vN u n)) ||| (vN v n - (vN v n &&& vN u n))).testBit j := by
  have hz : ∀ k, v k &&& u k < 2 ^ 64 := fun k => Nat.lt_of_le_of_lt Nat.and_le_left (hv k)
  rw [hyW, Nat.testBit_or, Nat.testBit_or, addW_bit n j hj, vN_and hv hu, sub_and, sub_and, vN_bit hv n j hj, vN_bit hu n j hj]
/-! the rows of bits of hyyro and croch are the table's steps -/
open Vx
/-- The bit at a place of a row of words. -/
def bt (l : List Int) (j : Nat) : Bool := (Vec.w l (j / 64)).testBit (j % 64)
theorem cw_eq (x y : Nat → Nat) : ∀ k, Vec.cw x y k = cw x y k
  | 0 => rfl
  | k + 1 => by
    show (x k + y k + Vec.cw x y k) / 18446744073709551616 = (x k + y k + cw x y k) / 2 ^ 64
    rw [cw_eq x y k]
theorem addW_eq (x y : Nat → Nat) (k : Nat) : Vec.addW x y k = addW x y k := by
  show (x k + y k + Vec.cw x y k) % 18446744073709551616 = (x k + y k + cw x y k) % 2 ^ 64
  rw [cw_eq]
theorem bw_none {x y : Nat → Nat} (h : ∀ k, y k ≤ x k) : ∀ k, Vec.bw x y k = 0
  | 0 => rfl
  | k + 1 => by
    show (if x k < y k + Vec.bw x y k then 1 else 0) = 0
    rw [bw_none h k, if_neg (by have := h k; omega)]
theorem subW_eq {x y : Nat → Nat} (h : ∀ k, y k ≤ x k) (hx : ∀ k, x k < 2 ^ 64) (k : Nat) : Vec.subW x y k = x k - y k := by
  show (x k + 18446744073709551616 - y k - Vec.bw x y k) % 18446744073709551616 = _
  rw [bw_none h k]
  have := h k
  have := hx k
  omega
theorem w_out {l : List Int} {k : Nat} (h : l.length ≤ k) : Vec.w l k = 0 := by
  unfold Vec.w
  rw [rd_out l h]; rfl
theorem w_and (l m : List Int) : Vec.w (Vec.andL l m) = fun k => Vec.w l k &&& Vec.w m k := by
  funext k
  by_cases h : k < l.length
  · exact Vec.list_w _ h
  · rw [w_out (by rw [Vec.and_len]; omega), w_out (l := l) (by omega), Nat.zero_and]
theorem div_words {j n : Nat} (h : j < n) : j / 64 < Vec.words n := by unfold Vec.words; omega
theorem mask_on {j n : Nat} (h : j < n) : (Vec.mask n (j / 64)).testBit (j % 64) = true := by
  rw [Mask.mask_bit]
  exact decide_eq_true ⟨by omega, by omega⟩
theorem bt_fit (l : List Int) {j n : Nat} (h : j < n) : bt (Vec.fitL l n) j = bt l j := by
  unfold bt Vec.fitL
  rw [Vec.list_w _ (div_words h), Nat.testBit_and, mask_on h, Bool.and_true]
theorem bt_or {l m : List Int} {j : Nat} (h : j / 64 < l.length) : bt (Vec.orL l m) j = (bt l j || bt m j) := by
  unfold bt Vec.orL
  rw [Vec.list_w _ h, Nat.testBit_or]
theorem not_bit (u i : Nat) (hu : u < 18446744073709551616) (hi : i < 64) : (18446744073709551615 - u).testBit i = !u.testBit i := by
  have h := Nat.testBit_two_pow_sub_succ (n := 64) hu i
  rw [decide_eq_true hi, Bool.true_and] at h
  rw [← h]
  congr 1
  omega
/-- Either row, bit by bit. -/
theorem inner_bits (v u : List Int) (n : Nat) (x y : Nat → Nat) (hx : x = Vec.w (Vec.fitL v n)) (hy : y = Vec.w (Vec.fitL u n)) {j : Nat} (h : j < n) :
    bt (Vec.hyRow v u n) j = ((vN x (Vec.words n) + (vN x (Vec.words n) &&& vN y (Vec.words n))) ||| (vN x (Vec.words n) - (vN x (Vec.words n) &&& vN y (Vec.words n)))).testBit j ∧
    bt (Vec.crRow v u n) j = ((vN x (Vec.words n) + (vN x (Vec.words n) &&& vN y (Vec.words n))) ||| (vN x (Vec.words n) - (vN x (Vec.words n) &&& vN y (Vec.words n)))).testBit j := by
  have kx : ∀ k, x k < 2 ^ 64 := fun k => by rw [hx]; exact Vec.w_lt (Vec.fit_ok v n) k
  have ky : ∀ k, y k < 2 ^ 64 := fun k => by rw [hy]; exact Vec.w_lt (Vec.fit_ok u n) k
  have hj : j < 64 * Vec.words n := by unfold Vec.words; omega
  have hk := div_words h
  have l1 : (Vec.fitL v n).length = Vec.words n := Vec.fit_len v n
  have ha : Vec.w (Vec.andL (Vec.fitL v n) (Vec.fitL u n)) = fun k => x k &&& y k := by rw [w_and, hx, hy]
  have hadd : Vec.w (Vec.addL (Vec.fitL v n) (Vec.andL (Vec.fitL v n) (Vec.fitL u n))) (j / 64) = addW x (fun k => x k &&& y k) (j / 64) := by
    unfold Vec.addL
    rw [Vec.list_w _ (by omega), ha, ← hx, addW_eq]
  have hsub : Vec.w (Vec.subL (Vec.fitL v n) (Vec.andL (Vec.fitL v n) (Vec.fitL u n))) (j / 64) = x (j / 64) - (x (j / 64) &&& y (j / 64)) := by
    unfold Vec.subL
    rw [Vec.list_w _ (by omega), ha, ← hx, subW_eq (fun k => Nat.and_le_left) kx]
  have hand : Vec.w (Vec.andL (Vec.fitL v n) (Vec.notL (Vec.fitL u n) n)) (j / 64) = x (j / 64) &&& ((18446744073709551615 - y (j / 64)) &&& Vec.mask n (j / 64)) := by
    rw [w_and]
    show Vec.w (Vec.fitL v n) (j / 64) &&& _ = _
    unfold Vec.notL
    rw [Vec.list_w _ hk, ← hx, ← hy]
  have hb := hyW_bit kx ky (Vec.words n) j hj
  rw [← hb, hyW, Nat.testBit_or, sub_and]
  have la : (Vec.addL (Vec.fitL v n) (Vec.andL (Vec.fitL v n) (Vec.fitL u n))).length = Vec.words n := by rw [Vec.add_len, l1]
  constructor
  · unfold Vec.hyRow
    rw [bt_fit _ h, bt_or (by omega)]
    unfold bt
    rw [hadd, hsub, sub_and]
  · unfold Vec.crRow
    rw [bt_fit _ h, bt_or (by omega)]
    unfold bt
    rw [hadd, hand, Nat.testBit_and, Nat.testBit_and, mask_on h, Bool.and_true, not_bit _ _ (ky _) (Nat.mod_lt _ (by decide))]
theorem bt_ones {j n : Nat} (h : j < n) : bt (Vec.ones n) j = true := by
  unfold bt Vec.ones Vec.notL
  rw [Vec.list_w _ (div_words h), Nat.testBit_and, mask_on h, Bool.and_true, w_out (Nat.zero_le _), not_bit _ _ (by decide) (Nat.mod_lt _ (by decide)), Nat.zero_testBit]
  rfl
theorem bt_mask (b : List Int) (x : Int) {j : Nat} (h : j < b.length) : bt (Mask.row b x b.length (Vec.words b.length)) j = decide (rd b (j : Int) = x) := by
  unfold bt
  rw [Mask.w_row _ _ _ _ (div_words h), Mask.word_bit, show 64 * (j / 64) + j % 64 = j by omega]
  exact decide_eq_decide.2 ⟨fun q => q.2.2, fun q => ⟨Nat.mod_lt _ (by decide), h, q⟩⟩
/-- The table's row, as far as it stands. -/
def Fr (a b : List Int) (i j : Nat) : Nat := L (a.take i) (b.take j)
theorem Fr_next (a b : List Int) {i j : Nat} (hi : i < a.length) (hj : j < b.length) : Fr a b (i + 1) (j + 1) = if rd b (j : Int) = rd a (i : Int) then Fr a b i j + 1 else max (Fr a b i (j + 1)) (Fr a b (i + 1) j) := by
  unfold Fr
  rw [take_rd a hi, take_rd b hj]
  by_cases c : rd b (j : Int) = rd a (i : Int)
  · rw [if_pos c, c, L_snoc_eq]
  · rw [if_neg c, L_snoc_ne (fun e => c e.symm)]
theorem Fr_zero (a b : List Int) (i : Nat) : Fr a b i 0 = 0 := by unfold Fr; rw [List.take_zero, L_nil_right]
theorem Fr_none (a b : List Int) (j : Nat) : Fr a b 0 j = 0 := by unfold Fr; rw [List.take_zero, L_nil_left]
theorem Fr_step (a b : List Int) (i : Nat) {j : Nat} (hj : j < b.length) : Fr a b i j ≤ Fr a b i (j + 1) ∧ Fr a b i (j + 1) ≤ Fr a b i j + 1 :=
  (Lf_stair (a.take i) b).2 j hj
theorem row_step {a b v u : List Int} {i : Nat} (hi : i < a.length) (hv : ∀ j, j < b.length → bt v j = decide (Fr a b i (j + 1) = Fr a b i j)) (hu : ∀ j, j < b.length → bt u j = decide (rd b (j : Int) = rd a (i : Int))) {j : Nat} (hj : j < b.length) :
    bt (Vec.hyRow v u b.length) j = decide (Fr a b (i + 1) (j + 1) = Fr a b (i + 1) j) ∧ bt (Vec.crRow v u b.length) j = decide (Fr a b (i + 1) (j + 1) = Fr a b (i + 1) j) := by
  obtain ⟨h1, h2⟩ := inner_bits v u b.length _ _ rfl rfl hj
  rw [h1, h2]
  have hb : ∀ (l : List Int) (j : Nat), j < b.length → (vN (Vec.w (Vec.fitL l b.length)) (Vec.words b.length)).testBit j = bt l j := by
    intro l j hj
    rw [vN_bit (fun k => Vec.w_lt (Vec.fit_ok l b.length) k) _ j (by unfold Vec.words; omega)]
    exact bt_fit l hj
  have := row_bits (d := fun j => (Fr a b i (j + 1) : Int) - Fr a b i j) (e := fun j => (Fr a b (i + 1) (j + 1) : Int) - Fr a b (i + 1) j) (M := fun j => rd b (j : Int) = rd a (i : Int))
    (v := vN (Vec.w (Vec.fitL v b.length)) (Vec.words b.length)) (u := vN (Vec.w (Vec.fitL u b.length)) (Vec.words b.length)) b.length (fun j => (Fr a b (i + 1) j : Int) - Fr a b i j) ?_ ?_ ?_ ?_ ?_ ?_ j (by omega)
  · have q := this.2 hj
    rw [q]
    have e : decide (((Fr a b (i + 1) (j + 1) : Int) - Fr a b (i + 1) j) = 0) = decide (Fr a b (i + 1) (j + 1) = Fr a b (i + 1) j) := decide_eq_decide.2 ⟨fun _ => by omega, fun _ => by omega⟩
    exact ⟨e, e⟩
  · intro j
    by_cases c : j < b.length
    · have := Fr_step a b i c
      show (Fr a b i (j + 1) : Int) - Fr a b i j = 0 ∨ (Fr a b i (j + 1) : Int) - Fr a b i j = 1
      omega
    · left
      show (Fr a b i (j + 1) : Int) - Fr a b i j = 0
      unfold Fr
      rw [List.take_of_length_le (l := b) (i := j + 1) (by omega), List.take_of_length_le (l := b) (i := j) (by omega)]
      omega
  · show (Fr a b (i + 1) 0 : Int) - Fr a b i 0 = 0
    rw [Fr_zero, Fr_zero]; rfl
  · intro j hj
    have := Fr_next a b hi hj
    show (Fr a b (i + 1) (j + 1) : Int) - Fr a b i (j + 1) = (if rd b (j : Int) = rd a (i : Int) then 1 else max ((Fr a b i (j + 1) : Int) - Fr a b i j) ((Fr a b (i + 1) j : Int) - Fr a b i j)) - ((Fr a b i (j + 1) : Int) - Fr a b i j)
    rw [this]
    split <;> omega
  · intro j hj
    have := Fr_next a b hi hj
    show (Fr a b (i + 1) (j + 1) : Int) - Fr a b (i + 1) j = (if rd b (j : Int) = rd a (i : Int) then 1 else max ((Fr a b i (j + 1) : Int) - Fr a b i j) ((Fr a b (i + 1) j : Int) - Fr a b i j)) - ((Fr a b (i + 1) j : Int) - Fr a b i j)
    rw [this]
    split <;> omega
  · intro j hj
    rw [hb v j hj, hv j hj]
    exact decide_eq_decide.2 ⟨fun _ => by show (Fr a b i (j + 1) : Int) - Fr a b i j = 0; omega, fun (q : (Fr a b i (j + 1) : Int) - Fr a b i j = 0) => by omega⟩
  · intro j hj
    rw [hb u j hj, hu j hj]
theorem rowAt_bits (a b : List Int) : ∀ i, i ≤ a.length → ∀ j, j < b.length → bt (Vec.rowAt Vec.hyRow a b i) j = decide (Fr a b i (j + 1) = Fr a b i j) ∧ bt (Vec.rowAt Vec.crRow a b i) j = decide (Fr a b i (j + 1) = Fr a b i j)
  | 0, _, j, hj => by
    have e : decide (Fr a b 0 (j + 1) = Fr a b 0 j) = true := decide_eq_true (by rw [Fr_none, Fr_none])
    rw [e]
    exact ⟨bt_ones hj, bt_ones hj⟩
  | i + 1, hi, j, hj =>
    ⟨(row_step (by omega) (fun j hj => (rowAt_bits a b i (by omega) j hj).1) (fun j hj => bt_mask b _ hj) hj).1, (row_step (by omega) (fun j hj => (rowAt_bits a b i (by omega) j hj).2) (fun j hj => bt_mask b _ hj) hj).2⟩
/-! the ones of a word: math/bits.OnesCount64, byte by byte -/
theorem and_digit {a b c d : Nat} (hb : b < 256) (hd : d < 256) : (256 * a + b) &&& (256 * c + d) = 256 * (a &&& c) + (b &&& d) := by
  have hx : b &&& d < 2 ^ 8 := Nat.lt_of_le_of_lt Nat.and_le_left hb
  have e : ∀ z : Nat, 256 * z = 2 ^ 8 * z := fun z => rfl
  refine Nat.eq_of_testBit_eq fun j => ?_
  rw [Nat.testBit_and, e a, e c, e (a &&& c), Nat.testBit_two_pow_mul_add _ hb, Nat.testBit_two_pow_mul_add _ hd, Nat.testBit_two_pow_mul_add _ hx]
  by_cases c : j < 8
  · rw [if_pos c, if_pos c, if_pos c, Nat.testBit_and]
  · rw [if_neg c, if_neg c, if_neg c, Nat.testBit_and]
def byB (g : Nat → Nat) : Nat → Nat → Nat
  | 0, _ => 0
  | n + 1, x => 256 * byB g n (x / 256) + g (x % 256)
def mkB (m : Nat) : Nat → Nat
  | 0 => 0
  | n + 1 => 256 * mkB m n + m
theorem byB_comp {g h : Nat → Nat} (hh : ∀ r, r < 256 → h r < 256) : ∀ n x, byB g n (byB h n x) = byB (fun r => g (h r)) n x
  | 0, _ => rfl
  | n + 1, x => by
    have := hh (x % 256) (Nat.mod_lt _ (by decide))
    show 256 * byB g n ((256 * byB h n (x / 256) + h (x % 256)) / 256) + g ((256 * byB h n (x / 256) + h (x % 256)) % 256) = _
    rw [show (256 * byB h n (x / 256) + h (x % 256)) / 256 = byB h n (x / 256) by omega, show (256 * byB h n (x / 256) + h (x % 256)) % 256 = h (x % 256) by omega, byB_comp hh n]
    rfl
theorem one1 : ∀ r, r < 256 → ∀ t, t < 2 → (128 * t + r / 2) &&& 85 = (r / 2) &&& 85 := by decide +kernel
theorem one2 : ∀ r, r < 256 → ∀ t, t < 4 → (64 * t + r / 4) &&& 51 = (r / 4) &&& 51 := by decide +kernel
theorem step1 : ∀ n x, (x / 2 &&& mkB 85 n) + (x &&& mkB 85 n) = byB (fun r => (r / 2 &&& 85) + (r &&& 85)) n x
  | 0, x => by show (x / 2 &&& 0) + (x &&& 0) = 0; rw [Nat.and_zero, Nat.and_zero]
  | n + 1, x => by
    have ih := step1 n (x / 256)
    have h1 := one1 (x % 256) (Nat.mod_lt _ (by decide)) (x / 256 % 2) (Nat.mod_lt _ (by decide))
    show (x / 2 &&& (256 * mkB 85 n + 85)) + (x &&& (256 * mkB 85 n + 85)) = 256 * byB _ n (x / 256) + ((x % 256 / 2 &&& 85) + (x % 256 &&& 85))
    have e1 : x / 2 = 256 * (x / 256 / 2) + (128 * (x / 256 % 2) + x % 256 / 2) := by omega
    have e2 : x &&& (256 * mkB 85 n + 85) = (256 * (x / 256) + x % 256) &&& (256 * mkB 85 n + 85) := by rw [show 256 * (x / 256) + x % 256 = x by omega]
    rw [e1, e2, and_digit (by omega) (by decide), and_digit (by omega) (by decide), h1, ← ih]
    omega
theorem step2 : ∀ n x, (x / 4 &&& mkB 51 n) + (x &&& mkB 51 n) = byB (fun r => (r / 4 &&& 51) + (r &&& 51)) n x
  | 0, x => by show (x / 4 &&& 0) + (x &&& 0) = 0; rw [Nat.and_zero, Nat.and_zero]
  | n + 1, x => by
    have ih := step2 n (x / 256)
    have h1 := one2 (x % 256) (Nat.mod_lt _ (by decide)) (x / 256 % 4) (Nat.mod_lt _ (by decide))
    show (x / 4 &&& (256 * mkB 51 n + 51)) + (x &&& (256 * mkB 51 n + 51)) = 256 * byB _ n (x / 256) + ((x % 256 / 4 &&& 51) + (x % 256 &&& 51))
    have e1 : x / 4 = 256 * (x / 256 / 4) + (64 * (x / 256 % 4) + x % 256 / 4) := by omega
    have e2 : x &&& (256 * mkB 51 n + 51) = (256 * (x / 256) + x % 256) &&& (256 * mkB 51 n + 51) := by rw [show 256 * (x / 256) + x % 256 = x by omega]
    rw [e1, e2, and_digit (by omega) (by decide), and_digit (by omega) (by decide), h1, ← ih]
    omega
/-- The low half bytes of these are small: nothing is carried. -/
theorem step3 {h : Nat → Nat} (hh : ∀ r, r < 256 → h r / 16 ≤ 4 ∧ h r % 16 ≤ 4 ∧ h r < 256) : ∀ n x, ((byB h n x / 16 + byB h n x) &&& mkB 15 n) = byB (fun r => (h r / 16 + h r) &&& 15) n x
  | 0, x => by show ((0 / 16 + 0) &&& 0) = 0; rfl
  | n + 1, x => by
    have ih := step3 hh n (x / 256)
    obtain ⟨a1, a2, a3⟩ := hh (x % 256) (Nat.mod_lt _ (by decide))
    have hy : byB h n (x / 256) % 16 ≤ 4 := by
      cases n with
      | zero => exact Nat.zero_le _
      | succ n =>
        have := (hh (x / 256 % 256) (Nat.mod_lt _ (by decide))).2.1
        show (256 * byB h n (x / 256 / 256) + h (x / 256 % 256)) % 16 ≤ 4
        omega
    show (((256 * byB h n (x / 256) + h (x % 256)) / 16 + (256 * byB h n (x / 256) + h (x % 256))) &&& (256 * mkB 15 n + 15)) = 256 * byB _ n (x / 256) + ((h (x % 256) / 16 + h (x % 256)) &&& 15)
    rw [← ih]
    generalize byB h n (x / 256) = y at *
    generalize h (x % 256) = r at *
    have e : (256 * y + r) / 16 + (256 * y + r) = 256 * (y / 16 + y) + (16 * (y % 16) + r / 16 + r) := by omega
    rw [e, and_digit (by omega) (by decide)]
    have m1 : ∀ z : Nat, z &&& 15 = z % 16 := fun z => Nat.and_two_pow_sub_one_eq_mod z 4
    rw [m1, m1]
    omega
/-- The ones among the first bits. -/
def pc : Nat → Nat → Nat
  | 0, _ => 0
  | n + 1, x => x % 2 + pc n (x / 2)
theorem pc_byte (n x : Nat) : pc (n + 8) x = pc 8 (x % 256) + pc n (x / 256) := by
  simp only [pc, Nat.div_div_eq_div_mul, Nat.reduceMul]
  omega
theorem byte_ones : ∀ r, r < 256 → (((((r / 2 &&& 85) + (r &&& 85)) / 4 &&& 51) + (((r / 2 &&& 85) + (r &&& 85)) &&& 51)) / 16 + ((((r / 2 &&& 85) + (r &&& 85)) / 4 &&& 51) + (((r / 2 &&& 85) + (r &&& 85)) &&& 51)) &&& 15) = pc 8 r ∧ pc 8 r ≤ 8 ∧ ((((r / 2 &&& 85) + (r &&& 85)) / 4 &&& 51) + (((r / 2 &&& 85) + (r &&& 85)) &&& 51)) / 16 ≤ 4 ∧ ((((r / 2 &&& 85) + (r &&& 85)) / 4 &&& 51) + (((r / 2 &&& 85) + (r &&& 85)) &&& 51)) % 16 ≤ 4 ∧ ((((r / 2 &&& 85) + (r &&& 85)) / 4 &&& 51) + (((r / 2 &&& 85) + (r &&& 85)) &&& 51)) < 256 ∧ (r / 2 &&& 85) + (r &&& 85) < 256 := by decide +kernel
def ones1 (x : Nat) : Nat := (x / 2 &&& 6148914691236517205) + (x &&& 6148914691236517205)
def ones2 (x : Nat) : Nat := (x / 4 &&& 3689348814741910323) + (x &&& 3689348814741910323)
def ones3 (x : Nat) : Nat := (x / 16 + x) &&& 1085102592571150095
theorem ones_bytes (x : Nat) : ones3 (ones2 (ones1 x)) = byB (pc 8) 8 x ∧ ones1 x < 2 ^ 64 ∧ ones2 (ones1 x) < 2 ^ 63 ∧ ones2 (ones1 x) / 16 + ones2 (ones1 x) < 2 ^ 64 := by
  have e1 : ones1 x = byB (fun r => (r / 2 &&& 85) + (r &&& 85)) 8 x := step1 8 x
  have e2 : ones2 (ones1 x) = byB (fun r => (((r / 2 &&& 85) + (r &&& 85)) / 4 &&& 51) + (((r / 2 &&& 85) + (r &&& 85)) &&& 51)) 8 x := by
    rw [e1]
    exact (step2 8 _).trans (byB_comp (g := fun r => (r / 4 &&& 51) + (r &&& 51)) (fun r hr => (byte_ones r hr).2.2.2.2.2) 8 x)
  have e3 : ones3 (ones2 (ones1 x)) = byB (fun r => ((((r / 2 &&& 85) + (r &&& 85)) / 4 &&& 51) + (((r / 2 &&& 85) + (r &&& 85)) &&& 51)) / 16 + ((((r / 2 &&& 85) + (r &&& 85)) / 4 &&& 51) + (((r / 2 &&& 85) + (r &&& 85)) &&& 51)) &&& 15) 8 x := by
    rw [e2]
    exact step3 (fun r hr => ⟨(byte_ones r hr).2.2.1, (byte_ones r hr).2.2.2.1, (byte_ones r hr).2.2.2.2.1⟩) 8 x
  have congr : ∀ {g h : Nat → Nat}, (∀ r, r < 256 → g r = h r) → ∀ n x, byB g n x = byB h n x := by
    intro g h H n
    induction n with
    | zero => intro x; rfl
    | succ n ih => intro x; show 256 * byB g n (x / 256) + g (x % 256) = 256 * byB h n (x / 256) + h (x % 256); rw [ih, H _ (Nat.mod_lt _ (by decide))]
  have lt : ∀ {g : Nat → Nat} (c : Nat), (∀ r, r < 256 → g r ≤ c) → ∀ n x, byB g n x ≤ c * mkB 1 n := by
    intro g c H n
    induction n with
    | zero => intro x; exact Nat.zero_le _
    | succ n ih =>
      intro x
      have a := ih (x / 256)
      have b := H (x % 256) (Nat.mod_lt _ (by decide))
      show 256 * byB g n (x / 256) + g (x % 256) ≤ c * (256 * mkB 1 n + 1)
      rw [Nat.mul_add, Nat.mul_left_comm]
      omega
  have b1 := lt 255 (fun r hr => Nat.le_of_lt_succ (byte_ones r hr).2.2.2.2.2) 8 x
  have b2 := lt 68 (fun r hr => (show ((((r / 2 &&& 85) + (r &&& 85)) / 4 &&& 51) + (((r / 2 &&& 85) + (r &&& 85)) &&& 51)) ≤ 68 by have := (byte_ones r hr).2.2; omega)) 8 x
  have hm : mkB 1 8 = 72340172838076673 := by decide
  rw [hm] at b1 b2
  rw [← e1] at b1
  rw [← e2] at b2
  refine ⟨e3.trans (congr (fun r hr => (byte_ones r hr).1) 8 x), by omega, by omega, by omega⟩
theorem fin1 (w0 w1 w2 w3 b : Nat) (h0 : w0 ≤ 4112) (h1 : w1 ≤ 4112) (d2 : b = 65536 * (65536 * (65536 * w3 + w2) + w1) + w0) : b / 65536 = 65536 * (65536 * w3 + w2) + w1 := by
  rw [d2, Nat.mul_add_div (by decide), Nat.div_eq_of_lt (by omega), Nat.add_zero]
theorem fin2 (w0 w1 w2 w3 b c : Nat) (h0 : w0 ≤ 4112) (h1 : w1 ≤ 4112) (h2 : w2 ≤ 4112) (d2 : b = 65536 * (65536 * (65536 * w3 + w2) + w1) + w0) (hc : c = b + (65536 * (65536 * w3 + w2) + w1)) : c = 4294967296 * (65536 * w3 + (w2 + w3)) + (65536 * (w1 + w2) + (w0 + w1)) ∧ c / 4294967296 = 65536 * w3 + (w2 + w3) := by
  have e : c = 4294967296 * (65536 * w3 + (w2 + w3)) + (65536 * (w1 + w2) + (w0 + w1)) := by omega
  refine ⟨e, ?_⟩
  rw [e, Nat.mul_add_div (by decide), Nat.div_eq_of_lt (by omega), Nat.add_zero]
theorem fin3 (w0 w1 w2 w3 : Nat) : (4294967296 * (65536 * w3 + (w2 + w3)) + (65536 * (w1 + w2) + (w0 + w1)) + (65536 * w3 + (w2 + w3))) % 128 = (w0 + w1 + w2 + w3) % 128 := by
  have e : 4294967296 * (65536 * w3 + (w2 + w3)) + (65536 * (w1 + w2) + (w0 + w1)) + (65536 * w3 + (w2 + w3)) = (w0 + w1 + w2 + w3) + 128 * (33554432 * (65536 * w3 + (w2 + w3)) + 512 * (w1 + w2) + 512 * w3) := by omega
  rw [e, Nat.add_mul_mod_self_left]
theorem sum_lt (v0 v1 v2 v3 v4 v5 v6 v7 a : Nat) (k0 : v0 ≤ 8) (k1 : v1 ≤ 8) (k2 : v2 ≤ 8) (k3 : v3 ≤ 8) (k4 : v4 ≤ 8) (k5 : v5 ≤ 8) (k6 : v6 ≤ 8) (k7 : v7 ≤ 8) (ha : a = 256 * (256 * (256 * (256 * (256 * (256 * (256 * (256 * 0 + v7) + v6) + v5) + v4) + v3) + v2) + v1) + v0) : a < 2 ^ 61 := by omega
theorem sum_end (v0 v1 v2 v3 v4 v5 v6 v7 a b c : Nat) (k0 : v0 ≤ 8) (k1 : v1 ≤ 8) (k2 : v2 ≤ 8) (k3 : v3 ≤ 8) (k4 : v4 ≤ 8) (k5 : v5 ≤ 8) (k6 : v6 ≤ 8) (k7 : v7 ≤ 8) (ha : a = 256 * (256 * (256 * (256 * (256 * (256 * (256 * (256 * 0 + v7) + v6) + v5) + v4) + v3) + v2) + v1) + v0) (hb : b = a + a / 256) (hc : c = b + b / 65536) : (c + c / 4294967296) % 128 = v0 + (v1 + (v2 + (v3 + (v4 + (v5 + (v6 + (v7 + 0))))))) := by
  have d1 : a / 256 = 256 * (256 * (256 * (256 * (256 * (256 * v7 + v6) + v5) + v4) + v3) + v2) + v1 := by
    rw [ha, Nat.mul_add_div (by decide), Nat.div_eq_of_lt (by omega)]; omega
  rw [d1] at hb
  have d2 : b = 65536 * (65536 * (65536 * (256 * v7 + (v7 + v6)) + (256 * (v6 + v5) + (v5 + v4))) + (256 * (v4 + v3) + (v3 + v2))) + (256 * (v2 + v1) + (v1 + v0)) := by rw [hb, ha]; omega
  clear d1 ha hb
  have d3 := fin1 _ _ _ _ b (by omega) (by omega) d2
  rw [d3] at hc
  obtain ⟨d4, d5⟩ := fin2 _ _ _ _ b c (by omega) (by omega) (by omega) d2 hc
  rw [d5]
  clear d5 d3 hc d2
  rw [d4, fin3]
  clear d4
  have e : 256 * (v2 + v1) + (v1 + v0) + (256 * (v4 + v3) + (v3 + v2)) + (256 * (v6 + v5) + (v5 + v4)) + (256 * v7 + (v7 + v6)) = (v0 + v1 + v2 + v3 + v4 + v5 + v6 + v7) + 128 * (2 * (v2 + v1 + v4 + v3 + v6 + v5 + v7)) := by omega
  rw [e, Nat.add_mul_mod_self_left, Nat.mod_eq_of_lt (by omega)]
  omega
/-- The last three additions put the bytes together. -/
theorem bytes_sum (x a b c : Nat) (ha : a = byB (pc 8) 8 x) (hb : b = a + a / 256) (hc : c = b + b / 65536) : (c + c / 4294967296) % 128 = pc 64 x ∧ a < 2 ^ 61 := by
  have p := fun r hr => (byte_ones r hr).2.1
  have k : ∀ z, pc 8 (z % 256) ≤ 8 := fun z => p _ (Nat.mod_lt _ (by decide))
  have e : pc 64 x = pc 8 (x % 256) + (pc 8 (x / 256 % 256) + (pc 8 (x / 256 / 256 % 256) + (pc 8 (x / 256 / 256 / 256 % 256) + (pc 8 (x / 256 / 256 / 256 / 256 % 256) + (pc 8 (x / 256 / 256 / 256 / 256 / 256 % 256) + (pc 8 (x / 256 / 256 / 256 / 256 / 256 / 256 % 256) + (pc 8 (x / 256 / 256 / 256 / 256 / 256 / 256 / 256 % 256) + 0))))))) := by
    have q : ∀ n m z, m = n + 8 → pc m z = pc 8 (z % 256) + pc n (z / 256) := fun n m z h => by rw [h]; exact pc_byte n z
    rw [q 56 64 _ rfl, q 48 56 _ rfl, q 40 48 _ rfl, q 32 40 _ rfl, q 24 32 _ rfl, q 16 24 _ rfl, q 8 16 (x / 256 / 256 / 256 / 256 / 256 / 256) rfl, q 0 8 (x / 256 / 256 / 256 / 256 / 256 / 256 / 256) rfl, show pc 0 (x / 256 / 256 / 256 / 256 / 256 / 256 / 256 / 256) = 0 from rfl]
  have e2 : byB (pc 8) 8 x = 256 * (256 * (256 * (256 * (256 * (256 * (256 * (256 * 0 + pc 8 (x / 256 / 256 / 256 / 256 / 256 / 256 / 256 % 256)) + pc 8 (x / 256 / 256 / 256 / 256 / 256 / 256 % 256)) + pc 8 (x / 256 / 256 / 256 / 256 / 256 % 256)) + pc 8 (x / 256 / 256 / 256 / 256 % 256)) + pc 8 (x / 256 / 256 / 256 % 256)) + pc 8 (x / 256 / 256 % 256)) + pc 8 (x / 256 % 256)) + pc 8 (x % 256) := rfl
  have k0 := k x
  have k1 := k (x / 256)
  have k2 := k (x / 256 / 256)
  have k3 := k (x / 256 / 256 / 256)
  have k4 := k (x / 256 / 256 / 256 / 256)
  have k5 := k (x / 256 / 256 / 256 / 256 / 256)
  have k6 := k (x / 256 / 256 / 256 / 256 / 256 / 256)
  have k7 := k (x / 256 / 256 / 256 / 256 / 256 / 256 / 256)
  clear k p
  generalize pc 8 (x % 256) = v0 at *
  generalize pc 8 (x / 256 % 256) = v1 at *
  generalize pc 8 (x / 256 / 256 % 256) = v2 at *
  generalize pc 8 (x / 256 / 256 / 256 % 256) = v3 at *
  generalize pc 8 (x / 256 / 256 / 256 / 256 % 256) = v4 at *
  generalize pc 8 (x / 256 / 256 / 256 / 256 / 256 % 256) = v5 at *
  generalize pc 8 (x / 256 / 256 / 256 / 256 / 256 / 256 % 256) = v6 at *
  generalize pc 8 (x / 256 / 256 / 256 / 256 / 256 / 256 / 256 % 256) = v7 at *
  rw [e2] at ha
  rw [e]
  clear e e2
  exact ⟨sum_end v0 v1 v2 v3 v4 v5 v6 v7 a b c k0 k1 k2 k3 k4 k5 k6 k7 (by rw [ha]) hb hc, sum_lt v0 v1 v2 v3 v4 v5 v6 v7 a k0 k1 k2 k3 k4 k5 k6 k7 (by rw [ha])⟩
theorem u64_id {n : Nat} (h : n < 2 ^ 64) : IntKind.u64.wrap (n : Int) = (n : Int) := Vx.Vec.wu (by omega) (by omega)
theorem and_u64 {a b : Nat} (ha : a < 2 ^ 64) (hb : b < 2 ^ 64) : Go.bits .and .u64 (a : Int) (b : Int) = ((a &&& b : Nat) : Int) := (bits_nat .u64 64 (by decide) (fun n h0 h1 => Vx.Vec.wu h0 h1) a b ha hb).1
theorem u64_add {a b : Nat} (h : a + b < 2 ^ 64) : IntKind.u64.wrap ((a : Int) + (b : Int)) = ((a + b : Nat) : Int) := (congrArg IntKind.u64.wrap (Int.natCast_add a b).symm).trans (u64_id h)
theorem onesA (x : Nat) (hx : x < 2 ^ 64) (h : ones1 x < 2 ^ 64) : IntKind.u64.wrap ((Go.bits .and .u64 ((x : Int) / 2) 6148914691236517205) + (Go.bits .and .u64 (x : Int) 6148914691236517205)) = ((ones1 x : Nat) : Int) := by
  have q1 : Go.bits .and .u64 ((x : Int) / 2) 6148914691236517205 = ((x / 2 &&& 6148914691236517205 : Nat) : Int) := and_u64 (a := x / 2) (b := 6148914691236517205) (by omega) (by decide)
  have q2 : Go.bits .and .u64 (x : Int) 6148914691236517205 = ((x &&& 6148914691236517205 : Nat) : Int) := and_u64 (a := x) (b := 6148914691236517205) hx (by decide)
  rw [q1, q2]
  exact u64_add h
theorem onesB (x : Nat) (hx : x < 2 ^ 64) (h : ones2 x < 2 ^ 64) : IntKind.u64.wrap ((Go.bits .and .u64 ((x : Int) / 4) 3689348814741910323) + (Go.bits .and .u64 (x : Int) 3689348814741910323)) = ((ones2 x : Nat) : Int) := by
  have q1 : Go.bits .and .u64 ((x : Int) / 4) 3689348814741910323 = ((x / 4 &&& 3689348814741910323 : Nat) : Int) := and_u64 (a := x / 4) (b := 3689348814741910323) (by omega) (by decide)
  have q2 : Go.bits .and .u64 (x : Int) 3689348814741910323 = ((x &&& 3689348814741910323 : Nat) : Int) := and_u64 (a := x) (b := 3689348814741910323) hx (by decide)
  rw [q1, q2]
  exact u64_add h
theorem onesC (x : Nat) (h : x / 16 + x < 2 ^ 64) : Go.bits .and .u64 (IntKind.u64.wrap ((x : Int) / 16 + (x : Int))) 1085102592571150095 = ((ones3 x : Nat) : Int) := by
  have q0 : IntKind.u64.wrap ((x : Int) / 16 + (x : Int)) = ((x / 16 + x : Nat) : Int) := u64_add (a := x / 16) (b := x) h
  rw [q0]
  exact and_u64 (b := 1085102592571150095) h (by decide)
theorem onesD (a : Nat) (h : a < 2 ^ 61) : IntKind.u64.wrap ((a : Int) + (a : Int) / 256) = ((a + a / 256 : Nat) : Int) := u64_add (a := a) (b := a / 256) (by omega)
theorem onesE (a : Nat) (h : a < 2 ^ 62) : IntKind.u64.wrap ((a : Int) + (a : Int) / 65536) = ((a + a / 65536 : Nat) : Int) := u64_add (a := a) (b := a / 65536) (by omega)
theorem onesF (a : Nat) (h : a < 2 ^ 63) : IntKind.u64.wrap ((a : Int) + (a : Int) / 4294967296) = ((a + a / 4294967296 : Nat) : Int) := u64_add (a := a) (b := a / 4294967296) (by omega)
theorem onesG (a : Nat) (h : a < 2 ^ 63) : Go.bits .and .i64 (wrap64 (a : Int)) 127 = ((a % 128 : Nat) : Int) := by
  rw [wrap_id (by omega) (by omega)]
  refine ((bits_nat .i64 63 (by decide) (fun n h0 h1 => by rw [IntKind.wrap_i64]; omega) a 127 h (by decide)).1).trans ?_
  exact congrArg Int.ofNat (Nat.and_two_pow_sub_one_eq_mod _ 7)
theorem onesH (x a b c : Nat) (ha : a < 2 ^ 61) (hb : b = a + a / 256) (hc : c = b + b / 65536) : b < 2 ^ 62 ∧ c < 2 ^ 62 + 2 ^ 47 ∧ c + c / 4294967296 < 2 ^ 63 := by
  have h1 : b < 2 ^ 61 + 2 ^ 53 := by omega
  clear hb ha
  have h2 : c < 2 ^ 61 + 2 ^ 54 := by omega
  clear hc
  exact ⟨by omega, by omega, by omega⟩
theorem onesCount (x : Nat) (hx : x < 2 ^ 64) : bits_OnesCount64.f (x : Int) = some ((pc 64 x : Nat) : Int) := by
  obtain ⟨h3, h1, h2, h4⟩ := ones_bytes x
  obtain ⟨a, ea⟩ : ∃ a, a = byB (pc 8) 8 x := ⟨_, rfl⟩
  obtain ⟨b, eb⟩ : ∃ b, b = a + a / 256 := ⟨_, rfl⟩
  obtain ⟨c, ec⟩ : ∃ c, c = b + b / 65536 := ⟨_, rfl⟩
  obtain ⟨hs, ha⟩ := bytes_sum x a b c ea eb ec
  obtain ⟨l1, l2, l3⟩ := onesH x a b c ha eb ec
  have e1 := onesA x hx h1
  have e2 := onesB (ones1 x) h1 (Nat.lt_trans h2 (by decide))
  have e3 := onesC (ones2 (ones1 x)) h4
  rw [h3, ← ea] at e3
  have e4 := onesD a ha
  rw [← eb] at e4
  have e5 := onesE b l1
  rw [← ec] at e5
  have e6 := onesF c (Nat.lt_trans l2 (by decide))
  have e7 := onesG _ l3
  rw [hs] at e7
  unfold bits_OnesCount64.f
  rw [e1, e2, e3, e4, e5, e6, e7]
/-! vec.Count of a row: how many bits are 1 -/
/-- How many of the places below n are such. -/
def cntB (f : Nat → Bool) : Nat → Nat
  | 0 => 0
  | n + 1 => cntB f n + (f n).toNat
theorem cntB_congr {f g : Nat → Bool} : ∀ n, (∀ j, j < n → f j = g j) → cntB f n = cntB g n
  | 0, _ => rfl
  | n + 1, h => by show cntB f n + _ = cntB g n + _; rw [cntB_congr n (fun j hj => h j (by omega)), h n (by omega)]
theorem cntB_add (f : Nat → Bool) (m : Nat) : ∀ n, cntB f (m + n) = cntB f m + cntB (fun j => f (m + j)) n
  | 0 => rfl
  | n + 1 => by show cntB f (m + n) + (f (m + n)).toNat = cntB f m + (cntB (fun j => f (m + j)) n + (f (m + n)).toNat); rw [cntB_add f m n]; omega
theorem cntB_none {f : Nat → Bool} : ∀ n, (∀ j, j < n → f j = false) → cntB f n = 0
  | 0, _ => rfl
  | n + 1, h => by show cntB f n + _ = 0; rw [cntB_none n (fun j hj => h j (by omega)), h n (by omega)]; rfl
theorem pc_cnt : ∀ n x, pc n x = cntB (fun j => x.testBit j) n
  | 0, _ => rfl
  | n + 1, x => by
    have h := cntB_add (fun j => x.testBit j) 1 n
    rw [Nat.add_comm 1 n] at h
    rw [h]
    show x % 2 + pc n (x / 2) = _
    rw [pc_cnt n (x / 2)]
    have e : cntB (fun j => x.testBit j) 1 = x % 2 := by
      show 0 + (x.testBit 0).toNat = x % 2
      rw [Nat.testBit_zero]
      have : x % 2 = 0 ∨ x % 2 = 1 := by omega
      rcases this with q | q <;> rw [q] <;> rfl
    rw [e]
    refine congrArg _ (cntB_congr n fun j _ => ?_)
    show (x / 2).testBit j = x.testBit (1 + j)
    rw [Nat.add_comm 1 j, Nat.testBit_succ]
/-- The bits behind the width are 0. -/
theorem bt_fit_out (l : List Int) {n j : Nat} (h : n ≤ j) : bt (Vec.fitL l n) j = false := by
  by_cases c : j / 64 < Vec.words n
  · unfold bt Vec.fitL
    rw [Vec.list_w _ c, Nat.testBit_and, Mask.mask_bit, decide_eq_false (by omega), Bool.and_false]
  · unfold bt
    rw [w_out (by rw [Vec.fit_len]; omega), Nat.zero_testBit]
theorem count_words (l : List Int) (hok : l.all Vec.ok = true) (hl : l.length ≤ 20000) (d : Nat) : ∀ (k i : Nat) (s : Nat), i + d = l.length → d < k → s ≤ 64 * i → s = cntB (bt l) (64 * i) → vec_Count.l0 k (s : Int) l (l.length : Int) (i : Int) = some ((cntB (bt l) (64 * l.length) : Nat) : Int) := by
  induction d with
  | zero =>
    intro k i s hi hk hs he
    obtain ⟨k, rfl⟩ := round hk
    simp only [vec_Count.l0]
    rw [if_neg (by omega), he, show i = l.length by omega]
  | succ d ih =>
    intro k i s hi hk hs he
    obtain ⟨k, rfl⟩ := round hk
    have hp : pc 64 (Vec.w l i) = cntB (fun j => bt l (64 * i + j)) 64 := by
      rw [pc_cnt]
      refine cntB_congr 64 fun j hj => ?_
      show _ = (Vec.w l ((64 * i + j) / 64)).testBit ((64 * i + j) % 64)
      rw [show (64 * i + j) / 64 = i by omega, show (64 * i + j) % 64 = j by omega]
    have hle : ∀ n (f : Nat → Bool), cntB f n ≤ n := by
      intro n f
      induction n with
      | zero => exact Nat.le_refl _
      | succ n ih => have := Bool.toNat_le (f n); show cntB f n + _ ≤ n + 1; omega
    have hp1 : pc 64 (Vec.w l i) ≤ 64 := by rw [hp]; exact hle _ _
    simp only [vec_Count.l0]
    rw [if_pos (by omega), if_pos (by omega), if_pos (by omega), Vec.w_rd hok, onesCount _ (Vec.w_lt hok i), Option.bind_some, wrap_succ (n := i) (by omega), wrap_id (by omega) (by omega), ← Int.natCast_add]
    refine ih k (i + 1) _ (by omega) (by omega) (by omega) ?_
    rw [show 64 * (i + 1) = 64 * i + 64 by omega, cntB_add, ← he, hp]
theorem countRow (l : List Int) (n : Nat) (hok : l.all Vec.ok = true) (hn : n ≤ 1000000) {k : Nat} (hk : 20001 ≤ k) : vec_Count.f k l (n : Int) = some ((cntB (bt l) n : Nat) : Int) := by
  have hw := Vec.words_le hn
  have hlen := Vec.fit_len l n
  have e : vec_Fit.f l (n : Int) = some (Vec.fitL l n) := by
    unfold vec_Fit.f
    rw [if_pos ⟨by omega, by omega, hok⟩, Int.toNat_natCast]
    rfl
  unfold vec_Count.f
  rw [e, Option.bind_some]
  refine (count_words (Vec.fitL l n) (Vec.fit_ok l n) (by omega) _ k 0 0 (Nat.zero_add _) (by omega) (Nat.zero_le _) rfl).trans ?_
  refine congrArg some (congrArg Int.ofNat ?_)
  have h64 : n ≤ 64 * Vec.words n := by unfold Vec.words; omega
  obtain ⟨r, hr⟩ : ∃ r, 64 * (Vec.fitL l n).length = n + r := ⟨64 * Vec.words n - n, by omega⟩
  rw [hr, cntB_add, cntB_none r (fun j _ => bt_fit_out l (by omega)), Nat.add_zero]
  exact cntB_congr n fun j hj => bt_fit l hj
/-- The steps that stay and the length make up all places. -/
theorem cnt_stays (a b : List Int) : ∀ n, n ≤ b.length → cntB (fun j => decide (Fr a b a.length (j + 1) = Fr a b a.length j)) n + Fr a b a.length n = n
  | 0, _ => by rw [Fr_zero]; rfl
  | n + 1, h => by
    have ih := cnt_stays a b n (by omega)
    have hs := Fr_step a b a.length (show n < b.length by omega)
    show cntB _ n + (decide (Fr a b a.length (n + 1) = Fr a b a.length n)).toNat + _ = _
    by_cases c : Fr a b a.length (n + 1) = Fr a b a.length n
    · rw [decide_eq_true c]; simp only [Bool.toNat_true]; omega
    · rw [decide_eq_false c]; simp only [Bool.toNat_false]; omega
theorem lens (a b : List Int) (ha : a.length ≤ 1000000) (hb : b.length ≤ 1000000) (wa : ∀ x ∈ a, (Lit.int .i64 x).wf = true) (wb : ∀ x ∈ b, (Lit.int .i64 x).wf = true) {k : Nat} (hk : 20001 ≤ k) : hyyro_Len.f k a b = some ((L a b : Nat) : Int) ∧ croch_Len.f k a b = some ((L a b : Nat) : Int) := by
  have hs := cnt_stays a b b.length (Nat.le_refl _)
  have hF : Fr a b a.length b.length = L a b := by unfold Fr; rw [List.take_of_length_le (Nat.le_refl _), List.take_of_length_le (Nat.le_refl _)]
  rw [hF] at hs
  have e1 := cntB_congr b.length (fun j hj => (rowAt_bits a b a.length (Nat.le_refl _) j hj).1)
  have e2 := cntB_congr b.length (fun j hj => (rowAt_bits a b a.length (Nat.le_refl _) j hj).2)
  unfold hyyro_Len.f croch_Len.f
  constructor
  · rw [if_pos ⟨ha, hb, List.all_eq_true.mpr wa, List.all_eq_true.mpr wb⟩, countRow _ _ (Vec.hy_ok a b a.length).1 hb hk, e1, Option.bind_some]
    refine congrArg some ?_
    rw [wrap_id (by omega) (by omega)]; omega
  · rw [if_pos ⟨ha, hb, List.all_eq_true.mpr wa, List.all_eq_true.mpr wb⟩, countRow _ _ (Vec.cr_ok a b a.length).1 hb hk, e2, Option.bind_some]
    refine congrArg some ?_
    rw [wrap_id (by omega) (by omega)]; omega
/-! the rows of bits of hyyro and of croch are the same rows, word by word -/
theorem fit_ext {l m : List Int} {n : Nat} (h : ∀ j, j < n → bt l j = bt m j) : Vec.fitL l n = Vec.fitL m n := by
  unfold Vec.fitL Vec.list
  refine List.map_congr_left fun k hk => congrArg Int.ofNat (Nat.eq_of_testBit_eq fun i => ?_)
  rw [Nat.testBit_and, Nat.testBit_and, Mask.mask_bit]
  by_cases c : i < 64 ∧ i < n - 64 * k
  · rw [decide_eq_true c, Bool.and_true, Bool.and_true]
    have := h (64 * k + i) (by omega)
    unfold bt at this
    rw [show (64 * k + i) / 64 = k by omega, show (64 * k + i) % 64 = i by omega] at this
    exact this
  · rw [decide_eq_false c, Bool.and_false, Bool.and_false]
theorem hy_idem (v u : List Int) (n : Nat) : Vec.fitL (Vec.hyRow v u n) n = Vec.hyRow v u n := by
  unfold Vec.hyRow
  exact fit_ext fun j hj => bt_fit _ hj
theorem cr_idem (v u : List Int) (n : Nat) : Vec.fitL (Vec.crRow v u n) n = Vec.crRow v u n := by
  unfold Vec.crRow
  exact fit_ext fun j hj => bt_fit _ hj
theorem rowAt_same (a b : List Int) (i : Nat) (hi : i ≤ a.length) : Vec.rowAt Vec.hyRow a b i = Vec.rowAt Vec.crRow a b i := by
  cases i with
  | zero => rw [Vec.rowAt, Vec.rowAt]
  | succ i =>
    have h : Vec.fitL (Vec.rowAt Vec.hyRow a b (i + 1)) b.length = Vec.fitL (Vec.rowAt Vec.crRow a b (i + 1)) b.length :=
      fit_ext fun j hj => (rowAt_bits a b (i + 1) hi j hj).1.trans (rowAt_bits a b (i + 1) hi j hj).2.symm
    rw [Vec.rowAt, Vec.rowAt, hy_idem, cr_idem] at h
    rw [Vec.rowAt, Vec.rowAt]
    exact h
theorem rows_same (a b : List Int) : Vec.rows Vec.hyRow a b a.length = Vec.rows Vec.crRow a b a.length := by
  unfold Vec.rows
  exact List.map_congr_left fun i hi => rowAt_same a b i (by have := List.mem_range.1 hi; omega)
theorem same_words (l : List Int) (hl : l.length ≤ 1000000) (d : Nat) : ∀ (k i : Nat), i + d = l.length → d < k → tattingref5_Same.l0 k l l (i : Int) = some true := by
  induction d with
  | zero =>
    intro k i hi hk
    obtain ⟨k, rfl⟩ := round hk
    simp only [tattingref5_Same.l0]
    rw [if_neg (by omega)]
  | succ d ih =>
    intro k i hi hk
    obtain ⟨k, rfl⟩ := round hk
    simp only [tattingref5_Same.l0]
    rw [if_pos (by omega), if_pos (by omega), if_pos (by omega), if_pos trivial, wrap_succ (by omega)]
    exact ih k (i + 1) (by omega) (by omega)
theorem same_rows (o : List (List Int)) (ho : o.length ≤ 1000000) (N : Nat) (hN : N ≤ 1000000) (h : ∀ i, i < o.length → (o.getD i []).length = N) (d : Nat) : ∀ (k i : Nat), i + d = o.length → d + N < k → tattingref20_SameRows.l0 k o o (i : Int) = some true := by
  induction d with
  | zero =>
    intro k i hi hk
    obtain ⟨k, rfl⟩ := round (show 0 < k by omega)
    simp only [tattingref20_SameRows.l0]
    rw [if_neg (by omega)]
  | succ d ih =>
    intro k i hi hk
    obtain ⟨k, rfl⟩ := round (show 0 < k by omega)
    have hl := h i (by omega)
    simp only [tattingref20_SameRows.l0]
    rw [if_pos (by omega), if_pos (by omega), if_pos (by omega), rdL_d]
    have e : tattingref5_Same.f k (o.getD i []) (o.getD i []) = some true := by
      unfold tattingref5_Same.f
      rw [if_pos rfl]
      exact same_words _ (by omega) N k 0 (by omega) (by omega)
    rw [e, Option.bind_some, if_pos rfl, wrap_succ (by omega)]
    exact ih k (i + 1) (by omega) (by omega)
theorem sameRows (a b : List Int) (ha : a.length < 1000000) (hb : b.length ≤ 1000000) {k : Nat} (hk : a.length + 20001 < k) : tattingref20_SameRows.f k (Vec.rows Vec.hyRow a b a.length) (Vec.rows Vec.crRow a b a.length) = some true := by
  have n1 := Vec.rows_len Vec.crRow a b a.length
  have hw := Vec.words_le hb
  unfold tattingref20_SameRows.f
  rw [rows_same, if_pos rfl]
  refine same_rows _ (by omega) (Vec.words b.length) (by omega) (fun i hi => ?_) (a.length + 1) k 0 (by omega) (by omega)
  rw [Vec.rows_at _ _ _ (by omega)]
  exact (Vec.cr_ok a b i).2
/-- Pairs that rise from two places on, and are alike. -/
def GoodFrom (a b : List Int) : Int → Int → List S71 → Prop
  | _, _, [] => True
  | i, j, p :: l => i ≤ p.f0 ∧ p.f0 < (a.length : Int) ∧ j ≤ p.f1 ∧ p.f1 < (b.length : Int) ∧ rd a p.f0 = rd b p.f1 ∧ GoodFrom a b (p.f0 + 1) (p.f1 + 1) l
/-- The places behind the last pair. -/
def endI : Int → List S71 → Int
  | i, [] => i
  | _, p :: l => endI (p.f0 + 1) l
def endJ : Int → List S71 → Int
  | j, [] => j
  | _, p :: l => endJ (p.f1 + 1) l
theorem goodFrom_append (a b : List Int) (l m : List S71) : ∀ i j, GoodFrom a b i j l → GoodFrom a b (endI i l) (endJ j l) m → GoodFrom a b i j (l ++ m) := by
  induction l with
  | nil => intro i j _ h; exact h
  | cons p l ih => intro i j h k; exact ⟨h.1, h.2.1, h.2.2.1, h.2.2.2.1, h.2.2.2.2.1, ih _ _ h.2.2.2.2.2 k⟩
theorem endI_append (l m : List S71) : ∀ i, endI i (l ++ m) = endI (endI i l) m := by
  induction l with
  | nil => intro i; rfl
  | cons p l ih => intro i; exact ih _
theorem endJ_append (l m : List S71) : ∀ i, endJ i (l ++ m) = endJ (endJ i l) m := by
  induction l with
  | nil => intro i; rfl
  | cons p l ih => intro i; exact ih _
theorem rdP_at (l : List S71) {n : Nat} (h : n < l.length) : rd_T71 l (n : Int) = l[n] := by
  show l.getD n _ = _
  rw [List.getD_eq_getElem?_getD, List.getElem?_eq_getElem h]; rfl
theorem drop_rdP (l : List S71) {n : Nat} (h : n < l.length) : l.drop n = rd_T71 l (n : Int) :: l.drop (n + 1) := by
  rw [rdP_at l h]; exact List.drop_eq_getElem_cons h
theorem refGood_l0 (a b : List Int) (l : List S71) (hl : l.length ≤ 1000000) (d : Nat) : ∀ (k n : Nat), n + d = l.length → 2 * d < k →
    (n = 0 → GoodFrom a b 0 0 l) → (∀ m : Nat, n = m + 1 → GoodFrom a b ((rd_T71 l (m : Int)).f0 + 1) ((rd_T71 l (m : Int)).f1 + 1) (l.drop n) ∧ 0 ≤ (rd_T71 l (m : Int)).f0 ∧ 0 ≤ (rd_T71 l (m : Int)).f1) →
    tattingref7_Good.l0 k a b l (n : Int) = some true := by
  induction d with
  | zero =>
    intro k n hn hk _ _
    obtain ⟨k, rfl⟩ : ∃ q, k = q + 1 := ⟨k - 1, by omega⟩
    simp only [tattingref7_Good.l0]
    rw [if_neg (by omega)]
  | succ d ih =>
    intro k n hn hk h0 h1
    obtain ⟨k, rfl⟩ : ∃ q, k = q + 2 := ⟨k - 2, by omega⟩
    have hp : (0 ≤ (rd_T71 l (n : Int)).f0 ∧ (rd_T71 l (n : Int)).f0 < (a.length : Int) ∧ 0 ≤ (rd_T71 l (n : Int)).f1 ∧ (rd_T71 l (n : Int)).f1 < (b.length : Int) ∧ rd a (rd_T71 l (n : Int)).f0 = rd b (rd_T71 l (n : Int)).f1 ∧ GoodFrom a b ((rd_T71 l (n : Int)).f0 + 1) ((rd_T71 l (n : Int)).f1 + 1) (l.drop (n + 1))) ∧ (∀ m : Nat, n = m + 1 → (rd_T71 l (m : Int)).f0 < (rd_T71 l (n : Int)).f0 ∧ (rd_T71 l (m : Int)).f1 < (rd_T71 l (n : Int)).f1) := by
      have hd := drop_rdP l (show n < l.length by omega)
      cases n with
      | zero =>
        have g := h0 rfl
        rw [List.drop_zero] at hd
        rw [hd] at g
        exact ⟨g, fun m hm => by omega⟩
      | succ m =>
        obtain ⟨g, g0, g1⟩ := h1 m rfl
        rw [hd] at g
        obtain ⟨q1, q2, q3, q4, q5, q6⟩ := g
        exact ⟨⟨by omega, q2, by omega, q4, q5, q6⟩, fun m' hm' => by rw [show m' = m by omega]; omega⟩
    obtain ⟨⟨q1, q2, q3, q4, q5, q6⟩, q7⟩ := hp
    have next : tattingref7_Good.l0 k a b l (wrap64 ((n : Int) + 1)) = some true := by
      rw [wrap_succ (by omega)]
      refine ih k (n + 1) (by omega) (by omega) (fun q => by omega) ?_
      intro m hm
      rw [show m = n by omega]; exact ⟨q6, q1, q3⟩
    simp only [tattingref7_Good.l0]
    rw [if_pos (by omega), if_pos (by omega), if_neg (by omega), if_neg (by omega), if_neg (by omega), if_neg (by omega), if_pos q1, if_pos q2, if_pos q3, if_pos q4, q5]
    have e : (rd b (rd_T71 l (n : Int)).f1 != rd b (rd_T71 l (n : Int)).f1) = false := by simp
    rw [e]
    simp only [tattingref7_Good.j1]
    rw [if_neg (by decide)]
    by_cases c : (n : Int) > 0
    · have E := Aside0.mk (show wrap64 ((n : Int) - 1) = ((n - 1 : Nat) : Int) from by rw [wrap_id (by omega) (by omega)]; omega)
      obtain ⟨r1, r2⟩ := q7 (n - 1) (by omega)
      rw [if_pos c, E.out, if_pos (by omega), if_pos (by omega), if_neg (by omega), if_neg (by omega)]; exact next
    · rw [if_neg c]; exact next
theorem refGood (a b : List Int) (l : List S71) (hl : l.length ≤ 1000000) (h : GoodFrom a b 0 0 l) {k : Nat} (hk : 2 * l.length < k) : tattingref7_Good.f k a b l = some true := by
  unfold tattingref7_Good.f
  exact refGood_l0 a b l hl l.length k 0 (by omega) hk (fun _ => h) (fun m hm => by omega)
theorem samePairs_refl_l0 (l : List S71) (hl : l.length ≤ 1000000) (d : Nat) : ∀ (k n : Nat), n + d = l.length → d < k → tattingref1_SamePairs.l0 k l l (n : Int) = some true := by
  induction d with
  | zero =>
    intro k n hn hk
    obtain ⟨k, rfl⟩ := round hk
    simp only [tattingref1_SamePairs.l0]
    rw [if_neg (by omega)]
  | succ d ih =>
    intro k n hn hk
    obtain ⟨k, rfl⟩ := round hk
    simp only [tattingref1_SamePairs.l0]
    rw [if_pos (by omega), if_pos (by omega), if_pos (by omega), if_neg (by simp), wrap_succ (by omega)]
    exact ih k (n + 1) (by omega) (by omega)
theorem samePairs_refl (l : List S71) (hl : l.length ≤ 1000000) {k : Nat} (hk : l.length < k) : tattingref1_SamePairs.f k l l = some true := by
  unfold tattingref1_SamePairs.f
  rw [if_pos rfl]
  exact samePairs_refl_l0 l hl l.length k 0 (by omega) hk
/-! walk's way back through the rows of bits -/
theorem walk_step (R : Nat → List Int) (a b : List Int) (n i j : Nat) : walk_path R a b (n + 1) (i + 1) (j + 1) = if bt (R (i + 1)) j = true then walk_path R a b n (i + 1) j else if rd a (i : Int) = rd b (j : Int) then walk_path R a b n i j ++ [⟨(i : Int), (j : Int)⟩] else walk_path R a b n i (j + 1) := by
  rw [walk_path]; rfl
theorem wpath_congr {R T : Nat → List Int} (a b : List Int) : ∀ n i j, (∀ i', i' ≤ i → R i' = T i') → walk_path R a b n i j = walk_path T a b n i j
  | 0, _, _, _ => rfl
  | _ + 1, 0, _, _ => rfl
  | _ + 1, _ + 1, 0, _ => rfl
  | n + 1, i + 1, j + 1, h => by
    rw [walk_step, walk_step, h (i + 1) (Nat.le_refl _), wpath_congr a b n (i + 1) j h, wpath_congr a b n i j (fun i' q => h i' (by omega)), wpath_congr a b n i (j + 1) (fun i' q => h i' (by omega))]
theorem wpath_good (a b : List Int) (R : Nat → List Int) (hR : ∀ i, i ≤ a.length → ∀ j, j < b.length → bt (R i) j = decide (Fr a b i (j + 1) = Fr a b i j)) : ∀ n i j, i + j ≤ n → i ≤ a.length → j ≤ b.length →
    GoodFrom a b 0 0 (walk_path R a b n i j) ∧ endI 0 (walk_path R a b n i j) ≤ (i : Int) ∧ endJ 0 (walk_path R a b n i j) ≤ (j : Int) ∧ (walk_path R a b n i j).length = Fr a b i j
  | 0, i, j, h, _, _ => by
    obtain rfl : i = 0 := by omega
    obtain rfl : j = 0 := by omega
    exact ⟨trivial, Int.le_refl _, Int.le_refl _, (Fr_none a b 0).symm⟩
  | _ + 1, 0, j, _, _, _ => ⟨trivial, Int.le_refl _, Int.natCast_nonneg _, (Fr_none a b j).symm⟩
  | _ + 1, i + 1, 0, _, _, _ => ⟨trivial, Int.natCast_nonneg _, Int.le_refl _, (Fr_zero a b (i + 1)).symm⟩
  | n + 1, i + 1, j + 1, h, hi, hj => by
    have hb := hR (i + 1) hi j (by omega)
    have hn := Fr_next a b (show i < a.length by omega) (show j < b.length by omega)
    rw [walk_step]
    by_cases c : Fr a b (i + 1) (j + 1) = Fr a b (i + 1) j
    · rw [hb, decide_eq_true c, if_pos rfl, c]
      obtain ⟨g1, g2, g3, g4⟩ := wpath_good a b R hR n (i + 1) j (by omega) hi (by omega)
      exact ⟨g1, g2, by omega, g4⟩
    · rw [hb, decide_eq_false c, if_neg (by decide)]
      by_cases e : rd a (i : Int) = rd b (j : Int)
      · rw [if_pos e]
        rw [if_pos e.symm] at hn
        obtain ⟨g1, g2, g3, g4⟩ := wpath_good a b R hR n i j (by omega) (by omega) (by omega)
        refine ⟨goodFrom_append a b _ _ 0 0 g1 ⟨g2, by show (i : Int) < _; omega, g3, by show (j : Int) < _; omega, e, trivial⟩, ?_, ?_, by rw [List.length_append, g4, hn]; rfl⟩
        · rw [endI_append]; show (i : Int) + 1 ≤ _; omega
        · rw [endJ_append]; show (j : Int) + 1 ≤ _; omega
      · rw [if_neg e]
        rw [if_neg (fun q => e q.symm)] at hn
        obtain ⟨g1, g2, g3, g4⟩ := wpath_good a b R hR n i (j + 1) (by omega) (by omega) hj
        have hs := Fr_step a b (i + 1) (show j < b.length by omega)
        exact ⟨g1, by omega, g3, by omega⟩
/-- Both ways to reckon the rows lead to the same list: good, and as long as may be. -/
theorem walk_list (a b : List Int) : walk_path (Vec.rowAt Vec.hyRow a b) a b (a.length + b.length) a.length b.length = walk_path (Vec.rowAt Vec.crRow a b) a b (a.length + b.length) a.length b.length ∧
    GoodFrom a b 0 0 (walk_path (Vec.rowAt Vec.hyRow a b) a b (a.length + b.length) a.length b.length) ∧ (walk_path (Vec.rowAt Vec.hyRow a b) a b (a.length + b.length) a.length b.length).length = L a b := by
  obtain ⟨g1, _, _, g4⟩ := wpath_good a b (Vec.rowAt Vec.hyRow a b) (fun i hi j hj => (rowAt_bits a b i hi j hj).1) (a.length + b.length) a.length b.length (Nat.le_refl _) (Nat.le_refl _) (Nat.le_refl _)
  refine ⟨wpath_congr a b _ _ _ (fun i hi => rowAt_same a b i hi), g1, ?_⟩
  rw [g4]
  unfold Fr
  rw [List.take_of_length_le (Nat.le_refl _), List.take_of_length_le (Nat.le_refl _)]
theorem wf_u8 {x : Int} (h : (Lit.int .u8 x).wf = true) : 0 ≤ x ∧ x < 256 := by
  simp [Lit.wf, IntKind.min, IntKind.max, IntKind.signed, IntKind.bits] at h
  omega
theorem wf_in (n : Int) (h1 : n ≤ 1000000) (l : List Int) (h : ∀ x ∈ l, 0 ≤ x ∧ x < n) : ∀ x ∈ l, (Lit.int .i64 x).wf = true := by
  intro x hx
  have := h x hx
  simp only [Lit.wf, IntKind.min, IntKind.max, IntKind.signed, IntKind.bits, Bool.and_eq_true, decide_eq_true_eq]
  simp
  omega
theorem steps_some (n m : Nat) : ∃ q, hyyro_Steps.f (n : Int) (m : Int) = some q ∧ croch_Steps.f (n : Int) (m : Int) = some q := by
  have i : ∀ n : Nat, hyyro_is.f (n : Int) = some (decide ((n : Int) ≤ 1048576)) ∧ croch_is.f (n : Int) = some (decide ((n : Int) ≤ 1048576)) := by
    intro n
    unfold hyyro_is.f croch_is.f
    exact ⟨if_pos (Int.natCast_nonneg n), if_pos (Int.natCast_nonneg n)⟩
  obtain ⟨t, ht⟩ : ∃ t, vec_Words.f (m : Int) = some t := ⟨_, rfl⟩
  unfold hyyro_Steps.f croch_Steps.f
  rw [(i n).1, (i n).2, Option.bind_some, Option.bind_some]
  by_cases h1 : decide ((n : Int) ≤ 1048576) = true
  · rw [if_pos h1, if_pos h1, (i m).1, (i m).2, Option.bind_some]
    by_cases h2 : decide ((m : Int) ≤ 1048576) = true
    · rw [if_pos h2, ht]; exact ⟨_, rfl, rfl⟩
    · rw [if_neg h2]; exact ⟨_, rfl, rfl⟩
  · rw [if_neg h1, if_neg h1]; exact ⟨_, rfl, rfl⟩
theorem every_in (a : Int) (h : 0 ≤ a ∧ a < 256) : 1 ≤ wrap64 (1 + (Int.tmod (wrap64 a) 60)) ∧ wrap64 (1 + (Int.tmod (wrap64 a) 60)) ≤ 1000000 := by
  rw [wrap_id (i := a) (by omega) (by omega), Int.tmod_eq_emod_of_nonneg h.1, wrap_id (by omega) (by omega)]
  omega
theorem TopWords : tattingtop_TopWords.Pure := by
  intro a b c d _ _ _ _ _ _ wc wd
  refine ⟨30000, ?_⟩
  unfold tattingtop_TopWords.f tattingtop_awake.f
  rw [Option.bind_some, if_pos rfl]
  have skip : tattingtop_TopWords.j0 30000 a b c d true = some true := by simp [tattingtop_TopWords.j0]
  by_cases h1 : (a.length : Int) > 40
  · rw [if_pos h1]; exact skip
  rw [if_neg h1]
  by_cases h2 : (b.length : Int) > 130
  · rw [decide_eq_true h2]; exact skip
  rw [decide_eq_false h2]
  clear skip
  have hc := every_in c (wf_u8 wc)
  have hd := every_in d (wf_u8 wd)
  simp only [tattingtop_TopWords.j0]
  generalize wrap64 (1 + (Int.tmod (wrap64 c) 60)) = e at *
  generalize wrap64 (1 + (Int.tmod (wrap64 d) 60)) = f at *
  have lx : (fewOf a 3).length ≤ 40 := by rw [fewOf_length]; omega
  have ly : (fewOf b 3).length ≤ 130 := by rw [fewOf_length]; omega
  have rx := wf_in 3 (by decide) _ (fewOf_range a 3 (by decide))
  have ry := wf_in 3 (by decide) _ (fewOf_range b 3 (by decide))
  rw [if_neg (by decide), few a 3 (by decide) (by decide) (by omega) (by omega), Option.bind_some, few b 3 (by decide) (by decide) (by omega) (by omega), Option.bind_some]
  generalize fewOf a 3 = x at *
  generalize fewOf b 3 = y at *
  obtain ⟨q, q1, q2⟩ := steps_some x.length y.length
  obtain ⟨p1, p2, p3⟩ := walk_list x y
  have hL := L_le_left x y
  have e0 : walk_Run.f 29999 0 x y e = some (walk_path (Vec.rowAt Vec.hyRow x y) x y (x.length + y.length) x.length y.length, wrap64 (2 * q), 0) := by
    unfold walk_Run.f
    rw [if_pos ⟨Or.inl rfl, hc.1, hc.2, by omega, by omega, List.all_eq_true.mpr rx, List.all_eq_true.mpr ry⟩, q1, Option.bind_some, if_neg (by decide)]
  have e1 : walk_Run.f 29999 1 x y f = some (walk_path (Vec.rowAt Vec.hyRow x y) x y (x.length + y.length) x.length y.length, wrap64 (2 * q), 0) := by
    unfold walk_Run.f
    rw [if_pos ⟨Or.inr rfl, hd.1, hd.2, by omega, by omega, List.all_eq_true.mpr rx, List.all_eq_true.mpr ry⟩, q1, Option.bind_some, if_pos rfl, p1]
  have hy : hyyro_Rows.f x y = some (Vec.rows Vec.hyRow x y x.length) := by
    unfold hyyro_Rows.f
    rw [if_pos ⟨by omega, by omega, List.all_eq_true.mpr rx, List.all_eq_true.mpr ry⟩]
  have hr : croch_Rows.f x y = some (Vec.rows Vec.crRow x y x.length) := by
    unfold croch_Rows.f
    rw [if_pos ⟨by omega, by omega, List.all_eq_true.mpr rx, List.all_eq_true.mpr ry⟩]
  obtain ⟨l1, l2⟩ := lens x y (by omega) (by omega) rx ry (k := 29999) (by omega)
  rw [e0, Option.bind_some, e1, Option.bind_some]
  generalize walk_path (Vec.rowAt Vec.hyRow x y) x y (x.length + y.length) x.length y.length = l at *
  simp only []
  rw [if_pos trivial, if_pos trivial, if_pos trivial, q1, Option.bind_some, q2, Option.bind_some, if_pos (by rw [Int.two_mul]), samePairs_refl l (by omega) (by omega), Option.bind_some, if_pos rfl, hy, Option.bind_some, hr, Option.bind_some, sameRows x y (by omega) (by omega) (by omega), Option.bind_some, if_pos rfl, refGood x y l (by omega) p2 (by omega), Option.bind_some, if_pos rfl, l1, Option.bind_some, if_pos (by omega), l2, Option.bind_some, p3, beq_self_eq_true]
end Go.Proofs.YtjkjanegankdhaaGreat.Pure
