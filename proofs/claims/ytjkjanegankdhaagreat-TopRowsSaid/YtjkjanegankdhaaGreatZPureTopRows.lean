/- For every two lists of at most 40 and 130 numbers, brought to four: the last rows of five engines tell one another. -/
import Derived.Test.YtjkjanegankdhaaGreatZPTopRowsx5
import Derived.Test.YtjkjanegankdhaaGreatZWSized
namespace Go.Proofs.YtjkjanegankdhaaGreat.PrintWords
end Go.Proofs.YtjkjanegankdhaaGreat.PrintWords
namespace Go.Proofs.YtjkjanegankdhaaGreat.Pure
open Go.RowKit Go.Proofs.YtjkjanegankdhaaGreat.PTopRows Go.Proofs.YtjkjanegankdhaaGreatW.PrintWords Go.Proofs.YtjkjanegankdhaaGreatW.PrintLast Go.Proofs.YtjkjanegankdhaaGreatW.PrintMore
set_option linter.unusedVariables false
set_option linter.unusedSimpArgs false
theorem wrap_id {i : Int} (h0 : -9223372036854775808 ≤ i) (h1 : i < 9223372036854775808) : wrap64 i = i := by unfold wrap64; omega
theorem wrap_succ {n : Nat} (h : n < 9223372036854775807) : wrap64 ((n : Int) + 1) = ((n + 1 : Nat) : Int) := by unfold wrap64; omega
theorem rd_at (l : List Int) {n : Nat} (h : n < l.length) : rd l (n : Int) = l[n] := by
  unfold rd; rw [Int.toNat_natCast, List.getD_eq_getElem?_getD, List.getElem?_eq_getElem h]; rfl
theorem rd_d (l : List Int) (n : Nat) : rd l (n : Int) = l.getD n 0 := rfl
theorem rd_out (l : List Int) {n : Nat} (h : l.length ≤ n) : rd l (n : Int) = 0 := by
  rw [rd_d, List.getD_eq_getElem?_getD, List.getElem?_eq_none h]; rfl
theorem drop_rd (l : List Int) {n : Nat} (h : n < l.length) : l.drop n = rd l (n : Int) :: l.drop (n + 1) := by
  rw [rd_at l h]; exact List.drop_eq_getElem_cons h
theorem take_rd (l : List Int) {n : Nat} (h : n < l.length) : l.take (n + 1) = l.take n ++ [rd l (n : Int)] := by
  rw [rd_at l h, List.take_succ_eq_append_getElem h]
theorem rd_app_lt (l : List Int) (x : Int) {n : Nat} (h : n < l.length) : rd (l ++ [x]) (n : Int) = rd l (n : Int) := by
  rw [rd_at _ (by rw [List.length_append]; omega), rd_at _ h, List.getElem_append_left h]
theorem rd_app_eq (l : List Int) (x : Int) : rd (l ++ [x]) (l.length : Int) = x := by
  rw [rd_at _ (by rw [List.length_append, List.length_singleton]; omega)]; simp
theorem rd_app (l : List Int) (x : Int) (n : Nat) (h : n ≤ l.length) : rd (l ++ [x]) (n : Int) = if n = l.length then x else rd l (n : Int) := by
  by_cases e : n = l.length
  · rw [if_pos e, e, rd_app_eq]
  · rw [if_neg e, rd_app_lt _ _ (by omega)]
theorem rd_set (l : List Int) (i n : Nat) (x : Int) (h : n < l.length) : rd (l.set i x) (n : Int) = if n = i then x else rd l (n : Int) := by
  rw [rd_at _ (by rw [List.length_set]; exact h), rd_at _ h, List.getElem_set]
  by_cases e : n = i
  · rw [if_pos e, if_pos e.symm]
  · rw [if_neg e, if_neg (fun q => e q.symm)]
theorem rd_replicate (m n : Nat) (x : Int) (h : n < m) : rd (List.replicate m x) (n : Int) = x := by
  rw [rd_at _ (by rw [List.length_replicate]; exact h), List.getElem_replicate]
theorem list_ext {l m : List Int} (h : l.length = m.length) (k : ∀ n : Nat, n < l.length → rd l (n : Int) = rd m (n : Int)) : l = m := by
  apply List.ext_getElem h
  intro i h1 h2
  have := k i h1
  rwa [rd_at _ h1, rd_at _ h2] at this
/-- At least one round. -/
theorem round {k d : Nat} (h : d < k) : ∃ m, k = m + 1 := ⟨k - 1, by omega⟩
/-- The comparison of two lists answers whether they are equal. -/
theorem sameInts_l0 (a b : List Int) (hl : a.length = b.length) (hm : a.length ≤ 9223372036854775806) (d : Nat) : ∀ (k n : Nat), n + d = a.length → d < k → tattingref1_SameInts.l0 k a b (n : Int) = some (decide (a.drop n = b.drop n)) := by
  induction d with
  | zero =>
    intro k n hn hk
    obtain ⟨k, rfl⟩ := round hk
    simp only [tattingref1_SameInts.l0]
    rw [if_neg (by omega), List.drop_eq_nil_of_le (by omega), List.drop_eq_nil_of_le (by omega)]; rfl
  | succ d ih =>
    intro k n hn hk
    obtain ⟨k, rfl⟩ := round hk
    simp only [tattingref1_SameInts.l0]
    rw [if_pos (by omega), if_pos (by omega), if_pos (by omega)]
    rw [drop_rd a (by omega), drop_rd b (by omega)]
    by_cases h : rd a (n : Int) = rd b (n : Int)
    · rw [if_pos h, wrap_succ (by omega), ih k (n + 1) (by omega) (by omega), h]
      simp
    · rw [if_neg h]
      simp [h]
theorem sameInts (a b : List Int) (hm : a.length ≤ 9223372036854775806) {k : Nat} (hk : a.length < k) : tattingref1_SameInts.f k a b = some (decide (a = b)) := by
  unfold tattingref1_SameInts.f
  by_cases h : a.length = b.length
  · rw [if_pos (by omega)]
    exact sameInts_l0 a b h hm a.length k 0 (by omega) hk
  · rw [if_neg (by omega)]
    congr 1
    rw [eq_comm, decide_eq_false_iff_not]
    intro e; exact h (by rw [e])
/-- The numbers brought to a few. -/
def fewOf (l : List Int) (n : Int) : List Int := l.map (· % n)
theorem fewOf_length (l : List Int) (n : Int) : (fewOf l n).length = l.length := by unfold fewOf; rw [List.length_map]
theorem fewOf_range (l : List Int) (n : Int) (hn : 0 < n) : ∀ x ∈ fewOf l n, 0 ≤ x ∧ x < n := by
  intro x hx
  unfold fewOf at hx
  obtain ⟨y, _, rfl⟩ := List.mem_map.mp hx
  exact ⟨Int.emod_nonneg y (by omega), Int.emod_lt_of_pos y hn⟩
theorem tmod_emod (x n : Int) (hn : 0 < n) : (if Int.tmod x n < 0 then Int.tmod x n + n else Int.tmod x n) = x % n := by
  have h0 := Int.emod_nonneg x (show n ≠ 0 by omega)
  have h1 := Int.emod_lt_of_pos x hn
  have h := Int.tmod_eq_emod (a := x) (b := n)
  by_cases c : 0 ≤ x ∨ n ∣ x
  · rw [if_pos c] at h; rw [if_neg (by omega)]; omega
  · rw [if_neg c] at h; rw [if_pos (by omega)]; omega
theorem few_l0 (l : List Int) (n : Int) (hn : 0 < n) (hn' : n ≤ 1000000) (hl : l.length ≤ 1000000) (d : Nat) : ∀ (k i : Nat) (out : List Int), i + d = l.length → d < k → out.length = i → tattingref1_Few.l0 k l n out (i : Int) = some (out ++ fewOf (l.drop i) n) := by
  induction d with
  | zero =>
    intro k i out hi hk ho
    obtain ⟨k, rfl⟩ := round hk
    simp only [tattingref1_Few.l0]
    rw [if_neg (by omega), List.drop_eq_nil_of_le (by omega)]
    simp [fewOf]
  | succ d ih =>
    intro k i out hi hk ho
    obtain ⟨k, rfl⟩ := round hk
    simp only [tattingref1_Few.l0]
    rw [if_pos (by omega), if_pos (by omega), if_neg (by omega), drop_rd l (by omega)]
    have h := tmod_emod (rd l (i : Int)) n hn
    have h0 := Int.emod_nonneg (rd l (i : Int)) (show n ≠ 0 by omega)
    have h1 := Int.emod_lt_of_pos (rd l (i : Int)) hn
    have e : fewOf (rd l (i : Int) :: l.drop (i + 1)) n = (rd l (i : Int) % n) :: fewOf (l.drop (i + 1)) n := rfl
    rw [e]
    by_cases c : Int.tmod (rd l (i : Int)) n < 0
    · rw [if_pos c] at h
      rw [if_pos c, if_pos (by omega), wrap_succ (by omega), wrap_id (by omega) (by omega), h, ih k (i + 1) _ (by omega) (by omega) (by rw [List.length_append, List.length_singleton]; omega)]
      simp
    · rw [if_neg c] at h
      rw [if_neg c, if_pos (by omega), wrap_succ (by omega), h, ih k (i + 1) _ (by omega) (by omega) (by rw [List.length_append, List.length_singleton]; omega)]
      simp
theorem few (l : List Int) (n : Int) (hn : 0 < n) (hn' : n ≤ 1000000) (hl : l.length ≤ 1000000) {k : Nat} (hk : l.length < k) : tattingref1_Few.f k l n = some (fewOf l n) := by
  have h := few_l0 l n hn hn' hl l.length k 0 [] (by omega) hk rfl
  rwa [List.nil_append, List.drop_zero] at h
/-- The longest common subsequence's length. -/
def L : List Int → List Int → Nat
  | [], _ => 0
  | _ :: _, [] => 0
  | x :: xs, y :: ys => if x = y then L xs ys + 1 else max (L xs (y :: ys)) (L (x :: xs) ys)
termination_by a b => a.length + b.length
theorem L_nil_left (b : List Int) : L [] b = 0 := by rw [L]
theorem L_nil_right (a : List Int) : L a [] = 0 := by cases a <;> rw [L]
theorem L_cons_eq (x : Int) (xs ys : List Int) : L (x :: xs) (x :: ys) = L xs ys + 1 := by rw [L, if_pos rfl]
theorem L_cons_ne {x y : Int} (h : x ≠ y) (xs ys : List Int) : L (x :: xs) (y :: ys) = max (L xs (y :: ys)) (L (x :: xs) ys) := by rw [L, if_neg h]
theorem L_ub (a b : List Int) : ∀ s : List Int, s.Sublist a → s.Sublist b → s.length ≤ L a b := by
  induction a, b using L.induct with
  | case1 b => intro s h _; rw [List.sublist_nil.mp h]; simp
  | case2 x xs => intro s _ h; rw [List.sublist_nil.mp h]; simp
  | case3 xs y ys ih =>
    intro s h1 h2
    rw [L_cons_eq]
    have h3 := ih s.tail (by simpa using h1.tail) (by simpa using h2.tail)
    have h4 : s.length ≤ s.tail.length + 1 := by rw [List.length_tail]; omega
    omega
  | case4 x xs y ys hne ih1 ih2 =>
    intro s h1 h2
    rw [L_cons_ne hne]
    rcases List.sublist_cons_iff.mp h1 with h | ⟨r, rfl, hr⟩
    · have := ih1 s h h2; omega
    · rcases List.sublist_cons_iff.mp h2 with h | ⟨r', he, hr'⟩
      · have := ih2 _ h1 h; omega
      · injection he with he1 he2; exact absurd he1 hne
theorem L_has (a b : List Int) : ∃ s : List Int, s.Sublist a ∧ s.Sublist b ∧ s.length = L a b := by
  induction a, b using L.induct with
  | case1 b => exact ⟨[], by simp, by simp, by rw [L_nil_left]; rfl⟩
  | case2 x xs => exact ⟨[], by simp, by simp, by rw [L_nil_right]; rfl⟩
  | case3 xs y ys ih =>
    obtain ⟨s, h1, h2, h3⟩ := ih
    exact ⟨y :: s, h1.cons_cons y, h2.cons_cons y, by rw [L_cons_eq]; simp [h3]⟩
  | case4 x xs y ys hne ih1 ih2 =>
    obtain ⟨s, h1, h2, h3⟩ := ih1
    obtain ⟨t, k1, k2, k3⟩ := ih2
    rw [L_cons_ne hne]
    by_cases h : L (x :: xs) ys ≤ L xs (y :: ys)
    · exact ⟨s, h1.cons x, h2, by omega⟩
    · exact ⟨t, k1, k2.cons y, by omega⟩
theorem L_le_of (a b c d : List Int) (h : ∀ s : List Int, s.Sublist a → s.Sublist b → ∃ t : List Int, t.length = s.length ∧ t.Sublist c ∧ t.Sublist d) : L a b ≤ L c d := by
  obtain ⟨s, h1, h2, h3⟩ := L_has a b
  obtain ⟨t, k1, k2, k3⟩ := h s h1 h2
  have := L_ub c d t k2 k3
  omega
theorem L_mono {a b c d : List Int} (h : a.Sublist c) (k : b.Sublist d) : L a b ≤ L c d :=
  L_le_of _ _ _ _ fun s h1 h2 => ⟨s, rfl, h1.trans h, h2.trans k⟩
theorem L_comm (a b : List Int) : L a b = L b a :=
  Nat.le_antisymm (L_le_of _ _ _ _ fun s h k => ⟨s, rfl, k, h⟩) (L_le_of _ _ _ _ fun s h k => ⟨s, rfl, k, h⟩)
theorem L_rev_le (a b : List Int) : L a b ≤ L a.reverse b.reverse :=
  L_le_of _ _ _ _ fun s h k => ⟨s.reverse, by simp, h.reverse, k.reverse⟩
theorem L_rev (a b : List Int) : L a.reverse b.reverse = L a b :=
  Nat.le_antisymm (by simpa using L_rev_le a.reverse b.reverse) (L_rev_le a b)
theorem L_le_left (a b : List Int) : L a b ≤ a.length := by
  obtain ⟨s, h1, _, h3⟩ := L_has a b
  have := h1.length_le; omega
/-- One element more makes it at most one longer. -/
theorem L_cons_le (x : Int) (a b : List Int) : L (x :: a) b ≤ L a b + 1 := by
  obtain ⟨s, h1, h2, h3⟩ := L_has (x :: a) b
  have h := L_ub a b s.tail (by simpa using h1.tail) ((List.tail_sublist s).trans h2)
  rw [List.length_tail] at h
  omega
theorem L_cons_le' (y : Int) (a b : List Int) : L a (y :: b) ≤ L a b + 1 := by
  rw [L_comm a, L_comm a]; exact L_cons_le y b a
/-- The same, from the end. -/
theorem L_snoc_eq (x : Int) (a b : List Int) : L (a ++ [x]) (b ++ [x]) = L a b + 1 := by
  rw [← L_rev]; simp only [List.reverse_append, List.reverse_cons, List.reverse_nil, List.nil_append, List.singleton_append]; rw [L_cons_eq, L_rev]
theorem L_snoc_ne {x y : Int} (h : x ≠ y) (a b : List Int) : L (a ++ [x]) (b ++ [y]) = max (L a (b ++ [y])) (L (a ++ [x]) b) := by
  have e1 : L a (b ++ [y]) = L a.reverse (y :: b.reverse) := by rw [← L_rev]; simp
  have e2 : L (a ++ [x]) b = L (x :: a.reverse) b.reverse := by rw [← L_rev]; simp
  rw [← L_rev, e1, e2]; simp only [List.reverse_append, List.reverse_cons, List.reverse_nil, List.nil_append, List.singleton_append]; rw [L_cons_ne h]
theorem rdL_d (o : List (List Int)) (n : Nat) : rd_L3 o (n : Int) = o.getD n [] := rfl
/-- A list of so many numbers, each told by its place. -/
def tabulate (n : Nat) (f : Nat → Int) : List Int := (List.range n).map f
theorem tabulate_length (n : Nat) (f : Nat → Int) : (tabulate n f).length = n := by unfold tabulate; rw [List.length_map, List.length_range]
theorem rd_tabulate (n : Nat) (f : Nat → Int) (j : Nat) (h : j < n) : rd (tabulate n f) (j : Int) = f j := by
  rw [rd_at _ (by rw [tabulate_length]; exact h)]; unfold tabulate; rw [List.getElem_map, List.getElem_range]
theorem eq_tabulate (l : List Int) (n : Nat) (f : Nat → Int) (hl : l.length = n) (h : ∀ j, j < n → rd l (j : Int) = f j) : l = tabulate n f := by
  apply list_ext (by rw [hl, tabulate_length])
  intro j hj; rw [rd_tabulate _ _ _ (by omega), h j (by omega)]
/-- Number j of the next row. -/
def nxt (row : List Int) (sym : Int) (b : List Int) : Nat → Int
  | 0 => rd row ((0 : Nat) : Int)
  | j + 1 => if rd b (j : Int) = sym then wrap64 (rd row (j : Int) + 1) else mx (rd row ((j + 1 : Nat) : Int)) (nxt row sym b j)
/-- The row of a list. -/
def rowOf (a b : List Int) : List Int := tabulate (b.length + 1) fun j => (L a (b.take j) : Int)
theorem rowOf_length (a b : List Int) : (rowOf a b).length = b.length + 1 := tabulate_length _ _
theorem rd_rowOf (a b : List Int) (j : Nat) (h : j ≤ b.length) : rd (rowOf a b) (j : Int) = (L a (b.take j) : Int) := rd_tabulate _ _ _ (by omega)
theorem mx_nat' (x y : Nat) : mx (x : Int) (y : Int) = ((max x y : Nat) : Int) := by unfold mx; split <;> omega
theorem nxt_rowOf (a b : List Int) (x : Int) (ha : a.length ≤ 1000000) (j : Nat) (hj : j ≤ b.length) : nxt (rowOf a b) x b j = (L (a ++ [x]) (b.take j) : Int) := by
  induction j with
  | zero => rw [nxt, rd_rowOf _ _ _ (by omega), List.take_zero, L_nil_right, L_nil_right]
  | succ j ih =>
    have ih := ih (by omega)
    rw [nxt, ih, rd_rowOf _ _ _ (by omega), rd_rowOf _ _ _ (by omega), take_rd b (show j < b.length by omega)]
    have hl := L_le_left a (b.take j)
    by_cases e : rd b (j : Int) = x
    · rw [if_pos e, wrap_id (by omega) (by omega), e, L_snoc_eq]; omega
    · rw [if_neg e, mx_nat', L_snoc_ne (fun q => e q.symm)]
theorem next_rowOf (a b : List Int) (x : Int) (ha : a.length ≤ 1000000) : tabulate (b.length + 1) (nxt (rowOf a b) x b) = rowOf (a ++ [x]) b := by
  refine eq_tabulate _ _ _ (tabulate_length _ _) ?_
  intro j hj
  rw [rd_tabulate _ _ _ hj, nxt_rowOf a b x ha j (by omega)]
theorem rowOf_nil (b : List Int) : rowOf [] b = List.replicate (b.length + 1) 0 := by
  refine (eq_tabulate _ _ _ (by rw [List.length_replicate]) ?_).symm
  intro j hj; rw [rd_replicate _ _ _ hj, L_nil_left]; rfl
theorem rowsNext_l0 (row : List Int) (sym : Int) (b : List Int) (hr : row.length = b.length + 1) (hb : b.length ≤ 1000000) (d : Nat) : ∀ (k i : Nat) (t : List Int), i + d = b.length → d < k → t.length = b.length + 1 → (∀ j, j ≤ i → rd t (j : Int) = nxt row sym b j) →
    rows_Next.l0 k row sym t b (b.length : Int) (i : Int) = some (tabulate (b.length + 1) (nxt row sym b)) := by
  induction d with
  | zero =>
    intro k i t hi hk ht h
    obtain ⟨k, rfl⟩ := round hk
    simp only [rows_Next.l0]
    rw [if_neg (by omega)]
    exact congrArg some (eq_tabulate t _ _ ht (fun j hj => h j (by omega)))
  | succ d ih =>
    intro k i t hi hk ht h
    obtain ⟨k, rfl⟩ := round hk
    simp only [rows_Next.l0]
    have E1 := Aside0.mk (show wrap64 ((i : Int) + 1) = ((i + 1 : Nat) : Int) from wrap_succ (by omega))
    rw [E1.out, if_pos (by omega), if_pos (by omega), if_pos (by omega)]
    simp only [Int.toNat_natCast]
    have go : ∀ v, v = nxt row sym b (i + 1) → rows_Next.l0 k row sym (t.set (i + 1) v) b (b.length : Int) ((i + 1 : Nat) : Int) = some (tabulate (b.length + 1) (nxt row sym b)) := by
      intro v hv
      refine ih k (i + 1) _ (by omega) (by omega) (by rw [List.length_set]; exact ht) ?_
      intro j hj
      rw [rd_set _ _ _ _ (by omega)]
      by_cases e : j = i + 1
      · rw [if_pos e, hv, e]
      · rw [if_neg e]; exact h j (by omega)
    by_cases e : rd b (i : Int) = sym
    · rw [if_pos e, if_pos (by omega), if_pos (by omega), if_pos (by omega)]
      exact go _ (by rw [nxt, if_pos e])
    · rw [if_neg e, if_pos (by omega), if_pos (by omega), if_pos (by omega), if_pos (by omega)]
      exact go _ (by rw [nxt, if_neg e, h i (Nat.le_refl _)])
theorem rowsNext (row : List Int) (sym : Int) (b : List Int) (hr : row.length = b.length + 1) (hb : b.length ≤ 1000000) {k : Nat} (hk : b.length < k) : rows_Next.f k row sym b = some (tabulate (b.length + 1) (nxt row sym b)) := by
  unfold rows_Next.f
  rw [wrap_succ (by omega), if_pos (by omega), if_pos (by omega), if_pos (by omega), Option.bind_some, if_pos (by omega), if_pos (by rw [List.length_replicate]; omega)]
  refine rowsNext_l0 row sym b hr hb b.length k 0 _ (by omega) hk (by rw [List.length_set, List.length_replicate]; omega) ?_
  intro j hj
  rw [show j = 0 by omega]
  exact rd_set (List.replicate row.length 0) 0 0 (rd row 0) (by rw [List.length_replicate]; omega)
theorem rowsFront_l0 (a b : List Int) (ha : a.length ≤ 1000000) (hb : b.length ≤ 1000000) (d : Nat) : ∀ (k i : Nat), i + d = a.length → d + b.length + 1 < k → rows_Front.l0 k b (rowOf (a.take i) b) a (a.length : Int) (i : Int) = some (rowOf a b) := by
  induction d with
  | zero =>
    intro k i hi hk
    obtain ⟨k, rfl⟩ := round hk
    simp only [rows_Front.l0]
    rw [if_neg (by omega), List.take_of_length_le (by omega)]
  | succ d ih =>
    intro k i hi hk
    obtain ⟨k, rfl⟩ := round hk
    simp only [rows_Front.l0]
    have h := rowsNext (rowOf (a.take i) b) (rd a (i : Int)) b (rowOf_length _ _) hb (k := k) (by omega)
    rw [next_rowOf _ _ _ (by rw [List.length_take]; omega), ← take_rd a (show i < a.length by omega)] at h
    rw [if_pos (by omega), if_pos (by omega), if_pos (by omega), h, Option.bind_some, wrap_succ (by omega)]
    exact ih k (i + 1) (by omega) (by omega)
theorem rowsFront (a b : List Int) (ha : a.length ≤ 1000000) (hb : b.length ≤ 1000000) {k : Nat} (hk : a.length + b.length + 1 < k) : rows_Front.f k a b = some (rowOf a b) := by
  unfold rows_Front.f
  rw [wrap_succ (by omega), if_pos (by omega), if_pos (by omega), Int.toNat_natCast, ← rowOf_nil]
  have h := rowsFront_l0 a b ha hb a.length k 0 (by omega) hk
  rw [List.take_zero] at h; exact h
/-- The step from a place on is 0 or 1. -/
def okStep (row : List Int) (i : Nat) : Prop := rd row ((i + 1 : Nat) : Int) = rd row (i : Int) ∨ rd row ((i + 1 : Nat) : Int) > rd row (i : Int) ∧ wrap64 (rd row ((i + 1 : Nat) : Int) - 1) = rd row (i : Int)
instance (row : List Int) (i : Nat) : Decidable (okStep row i) := by unfold okStep; infer_instance
def stepAt (row : List Int) (i : Nat) : Int := if rd row ((i + 1 : Nat) : Int) = rd row (i : Int) then 0 else 1
/-- All steps are 0 or 1, from some place on. -/
def okFrom (row : List Int) (n i : Nat) : Prop := ∀ t, i ≤ t → t < n → okStep row t
theorem okFrom_succ {row : List Int} {n i : Nat} (h : okStep row i) : okFrom row n i ↔ okFrom row n (i + 1) :=
  ⟨fun q t ht => q t (by omega), fun q t ht ht' => if e : t = i then e ▸ h else q t (by omega) ht'⟩
/-- A row's steps. -/
def stepsOf (row : List Int) : List Int := tabulate (row.length - 1) (stepAt row)
theorem deltaOf_l0 (row : List Int) (n : Nat) (hn : row.length = n + 1) (hl : n ≤ 1000000) (d : Nat) : ∀ (k i : Nat) (t : List Int), i + d = n → d < k → t.length = n → (∀ j, j < n → rd t (j : Int) = if j < i then stepAt row j else 0) →
    (okFrom row n i → delta_Of.l0 k row t (n : Int) (i : Int) = some (stepsOf row, 0)) ∧ (¬ okFrom row n i → delta_Of.l0 k row t (n : Int) (i : Int) = some ([], 1)) := by
  induction d with
  | zero =>
    intro k i t hi hk ht h
    obtain ⟨k, rfl⟩ := round hk
    simp only [delta_Of.l0]
    rw [if_neg (by omega)]
    refine ⟨fun _ => ?_, fun q => absurd (fun t h1 h2 => by omega) q⟩
    have e : t = stepsOf row := eq_tabulate t _ _ (by omega) (fun j hj => by rw [h j (by omega), if_pos (by omega)])
    rw [e]
  | succ d ih =>
    intro k i t hi hk ht h
    obtain ⟨k, rfl⟩ := round hk
    simp only [delta_Of.l0]
    have E1 := Aside0.mk (show wrap64 ((i : Int) + 1) = ((i + 1 : Nat) : Int) from wrap_succ (by omega))
    rw [E1.out, if_pos (by omega), if_pos (by omega), if_pos (by omega), if_pos (by omega), if_pos (by omega)]
    by_cases c1 : rd row ((i + 1 : Nat) : Int) = rd row (i : Int)
    · rw [if_pos c1]
      have hs : okStep row i := Or.inl c1
      rw [okFrom_succ hs]
      refine ih k (i + 1) t (by omega) (by omega) ht ?_
      intro j hj
      rw [h j hj]
      by_cases e : j = i
      · rw [if_neg (by omega), if_pos (by omega), e, stepAt, if_pos c1]
      · by_cases c : j < i
        · rw [if_pos c, if_pos (by omega)]
        · rw [if_neg c, if_neg (by omega)]
    · rw [if_neg c1]
      by_cases c2 : rd row ((i + 1 : Nat) : Int) > rd row (i : Int)
      · rw [if_pos c2]
        by_cases c3 : wrap64 (rd row ((i + 1 : Nat) : Int) - 1) = rd row (i : Int)
        · have hs : okStep row i := Or.inr ⟨c2, c3⟩
          rw [if_pos c3, okFrom_succ hs, if_pos (by omega), Int.toNat_natCast]
          refine ih k (i + 1) _ (by omega) (by omega) (by rw [List.length_set]; exact ht) ?_
          intro j hj
          rw [rd_set _ _ _ _ (by omega), h j hj]
          by_cases e : j = i
          · rw [if_pos e, if_pos (by omega), e, stepAt, if_neg c1]
          · rw [if_neg e]
            by_cases c : j < i
            · rw [if_pos c, if_pos (by omega)]
            · rw [if_neg c, if_neg (by omega)]
        · rw [if_neg c3]
          exact ⟨fun q => absurd (q i (Nat.le_refl _) (by omega)) (fun z => z.elim c1 (fun z => c3 z.2)), fun _ => rfl⟩
      · rw [if_neg c2]
        exact ⟨fun q => absurd (q i (Nat.le_refl _) (by omega)) (fun z => z.elim c1 (fun z => c2 z.1)), fun _ => rfl⟩
theorem deltaOf (row : List Int) (h0 : row.length ≠ 0) (hl : row.length ≤ 1000000) {k : Nat} (hk : row.length < k) : (okFrom row (row.length - 1) 0 → delta_Of.f k row = some (stepsOf row, 0)) ∧ (¬ okFrom row (row.length - 1) 0 → delta_Of.f k row = some ([], 1)) := by
  unfold delta_Of.f
  have e : wrap64 ((row.length : Int) - 1) = ((row.length - 1 : Nat) : Int) := by rw [wrap_id (by omega) (by omega)]; omega
  rw [e, if_neg (by omega), if_pos (by omega), if_pos (by omega), Option.bind_some, Int.toNat_natCast, List.length_replicate]
  exact deltaOf_l0 row (row.length - 1) (by omega) (by omega) (row.length - 1) k 0 _ (by omega) (by omega) (by rw [List.length_replicate]) (fun j hj => by rw [rd_replicate _ _ _ hj, if_neg (by omega)])
/-- The places of a number in a list, from some place on. -/
def pos (s : Int) : List Int → Nat → List Int
  | [], _ => []
  | x :: xs, i => if x = s then (i : Int) :: pos s xs (i + 1) else pos s xs (i + 1)
theorem pos_length (s : Int) (b : List Int) (i : Nat) : (pos s b i).length ≤ b.length := by
  induction b generalizing i with
  | nil => simp [pos]
  | cons x xs ih => rw [pos]; have := ih (i + 1); split <;> simp <;> omega
theorem isNaN0 (x : Int) : cmp_isNaN_int.f x = some false := by unfold cmp_isNaN_int.f; simp
theorem isNaN1 (x : Int) : slices_isNaN_int.f x = some false := by unfold slices_isNaN_int.f; simp
theorem less_f (x y : Int) : cmp_Less_int.f x y = some (decide (x < y)) := by
  unfold cmp_Less_int.f; rw [isNaN0]; simp
/-- A list that rises. -/
def Rising (l : List Int) : Prop := ∀ i j : Nat, i < j → j < l.length → rd l (i : Int) < rd l (j : Int)
theorem bs_l0 (l : List Int) (x : Int) (hl : l.length ≤ 1000000) (hs : Rising l) (d : Nat) : ∀ (k lo hi : Nat), hi - lo ≤ d → lo ≤ hi → hi ≤ l.length → d < k → (∀ t : Nat, t < lo → rd l (t : Int) < x) → (∀ t : Nat, hi ≤ t → t < l.length → x ≤ rd l (t : Int)) →
    ∃ (r : Nat), slices_BinarySearch_int_int.l0 k l x (l.length : Int) (lo : Int) (hi : Int) = some ((r : Int), decide (r < l.length ∧ rd l (r : Int) = x)) ∧ r ≤ l.length ∧ (∀ t : Nat, t < r → rd l (t : Int) < x) ∧ (∀ t : Nat, r ≤ t → t < l.length → x ≤ rd l (t : Int)) := by
  induction d with
  | zero =>
    intro k lo hi hd hlh hh hk h1 h2
    obtain ⟨k, rfl⟩ := round hk
    have e : lo = hi := by omega
    refine ⟨lo, ?_, by omega, h1, fun t ht => h2 t (by omega)⟩
    simp only [slices_BinarySearch_int_int.l0]
    rw [if_neg (by omega)]
    by_cases c : lo < l.length
    · rw [if_pos (by omega), if_pos (by omega), if_pos (by omega)]
      by_cases q : rd l (lo : Int) = x
      · rw [if_pos q, decide_eq_true ⟨c, q⟩]
      · rw [if_neg q, isNaN1, decide_eq_false (fun z => q z.2)]; simp
    · rw [if_neg (by omega), decide_eq_false (fun z => c z.1)]
  | succ d ih =>
    intro k lo hi hd hlh hh hk h1 h2
    obtain ⟨k, rfl⟩ := round hk
    by_cases c : lo < hi
    · simp only [slices_BinarySearch_int_int.l0]
      have hm : wrap64 (IntKind.u64.wrap (wrap64 ((lo : Int) + (hi : Int))) / 2) = (((lo + hi) / 2 : Nat) : Int) := by
        rw [wrap_id (i := (lo : Int) + hi) (by omega) (by omega), IntWalk.u64_in _ (by omega), wrap_id (by omega) (by omega)]; omega
      have hm1 : (lo + hi) / 2 < l.length := by omega
      rw [hm, if_pos (by omega), if_pos (by omega), if_pos (by omega), less_f]
      simp only [Option.bind_some, decide_eq_true_eq]
      by_cases q : rd l (((lo + hi) / 2 : Nat) : Int) < x
      · rw [if_pos q, wrap_succ (by omega)]
        refine ih k ((lo + hi) / 2 + 1) hi (by omega) (by omega) hh (by omega) ?_ h2
        intro t ht
        by_cases e : t = (lo + hi) / 2
        · rw [e]; exact q
        · have := hs t ((lo + hi) / 2) (by omega) hm1; omega
      · rw [if_neg q]
        refine ih k lo ((lo + hi) / 2) (by omega) (by omega) (by omega) (by omega) h1 ?_
        intro t ht htl
        by_cases e : t = (lo + hi) / 2
        · rw [e]; omega
        · have := hs ((lo + hi) / 2) t (by omega) htl; omega
    · refine ⟨lo, ?_, by omega, h1, fun t ht => h2 t (by omega)⟩
      simp only [slices_BinarySearch_int_int.l0]
      rw [if_neg (by omega)]
      by_cases c' : lo < l.length
      · rw [if_pos (by omega), if_pos (by omega), if_pos (by omega)]
        by_cases q : rd l (lo : Int) = x
        · rw [if_pos q, decide_eq_true ⟨c', q⟩]
        · rw [if_neg q, isNaN1, decide_eq_false (fun z => q z.2)]; simp
      · rw [if_neg (by omega), decide_eq_false (fun z => c' z.1)]
theorem bs (l : List Int) (x : Int) (hl : l.length ≤ 1000000) (hs : Rising l) {k : Nat} (hk : l.length < k) :
    ∃ (r : Nat), slices_BinarySearch_int_int.f k l x = some ((r : Int), decide (r < l.length ∧ rd l (r : Int) = x)) ∧ r ≤ l.length ∧ (∀ t : Nat, t < r → rd l (t : Int) < x) ∧ (∀ t : Nat, r ≤ t → t < l.length → x ≤ rd l (t : Int)) := by
  exact bs_l0 l x hl hs l.length k 0 l.length (by omega) (by omega) (by omega) hk (fun t ht => by omega) (fun t ht => by omega)
/-- The places below j that the list holds are as many as F tells. -/
def Cnt (t : List Int) (n : Nat) (F : Nat → Nat) : Prop := t.length = F n ∧ ∀ i : Nat, i < t.length → ∀ j : Nat, j ≤ n → (rd t (i : Int) < (j : Int) ↔ i < F j)
/-- From none on, step by step. -/
def Stair (n : Nat) (F : Nat → Nat) : Prop := F 0 = 0 ∧ ∀ j : Nat, j < n → F j ≤ F (j + 1) ∧ F (j + 1) ≤ F j + 1
theorem Stair.le {n : Nat} {F : Nat → Nat} (h : Stair n F) (d : Nat) : ∀ i : Nat, i + d ≤ n → F i ≤ F (i + d) := by
  induction d with
  | zero => intro i _; exact Nat.le_refl _
  | succ d ih =>
    intro i hi
    have := ih i (by omega)
    have := (h.2 (i + d) (by omega)).1
    rw [show i + (d + 1) = i + d + 1 by omega]; omega
theorem Stair.mono {n : Nat} {F : Nat → Nat} (h : Stair n F) {i j : Nat} (hij : i ≤ j) (hj : j ≤ n) : F i ≤ F j := by
  have := h.le (j - i) i (by omega)
  rw [show i + (j - i) = j by omega] at this; exact this
theorem Stair.top {n : Nat} {F : Nat → Nat} (h : Stair n F) : F n ≤ n := by
  have : ∀ j : Nat, j ≤ n → F j ≤ j := by
    intro j
    induction j with
    | zero => intro _; rw [h.1]; omega
    | succ j ih => intro hj; have := ih (by omega); have := (h.2 j (by omega)).2; omega
  exact this n (Nat.le_refl n)
theorem Cnt.val {t : List Int} {n : Nat} {F : Nat → Nat} (hs : Stair n F) (h : Cnt t n F) {i : Nat} (hi : i < t.length) : ∃ v : Nat, rd t (i : Int) = (v : Int) ∧ v < n ∧ F v = i ∧ F (v + 1) = i + 1 := by
  have h0 := (h.2 i hi 0 (by omega))
  have h1 := (h.2 i hi n (by omega))
  rw [hs.1] at h0
  have hl := h.1
  have z0 : ¬ rd t (i : Int) < ((0 : Nat) : Int) := fun q => by have := h0.1 q; omega
  have z1 : rd t (i : Int) < (n : Int) := h1.2 (by omega)
  obtain ⟨v, hv⟩ : ∃ v : Nat, rd t (i : Int) = (v : Int) := ⟨(rd t (i : Int)).toNat, by omega⟩
  have hvn : v < n := by omega
  have h2 := h.2 i hi v (by omega)
  have h3 := h.2 i hi (v + 1) (by omega)
  have h4 := hs.2 v hvn
  rw [hv] at h2 h3
  have e2 : ¬ i < F v := fun q => by have := h2.2 q; omega
  have e3 : i < F (v + 1) := h3.1 (by omega)
  exact ⟨v, hv, hvn, by omega, by omega⟩
theorem Cnt.rising {t : List Int} {n : Nat} {F : Nat → Nat} (hs : Stair n F) (h : Cnt t n F) : Rising t := by
  intro i j hij hj
  obtain ⟨v, hv, hvn, hf, _⟩ := h.val hs hj
  rw [hv]
  exact (h.2 i (by omega) v (by omega)).2 (by omega)
theorem Cnt.one {t u : List Int} {n : Nat} {F : Nat → Nat} (hs : Stair n F) (h : Cnt t n F) (k : Cnt u n F) : t = u := by
  have hl : t.length = u.length := by rw [h.1, k.1]
  refine list_ext hl fun i hi => ?_
  obtain ⟨v, hv, hvn, hf, _⟩ := h.val hs hi
  obtain ⟨w, hw, hwn, hg, _⟩ := k.val hs (show i < u.length by omega)
  have a1 := h.2 i hi (w + 1) (by omega)
  have a2 := k.2 i (by omega) (v + 1) (by omega)
  have a3 := h.2 i hi (v + 1) (by omega)
  have a4 := k.2 i (by omega) (w + 1) (by omega)
  rw [hv] at a1 a3 ⊢
  rw [hw] at a2 a4 ⊢
  have b1 : (v : Int) < ((w + 1 : Nat) : Int) := a1.2 (a4.1 (by omega))
  have b2 : (w : Int) < ((v + 1 : Nat) : Int) := a2.2 (a3.1 (by omega))
  omega
/-- What the count is when the place m is put. -/
def putF (F : Nat → Nat) (m j : Nat) : Nat := if j ≤ m then F j else max (F j) (F m + 1)
theorem Cnt.put {t : List Int} {n : Nat} {F : Nat → Nat} (hs : Stair n F) (h : Cnt t n F) (hn : n ≤ 100000) {m : Nat} (hm : m < n) {k : Nat} (hk : t.length < k) :
    ∃ i q, thresh_Find.f k t (m : Int) = some i ∧ thresh_put.f t (m : Int) i = some q ∧ Cnt q n (putF F m) := by
  have ht := hs.top
  have hl := h.1
  obtain ⟨r, r1, r2, r3, r4⟩ := bs t (m : Int) (by omega) (h.rising hs) hk
  have hF : F m ≤ F n := hs.mono (by omega) (Nat.le_refl n)
  have e : r = F m := by
    by_cases c : r < F m
    · have := (h.2 r (by omega) m (by omega)).2 c
      have := r4 r (Nat.le_refl r) (by omega); omega
    · by_cases c' : F m < r
      · have := (h.2 (F m) (by omega) m (by omega)).1 (r3 (F m) c'); omega
      · omega
  subst e
  have hf : thresh_Find.f k t (m : Int) = some ((F m : Nat) : Int) := by
    unfold thresh_Find.f
    rw [r1, Option.bind_some]
  by_cases c : F m = t.length
  · refine ⟨_, t ++ [(m : Int)], hf, ?_, ?_, ?_⟩
    · unfold thresh_put.f
      rw [if_pos (by omega), if_pos (by omega)]
    · rw [List.length_append, List.length_singleton, putF, if_neg (by omega)]
      have : F n = F m := by omega
      omega
    · intro i hi j hj
      rw [putF]
      rw [List.length_append, List.length_singleton] at hi
      rw [rd_app t _ i (by omega)]
      have hj1 : F j ≤ F n := hs.mono hj (Nat.le_refl n)
      by_cases ci : i = t.length
      · rw [if_pos ci]
        by_cases cj : j ≤ m
        · rw [if_pos cj]
          have : F j ≤ F m := hs.mono cj (by omega)
          constructor <;> intro _ <;> omega
        · rw [if_neg cj]
          constructor <;> intro _ <;> omega
      · rw [if_neg ci, h.2 i (by omega) j hj]
        by_cases cj : j ≤ m
        · rw [if_pos cj]
        · rw [if_neg cj]
          have : F m ≤ F j := hs.mono (by omega) hj
          constructor <;> intro _ <;> omega
  · refine ⟨_, t.set (F m) (m : Int), hf, ?_, ?_, ?_⟩
    · unfold thresh_put.f
      rw [if_neg (by omega), if_pos (by omega), if_pos (by omega), Int.toNat_natCast]
    · rw [List.length_set, putF, if_neg (by omega)]
      omega
    · intro i hi j hj
      rw [putF]
      rw [List.length_set] at hi
      rw [rd_set t _ i _ hi]
      by_cases ci : i = F m
      · rw [if_pos ci]
        by_cases cj : j ≤ m
        · rw [if_pos cj]
          have : F j ≤ F m := hs.mono cj (by omega)
          constructor <;> intro _ <;> omega
        · rw [if_neg cj]
          constructor <;> intro _ <;> omega
      · rw [if_neg ci, h.2 i (by omega) j hj]
        by_cases cj : j ≤ m
        · rw [if_pos cj]
        · rw [if_neg cj]
          have : F m ≤ F j := hs.mono (by omega) hj
          constructor <;> intro _ <;> omega
/-- The count when the places of x from m on have been put. -/
def rowF (F : Nat → Nat) (b : List Int) (x : Int) (m : Nat) : Nat → Nat
  | 0 => 0
  | j + 1 => if m ≤ j ∧ rd b (j : Int) = x then F j + 1 else max (F (j + 1)) (rowF F b x m j)
theorem rowF_near {n : Nat} {F : Nat → Nat} (hs : Stair n F) (b : List Int) (x : Int) (m j : Nat) (hj : j ≤ n) : F j ≤ rowF F b x m j ∧ rowF F b x m j ≤ F j + 1 := by
  induction j with
  | zero => rw [rowF, hs.1]; omega
  | succ j ih =>
    have := ih (by omega)
    have := hs.2 j (by omega)
    rw [rowF]; split <;> omega
theorem rowF_stair {n : Nat} {F : Nat → Nat} (hs : Stair n F) (b : List Int) (x : Int) (m : Nat) : Stair n (rowF F b x m) := by
  refine ⟨by rw [rowF], fun j hj => ?_⟩
  have := rowF_near hs b x m j (by omega)
  have := hs.2 j hj
  rw [rowF]; split <;> omega
theorem rowF_below {n : Nat} {F : Nat → Nat} (hs : Stair n F) (b : List Int) (x : Int) (m j : Nat) (hj : j ≤ n) (hm : j ≤ m) : rowF F b x m j = F j := by
  induction j with
  | zero => rw [rowF, hs.1]
  | succ j ih =>
    have := hs.2 j (by omega)
    rw [rowF, if_neg (by omega), ih (by omega) (by omega)]; omega
theorem rowF_skip (F : Nat → Nat) (b : List Int) (x : Int) (m j : Nat) (h : rd b (m : Int) ≠ x) : rowF F b x m j = rowF F b x (m + 1) j := by
  induction j with
  | zero => rw [rowF, rowF]
  | succ j ih =>
    rw [rowF, rowF, ih]
    by_cases c : m ≤ j ∧ rd b (j : Int) = x
    · have hne : j ≠ m := fun e => h (e ▸ c.2)
      rw [if_pos c, if_pos ⟨by omega, c.2⟩]
    · rw [if_neg c, if_neg (fun q => c ⟨by omega, q.2⟩)]
theorem rowF_put {n : Nat} {F : Nat → Nat} (hs : Stair n F) (b : List Int) (x : Int) (m j : Nat) (hm : m < n) (hj : j ≤ n) (h : rd b (m : Int) = x) : rowF F b x m j = putF (rowF F b x (m + 1)) m j := by
  unfold putF
  rw [rowF_below hs b x (m + 1) m (by omega) (by omega)]
  induction j with
  | zero => rw [if_pos (by omega), rowF, rowF]
  | succ j ih =>
    have hi := ih (by omega)
    have hst := hs.2 m hm
    by_cases c0 : j + 1 ≤ m
    · rw [if_pos c0, rowF_below hs b x m (j + 1) hj c0, rowF_below hs b x (m + 1) (j + 1) hj (by omega)]
    · rw [if_neg c0]
      by_cases c1 : j = m
      · subst c1
        rw [rowF, if_pos ⟨by omega, h⟩, rowF_below hs b x (j + 1) (j + 1) hj (by omega)]; omega
      · rw [if_neg (by omega)] at hi
        have hle : F m ≤ F j := hs.mono (by omega) (by omega)
        rw [rowF, rowF]
        by_cases c2 : rd b (j : Int) = x
        · rw [if_pos ⟨by omega, c2⟩, if_pos ⟨by omega, c2⟩]; omega
        · rw [if_neg (fun q => c2 q.2), if_neg (fun q => c2 q.2), hi]; omega
theorem Cnt.congr {t : List Int} {n : Nat} {F G : Nat → Nat} (h : Cnt t n F) (e : ∀ j : Nat, j ≤ n → G j = F j) : Cnt t n G :=
  ⟨by rw [e n (Nat.le_refl n)]; exact h.1, fun i hi j hj => by rw [e j hj]; exact h.2 i hi j hj⟩
theorem go_snoc (k : Nat) (js : List Int) (j : Int) : ∀ r : List Int, thresh_Row.go k r (js ++ [j]) = (thresh_Row.go k r js).bind fun q => thresh_Row.go k q [j] := by
  induction js with
  | nil => intro r; rw [List.nil_append, show thresh_Row.go k r [] = some r from rfl, Option.bind_some]
  | cons a js ih =>
    intro r
    rw [List.cons_append, thresh_Row.go, thresh_Row.go]
    cases h1 : thresh_Find.f k r a with
    | none => rfl
    | some i =>
      rw [Option.bind_some, Option.bind_some]
      cases h2 : thresh_put.f r a i with
      | none => rfl
      | some q => rw [Option.bind_some, Option.bind_some]; exact ih q
theorem go_places {F : Nat → Nat} (b : List Int) (x : Int) (hb : b.length ≤ 100000) (hs : Stair b.length F) (t : List Int) (ht : Cnt t b.length F) {k : Nat} (hk : b.length < k) (d : Nat) : ∀ m : Nat, m + d = b.length →
    ∃ q, thresh_Row.go k t (pos x (b.drop m) m).reverse = some q ∧ Cnt q b.length (rowF F b x m) := by
  induction d with
  | zero =>
    intro m hm
    rw [List.drop_eq_nil_of_le (by omega)]
    exact ⟨t, rfl, ht.congr fun j hj => rowF_below hs b x m j hj (by omega)⟩
  | succ d ih =>
    intro m hm
    obtain ⟨q, q1, q2⟩ := ih (m + 1) (by omega)
    rw [drop_rd b (show m < b.length by omega), pos]
    by_cases c : rd b (m : Int) = x
    · rw [if_pos c, List.reverse_cons, go_snoc, q1, Option.bind_some]
      have hst := rowF_stair hs b x (m + 1)
      have hq := q2.1
      have htop := hst.top
      obtain ⟨i, u, u1, u2, u3⟩ := q2.put hst hb (show m < b.length by omega) (k := k) (by omega)
      rw [thresh_Row.go, u1, Option.bind_some, u2, Option.bind_some]
      exact ⟨u, rfl, u3.congr fun j hj => rowF_put hs b x m j (by omega) hj c⟩
    · rw [if_neg c]
      exact ⟨q, q1, q2.congr fun j hj => rowF_skip F b x m j c⟩
/-- How long a list both hold, the second one up to j. -/
def Lf (a b : List Int) (j : Nat) : Nat := L a (b.take j)
theorem Lf_stair (a b : List Int) : Stair b.length (Lf a b) := by
  refine ⟨by unfold Lf; rw [List.take_zero, L_nil_right], fun j hj => ?_⟩
  unfold Lf
  refine ⟨L_mono (List.Sublist.refl a) ?_, ?_⟩
  · rw [take_rd b hj]; exact List.sublist_append_left _ _
  · rw [take_rd b hj, ← L_rev a (b.take j ++ [_]), ← L_rev a (b.take j), List.reverse_append]
    exact L_cons_le' _ _ _
theorem rowF_L (a b : List Int) (x : Int) (j : Nat) (hj : j ≤ b.length) : rowF (Lf a b) b x 0 j = Lf (a ++ [x]) b j := by
  induction j with
  | zero => unfold rowF Lf; rw [List.take_zero, L_nil_right]
  | succ j ih =>
    have hi := ih (by omega)
    rw [rowF, hi]
    unfold Lf
    rw [take_rd b (show j < b.length by omega)]
    by_cases c : rd b (j : Int) = x
    · rw [if_pos ⟨by omega, c⟩, c, L_snoc_eq]
    · rw [if_neg (fun q => c q.2), L_snoc_ne (fun e => c e.symm)]
theorem row_goes (a b : List Int) (x : Int) (hb : b.length ≤ 100000) (t : List Int) (ht : Cnt t b.length (Lf a b)) {k : Nat} (hk : b.length < k) : ∃ q, thresh_Row.f k t (pos x b 0) = some q ∧ Cnt q b.length (Lf (a ++ [x]) b) := by
  have h0 := ht.1
  have h1 := (Lf_stair a b).top
  have h2 := pos_length x b 0
  obtain ⟨q, q1, q2⟩ := go_places b x hb (Lf_stair a b) t ht hk b.length 0 (by omega)
  rw [List.drop_zero] at q1
  refine ⟨q, ?_, q2.congr fun j hj => (rowF_L a b x j hj).symm⟩
  unfold thresh_Row.f slices_Clone_int_int.f
  rw [if_pos ⟨by omega, by omega⟩, if_pos (by omega), Option.bind_some, q1]
theorem plc_pos (s : Int) : ∀ (l : List Int) (i : Nat), Plc.pos s l i = pos s l i
  | [], _ => rfl
  | x :: xs, i => by rw [Plc.pos, pos, plc_pos s xs (i + 1)]
theorem wf_range (n : Int) (h1 : n ≤ 1000000) (l : List Int) (h : ∀ x ∈ l, 0 ≤ x ∧ x < n) : ∀ x ∈ l, (Lit.int .i64 x).wf = true := by
  intro x hx
  have := h x hx
  simp only [Lit.wf, IntKind.min, IntKind.max, IntKind.signed, IntKind.bits, Bool.and_eq_true, decide_eq_true_eq]
  simp
  omega
/-! the addition of two numbers, bit by bit -/
def maj (a b c : Bool) : Bool := (a && b) || (c && (a || b))
def cry : Nat → Nat → Bool → Nat → Bool
  | _, _, c, 0 => c
  | x, y, c, j + 1 => cry (x / 2) (y / 2) (maj (x.testBit 0) (y.testBit 0) c) j
theorem cry_succ : ∀ (j x y : Nat) (c : Bool), cry x y c (j + 1) = maj (x.testBit j) (y.testBit j) (cry x y c j)
  | 0, _, _, _ => rfl
  | j + 1, x, y, c => by
    have h := cry_succ j (x / 2) (y / 2) (maj (x.testBit 0) (y.testBit 0) c)
    rw [← Nat.testBit_succ, ← Nat.testBit_succ] at h
    exact h
theorem half_sum (x y : Nat) (c : Bool) : (x + y + c.toNat) / 2 = x / 2 + y / 2 + (maj (x.testBit 0) (y.testBit 0) c).toNat := by
  rw [Nat.testBit_zero, Nat.testBit_zero]
  have hx : x % 2 = 0 ∨ x % 2 = 1 := by omega
  have hy : y % 2 = 0 ∨ y % 2 = 1 := by omega
  rcases hx with hx | hx <;> rcases hy with hy | hy <;> cases c <;> simp [hx, hy, maj] <;> omega
theorem sum_bit : ∀ (j x y : Nat) (c : Bool), (x + y + c.toNat).testBit j = (x.testBit j ^^ (y.testBit j ^^ cry x y c j))
  | 0, x, y, c => by
    rw [Nat.testBit_zero, Nat.testBit_zero, Nat.testBit_zero]
    have hx : x % 2 = 0 ∨ x % 2 = 1 := by omega
    have hy : y % 2 = 0 ∨ y % 2 = 1 := by omega
    rcases hx with hx | hx <;> rcases hy with hy | hy <;> cases c <;> simp [hx, hy, cry] <;> omega
  | j + 1, x, y, c => by
    rw [Nat.testBit_succ, half_sum, sum_bit j, ← Nat.testBit_succ, ← Nat.testBit_succ]
    rfl
theorem cry_none {x y : Nat} (h : ∀ j, (x.testBit j && y.testBit j) = false) : ∀ j, cry x y false j = false
  | 0 => rfl
  | j + 1 => by
    rw [cry_succ, cry_none h j]
    have := h j
    revert this
    cases x.testBit j <;> cases y.testBit j <;> simp [maj]
theorem add_apart {x y : Nat} (h : ∀ j, (x.testBit j && y.testBit j) = false) : x + y = x ||| y := by
  refine Nat.eq_of_testBit_eq fun j => ?_
  have h1 := sum_bit j x y false
  rw [cry_none h j] at h1
  simp only [Bool.toNat_false, Nat.add_zero, Bool.xor_false] at h1
  rw [h1, Nat.testBit_or]
  have := h j
  revert this
  cases x.testBit j <;> cases y.testBit j <;> simp
/-- A number less some of its bits. -/
theorem sub_and (v u j : Nat) : (v - (v &&& u)).testBit j = (v.testBit j && !u.testBit j) := by
  have hb : ∀ j, (v ^^^ (v &&& u)).testBit j = (v.testBit j && !u.testBit j) := by
    intro j
    rw [Nat.testBit_xor, Nat.testBit_and]
    cases v.testBit j <;> cases u.testBit j <;> rfl
  have h : (v ^^^ (v &&& u)) + (v &&& u) = v := by
    rw [add_apart]
    · refine Nat.eq_of_testBit_eq fun j => ?_
      rw [Nat.testBit_or, hb, Nat.testBit_and]
      cases v.testBit j <;> cases u.testBit j <;> rfl
    · intro j
      rw [hb, Nat.testBit_and]
      cases v.testBit j <;> cases u.testBit j <;> rfl
  have e : v - (v &&& u) = v ^^^ (v &&& u) := by omega
  rw [e, hb]
/-- The steps of the table's next row are the carries of this addition. -/
theorem row_bits {d e : Nat → Int} {v u : Nat} {M : Nat → Prop} [∀ j, Decidable (M j)] (m : Nat) (V : Nat → Int)
    (hd : ∀ j, d j = 0 ∨ d j = 1) (hV0 : V 0 = 0) (hV : ∀ j, j < m → V (j + 1) = (if M j then 1 else max (d j) (V j)) - d j)
    (he : ∀ j, j < m → e j = (if M j then 1 else max (d j) (V j)) - V j)
    (hv : ∀ j, j < m → v.testBit j = decide (d j = 0)) (hu : ∀ j, j < m → u.testBit j = decide (M j)) :
    ∀ j, j ≤ m → ((V j = 0 ∧ cry v (v &&& u) false j = false) ∨ (V j = 1 ∧ cry v (v &&& u) false j = true)) ∧ (j < m → (((v + (v &&& u)) ||| (v - (v &&& u))).testBit j = decide (e j = 0))) := by
  have step : ∀ j, j < m → ((V j = 0 ∧ cry v (v &&& u) false j = false) ∨ (V j = 1 ∧ cry v (v &&& u) false j = true)) → ((V (j + 1) = 0 ∧ cry v (v &&& u) false (j + 1) = false) ∨ (V (j + 1) = 1 ∧ cry v (v &&& u) false (j + 1) = true)) ∧ (((v + (v &&& u)) ||| (v - (v &&& u))).testBit j = decide (e j = 0)) := by
    intro j hj hc
    have h1 := hV j hj
    have h2 := he j hj
    have h3 := hv j hj
    have h4 := hu j hj
    have hs := sum_bit j v (v &&& u) false
    simp only [Bool.toNat_false, Nat.add_zero] at hs
    rw [cry_succ, Nat.testBit_or, sub_and, hs, Nat.testBit_and, h3, h4, h1, h2]
    rcases hd j with q | q <;> rcases hc with ⟨c1, c2⟩ | ⟨c1, c2⟩ <;> by_cases g : M j <;> rw [q, c1, c2] <;> simp [g, maj] <;> omega
  intro j
  induction j with
  | zero => exact fun _ => ⟨Or.inl ⟨hV0, rfl⟩, fun h => (step 0 h (Or.inl ⟨hV0, rfl⟩)).2⟩
  | succ j ih =>
    intro hj
    have h1 := (step j (by omega) (ih (by omega)).1).1
    exact ⟨h1, fun h => (step (j + 1) h h1).2⟩
/-! words: a number by its words -/
def vN (x : Nat → Nat) : Nat → Nat
  | 0 => 0
  | n + 1 => 2 ^ (64 * n) * x n + vN x n
theorem vN_lt {x : Nat → Nat} (h : ∀ k, x k < 2 ^ 64) : ∀ n, vN x n < 2 ^ (64 * n)
  | 0 => by simp [vN]
  | n + 1 => by
    have ih := vN_lt h n
    have hn := h n
    have e : 2 ^ (64 * (n + 1)) = 2 ^ (64 * n) * 2 ^ 64 := by rw [← Nat.pow_add]; rfl
    have : 2 ^ (64 * n) * (x n + 1) ≤ 2 ^ (64 * n) * 2 ^ 64 := Nat.mul_le_mul_left _ hn
    rw [Nat.mul_add] at this
    rw [e]
    show 2 ^ (64 * n) * x n + vN x n < _
    omega
theorem vN_bit {x : Nat → Nat} (h : ∀ k, x k < 2 ^ 64) : ∀ n j, j < 64 * n → (vN x n).testBit j = (x (j / 64)).testBit (j % 64)
  | 0, j, hj => by omega
  | n + 1, j, hj => by
    show (2 ^ (64 * n) * x n + vN x n).testBit j = _
    rw [Nat.testBit_two_pow_mul_add _ (vN_lt h n)]
    by_cases c : j < 64 * n
    · rw [if_pos c]; exact vN_bit h n j c
    · rw [if_neg c]
      have e1 : j / 64 = n := by omega
      have e2 : j % 64 = j - 64 * n := by omega
      rw [e1, e2]
/-- The carries of an addition word by word. -/
def cw (x y : Nat → Nat) : Nat → Nat
  | 0 => 0
  | k + 1 => (x k + y k + cw x y k) / 2 ^ 64
def addW (x y : Nat → Nat) (k : Nat) : Nat := (x k + y k + cw x y k) % 2 ^ 64
theorem addW_lt (x y : Nat → Nat) (k : Nat) : addW x y k < 2 ^ 64 := Nat.mod_lt _ (by decide)
theorem add_val {x y : Nat → Nat} : ∀ n, vN (addW x y) n + 2 ^ (64 * n) * cw x y n = vN x n + vN y n
  | 0 => by simp [vN, cw]
  | n + 1 => by
    have ih := add_val (x := x) (y := y) n
    have e : 2 ^ (64 * (n + 1)) = 2 ^ (64 * n) * 2 ^ 64 := by rw [← Nat.pow_add]; rfl
    have h1 := Nat.div_add_mod (x n + y n + cw x y n) (2 ^ 64)
    have hc : cw x y (n + 1) = (x n + y n + cw x y n) / 2 ^ 64 := rfl
    have ha : addW x y n = (x n + y n + cw x y n) % 2 ^ 64 := rfl
    have h2 : 2 ^ (64 * n) * (2 ^ 64 * cw x y (n + 1) + addW x y n) = 2 ^ (64 * n) * (x n + y n + cw x y n) := by rw [hc, ha, h1]
    rw [Nat.mul_add, Nat.mul_add, Nat.mul_add, ← Nat.mul_assoc, ← e] at h2
    show 2 ^ (64 * n) * addW x y n + vN (addW x y) n + 2 ^ (64 * (n + 1)) * cw x y (n + 1) = (2 ^ (64 * n) * x n + vN x n) + (2 ^ (64 * n) * y n + vN y n)
    omega
theorem add_bit {x y : Nat → Nat} (n j : Nat) (hj : j < 64 * n) : (vN (addW x y) n).testBit j = (vN x n + vN y n).testBit j := by
  rw [← add_val, Nat.add_comm, Nat.testBit_two_pow_mul_add _ (vN_lt (addW_lt x y) n), if_pos hj]
theorem addW_bit {x y : Nat → Nat} (n j : Nat) (hj : j < 64 * n) : (addW x y (j / 64)).testBit (j % 64) = (vN x n + vN y n).testBit j := by
  rw [← add_bit n j hj, vN_bit (addW_lt x y) n j hj]
theorem vN_and {x y : Nat → Nat} (hx : ∀ k, x k < 2 ^ 64) (hy : ∀ k, y k < 2 ^ 64) (n : Nat) : vN (fun k => x k &&& y k) n = vN x n &&& vN y n := by
  have hz : ∀ k, x k &&& y k < 2 ^ 64 := fun k => Nat.lt_of_le_of_lt Nat.and_le_left (hx k)
  refine Nat.eq_of_testBit_eq fun j => ?_
  by_cases c : j < 64 * n
  · rw [vN_bit hz n j c, Nat.testBit_and, Nat.testBit_and, vN_bit hx n j c, vN_bit hy n j c]
  · have hb : ∀ z : Nat, z < 2 ^ (64 * n) → z.testBit j = false := fun z h => Nat.testBit_lt_two_pow (Nat.lt_of_lt_of_le h (Nat.pow_le_pow_right (by decide) (by omega)))
    rw [hb _ (vN_lt hz n), Nat.testBit_and, hb _ (vN_lt hx n)]; rfl
/-- The row of bits behind a number more, word by word: either way to reckon it. -/
def hyW (v u : Nat → Nat) (k : Nat) : Nat := addW v (fun k => v k &&& u k) k ||| (v k - (v k &&& u k))
theorem hyW_bit {v u : Nat → Nat} (hv : ∀ k, v k < 2 ^ 64) (hu : ∀ k, u k < 2 ^ 64) (n j : Nat) (hj : j < 64 * n) :
    (hyW v u (j / 64)).testBit (j % 64) = ((vN v n + (vN v n &&& vN u n)) ||| (vN v n - (vN v n &&& vN u n))).testBit j := by
  have hz : ∀ k, v k &&& u k < 2 ^ 64 := fun k => Nat.lt_of_le_of_lt Nat.and_le_left (hv k)
  rw [hyW, Nat.testBit_or, Nat.testBit_or, addW_bit n j hj, vN_and hv hu, sub_and, sub_and, vN_bit hv n j hj, vN_bit hu n j hj]
/-! the rows of bits of hyyro and croch are the table's steps -/
open Vx
/-- The bit at a place of a row of words. -/
def bt (l : List Int) (j : Nat) : Bool := (Vec.w l (j / 64)).testBit (j % 64)
theorem cw_eq (x y : Nat → Nat) : ∀ k, Vec.cw x y k = cw x y k
  | 0 => rfl
  | k + 1 => by
    show (x k + y k + Vec.cw x y k) / 18446744073709551616 = (x k + y k + cw x y k) / 2 ^ 64
    rw [cw_eq x y k]
theorem addW_eq (x y : Nat → Nat) (k : Nat) : Vec.addW x y k = addW x y k := by
  show (x k + y k + Vec.cw x y k) % 18446744073709551616 = (x k + y k + cw x y k) % 2 ^ 64
  rw [cw_eq]
theorem bw_none {x y : Nat → Nat} (h : ∀ k, y k ≤ x k) : ∀ k, Vec.bw x y k = 0
  | 0 => rfl
  | k + 1 => by
    show (if x k < y k + Vec.bw x y k then 1 else 0) = 0
    rw [bw_none h k, if_neg (by have := h k; omega)]
theorem subW_eq {x y : Nat → Nat} (h : ∀ k, y k ≤ x k) (hx : ∀ k, x k < 2 ^ 64) (k : Nat) : Vec.subW x y k = x k - y k := by
  show (x k + 18446744073709551616 - y k - Vec.bw x y k) % 18446744073709551616 = _
  rw [bw_none h k]
  have := h k
  have := hx k
  omega
theorem w_out {l : List Int} {k : Nat} (h : l.length ≤ k) : Vec.w l k = 0 := by
  unfold Vec.w
  rw [rd_out l h]; rfl
theorem w_and (l m : List Int) : Vec.w (Vec.andL l m) = fun k => Vec.w l k &&& Vec.w m k := by
  funext k
  by_cases h : k < l.length
  · exact Vec.list_w _ h
  · rw [w_out (by rw [Vec.and_len]; omega), w_out (l := l) (by omega), Nat.zero_and]
theorem div_words {j n : Nat} (h : j < n) : j / 64 < Vec.words n := by unfold Vec.words; omega
theorem mask_on {j n : Nat} (h : j < n) : (Vec.mask n (j / 64)).testBit (j % 64) = true := by
  rw [Mask.mask_bit]
  exact decide_eq_true ⟨by omega, by omega⟩
theorem bt_fit (l : List Int) {j n : Nat} (h : j < n) : bt (Vec.fitL l n) j = bt l j := by
  unfold bt Vec.fitL
  rw [Vec.list_w _ (div_words h), Nat.testBit_and, mask_on h, Bool.and_true]
theorem bt_or {l m : List Int} {j : Nat} (h : j / 64 < l.length) : bt (Vec.orL l m) j = (bt l j || bt m j) := by
  unfold bt Vec.orL
  rw [Vec.list_w _ h, Nat.testBit_or]
theorem not_bit (u i : Nat) (hu : u < 18446744073709551616) (hi : i < 64) : (18446744073709551615 - u).testBit i = !u.testBit i := by
  have h := Nat.testBit_two_pow_sub_succ (n := 64) hu i
  rw [decide_eq_true hi, Bool.true_and] at h
  rw [← h]
  congr 1
  omega
/-- Either row, bit by bit. -/
theorem inner_bits (v u : List Int) (n : Nat) (x y : Nat → Nat) (hx : x = Vec.w (Vec.fitL v n)) (hy : y = Vec.w (Vec.fitL u n)) {j : Nat} (h : j < n) :
    bt (Vec.hyRow v u n) j = ((vN x (Vec.words n) + (vN x (Vec.words n) &&& vN y (Vec.words n))) ||| (vN x (Vec.words n) - (vN x (Vec.words n) &&& vN y (Vec.words n)))).testBit j ∧
    bt (Vec.crRow v u n) j = ((vN x (Vec.words n) + (vN x (Vec.words n) &&& vN y (Vec.words n))) ||| (vN x (Vec.words n) - (vN x (Vec.words n) &&& vN y (Vec.words n)))).testBit j := by
  have kx : ∀ k, x k < 2 ^ 64 := fun k => by rw [hx]; exact Vec.w_lt (Vec.fit_ok v n) k
  have ky : ∀ k, y k < 2 ^ 64 := fun k => by rw [hy]; exact Vec.w_lt (Vec.fit_ok u n) k
  have hj : j < 64 * Vec.words n := by unfold Vec.words; omega
  have hk := div_words h
  have l1 : (Vec.fitL v n).length = Vec.words n := Vec.fit_len v n
  have ha : Vec.w (Vec.andL (Vec.fitL v n) (Vec.fitL u n)) = fun k => x k &&& y k := by rw [w_and, hx, hy]
  have hadd : Vec.w (Vec.addL (Vec.fitL v n) (Vec.andL (Vec.fitL v n) (Vec.fitL u n))) (j / 64) = addW x (fun k => x k &&& y k) (j / 64) := by
    unfold Vec.addL
    rw [Vec.list_w _ (by omega), ha, ← hx, addW_eq]
  have hsub : Vec.w (Vec.subL (Vec.fitL v n) (Vec.andL (Vec.fitL v n) (Vec.fitL u n))) (j / 64) = x (j / 64) - (x (j / 64) &&& y (j / 64)) := by
    unfold Vec.subL
    rw [Vec.list_w _ (by omega), ha, ← hx, subW_eq (fun k => Nat.and_le_left) kx]
  have hand : Vec.w (Vec.andL (Vec.fitL v n) (Vec.notL (Vec.fitL u n) n)) (j / 64) = x (j / 64) &&& ((18446744073709551615 - y (j / 64)) &&& Vec.mask n (j / 64)) := by
    rw [w_and]
    show Vec.w (Vec.fitL v n) (j / 64) &&& _ = _
    unfold Vec.notL
    rw [Vec.list_w _ hk, ← hx, ← hy]
  have hb := hyW_bit kx ky (Vec.words n) j hj
  rw [← hb, hyW, Nat.testBit_or, sub_and]
  have la : (Vec.addL (Vec.fitL v n) (Vec.andL (Vec.fitL v n) (Vec.fitL u n))).length = Vec.words n := by rw [Vec.add_len, l1]
  constructor
  · unfold Vec.hyRow
    rw [bt_fit _ h, bt_or (by omega)]
    unfold bt
    rw [hadd, hsub, sub_and]
  · unfold Vec.crRow
    rw [bt_fit _ h, bt_or (by omega)]
    unfold bt
    rw [hadd, hand, Nat.testBit_and, Nat.testBit_and, mask_on h, Bool.and_true, not_bit _ _ (ky _) (Nat.mod_lt _ (by decide))]
theorem bt_ones {j n : Nat} (h : j < n) : bt (Vec.ones n) j = true := by
  unfold bt Vec.ones Vec.notL
  rw [Vec.list_w _ (div_words h), Nat.testBit_and, mask_on h, Bool.and_true, w_out (Nat.zero_le _), not_bit _ _ (by decide) (Nat.mod_lt _ (by decide)), Nat.zero_testBit]
  rfl
theorem bt_mask (b : List Int) (x : Int) {j : Nat} (h : j < b.length) : bt (Mask.row b x b.length (Vec.words b.length)) j = decide (rd b (j : Int) = x) := by
  unfold bt
  rw [Mask.w_row _ _ _ _ (div_words h), Mask.word_bit, show 64 * (j / 64) + j % 64 = j by omega]
  exact decide_eq_decide.2 ⟨fun q => q.2.2, fun q => ⟨Nat.mod_lt _ (by decide), h, q⟩⟩
/-- The table's row, as far as it stands. -/
def Fr (a b : List Int) (i j : Nat) : Nat := L (a.take i) (b.take j)
theorem Fr_next (a b : List Int) {i j : Nat} (hi : i < a.length) (hj : j < b.length) : Fr a b (i + 1) (j + 1) = if rd b (j : Int) = rd a (i : Int) then Fr a b i j + 1 else max (Fr a b i (j + 1)) (Fr a b (i + 1) j) := by
  unfold Fr
  rw [take_rd a hi, take_rd b hj]
  by_cases c : rd b (j : Int) = rd a (i : Int)
  · rw [if_pos c, c, L_snoc_eq]
  · rw [if_neg c, L_snoc_ne (fun e => c e.symm)]
theorem Fr_zero (a b : List Int) (i : Nat) : Fr a b i 0 = 0 := by unfold Fr; rw [List.take_zero, L_nil_right]
theorem Fr_none (a b : List Int) (j : Nat) : Fr a b 0 j = 0 := by unfold Fr; rw [List.take_zero, L_nil_left]
theorem Fr_step (a b : List Int) (i : Nat) {j : Nat} (hj : j < b.length) : Fr a b i j ≤ Fr a b i (j + 1) ∧ Fr a b i (j + 1) ≤ Fr a b i j + 1 :=
  (Lf_stair (a.take i) b).2 j hj
theorem row_step {a b v u : List Int} {i : Nat} (hi : i < a.length) (hv : ∀ j, j < b.length → bt v j = decide (Fr a b i (j + 1) = Fr a b i j)) (hu : ∀ j, j < b.length → bt u j = decide (rd b (j : Int) = rd a (i : Int))) {j : Nat} (hj : j < b.length) :
    bt (Vec.hyRow v u b.length) j = decide (Fr a b (i + 1) (j + 1) = Fr a b (i + 1) j) ∧ bt (Vec.crRow v u b.length) j = decide (Fr a b (i + 1) (j + 1) = Fr a b (i + 1) j) := by
  obtain ⟨h1, h2⟩ := inner_bits v u b.length _ _ rfl rfl hj
  rw [h1, h2]
  have hb : ∀ (l : List Int) (j : Nat), j < b.length → (vN (Vec.w (Vec.fitL l b.length)) (Vec.words b.length)).testBit j = bt l j := by
    intro l j hj
    rw [vN_bit (fun k => Vec.w_lt (Vec.fit_ok l b.length) k) _ j (by unfold Vec.words; omega)]
    exact bt_fit l hj
  have := row_bits (d := fun j => (Fr a b i (j + 1) : Int) - Fr a b i j) (e := fun j => (Fr a b (i + 1) (j + 1) : Int) - Fr a b (i + 1) j) (M := fun j => rd b (j : Int) = rd a (i : Int))
    (v := vN (Vec.w (Vec.fitL v b.length)) (Vec.words b.length)) (u := vN (Vec.w (Vec.fitL u b.length)) (Vec.words b.length)) b.length (fun j => (Fr a b (i + 1) j : Int) - Fr a b i j) ?_ ?_ ?_ ?_ ?_ ?_ j (by omega)
  · have q := this.2 hj
    rw [q]
    have e : decide (((Fr a b (i + 1) (j + 1) : Int) - Fr a b (i + 1) j) = 0) = decide (Fr a b (i + 1) (j + 1) = Fr a b (i + 1) j) := decide_eq_decide.2 ⟨fun _ => by omega, fun _ => by omega⟩
    exact ⟨e, e⟩
  · intro j
    by_cases c : j < b.length
    · have := Fr_step a b i c
      show (Fr a b i (j + 1) : Int) - Fr a b i j = 0 ∨ (Fr a b i (j + 1) : Int) - Fr a b i j = 1
      omega
    · left
      show (Fr a b i (j + 1) : Int) - Fr a b i j = 0
      unfold Fr
      rw [List.take_of_length_le (l := b) (i := j + 1) (by omega), List.take_of_length_le (l := b) (i := j) (by omega)]
      omega
  · show (Fr a b (i + 1) 0 : Int) - Fr a b i 0 = 0
    rw [Fr_zero, Fr_zero]; rfl
  · intro j hj
    have := Fr_next a b hi hj
    show (Fr a b (i + 1) (j + 1) : Int) - Fr a b i (j + 1) = (if rd b (j : Int) = rd a (i : Int) then 1 else max ((Fr a b i (j + 1) : Int) - Fr a b i j) ((Fr a b (i + 1) j : Int) - Fr a b i j)) - ((Fr a b i (j + 1) : Int) - Fr a b i j)
    rw [this]
    split <;> omega
  · intro j hj
    have := Fr_next a b hi hj
    show (Fr a b (i + 1) (j + 1) : Int) - Fr a b (i + 1) j = (if rd b (j : Int) = rd a (i : Int) then 1 else max ((Fr a b i (j + 1) : Int) - Fr a b i j) ((Fr a b (i + 1) j : Int) - Fr a b i j)) - ((Fr a b (i + 1) j : Int) - Fr a b i j)
    rw [this]
    split <;> omega
  · intro j hj
    rw [hb v j hj, hv j hj]
    exact decide_eq_decide.2 ⟨fun _ => by show (Fr a b i (j + 1) : Int) - Fr a b i j = 0; omega, fun (q : (Fr a b i (j + 1) : Int) - Fr a b i j = 0) => by omega⟩
  · intro j hj
    rw [hb u j hj, hu j hj]
theorem rowAt_bits (a b : List Int) : ∀ i, i ≤ a.length → ∀ j, j < b.length → bt (Vec.rowAt Vec.hyRow a b i) j = decide (Fr a b i (j + 1) = Fr a b i j) ∧ bt (Vec.rowAt Vec.crRow a b i) j = decide (Fr a b i (j + 1) = Fr a b i j)
  | 0, _, j, hj => by
    have e : decide (Fr a b 0 (j + 1) = Fr a b 0 j) = true := decide_eq_true (by rw [Fr_none, Fr_none])
    rw [e]
    exact ⟨bt_ones hj, bt_ones hj⟩
  | i + 1, hi, j, hj =>
    ⟨(row_step (by omega) (fun j hj => (rowAt_bits a b i (by omega) j hj).1) (fun j hj => bt_mask b _ hj) hj).1, (row_step (by omega) (fun j hj => (rowAt_bits a b i (by omega) j hj).2) (fun j hj => bt_mask b _ hj) hj).2⟩
theorem getBit (l : List Int) (j : Nat) (hl : l.all Vec.ok = true) (hj : j / 64 < l.length) (hm : j ≤ 1000000) : tattingref5_Get.f l (j : Int) = some (bt l j) := by
  have hw := Vec.w_rd hl (j / 64)
  have hlt := Vec.w_lt hl (j / 64)
  have e1 := Aside0.mk (show wrap64 (Int.tdiv (j : Int) 64) = ((j / 64 : Nat) : Int) by
    rw [Int.tdiv_eq_ediv_of_nonneg (by omega), wrap_id (by omega) (by omega)]; omega)
  have e2 : IntKind.u64.wrap (Int.tmod (j : Int) 64) = ((j % 64 : Nat) : Int) := by
    rw [Int.tmod_eq_emod_of_nonneg (by omega), Vec.wu (by omega) (by omega)]; omega
  unfold tattingref5_Get.f
  rw [e1.out, e2, if_pos (by omega), if_pos (by omega), if_pos (by omega), if_pos (by omega), hw]
  have e3 : shr .u64 ((Vec.w l (j / 64) : Nat) : Int) ((j % 64 : Nat) : Int) = ((Vec.w l (j / 64) / 2 ^ (j % 64) : Nat) : Int) := by
    unfold shr
    rw [Int.toNat_natCast, Nat.min_eq_left (show j % 64 ≤ IntKind.u64.bits by show j % 64 ≤ 64; omega), Int.natCast_ediv, Int.natCast_pow]
    rfl
  have e4 := (bits_nat .u64 64 (by decide) (fun n h0 h1 => Vec.wu h0 h1) (Vec.w l (j / 64) / 2 ^ (j % 64)) 1 (Nat.lt_of_le_of_lt (Nat.div_le_self _ _) hlt) (by decide)).1
  have e5 : Go.bits .and .u64 ((Vec.w l (j / 64) / 2 ^ (j % 64) : Nat) : Int) 1 = ((Vec.w l (j / 64) / 2 ^ (j % 64) % 2 : Nat) : Int) := by
    rw [← Nat.and_one_is_mod]; exact e4
  rw [e3, e5]
  unfold bt
  rw [Nat.testBit_eq_decide_div_mod_eq]
  refine congrArg some (Bool.eq_iff_iff.2 ?_)
  rw [beq_iff_eq, decide_eq_true_iff]
  omega
theorem L_drops (x y : List Int) {i n : Nat} (hi : i < x.length) (hn : n < y.length) : L (x.drop i) (y.drop n) = if rd x (i : Int) = rd y (n : Int) then L (x.drop (i + 1)) (y.drop (n + 1)) + 1 else max (L (x.drop (i + 1)) (y.drop n)) (L (x.drop i) (y.drop (n + 1))) := by
  by_cases c : rd x (i : Int) = rd y (n : Int)
  · rw [if_pos c, drop_rd x hi, drop_rd y hn, c, L_cons_eq]
  · rw [if_neg c]
    rw [show L (x.drop i) (y.drop n) = L (rd x (i : Int) :: x.drop (i + 1)) (rd y (n : Int) :: y.drop (n + 1)) by rw [← drop_rd x hi, ← drop_rd y hn], L_cons_ne c, ← drop_rd x hi, ← drop_rd y hn]
theorem gridLen_l1 (x y : List Int) (hx : x.length ≤ 1000000) (hy : y.length ≤ 1000000) {i : Nat} (hi : i < x.length) {C : Nat} {r : Int}
    (H : ∀ (k : Nat) (t : List Int), C ≤ k → t.length = y.length + 1 → (∀ j, j ≤ y.length → rd t (j : Int) = (L (x.drop i) (y.drop j) : Int)) → grid_Len.l0 k x y t ((i : Int) - 1) = some r) :
    ∀ (n k : Nat) (t : List Int), n ≤ y.length → C + n < k → t.length = y.length + 1 → (∀ j, j ≤ y.length → rd t (j : Int) = if n ≤ j then (L (x.drop i) (y.drop j) : Int) else (L (x.drop (i + 1)) (y.drop j) : Int)) →
      ∀ v z : Int, v = (L (x.drop (i + 1)) (y.drop n) : Int) → z = (n : Int) - 1 → grid_Len.l1 k x y t (i : Int) v z = some r
  | 0, k, t, hn, hk, hl, h, v, z, hv, hz => by
    obtain ⟨k, rfl⟩ := round (show 0 < k by omega)
    simp only [grid_Len.l1]
    rw [hz, if_neg (by omega), wrap_id (by omega) (by omega)]
    exact H k t (by omega) hl (fun j hj => by rw [h j hj, if_pos (Nat.zero_le _)])
  | n + 1, k, t, hn, hk, hl, h, v, z, hv, hz => by
    obtain ⟨k, rfl⟩ := round (show 0 < k by omega)
    have hz : z = (n : Int) := by omega
    have hr := L_drops x y hi (show n < y.length by omega)
    have h0 := h n (by omega)
    rw [if_neg (by omega)] at h0
    have h1 := h (n + 1) (by omega)
    rw [if_pos (by omega)] at h1
    have ub : L (x.drop (i + 1)) (y.drop (n + 1)) ≤ 1000000 := by
      have := L_le_left (x.drop (i + 1)) (y.drop (n + 1))
      rw [List.length_drop] at this; omega
    simp only [grid_Len.l1]
    rw [hz, if_pos (by omega), if_pos (by omega), if_pos (by omega), if_pos (by omega), if_pos (by omega), if_pos (by omega)]
    have e1 := Aside0.mk (show wrap64 ((n : Int) - 1) = (n : Int) - 1 from wrap_id (by omega) (by omega))
    by_cases c : rd x (i : Int) = rd y (n : Int)
    · rw [if_pos c] at hr ⊢
      rw [e1.out]
      refine gridLen_l1 x y hx hy hi H n k _ (by omega) (by omega) (by rw [List.length_set]; exact hl) ?_ _ _ h0 rfl
      intro j hj
      rw [Int.toNat_natCast, rd_set _ _ _ _ (by omega)]
      by_cases e : j = n
      · rw [if_pos e, if_pos (by omega), e, hr, hv]
        exact wrap_succ (by omega)
      · rw [if_neg e, h j hj]
        by_cases q : n + 1 ≤ j
        · rw [if_pos q, if_pos (by omega)]
        · rw [if_neg q, if_neg (by omega)]
    · rw [if_neg c] at hr ⊢
      have e2 := Aside0.mk (show wrap64 ((n : Int) + 1) = ((n + 1 : Nat) : Int) from wrap_succ (by omega))
      rw [e1.out, e2.out, if_pos (by omega), if_pos (by omega)]
      refine gridLen_l1 x y hx hy hi H n k _ (by omega) (by omega) (by rw [List.length_set]; exact hl) ?_ _ _ h0 rfl
      intro j hj
      rw [Int.toNat_natCast, rd_set _ _ _ _ (by omega)]
      by_cases e : j = n
      · rw [if_pos e, if_pos (by omega), e, hr, h0, h1, mx_nat']
      · rw [if_neg e, h j hj]
        by_cases q : n + 1 ≤ j
        · rw [if_pos q, if_pos (by omega)]
        · rw [if_neg q, if_neg (by omega)]
theorem gridLen_l0 (x y : List Int) (hx : x.length ≤ 1000000) (hy : y.length ≤ 1000000) : ∀ (i k : Nat) (t : List Int), i ≤ x.length → (y.length + 3) * i + 1 ≤ k → t.length = y.length + 1 → (∀ j, j ≤ y.length → rd t (j : Int) = (L (x.drop i) (y.drop j) : Int)) → grid_Len.l0 k x y t ((i : Int) - 1) = some (L x y : Int)
  | 0, k, t, hi, hk, hl, h => by
    obtain ⟨k, rfl⟩ := round (show 0 < k by omega)
    have h0 := h 0 (by omega)
    rw [List.drop_zero, List.drop_zero] at h0
    simp only [grid_Len.l0]
    rw [if_neg (by omega), if_pos (by omega)]
    exact congrArg some h0
  | i + 1, k, t, hi, hk, hl, h => by
    rw [Nat.mul_succ] at hk
    obtain ⟨k, rfl⟩ := round (show 0 < k by omega)
    simp only [grid_Len.l0]
    have e : ((i + 1 : Nat) : Int) - 1 = (i : Int) := by omega
    rw [e, if_pos (by omega), wrap_id (by omega) (by omega)]
    refine gridLen_l1 x y hx hy (show i < x.length by omega) (C := (y.length + 3) * i + 1) (fun k t hk hl h => gridLen_l0 x y hx hy i k t (by omega) hk hl h) y.length k t (Nat.le_refl _) (by omega) hl ?_ 0 _ ?_ rfl
    · intro j hj
      rw [h j hj]
      by_cases q : y.length ≤ j
      · rw [if_pos q, List.drop_eq_nil_of_le q, L_nil_right, L_nil_right]
      · rw [if_neg q]
    · rw [List.drop_eq_nil_of_le (Nat.le_refl _), L_nil_right]; rfl
theorem gridLen (x y : List Int) (hx : x.length ≤ 1000000) (hy : y.length ≤ 1000000) {k : Nat} (hk : (y.length + 3) * x.length + 1 ≤ k) : grid_Len.f k x y = some (L x y : Int) := by
  unfold grid_Len.f
  rw [wrap_succ (n := y.length) (by omega), if_pos (by omega), if_pos (by omega), Int.toNat_natCast, wrap_id (by omega) (by omega)]
  refine gridLen_l0 x y hx hy x.length k _ (Nat.le_refl _) hk (by rw [List.length_replicate]) ?_
  intro j hj
  rw [rd_replicate _ _ _ (by omega), List.drop_eq_nil_of_le (Nat.le_refl _), L_nil_left]; rfl
theorem go_all (b : List Int) (hb : b.length ≤ 100000) {k : Nat} (hk : b.length < k) : ∀ (xs a t : List Int), Cnt t b.length (Lf a b) → ∃ q, hunt_Thresholds.go k b t xs = some q ∧ Cnt q b.length (Lf (a ++ xs) b)
  | [], a, t, h => ⟨t, rfl, by rw [List.append_nil]; exact h⟩
  | x :: xs, a, t, h => by
    obtain ⟨q, q1, q2⟩ := row_goes a b x hb t h hk
    obtain ⟨r, r1, r2⟩ := go_all b hb hk xs (a ++ [x]) q q2
    refine ⟨r, ?_, by rw [List.append_assoc, List.singleton_append] at r2; exact r2⟩
    rw [hunt_Thresholds.go, plc_pos, q1, Option.bind_some, r1]
theorem cnt_nil (b : List Int) : Cnt [] b.length (Lf [] b) := by
  refine ⟨?_, fun i hi => by simp at hi⟩
  unfold Lf
  cases b <;> simp [L]
theorem Cnt.snoc {t : List Int} {n i : Nat} {F : Nat → Nat} (hs : Stair n F) (h : Cnt t i F) (hi : i < n) : (F (i + 1) > F i → Cnt (t ++ [(i : Int)]) (i + 1) F) ∧ (¬ F (i + 1) > F i → Cnt t (i + 1) F) := by
  have hst := hs.2 i hi
  have ho1 := h.1
  constructor
  · intro c
    refine ⟨by rw [List.length_append, List.length_singleton]; omega, ?_⟩
    intro z hz j hj
    rw [List.length_append, List.length_singleton] at hz
    rw [rd_app t _ z (by omega)]
    by_cases cz : z = t.length
    · rw [if_pos cz]
      by_cases cj : j = i + 1
      · rw [cj]; constructor <;> intro _ <;> omega
      · have : F j ≤ F i := hs.mono (by omega) (by omega)
        constructor <;> intro _ <;> omega
    · rw [if_neg cz]
      by_cases cj : j = i + 1
      · have := (h.2 z (by omega) i (by omega)).2 (by omega)
        rw [cj]; constructor <;> intro _ <;> omega
      · exact h.2 z (by omega) j (by omega)
  · intro c
    refine ⟨by omega, ?_⟩
    intro z hz j hj
    by_cases cj : j = i + 1
    · have := (h.2 z (by omega) i (by omega)).2 (by omega)
      rw [cj]; constructor <;> intro _ <;> omega
    · exact h.2 z (by omega) j (by omega)
/-- The thresholds are the places where the row goes up. -/
theorem thresholds (x y : List Int) (hx : x.length ≤ 40) (hy : y.length ≤ 130) (rx : ∀ z ∈ x, 0 ≤ z ∧ z < 4) (ry : ∀ z ∈ y, 0 ≤ z ∧ z < 4) {k : Nat} (hk : 1000 ≤ k) : ∃ t, hunt_Thresholds.f k x y = some t ∧ Cnt t y.length (Lf x y) := by
  obtain ⟨q, q1, q2⟩ := go_all y (by omega) (k := k) (by omega) x [] [] (cnt_nil y)
  rw [List.nil_append] at q2
  refine ⟨q, ?_, q2⟩
  unfold hunt_Thresholds.f
  rw [if_pos ⟨by omega, by omega, List.all_eq_true.mpr (wf_range 4 (by decide) x rx), List.all_eq_true.mpr (wf_range 4 (by decide) y ry)⟩, q1]
theorem loop (x y : List Int) (hx : x.length ≤ 40) (hy : y.length ≤ 130) (rx : ∀ z ∈ x, 0 ≤ z ∧ z < 4) (ry : ∀ z ∈ y, 0 ≤ z ∧ z < 4) (d : Nat) : ∀ (k j : Nat) (t : List Int), j + d = y.length → 20000 + 2 * d < k → Cnt t j (Lf x y) →
    tattingtop_TopRows.l0 k x y (rowOf x y) (stepsOf (rowOf x y)) (Vec.rows Vec.hyRow x y x.length) (Vec.rows Vec.crRow x y x.length) t (j : Int) = some true := by
  have hs := Lf_stair x y
  have hlr := rowOf_length x y
  have htop := hs.top
  have hsl : (stepsOf (rowOf x y)).length = y.length := by unfold stepsOf; rw [tabulate_length]; omega
  induction d with
  | zero =>
    intro k j t hj hk ht
    obtain ⟨k, rfl⟩ := round hk
    obtain rfl : j = y.length := by omega
    obtain ⟨q, q1, q2⟩ := thresholds x y hx hy rx ry (k := k) (by omega)
    obtain rfl := q2.one hs ht
    have hl := ht.1
    have hLf : Lf x y y.length = L x y := by unfold Lf; rw [List.take_of_length_le (Nat.le_refl _)]
    have hmul := Nat.mul_le_mul (show y.length + 3 ≤ 133 by omega) hx
    simp only [tattingtop_TopRows.l0]
    have r0 : rd (rowOf x y) 0 = 0 := by
      have := rd_rowOf x y 0 (by omega)
      rw [List.take_zero, L_nil_right] at this
      exact this
    have rn := rd_rowOf x y y.length (Nat.le_refl _)
    rw [List.take_of_length_le (Nat.le_refl _)] at rn
    rw [if_neg (by omega), q1, Option.bind_some, sameInts q q (by omega) (by omega), Option.bind_some, decide_eq_true rfl, if_pos rfl, gridLen x y (by omega) (by omega) (by omega), Option.bind_some, if_pos (by omega), if_pos (by omega), r0, if_pos rfl, if_pos (by omega), if_pos (by omega), rn, hl, hLf, beq_self_eq_true]
  | succ d ih =>
    intro k j t hj hk ht
    obtain ⟨k, rfl⟩ := round hk
    have hst := hs.2 j (by omega)
    have hn := ht.snoc hs (show j < y.length by omega)
    have htl := ht.1
    have hF : Lf x y j ≤ Lf x y y.length := hs.mono (by omega) (Nat.le_refl _)
    have a1 : rd (rowOf x y) (j : Int) = (Lf x y j : Int) := rd_rowOf x y j (by omega)
    have a2 : rd (rowOf x y) ((j + 1 : Nat) : Int) = (Lf x y (j + 1) : Int) := rd_rowOf x y (j + 1) (by omega)
    have a3 : rd (stepsOf (rowOf x y)) (j : Int) = if Lf x y (j + 1) = Lf x y j then 0 else 1 := by
      unfold stepsOf
      rw [rd_tabulate _ _ _ (by omega), stepAt, a1, a2]
      by_cases c : Lf x y (j + 1) = Lf x y j
      · rw [if_pos c, if_pos (by omega)]
      · rw [if_neg c, if_neg (by omega)]
    have hFr : Fr x y x.length (j + 1) = Lf x y (j + 1) ∧ Fr x y x.length j = Lf x y j := by
      unfold Fr Lf
      rw [List.take_of_length_le (l := x) (Nat.le_refl _)]
      exact ⟨rfl, rfl⟩
    have hb := rowAt_bits x y x.length (Nat.le_refl _) j (by omega)
    rw [hFr.1, hFr.2] at hb
    have hok := Vec.hy_ok x y x.length
    have cok := Vec.cr_ok x y x.length
    have hw : j / 64 < Vec.words y.length := div_words (by omega)
    have g1 := getBit _ j hok.1 (by omega) (by omega)
    have g2 := getBit _ j cok.1 (by omega) (by omega)
    rw [hb.1] at g1
    rw [hb.2] at g2
    have p1 : rd_L3 (Vec.rows Vec.hyRow x y x.length) (x.length : Int) = Vec.rowAt Vec.hyRow x y x.length := by
      rw [rdL_d, Vec.rows_at _ _ _ (Nat.le_refl _)]
    have p2 : rd_L3 (Vec.rows Vec.crRow x y x.length) (x.length : Int) = Vec.rowAt Vec.crRow x y x.length := by
      rw [rdL_d, Vec.rows_at _ _ _ (Nat.le_refl _)]
    have n1 := Vec.rows_len Vec.hyRow x y x.length
    have n2 := Vec.rows_len Vec.crRow x y x.length
    have e1 := Aside0.mk (show wrap64 ((j : Int) + 1) = ((j + 1 : Nat) : Int) from wrap_succ (by omega))
    simp only [tattingtop_TopRows.l0]
    rw [e1.out, a1, a2, a3, p1, p2, if_pos (by omega), if_pos (by omega), if_pos (by omega), if_pos (by omega), if_pos (by omega), if_pos (by omega)]
    obtain ⟨k, rfl⟩ := round (show 0 < k by omega)
    by_cases c : Lf x y (j + 1) = Lf x y j
    · have u : decide (((Lf x y (j + 1) : Nat) : Int) > ((Lf x y j : Nat) : Int)) = false := decide_eq_false (by omega)
      rw [u, if_pos c, if_neg (by decide), if_pos (by omega), if_pos (by omega), g1, Option.bind_some, decide_eq_true c, if_neg (by decide), if_pos (by omega), g2, Option.bind_some, decide_eq_true c]
      simp only [tattingtop_TopRows.j3]
      rw [if_neg (by decide), if_neg (by decide), e1.out]
      exact ih k (j + 1) t (by omega) (by omega) (hn.2 (by omega))
    · have u : decide (((Lf x y (j + 1) : Nat) : Int) > ((Lf x y j : Nat) : Int)) = true := decide_eq_true (by omega)
      rw [u, if_neg c, if_neg (by decide), if_pos (by omega), if_pos (by omega), g1, Option.bind_some, decide_eq_false c, if_neg (by decide), if_pos (by omega), g2, Option.bind_some, decide_eq_false c]
      simp only [tattingtop_TopRows.j3]
      rw [if_neg (by decide), if_pos trivial, if_pos (by omega), e1.out]
      exact ih k (j + 1) _ (by omega) (by omega) (hn.1 (by omega))
theorem TopRows : tattingtop_TopRows.Pure := by
  intro a b _ _ _ _ _ _
  refine ⟨30000, ?_⟩
  unfold tattingtop_TopRows.f tattingtop_awake.f
  rw [Option.bind_some, if_pos rfl]
  have skip : tattingtop_TopRows.j0 30000 a b true = some true := by simp [tattingtop_TopRows.j0]
  by_cases h1 : (a.length : Int) > 40
  · rw [if_pos h1]; exact skip
  rw [if_neg h1]
  by_cases h2 : (b.length : Int) > 130
  · rw [decide_eq_true h2]; exact skip
  rw [decide_eq_false h2]
  clear skip
  simp only [tattingtop_TopRows.j0]
  have lx : (fewOf a 4).length ≤ 40 := by rw [fewOf_length]; omega
  have ly : (fewOf b 4).length ≤ 130 := by rw [fewOf_length]; omega
  have rx := fewOf_range a 4 (by decide)
  have ry := fewOf_range b 4 (by decide)
  rw [if_neg (by decide), few a 4 (by decide) (by decide) (by omega) (by omega), Option.bind_some, few b 4 (by decide) (by decide) (by omega) (by omega), Option.bind_some]
  generalize fewOf a 4 = x at *
  generalize fewOf b 4 = y at *
  have hlr := rowOf_length x y
  have hd : delta_Of.f 29999 (rowOf x y) = some (stepsOf (rowOf x y), 0) := by
    refine (deltaOf (rowOf x y) (by omega) (by omega) (by omega)).1 ?_
    intro j _ hj
    have hst := (Lf_stair x y).2 j (by omega)
    have a1 : rd (rowOf x y) (j : Int) = (Lf x y j : Int) := rd_rowOf x y j (by omega)
    have a2 : rd (rowOf x y) ((j + 1 : Nat) : Int) = (Lf x y (j + 1) : Int) := rd_rowOf x y (j + 1) (by omega)
    have htop := (Lf_stair x y).top
    have hm : Lf x y j ≤ Lf x y y.length := (Lf_stair x y).mono (by omega) (Nat.le_refl _)
    unfold okStep
    rw [a1, a2]
    by_cases c : Lf x y (j + 1) = Lf x y j
    · left; omega
    · right
      rw [wrap_id (by omega) (by omega)]
      omega
  have hy : hyyro_Rows.f x y = some (Vec.rows Vec.hyRow x y x.length) := by
    unfold hyyro_Rows.f
    rw [if_pos ⟨by omega, by omega, List.all_eq_true.mpr (wf_range 4 (by decide) x rx), List.all_eq_true.mpr (wf_range 4 (by decide) y ry)⟩]
  have hc : croch_Rows.f x y = some (Vec.rows Vec.crRow x y x.length) := by
    unfold croch_Rows.f
    rw [if_pos ⟨by omega, by omega, List.all_eq_true.mpr (wf_range 4 (by decide) x rx), List.all_eq_true.mpr (wf_range 4 (by decide) y ry)⟩]
  have n1 := Vec.rows_len Vec.hyRow x y x.length
  have n2 := Vec.rows_len Vec.crRow x y x.length
  have hsl : (stepsOf (rowOf x y)).length = y.length := by unfold stepsOf; rw [tabulate_length]; omega
  have e1 := Aside0.mk (show wrap64 ((y.length : Int) + 1) = ((y.length + 1 : Nat) : Int) from wrap_succ (by omega))
  have e2 := Aside0.mk (show wrap64 ((x.length : Int) + 1) = ((x.length + 1 : Nat) : Int) from wrap_succ (by omega))
  rw [rowsFront x y (by omega) (by omega) (by omega), Option.bind_some, hd, Option.bind_some, hy, Option.bind_some, hc, Option.bind_some]
  simp only []
  rw [if_pos trivial, e1.out, e2.out, if_pos (by omega), if_pos (by omega), if_pos (by omega), n2]
  simp only [bne_self_eq_false, tattingtop_TopRows.j1]
  rw [if_neg (by decide)]
  refine loop x y lx ly rx ry y.length 29998 0 [] (by omega) (by omega) ⟨?_, fun i hi => by simp at hi⟩
  rw [(Lf_stair x y).1]; rfl
end Go.Proofs.YtjkjanegankdhaaGreat.Pure
