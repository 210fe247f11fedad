/- For every row and every list of at most 40 numbers and every number: the next row is the reference's. -/
import Derived.Test.YtmponfnelacclaaPRowsNextx3
import Derived.Test.YtmponfnelacclaaWSized
namespace Go.Proofs.Ytmponfnelacclaa.PrintWords
set_option linter.defProp false in
/-- The printed row names this lemma without the seat-wide namespace. -/
def sized_ints := @Go.Proofs.YtmponfnelacclaaW.PrintWords.sized_ints
end Go.Proofs.Ytmponfnelacclaa.PrintWords
namespace Go.Proofs.Ytmponfnelacclaa.Pure
open Go.RowKit Go.Proofs.Ytmponfnelacclaa.PRowsNext Go.Proofs.YtmponfnelacclaaW.PrintWords Go.Proofs.YtmponfnelacclaaW.PrintLast Go.Proofs.YtmponfnelacclaaW.PrintMore
set_option linter.unusedVariables false
set_option linter.unusedSimpArgs false

theorem wrap_id {i : Int} (h0 : -9223372036854775808 ≤ i) (h1 : i < 9223372036854775808) : wrap64 i = i := by unfold wrap64; omega
theorem wrap_succ {n : Nat} (h : n < 9223372036854775807) : wrap64 ((n : Int) + 1) = ((n + 1 : Nat) : Int) := by unfold wrap64; omega

theorem rd_at (l : List Int) {n : Nat} (h : n < l.length) : rd l (n : Int) = l[n] := by
  unfold rd; rw [Int.toNat_natCast, List.getD_eq_getElem?_getD, List.getElem?_eq_getElem h]; rfl
theorem rd_d (l : List Int) (n : Nat) : rd l (n : Int) = l.getD n 0 := rfl
theorem rd_out (l : List Int) {n : Nat} (h : l.length ≤ n) : rd l (n : Int) = 0 := by
  rw [rd_d, List.getD_eq_getElem?_getD, List.getElem?_eq_none h]; rfl
theorem drop_rd (l : List Int) {n : Nat} (h : n < l.length) : l.drop n = rd l (n : Int) :: l.drop (n + 1) := by
  rw [rd_at l h]; exact List.drop_eq_getElem_cons h
theorem take_rd (l : List Int) {n : Nat} (h : n < l.length) : l.take (n + 1) = l.take n ++ [rd l (n : Int)] := by
  rw [rd_at l h, List.take_succ_eq_append_getElem h]
theorem rd_mem (l : List Int) {n : Nat} (h : n < l.length) : rd l (n : Int) ∈ l := by rw [rd_at l h]; exact List.getElem_mem h
theorem rd_app_lt (l : List Int) (x : Int) {n : Nat} (h : n < l.length) : rd (l ++ [x]) (n : Int) = rd l (n : Int) := by
  rw [rd_at _ (by rw [List.length_append]; omega), rd_at _ h, List.getElem_append_left h]
theorem rd_app_eq (l : List Int) (x : Int) : rd (l ++ [x]) (l.length : Int) = x := by
  rw [rd_at _ (by rw [List.length_append, List.length_singleton]; omega)]; simp
theorem rd_app (l : List Int) (x : Int) (n : Nat) (h : n ≤ l.length) : rd (l ++ [x]) (n : Int) = if n = l.length then x else rd l (n : Int) := by
  by_cases e : n = l.length
  · rw [if_pos e, e, rd_app_eq]
  · rw [if_neg e, rd_app_lt _ _ (by omega)]
theorem rd_set (l : List Int) (i n : Nat) (x : Int) (h : n < l.length) : rd (l.set i x) (n : Int) = if n = i then x else rd l (n : Int) := by
  rw [rd_at _ (by rw [List.length_set]; exact h), rd_at _ h, List.getElem_set]
  by_cases e : n = i
  · rw [if_pos e, if_pos e.symm]
  · rw [if_neg e, if_neg (fun q => e q.symm)]
theorem rd_replicate (m n : Nat) (x : Int) (h : n < m) : rd (List.replicate m x) (n : Int) = x := by
  rw [rd_at _ (by rw [List.length_replicate]; exact h), List.getElem_replicate]
theorem rd_take (l : List Int) {m n : Nat} (h : n < m) (hm : m ≤ l.length) : rd (l.take m) (n : Int) = rd l (n : Int) := by
  rw [rd_at _ (by rw [List.length_take]; omega), rd_at _ (by omega), List.getElem_take]
theorem rd_drop (l : List Int) (m n : Nat) : rd (l.drop m) (n : Int) = rd l ((m + n : Nat) : Int) := by
  rw [rd_d, rd_d, List.getD_eq_getElem?_getD, List.getD_eq_getElem?_getD, List.getElem?_drop]
theorem list_ext {l m : List Int} (h : l.length = m.length) (k : ∀ n : Nat, n < l.length → rd l (n : Int) = rd m (n : Int)) : l = m := by
  apply List.ext_getElem h
  intro i h1 h2
  have := k i h1
  rwa [rd_at _ h1, rd_at _ h2] at this
theorem wf64 {a : Int} (h : (Lit.int .i64 a).wf = true) : -9223372036854775808 ≤ a ∧ a ≤ 9223372036854775807 := by
  simp only [Lit.wf, IntKind.min, IntKind.max, IntKind.signed, IntKind.bits, Bool.and_eq_true, decide_eq_true_eq, if_true] at h
  omega
/-- At least one round. -/
theorem round {k d : Nat} (h : d < k) : ∃ m, k = m + 1 := ⟨k - 1, by omega⟩

/-- The comparison of two lists answers whether they are equal. -/
theorem sameInts_l0 (a b : List Int) (hl : a.length = b.length) (hm : a.length ≤ 9223372036854775806) (d : Nat) : ∀ (k n : Nat), n + d = a.length → d < k → tattingref1_SameInts.l0 k a b (n : Int) = some (decide (a.drop n = b.drop n)) := by
  induction d with
  | zero =>
    intro k n hn hk
    obtain ⟨k, rfl⟩ := round hk
    simp only [tattingref1_SameInts.l0]
    rw [if_neg (by omega), List.drop_eq_nil_of_le (by omega), List.drop_eq_nil_of_le (by omega)]; rfl
  | succ d ih =>
    intro k n hn hk
    obtain ⟨k, rfl⟩ := round hk
    simp only [tattingref1_SameInts.l0]
    rw [if_pos (by omega), if_pos (by omega), if_pos (by omega)]
    rw [drop_rd a (by omega), drop_rd b (by omega)]
    by_cases h : rd a (n : Int) = rd b (n : Int)
    · rw [if_pos h, wrap_succ (by omega), ih k (n + 1) (by omega) (by omega), h]
      simp
    · rw [if_neg h]
      simp [h]
theorem sameInts (a b : List Int) (hm : a.length ≤ 9223372036854775806) {k : Nat} (hk : a.length < k) : tattingref1_SameInts.f k a b = some (decide (a = b)) := by
  unfold tattingref1_SameInts.f
  by_cases h : a.length = b.length
  · rw [if_pos (by omega)]
    exact sameInts_l0 a b h hm a.length k 0 (by omega) hk
  · rw [if_neg (by omega)]
    congr 1
    rw [eq_comm, decide_eq_false_iff_not]
    intro e; exact h (by rw [e])

/-- The longest common subsequence's length. -/
def L : List Int → List Int → Nat
  | [], _ => 0
  | _ :: _, [] => 0
  | x :: xs, y :: ys => if x = y then L xs ys + 1 else max (L xs (y :: ys)) (L (x :: xs) ys)
termination_by a b => a.length + b.length

theorem L_nil_left (b : List Int) : L [] b = 0 := by rw [L]
theorem L_nil_right (a : List Int) : L a [] = 0 := by cases a <;> rw [L]
theorem L_cons_eq (x : Int) (xs ys : List Int) : L (x :: xs) (x :: ys) = L xs ys + 1 := by rw [L, if_pos rfl]
theorem L_cons_ne {x y : Int} (h : x ≠ y) (xs ys : List Int) : L (x :: xs) (y :: ys) = max (L xs (y :: ys)) (L (x :: xs) ys) := by rw [L, if_neg h]

theorem L_ub (a b : List Int) : ∀ s : List Int, s.Sublist a → s.Sublist b → s.length ≤ L a b := by
  induction a, b using L.induct with
  | case1 b => intro s h _; rw [List.sublist_nil.mp h]; simp
  | case2 x xs => intro s _ h; rw [List.sublist_nil.mp h]; simp
  | case3 xs y ys ih =>
    intro s h1 h2
    rw [L_cons_eq]
    have h3 := ih s.tail (by simpa using h1.tail) (by simpa using h2.tail)
    have h4 : s.length ≤ s.tail.length + 1 := by rw [List.length_tail]; omega
    omega
  | case4 x xs y ys hne ih1 ih2 =>
    intro s h1 h2
    rw [L_cons_ne hne]
    rcases List.sublist_cons_iff.mp h1 with h | ⟨r, rfl, hr⟩
    · have := ih1 s h h2; omega
    · rcases List.sublist_cons_iff.mp h2 with h | ⟨r', he, hr'⟩
      · have := ih2 _ h1 h; omega
      · injection he with he1 he2; exact absurd he1 hne

theorem L_has (a b : List Int) : ∃ s : List Int, s.Sublist a ∧ s.Sublist b ∧ s.length = L a b := by
  induction a, b using L.induct with
  | case1 b => exact ⟨[], by simp, by simp, by rw [L_nil_left]; rfl⟩
  | case2 x xs => exact ⟨[], by simp, by simp, by rw [L_nil_right]; rfl⟩
  | case3 xs y ys ih =>
    obtain ⟨s, h1, h2, h3⟩ := ih
    exact ⟨y :: s, h1.cons_cons y, h2.cons_cons y, by rw [L_cons_eq]; simp [h3]⟩
  | case4 x xs y ys hne ih1 ih2 =>
    obtain ⟨s, h1, h2, h3⟩ := ih1
    obtain ⟨t, k1, k2, k3⟩ := ih2
    rw [L_cons_ne hne]
    by_cases h : L (x :: xs) ys ≤ L xs (y :: ys)
    · exact ⟨s, h1.cons x, h2, by omega⟩
    · exact ⟨t, k1, k2.cons y, by omega⟩

theorem L_le_of (a b c d : List Int) (h : ∀ s : List Int, s.Sublist a → s.Sublist b → ∃ t : List Int, t.length = s.length ∧ t.Sublist c ∧ t.Sublist d) : L a b ≤ L c d := by
  obtain ⟨s, h1, h2, h3⟩ := L_has a b
  obtain ⟨t, k1, k2, k3⟩ := h s h1 h2
  have := L_ub c d t k2 k3
  omega

theorem L_mono {a b c d : List Int} (h : a.Sublist c) (k : b.Sublist d) : L a b ≤ L c d :=
  L_le_of _ _ _ _ fun s h1 h2 => ⟨s, rfl, h1.trans h, h2.trans k⟩

theorem L_comm (a b : List Int) : L a b = L b a :=
  Nat.le_antisymm (L_le_of _ _ _ _ fun s h k => ⟨s, rfl, k, h⟩) (L_le_of _ _ _ _ fun s h k => ⟨s, rfl, k, h⟩)

theorem L_rev_le (a b : List Int) : L a b ≤ L a.reverse b.reverse :=
  L_le_of _ _ _ _ fun s h k => ⟨s.reverse, by simp, h.reverse, k.reverse⟩

theorem L_rev (a b : List Int) : L a.reverse b.reverse = L a b :=
  Nat.le_antisymm (by simpa using L_rev_le a.reverse b.reverse) (L_rev_le a b)

theorem L_le_left (a b : List Int) : L a b ≤ a.length := by
  obtain ⟨s, h1, _, h3⟩ := L_has a b
  have := h1.length_le; omega

theorem L_le_right (a b : List Int) : L a b ≤ b.length := by rw [L_comm]; exact L_le_left b a

/-- One element more makes it at most one longer. -/
theorem L_cons_le (x : Int) (a b : List Int) : L (x :: a) b ≤ L a b + 1 := by
  obtain ⟨s, h1, h2, h3⟩ := L_has (x :: a) b
  have h := L_ub a b s.tail (by simpa using h1.tail) ((List.tail_sublist s).trans h2)
  rw [List.length_tail] at h
  omega

theorem L_cons_le' (y : Int) (a b : List Int) : L a (y :: b) ≤ L a b + 1 := by
  rw [L_comm a, L_comm a]; exact L_cons_le y b a

theorem L_le_cons (x : Int) (a b : List Int) : L a b ≤ L (x :: a) b := L_mono (List.sublist_cons_self x a) (List.Sublist.refl b)
theorem L_le_cons' (y : Int) (a b : List Int) : L a b ≤ L a (y :: b) := L_mono (List.Sublist.refl a) (List.sublist_cons_self y b)

/-- The same, from the end. -/
theorem L_snoc_eq (x : Int) (a b : List Int) : L (a ++ [x]) (b ++ [x]) = L a b + 1 := by
  rw [← L_rev]; simp only [List.reverse_append, List.reverse_cons, List.reverse_nil, List.nil_append, List.singleton_append]; rw [L_cons_eq, L_rev]

theorem L_snoc_ne {x y : Int} (h : x ≠ y) (a b : List Int) : L (a ++ [x]) (b ++ [y]) = max (L a (b ++ [y])) (L (a ++ [x]) b) := by
  have e1 : L a (b ++ [y]) = L a.reverse (y :: b.reverse) := by rw [← L_rev]; simp
  have e2 : L (a ++ [x]) b = L (x :: a.reverse) b.reverse := by rw [← L_rev]; simp
  rw [← L_rev, e1, e2]; simp only [List.reverse_append, List.reverse_cons, List.reverse_nil, List.nil_append, List.singleton_append]; rw [L_cons_ne h]

theorem L_prefix (p a b : List Int) : L (p ++ a) (p ++ b) = p.length + L a b := by
  induction p with
  | nil => simp
  | cons x p ih => rw [List.cons_append, List.cons_append, L_cons_eq, ih, List.length_cons]; omega

theorem L_suffix (s a b : List Int) : L (a ++ s) (b ++ s) = L a b + s.length := by
  rw [← L_rev, List.reverse_append, List.reverse_append, L_prefix, L_rev, List.length_reverse]; omega

theorem L_append_ge (a1 a2 b1 b2 : List Int) : L a1 b1 + L a2 b2 ≤ L (a1 ++ a2) (b1 ++ b2) := by
  obtain ⟨s, h1, h2, h3⟩ := L_has a1 b1
  obtain ⟨t, k1, k2, k3⟩ := L_has a2 b2
  have := L_ub (a1 ++ a2) (b1 ++ b2) (s ++ t) (h1.append k1) (h2.append k2)
  rw [List.length_append] at this
  omega

/-- Where the first list is cut, the second one can be cut too. -/
theorem L_split (a1 a2 b : List Int) : ∃ j, j ≤ b.length ∧ L (a1 ++ a2) b = L a1 (b.take j) + L a2 (b.drop j) := by
  obtain ⟨s, h1, h2, h3⟩ := L_has (a1 ++ a2) b
  obtain ⟨s1, s2, rfl, k1, k2⟩ := List.sublist_append_iff.mp h1
  obtain ⟨b1, b2, rfl, m1, m2⟩ := List.append_sublist_iff.mp h2
  refine ⟨b1.length, by simp, ?_⟩
  have e1 : (b1 ++ b2).take b1.length = b1 := List.take_left' rfl
  have e2 : (b1 ++ b2).drop b1.length = b2 := List.drop_left' rfl
  rw [e1, e2]
  have u1 := L_ub a1 b1 s1 k1 m1
  have u2 := L_ub a2 b2 s2 k2 m2
  have u3 := L_append_ge a1 a2 b1 b2
  rw [List.length_append] at h3
  omega

theorem L_split_le (a1 a2 b : List Int) (j : Nat) : L a1 (b.take j) + L a2 (b.drop j) ≤ L (a1 ++ a2) b := by
  have h := L_append_ge a1 a2 (b.take j) (b.drop j)
  rwa [List.take_append_drop] at h

/-- Number j of the next row. -/
def nxt (row : List Int) (sym : Int) (b : List Int) : Nat → Int
  | 0 => rd row ((0 : Nat) : Int)
  | j + 1 => if rd b (j : Int) = sym then wrap64 (rd row (j : Int) + 1) else mx (rd row ((j + 1 : Nat) : Int)) (nxt row sym b j)
/-- A list of so many numbers, each told by its place. -/
def tabulate (n : Nat) (f : Nat → Int) : List Int := (List.range n).map f
theorem tabulate_length (n : Nat) (f : Nat → Int) : (tabulate n f).length = n := by unfold tabulate; rw [List.length_map, List.length_range]
theorem rd_tabulate (n : Nat) (f : Nat → Int) (j : Nat) (h : j < n) : rd (tabulate n f) (j : Int) = f j := by
  rw [rd_at _ (by rw [tabulate_length]; exact h)]; unfold tabulate; rw [List.getElem_map, List.getElem_range]
theorem eq_tabulate (l : List Int) (n : Nat) (f : Nat → Int) (hl : l.length = n) (h : ∀ j, j < n → rd l (j : Int) = f j) : l = tabulate n f := by
  apply list_ext (by rw [hl, tabulate_length])
  intro j hj; rw [rd_tabulate _ _ _ (by omega), h j (by omega)]
/-- The row of a list. -/
def rowOf (a b : List Int) : List Int := tabulate (b.length + 1) fun j => (L a (b.take j) : Int)
theorem rowOf_length (a b : List Int) : (rowOf a b).length = b.length + 1 := tabulate_length _ _
theorem rd_rowOf (a b : List Int) (j : Nat) (h : j ≤ b.length) : rd (rowOf a b) (j : Int) = (L a (b.take j) : Int) := rd_tabulate _ _ _ (by omega)
theorem mx_nat' (x y : Nat) : mx (x : Int) (y : Int) = ((max x y : Nat) : Int) := by unfold mx; split <;> omega
theorem nxt_rowOf (a b : List Int) (x : Int) (ha : a.length ≤ 1000000) (j : Nat) (hj : j ≤ b.length) : nxt (rowOf a b) x b j = (L (a ++ [x]) (b.take j) : Int) := by
  induction j with
  | zero => rw [nxt, rd_rowOf _ _ _ (by omega), List.take_zero, L_nil_right, L_nil_right]
  | succ j ih =>
    have ih := ih (by omega)
    rw [nxt, ih, rd_rowOf _ _ _ (by omega), rd_rowOf _ _ _ (by omega), take_rd b (show j < b.length by omega)]
    have hl := L_le_left a (b.take j)
    by_cases e : rd b (j : Int) = x
    · rw [if_pos e, wrap_id (by omega) (by omega), e, L_snoc_eq]; omega
    · rw [if_neg e, mx_nat', L_snoc_ne (fun q => e q.symm)]
theorem next_rowOf (a b : List Int) (x : Int) (ha : a.length ≤ 1000000) : tabulate (b.length + 1) (nxt (rowOf a b) x b) = rowOf (a ++ [x]) b := by
  refine eq_tabulate _ _ _ (tabulate_length _ _) ?_
  intro j hj
  rw [rd_tabulate _ _ _ hj, nxt_rowOf a b x ha j (by omega)]
theorem rowOf_nil (b : List Int) : rowOf [] b = List.replicate (b.length + 1) 0 := by
  refine (eq_tabulate _ _ _ (by rw [List.length_replicate]) ?_).symm
  intro j hj; rw [rd_replicate _ _ _ hj, L_nil_left]; rfl

theorem rowsNext_l0 (row : List Int) (sym : Int) (b : List Int) (hr : row.length = b.length + 1) (hb : b.length ≤ 1000000) (d : Nat) : ∀ (k i : Nat) (t : List Int), i + d = b.length → d < k → t.length = b.length + 1 → (∀ j, j ≤ i → rd t (j : Int) = nxt row sym b j) →
    rows_Next.l0 k row sym t b (b.length : Int) (i : Int) = some (tabulate (b.length + 1) (nxt row sym b)) := by
  induction d with
  | zero =>
    intro k i t hi hk ht h
    obtain ⟨k, rfl⟩ := round hk
    simp only [rows_Next.l0]
    rw [if_neg (by omega)]
    exact congrArg some (eq_tabulate t _ _ ht (fun j hj => h j (by omega)))
  | succ d ih =>
    intro k i t hi hk ht h
    obtain ⟨k, rfl⟩ := round hk
    simp only [rows_Next.l0]
    have E1 := Aside0.mk (show wrap64 ((i : Int) + 1) = ((i + 1 : Nat) : Int) from wrap_succ (by omega))
    rw [E1.out, if_pos (by omega), if_pos (by omega), if_pos (by omega)]
    simp only [Int.toNat_natCast]
    have go : ∀ v, v = nxt row sym b (i + 1) → rows_Next.l0 k row sym (t.set (i + 1) v) b (b.length : Int) ((i + 1 : Nat) : Int) = some (tabulate (b.length + 1) (nxt row sym b)) := by
      intro v hv
      refine ih k (i + 1) _ (by omega) (by omega) (by rw [List.length_set]; exact ht) ?_
      intro j hj
      rw [rd_set _ _ _ _ (by omega)]
      by_cases e : j = i + 1
      · rw [if_pos e, hv, e]
      · rw [if_neg e]; exact h j (by omega)
    by_cases e : rd b (i : Int) = sym
    · rw [if_pos e, if_pos (by omega), if_pos (by omega), if_pos (by omega)]
      exact go _ (by rw [nxt, if_pos e])
    · rw [if_neg e, if_pos (by omega), if_pos (by omega), if_pos (by omega), if_pos (by omega)]
      exact go _ (by rw [nxt, if_neg e, h i (Nat.le_refl _)])
theorem rowsNext (row : List Int) (sym : Int) (b : List Int) (hr : row.length = b.length + 1) (hb : b.length ≤ 1000000) {k : Nat} (hk : b.length < k) : rows_Next.f k row sym b = some (tabulate (b.length + 1) (nxt row sym b)) := by
  unfold rows_Next.f
  rw [wrap_succ (by omega), if_pos (by omega), if_pos (by omega), if_pos (by omega), Option.bind_some, if_pos (by omega), if_pos (by rw [List.length_replicate]; omega)]
  refine rowsNext_l0 row sym b hr hb b.length k 0 _ (by omega) hk (by rw [List.length_set, List.length_replicate]; omega) ?_
  intro j hj
  rw [show j = 0 by omega]
  exact rd_set (List.replicate row.length 0) 0 0 (rd row 0) (by rw [List.length_replicate]; omega)
theorem rowsNext_not (row : List Int) (sym : Int) (b : List Int) (hr : row.length ≠ b.length + 1) (hb : b.length ≤ 1000000) (k : Nat) : rows_Next.f k row sym b = some [] := by
  unfold rows_Next.f
  rw [wrap_succ (by omega), if_neg (by omega)]

theorem refNext_l0 (row : List Int) (sym : Int) (b : List Int) (hr : row.length = b.length + 1) (hb : b.length ≤ 1000000) (d : Nat) : ∀ (k i : Nat) (t : List Int), i + d = b.length → d < k → t.length = i + 1 → (∀ j, j ≤ i → rd t (j : Int) = nxt row sym b j) →
    tattingref7_Next.l0 k row sym b t (i : Int) = some (tabulate (b.length + 1) (nxt row sym b)) := by
  induction d with
  | zero =>
    intro k i t hi hk ht h
    obtain ⟨k, rfl⟩ := round hk
    simp only [tattingref7_Next.l0]
    rw [if_neg (by omega)]
    exact congrArg some (eq_tabulate t _ _ (by omega) (fun j hj => h j (by omega)))
  | succ d ih =>
    intro k i t hi hk ht h
    obtain ⟨k, rfl⟩ := round hk
    simp only [tattingref7_Next.l0]
    have E1 := Aside0.mk (show wrap64 ((i : Int) + 1) = ((i + 1 : Nat) : Int) from wrap_succ (by omega))
    rw [E1.out, if_pos (by omega), if_pos (by omega)]
    have go : ∀ v, v = nxt row sym b (i + 1) → tattingref7_Next.l0 k row sym b (t ++ [v]) ((i + 1 : Nat) : Int) = some (tabulate (b.length + 1) (nxt row sym b)) := by
      intro v hv
      refine ih k (i + 1) _ (by omega) (by omega) (by rw [List.length_append, List.length_singleton]; omega) ?_
      intro j hj
      rw [rd_app _ _ _ (by omega)]
      by_cases e : j = t.length
      · rw [if_pos e, hv, e, ht]
      · rw [if_neg e]; exact h j (by omega)
    by_cases e : rd b (i : Int) = sym
    · rw [if_pos e, if_pos (by omega), if_pos (by omega)]
      exact go _ (by rw [nxt, if_pos e])
    · rw [if_neg e, if_pos (by omega), if_pos (by omega), if_pos (by omega), if_pos (by omega)]
      exact go _ (by rw [nxt, if_neg e, h i (Nat.le_refl _)])
theorem refNext (row : List Int) (sym : Int) (b : List Int) (hr : row.length = b.length + 1) (hb : b.length ≤ 1000000) {k : Nat} (hk : b.length < k) : tattingref7_Next.f k row sym b = some (tabulate (b.length + 1) (nxt row sym b)) := by
  unfold tattingref7_Next.f
  rw [wrap_succ (by omega), if_pos (by omega), if_pos (by omega)]
  refine refNext_l0 row sym b hr hb b.length k 0 _ (by omega) hk rfl ?_
  intro j hj
  rw [show j = 0 by omega]; rfl
theorem refNext_not (row : List Int) (sym : Int) (b : List Int) (hr : row.length ≠ b.length + 1) (hb : b.length ≤ 1000000) (k : Nat) : tattingref7_Next.f k row sym b = some [] := by
  unfold tattingref7_Next.f
  rw [wrap_succ (by omega), if_neg (by omega)]

theorem awake : tattinglaw10_awake.f 60 = some true := by decide +kernel
theorem RowsNext : tattinglaw10_RowsNext.Pure := by
  intro row sym b _ _ _ _ _ _ _
  refine ⟨1000, ?_⟩
  unfold tattinglaw10_RowsNext.f
  rw [at_rounds tattinglaw10_awake.mono (by decide) awake, Option.bind_some, if_pos rfl]
  have skip : tattinglaw10_RowsNext.j0 1000 row sym b true = some true := by simp [tattinglaw10_RowsNext.j0]
  by_cases h1 : (row.length : Int) > 40
  · rw [if_pos h1]; exact skip
  rw [if_neg h1]
  by_cases h2 : (b.length : Int) > 40
  · rw [decide_eq_true h2]; exact skip
  rw [decide_eq_false h2]
  simp only [tattinglaw10_RowsNext.j0]
  rw [if_neg (by decide)]
  by_cases c : row.length = b.length + 1
  · rw [rowsNext row sym b c (by omega) (by omega), Option.bind_some, refNext row sym b c (by omega) (by omega), Option.bind_some, sameInts _ _ (by rw [tabulate_length]; omega) (by rw [tabulate_length]; omega), Option.bind_some]; simp
  · rw [rowsNext_not row sym b c (by omega), Option.bind_some, refNext_not row sym b c (by omega), Option.bind_some, sameInts _ _ (by decide) (by decide), Option.bind_some]; simp

end Go.Proofs.Ytmponfnelacclaa.Pure
