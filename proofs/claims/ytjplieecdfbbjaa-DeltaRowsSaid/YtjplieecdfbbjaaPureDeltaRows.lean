/- For every two lists of at most 40 numbers, brought to four: the table's row is steps, as many as it goes up, and they lead to it again. -/
import Derived.Test.YtjplieecdfbbjaaPDeltaRowsx5
import Derived.Test.YtjplieecdfbbjaaWSized
namespace Go.Proofs.Ytjplieecdfbbjaa.PrintWords
set_option linter.defProp false in
/-- The printed row names this lemma without the seat-wide namespace. -/
def sized_ints := @Go.Proofs.YtjplieecdfbbjaaW.PrintWords.sized_ints
end Go.Proofs.Ytjplieecdfbbjaa.PrintWords
namespace Go.Proofs.Ytjplieecdfbbjaa.Pure
open Go.RowKit Go.Proofs.Ytjplieecdfbbjaa.PDeltaRows Go.Proofs.YtjplieecdfbbjaaW.PrintWords Go.Proofs.YtjplieecdfbbjaaW.PrintLast Go.Proofs.YtjplieecdfbbjaaW.PrintMore
set_option linter.unusedVariables false
set_option linter.unusedSimpArgs false

theorem wrap_id {i : Int} (h0 : -9223372036854775808 ≤ i) (h1 : i < 9223372036854775808) : wrap64 i = i := by unfold wrap64; omega
theorem wrap_succ {n : Nat} (h : n < 9223372036854775807) : wrap64 ((n : Int) + 1) = ((n + 1 : Nat) : Int) := by unfold wrap64; omega

theorem rd_at (l : List Int) {n : Nat} (h : n < l.length) : rd l (n : Int) = l[n] := by
  unfold rd; rw [Int.toNat_natCast, List.getD_eq_getElem?_getD, List.getElem?_eq_getElem h]; rfl
theorem rd_d (l : List Int) (n : Nat) : rd l (n : Int) = l.getD n 0 := rfl
theorem rd_out (l : List Int) {n : Nat} (h : l.length ≤ n) : rd l (n : Int) = 0 := by
  rw [rd_d, List.getD_eq_getElem?_getD, List.getElem?_eq_none h]; rfl
theorem drop_rd (l : List Int) {n : Nat} (h : n < l.length) : l.drop n = rd l (n : Int) :: l.drop (n + 1) := by
  rw [rd_at l h]; exact List.drop_eq_getElem_cons h
theorem take_rd (l : List Int) {n : Nat} (h : n < l.length) : l.take (n + 1) = l.take n ++ [rd l (n : Int)] := by
  rw [rd_at l h, List.take_succ_eq_append_getElem h]
theorem rd_mem (l : List Int) {n : Nat} (h : n < l.length) : rd l (n : Int) ∈ l := by rw [rd_at l h]; exact List.getElem_mem h
theorem rd_app_lt (l : List Int) (x : Int) {n : Nat} (h : n < l.length) : rd (l ++ [x]) (n : Int) = rd l (n : Int) := by
  rw [rd_at _ (by rw [List.length_append]; omega), rd_at _ h, List.getElem_append_left h]
theorem rd_app_eq (l : List Int) (x : Int) : rd (l ++ [x]) (l.length : Int) = x := by
  rw [rd_at _ (by rw [List.length_append, List.length_singleton]; omega)]; simp
theorem rd_app (l : List Int) (x : Int) (n : Nat) (h : n ≤ l.length) : rd (l ++ [x]) (n : Int) = if n = l.length then x else rd l (n : Int) := by
  by_cases e : n = l.length
  · rw [if_pos e, e, rd_app_eq]
  · rw [if_neg e, rd_app_lt _ _ (by omega)]
theorem rd_set (l : List Int) (i n : Nat) (x : Int) (h : n < l.length) : rd (l.set i x) (n : Int) = if n = i then x else rd l (n : Int) := by
  rw [rd_at _ (by rw [List.length_set]; exact h), rd_at _ h, List.getElem_set]
  by_cases e : n = i
  · rw [if_pos e, if_pos e.symm]
  · rw [if_neg e, if_neg (fun q => e q.symm)]
theorem rd_replicate (m n : Nat) (x : Int) (h : n < m) : rd (List.replicate m x) (n : Int) = x := by
  rw [rd_at _ (by rw [List.length_replicate]; exact h), List.getElem_replicate]
theorem rd_take (l : List Int) {m n : Nat} (h : n < m) (hm : m ≤ l.length) : rd (l.take m) (n : Int) = rd l (n : Int) := by
  rw [rd_at _ (by rw [List.length_take]; omega), rd_at _ (by omega), List.getElem_take]
theorem rd_drop (l : List Int) (m n : Nat) : rd (l.drop m) (n : Int) = rd l ((m + n : Nat) : Int) := by
  rw [rd_d, rd_d, List.getD_eq_getElem?_getD, List.getD_eq_getElem?_getD, List.getElem?_drop]
theorem list_ext {l m : List Int} (h : l.length = m.length) (k : ∀ n : Nat, n < l.length → rd l (n : Int) = rd m (n : Int)) : l = m := by
  apply List.ext_getElem h
  intro i h1 h2
  have := k i h1
  rwa [rd_at _ h1, rd_at _ h2] at this
theorem wf64 {a : Int} (h : (Lit.int .i64 a).wf = true) : -9223372036854775808 ≤ a ∧ a ≤ 9223372036854775807 := by
  simp only [Lit.wf, IntKind.min, IntKind.max, IntKind.signed, IntKind.bits, Bool.and_eq_true, decide_eq_true_eq, if_true] at h
  omega
/-- At least one round. -/
theorem round {k d : Nat} (h : d < k) : ∃ m, k = m + 1 := ⟨k - 1, by omega⟩

/-- The comparison of two lists answers whether they are equal. -/
theorem sameInts_l0 (a b : List Int) (hl : a.length = b.length) (hm : a.length ≤ 9223372036854775806) (d : Nat) : ∀ (k n : Nat), n + d = a.length → d < k → tattingref1_SameInts.l0 k a b (n : Int) = some (decide (a.drop n = b.drop n)) := by
  induction d with
  | zero =>
    intro k n hn hk
    obtain ⟨k, rfl⟩ := round hk
    simp only [tattingref1_SameInts.l0]
    rw [if_neg (by omega), List.drop_eq_nil_of_le (by omega), List.drop_eq_nil_of_le (by omega)]; rfl
  | succ d ih =>
    intro k n hn hk
    obtain ⟨k, rfl⟩ := round hk
    simp only [tattingref1_SameInts.l0]
    rw [if_pos (by omega), if_pos (by omega), if_pos (by omega)]
    rw [drop_rd a (by omega), drop_rd b (by omega)]
    by_cases h : rd a (n : Int) = rd b (n : Int)
    · rw [if_pos h, wrap_succ (by omega), ih k (n + 1) (by omega) (by omega), h]
      simp
    · rw [if_neg h]
      simp [h]
theorem sameInts (a b : List Int) (hm : a.length ≤ 9223372036854775806) {k : Nat} (hk : a.length < k) : tattingref1_SameInts.f k a b = some (decide (a = b)) := by
  unfold tattingref1_SameInts.f
  by_cases h : a.length = b.length
  · rw [if_pos (by omega)]
    exact sameInts_l0 a b h hm a.length k 0 (by omega) hk
  · rw [if_neg (by omega)]
    congr 1
    rw [eq_comm, decide_eq_false_iff_not]
    intro e; exact h (by rw [e])

/-- The numbers brought to a few. -/
def fewOf (l : List Int) (n : Int) : List Int := l.map (· % n)
theorem fewOf_length (l : List Int) (n : Int) : (fewOf l n).length = l.length := by unfold fewOf; rw [List.length_map]
theorem fewOf_range (l : List Int) (n : Int) (hn : 0 < n) : ∀ x ∈ fewOf l n, 0 ≤ x ∧ x < n := by
  intro x hx
  unfold fewOf at hx
  obtain ⟨y, _, rfl⟩ := List.mem_map.mp hx
  exact ⟨Int.emod_nonneg y (by omega), Int.emod_lt_of_pos y hn⟩
theorem tmod_emod (x n : Int) (hn : 0 < n) : (if Int.tmod x n < 0 then Int.tmod x n + n else Int.tmod x n) = x % n := by
  have h0 := Int.emod_nonneg x (show n ≠ 0 by omega)
  have h1 := Int.emod_lt_of_pos x hn
  have h := Int.tmod_eq_emod (a := x) (b := n)
  by_cases c : 0 ≤ x ∨ n ∣ x
  · rw [if_pos c] at h; rw [if_neg (by omega)]; omega
  · rw [if_neg c] at h; rw [if_pos (by omega)]; omega
theorem few_l0 (l : List Int) (n : Int) (hn : 0 < n) (hn' : n ≤ 1000000) (hl : l.length ≤ 1000000) (d : Nat) : ∀ (k i : Nat) (out : List Int), i + d = l.length → d < k → out.length = i → tattingref1_Few.l0 k l n out (i : Int) = some (out ++ fewOf (l.drop i) n) := by
  induction d with
  | zero =>
    intro k i out hi hk ho
    obtain ⟨k, rfl⟩ := round hk
    simp only [tattingref1_Few.l0]
    rw [if_neg (by omega), List.drop_eq_nil_of_le (by omega)]
    simp [fewOf]
  | succ d ih =>
    intro k i out hi hk ho
    obtain ⟨k, rfl⟩ := round hk
    simp only [tattingref1_Few.l0]
    rw [if_pos (by omega), if_pos (by omega), if_neg (by omega), drop_rd l (by omega)]
    have h := tmod_emod (rd l (i : Int)) n hn
    have h0 := Int.emod_nonneg (rd l (i : Int)) (show n ≠ 0 by omega)
    have h1 := Int.emod_lt_of_pos (rd l (i : Int)) hn
    have e : fewOf (rd l (i : Int) :: l.drop (i + 1)) n = (rd l (i : Int) % n) :: fewOf (l.drop (i + 1)) n := rfl
    rw [e]
    by_cases c : Int.tmod (rd l (i : Int)) n < 0
    · rw [if_pos c] at h
      rw [if_pos c, if_pos (by omega), wrap_succ (by omega), wrap_id (by omega) (by omega), h, ih k (i + 1) _ (by omega) (by omega) (by rw [List.length_append, List.length_singleton]; omega)]
      simp
    · rw [if_neg c] at h
      rw [if_neg c, if_pos (by omega), wrap_succ (by omega), h, ih k (i + 1) _ (by omega) (by omega) (by rw [List.length_append, List.length_singleton]; omega)]
      simp
theorem few (l : List Int) (n : Int) (hn : 0 < n) (hn' : n ≤ 1000000) (hl : l.length ≤ 1000000) {k : Nat} (hk : l.length < k) : tattingref1_Few.f k l n = some (fewOf l n) := by
  have h := few_l0 l n hn hn' hl l.length k 0 [] (by omega) hk rfl
  rwa [List.nil_append, List.drop_zero] at h

/-- The longest common subsequence's length. -/
def L : List Int → List Int → Nat
  | [], _ => 0
  | _ :: _, [] => 0
  | x :: xs, y :: ys => if x = y then L xs ys + 1 else max (L xs (y :: ys)) (L (x :: xs) ys)
termination_by a b => a.length + b.length

theorem L_nil_left (b : List Int) : L [] b = 0 := by rw [L]
theorem L_nil_right (a : List Int) : L a [] = 0 := by cases a <;> rw [L]
theorem L_cons_eq (x : Int) (xs ys : List Int) : L (x :: xs) (x :: ys) = L xs ys + 1 := by rw [L, if_pos rfl]
theorem L_cons_ne {x y : Int} (h : x ≠ y) (xs ys : List Int) : L (x :: xs) (y :: ys) = max (L xs (y :: ys)) (L (x :: xs) ys) := by rw [L, if_neg h]

theorem L_ub (a b : List Int) : ∀ s : List Int, s.Sublist a → s.Sublist b → s.length ≤ L a b := by
  induction a, b using L.induct with
  | case1 b => intro s h _; rw [List.sublist_nil.mp h]; simp
  | case2 x xs => intro s _ h; rw [List.sublist_nil.mp h]; simp
  | case3 xs y ys ih =>
    intro s h1 h2
    rw [L_cons_eq]
    have h3 := ih s.tail (by simpa using h1.tail) (by simpa using h2.tail)
    have h4 : s.length ≤ s.tail.length + 1 := by rw [List.length_tail]; omega
    omega
  | case4 x xs y ys hne ih1 ih2 =>
    intro s h1 h2
    rw [L_cons_ne hne]
    rcases List.sublist_cons_iff.mp h1 with h | ⟨r, rfl, hr⟩
    · have := ih1 s h h2; omega
    · rcases List.sublist_cons_iff.mp h2 with h | ⟨r', he, hr'⟩
      · have := ih2 _ h1 h; omega
      · injection he with he1 he2; exact absurd he1 hne

theorem L_has (a b : List Int) : ∃ s : List Int, s.Sublist a ∧ s.Sublist b ∧ s.length = L a b := by
  induction a, b using L.induct with
  | case1 b => exact ⟨[], by simp, by simp, by rw [L_nil_left]; rfl⟩
  | case2 x xs => exact ⟨[], by simp, by simp, by rw [L_nil_right]; rfl⟩
  | case3 xs y ys ih =>
    obtain ⟨s, h1, h2, h3⟩ := ih
    exact ⟨y :: s, h1.cons_cons y, h2.cons_cons y, by rw [L_cons_eq]; simp [h3]⟩
  | case4 x xs y ys hne ih1 ih2 =>
    obtain ⟨s, h1, h2, h3⟩ := ih1
    obtain ⟨t, k1, k2, k3⟩ := ih2
    rw [L_cons_ne hne]
    by_cases h : L (x :: xs) ys ≤ L xs (y :: ys)
    · exact ⟨s, h1.cons x, h2, by omega⟩
    · exact ⟨t, k1, k2.cons y, by omega⟩

theorem L_le_of (a b c d : List Int) (h : ∀ s : List Int, s.Sublist a → s.Sublist b → ∃ t : List Int, t.length = s.length ∧ t.Sublist c ∧ t.Sublist d) : L a b ≤ L c d := by
  obtain ⟨s, h1, h2, h3⟩ := L_has a b
  obtain ⟨t, k1, k2, k3⟩ := h s h1 h2
  have := L_ub c d t k2 k3
  omega

theorem L_mono {a b c d : List Int} (h : a.Sublist c) (k : b.Sublist d) : L a b ≤ L c d :=
  L_le_of _ _ _ _ fun s h1 h2 => ⟨s, rfl, h1.trans h, h2.trans k⟩

theorem L_comm (a b : List Int) : L a b = L b a :=
  Nat.le_antisymm (L_le_of _ _ _ _ fun s h k => ⟨s, rfl, k, h⟩) (L_le_of _ _ _ _ fun s h k => ⟨s, rfl, k, h⟩)

theorem L_rev_le (a b : List Int) : L a b ≤ L a.reverse b.reverse :=
  L_le_of _ _ _ _ fun s h k => ⟨s.reverse, by simp, h.reverse, k.reverse⟩

theorem L_rev (a b : List Int) : L a.reverse b.reverse = L a b :=
  Nat.le_antisymm (by simpa using L_rev_le a.reverse b.reverse) (L_rev_le a b)

theorem L_le_left (a b : List Int) : L a b ≤ a.length := by
  obtain ⟨s, h1, _, h3⟩ := L_has a b
  have := h1.length_le; omega

theorem L_le_right (a b : List Int) : L a b ≤ b.length := by rw [L_comm]; exact L_le_left b a

/-- One element more makes it at most one longer. -/
theorem L_cons_le (x : Int) (a b : List Int) : L (x :: a) b ≤ L a b + 1 := by
  obtain ⟨s, h1, h2, h3⟩ := L_has (x :: a) b
  have h := L_ub a b s.tail (by simpa using h1.tail) ((List.tail_sublist s).trans h2)
  rw [List.length_tail] at h
  omega

theorem L_cons_le' (y : Int) (a b : List Int) : L a (y :: b) ≤ L a b + 1 := by
  rw [L_comm a, L_comm a]; exact L_cons_le y b a

theorem L_le_cons (x : Int) (a b : List Int) : L a b ≤ L (x :: a) b := L_mono (List.sublist_cons_self x a) (List.Sublist.refl b)
theorem L_le_cons' (y : Int) (a b : List Int) : L a b ≤ L a (y :: b) := L_mono (List.Sublist.refl a) (List.sublist_cons_self y b)

/-- The same, from the end. -/
theorem L_snoc_eq (x : Int) (a b : List Int) : L (a ++ [x]) (b ++ [x]) = L a b + 1 := by
  rw [← L_rev]; simp only [List.reverse_append, List.reverse_cons, List.reverse_nil, List.nil_append, List.singleton_append]; rw [L_cons_eq, L_rev]

theorem L_snoc_ne {x y : Int} (h : x ≠ y) (a b : List Int) : L (a ++ [x]) (b ++ [y]) = max (L a (b ++ [y])) (L (a ++ [x]) b) := by
  have e1 : L a (b ++ [y]) = L a.reverse (y :: b.reverse) := by rw [← L_rev]; simp
  have e2 : L (a ++ [x]) b = L (x :: a.reverse) b.reverse := by rw [← L_rev]; simp
  rw [← L_rev, e1, e2]; simp only [List.reverse_append, List.reverse_cons, List.reverse_nil, List.nil_append, List.singleton_append]; rw [L_cons_ne h]

theorem L_prefix (p a b : List Int) : L (p ++ a) (p ++ b) = p.length + L a b := by
  induction p with
  | nil => simp
  | cons x p ih => rw [List.cons_append, List.cons_append, L_cons_eq, ih, List.length_cons]; omega

theorem L_suffix (s a b : List Int) : L (a ++ s) (b ++ s) = L a b + s.length := by
  rw [← L_rev, List.reverse_append, List.reverse_append, L_prefix, L_rev, List.length_reverse]; omega

theorem L_append_ge (a1 a2 b1 b2 : List Int) : L a1 b1 + L a2 b2 ≤ L (a1 ++ a2) (b1 ++ b2) := by
  obtain ⟨s, h1, h2, h3⟩ := L_has a1 b1
  obtain ⟨t, k1, k2, k3⟩ := L_has a2 b2
  have := L_ub (a1 ++ a2) (b1 ++ b2) (s ++ t) (h1.append k1) (h2.append k2)
  rw [List.length_append] at this
  omega

/-- Where the first list is cut, the second one can be cut too. -/
theorem L_split (a1 a2 b : List Int) : ∃ j, j ≤ b.length ∧ L (a1 ++ a2) b = L a1 (b.take j) + L a2 (b.drop j) := by
  obtain ⟨s, h1, h2, h3⟩ := L_has (a1 ++ a2) b
  obtain ⟨s1, s2, rfl, k1, k2⟩ := List.sublist_append_iff.mp h1
  obtain ⟨b1, b2, rfl, m1, m2⟩ := List.append_sublist_iff.mp h2
  refine ⟨b1.length, by simp, ?_⟩
  have e1 : (b1 ++ b2).take b1.length = b1 := List.take_left' rfl
  have e2 : (b1 ++ b2).drop b1.length = b2 := List.drop_left' rfl
  rw [e1, e2]
  have u1 := L_ub a1 b1 s1 k1 m1
  have u2 := L_ub a2 b2 s2 k2 m2
  have u3 := L_append_ge a1 a2 b1 b2
  rw [List.length_append] at h3
  omega

theorem L_split_le (a1 a2 b : List Int) (j : Nat) : L a1 (b.take j) + L a2 (b.drop j) ≤ L (a1 ++ a2) b := by
  have h := L_append_ge a1 a2 (b.take j) (b.drop j)
  rwa [List.take_append_drop] at h

theorem rdL_d (o : List (List Int)) (n : Nat) : rd_L2 o (n : Int) = o.getD n [] := rfl
theorem rdL_at (o : List (List Int)) {n : Nat} (h : n < o.length) : rd_L2 o (n : Int) = o[n] := by
  rw [rdL_d, List.getD_eq_getElem?_getD, List.getElem?_eq_getElem h]; rfl
theorem rdL_set (o : List (List Int)) (i n : Nat) (v : List Int) (h : n < o.length) : rd_L2 (o.set i v) (n : Int) = if n = i then v else rd_L2 o (n : Int) := by
  rw [rdL_at _ (by rw [List.length_set]; exact h), rdL_at _ h, List.getElem_set]
  by_cases e : n = i
  · rw [if_pos e, if_pos e.symm]
  · rw [if_neg e, if_neg (fun q => e q.symm)]

/-- The rows from i on of the table of all ends. -/
def TabFrom (t : List (List Int)) (a b : List Int) (i : Nat) : Prop :=
  t.length = a.length + 1 ∧ ∀ n : Nat, i ≤ n → n ≤ a.length → (rd_L2 t (n : Int)).length = b.length + 1 ∧ ∀ j : Nat, j ≤ b.length → rd (rd_L2 t (n : Int)) (j : Int) = (L (a.drop n) (b.drop j) : Int)
/-- The table of all ends. -/
def IsTab (t : List (List Int)) (a b : List Int) : Prop := TabFrom t a b 0
/-- Row i from column m on. -/
def RowFrom (t : List (List Int)) (a b : List Int) (i m : Nat) : Prop :=
  TabFrom t a b (i + 1) ∧ (rd_L2 t (i : Int)).length = b.length + 1 ∧ ∀ j : Nat, m ≤ j → j ≤ b.length → rd (rd_L2 t (i : Int)) (j : Int) = (L (a.drop i) (b.drop j) : Int)
theorem mx_nat (x y : Nat) : mx (x : Int) (y : Int) = ((max x y : Nat) : Int) := by unfold mx; split <;> omega
theorem L_le_len (a b : List Int) (i j : Nat) : L (a.drop i) (b.drop j) ≤ a.length := by
  have := L_le_left (a.drop i) (b.drop j); rw [List.length_drop] at this; omega
theorem behind_l1 (a b : List Int) (ha : a.length ≤ 100000) (hb : b.length ≤ 100000) (i : Nat) (hi : i < a.length) (K : Nat) (Post : Option (List (List Int)) → Prop)
    (hr : ∀ k' t', K ≤ k' → TabFrom t' a b i → Post (tattingref7_Behind.l0 k' a b t' (wrap64 ((i : Int) - 1)))) (m : Nat) : ∀ (k : Nat) (t : List (List Int)), m ≤ b.length → 2 * m + 2 + K ≤ k → RowFrom t a b i m → Post (tattingref7_Behind.l1 k a b t (i : Int) ((m : Int) - 1)) := by
  induction m with
  | zero =>
    intro k t hm hk ⟨h1, h2, h3⟩
    obtain ⟨k, rfl⟩ : ∃ q, k = q + 2 := ⟨k - 2, by omega⟩
    simp only [tattingref7_Behind.l1]
    rw [if_pos (by omega), decide_eq_false (by omega)]
    simp only [tattingref7_Behind.j2]
    rw [if_neg (by decide)]
    refine hr k t (by omega) ⟨h1.1, ?_⟩
    intro n hn hn'
    by_cases e : n = i
    · rw [e]; exact ⟨h2, fun j hj => h3 j (by omega) hj⟩
    · exact h1.2 n (by omega) hn'
  | succ m ih =>
    intro k t hm hk ⟨h1, h2, h3⟩
    obtain ⟨k, rfl⟩ : ∃ q, k = q + 2 := ⟨k - 2, by omega⟩
    have e0 : ((m + 1 : Nat) : Int) - 1 = (m : Int) := by omega
    rw [e0]
    simp only [tattingref7_Behind.l1]
    rw [if_pos (by omega), decide_eq_true (by omega)]
    simp only [tattingref7_Behind.j2]
    have hlen := h1.1
    have hrow := (h1.2 (i + 1) (by omega) (by omega)).1
    have E1 := Aside0.mk (show wrap64 ((i : Int) + 1) = ((i + 1 : Nat) : Int) from wrap_succ (by omega))
    have E2 := Aside0.mk (show wrap64 ((m : Int) + 1) = ((m + 1 : Nat) : Int) from wrap_succ (by omega))
    have E3 := Aside0.mk (show wrap64 ((m : Int) - 1) = (m : Int) - 1 from wrap_id (by omega) (by omega))
    have r1 := (h1.2 (i + 1) (by omega) (by omega)).2 (m + 1) (by omega)
    have r2 := (h1.2 (i + 1) (by omega) (by omega)).2 m (by omega)
    have r3 := h3 (m + 1) (by omega) (by omega)
    have b1 := L_le_len a b (i + 1) (m + 1)
    have hn : ∀ v : Int, v = (L (a.drop i) (b.drop m) : Int) → RowFrom (t.set i ((rd_L2 t (i : Int)).set m v)) a b i m := by
      intro v hv
      refine ⟨⟨by rw [List.length_set]; exact hlen, ?_⟩, ?_, ?_⟩
      · intro n hn hn'
        rw [rdL_set _ _ _ _ (by omega), if_neg (by omega)]
        exact h1.2 n hn hn'
      · rw [rdL_set _ _ _ _ (by omega), if_pos rfl, List.length_set]; exact h2
      · intro j hj hj'
        rw [rdL_set _ _ _ _ (by omega), if_pos rfl, rd_set _ _ _ _ (by omega)]
        by_cases e : j = m
        · rw [if_pos e, hv, e]
        · rw [if_neg e]; exact h3 j (by omega) hj'
    rw [if_pos True.intro, if_pos (by omega), if_pos (by omega), if_pos (by omega), if_pos (by omega)]
    simp only [E1.out, E2.out, E3.out, Int.toNat_natCast]
    have da := drop_rd a hi
    have db := drop_rd b (show m < b.length by omega)
    by_cases e : rd a (i : Int) = rd b (m : Int)
    · rw [if_pos e, if_pos (by omega), if_pos (by omega), if_pos (by omega), if_pos (by omega), if_pos (by omega), if_pos (by omega)]
      refine ih k _ (by omega) (by omega) (hn _ ?_)
      rw [r1, wrap_id (by omega) (by omega), da, db, e, L_cons_eq]; omega
    · rw [if_neg e, if_pos (by omega), if_pos (by omega), if_pos (by omega), if_pos (by omega), if_pos (by omega), if_pos (by omega), if_pos (by omega)]
      refine ih k _ (by omega) (by omega) (hn _ ?_)
      rw [r2, r3, mx_nat, da, db, L_cons_ne e]
theorem behind_l0 (a b : List Int) (ha : a.length ≤ 100000) (hb : b.length ≤ 100000) (m : Nat) : ∀ (k : Nat) (t : List (List Int)), m ≤ a.length + 1 → (2 * b.length + 4) * m + 1 ≤ k → TabFrom t a b m → ∃ t', tattingref7_Behind.l0 k a b t ((m : Int) - 1) = some t' ∧ IsTab t' a b := by
  induction m with
  | zero =>
    intro k t hm hk h
    obtain ⟨k, rfl⟩ : ∃ q, k = q + 1 := ⟨k - 1, by omega⟩
    refine ⟨t, ?_, h⟩
    simp only [tattingref7_Behind.l0]
    rw [if_neg (by omega)]
  | succ m ih =>
    intro k t hm hk h
    rw [Nat.mul_succ] at hk
    obtain ⟨k, rfl⟩ : ∃ q, k = q + 1 := ⟨k - 1, by omega⟩
    rw [show ((m + 1 : Nat) : Int) - 1 = (m : Int) by omega]
    simp only [tattingref7_Behind.l0]
    have hlen := h.1
    have E1 := Aside0.mk (show wrap64 ((b.length : Int) + 1) = ((b.length + 1 : Nat) : Int) from wrap_succ (by omega))
    have E2 := Aside0.mk (show wrap64 ((b.length : Int) - 1) = (b.length : Int) - 1 from wrap_id (by omega) (by omega))
    have E3 := Aside0.mk (show wrap64 ((m : Int) - 1) = (m : Int) - 1 from wrap_id (by omega) (by omega))
    rw [E1.out, E2.out, if_pos (by omega), if_pos (by omega), if_pos (by omega), if_pos (by omega), if_pos (by omega)]
    simp only [Int.toNat_natCast]
    have hrow : RowFrom (t.set m (List.replicate (b.length + 1) 0)) a b m b.length := by
      refine ⟨⟨by rw [List.length_set]; exact hlen, ?_⟩, ?_, ?_⟩
      · intro n hn hn'
        rw [rdL_set _ _ _ _ (by omega), if_neg (by omega)]
        exact h.2 n hn hn'
      · rw [rdL_set _ _ _ _ (by omega), if_pos rfl, List.length_replicate]
      · intro j hj hj'
        rw [rdL_set _ _ _ _ (by omega), if_pos rfl, rd_replicate _ _ _ (by omega), show j = b.length by omega, List.drop_length, L_nil_right]; rfl
    by_cases c : m < a.length
    · refine behind_l1 a b ha hb m c ((2 * b.length + 4) * m + 1) (fun o => ∃ t', o = some t' ∧ IsTab t' a b) ?_ b.length k _ (Nat.le_refl _) (by omega) hrow
      intro k' t' hk' ht'
      rw [E3.out]
      exact ih k' t' (by omega) hk' ht'
    · obtain ⟨k, rfl⟩ : ∃ q, k = q + 2 := ⟨k - 2, by omega⟩
      simp only [tattingref7_Behind.l1]
      rw [if_neg (by omega)]
      simp only [tattingref7_Behind.j2]
      rw [if_neg (by decide), E3.out]
      refine ih k _ (by omega) (by omega) ⟨by rw [List.length_set]; exact hlen, ?_⟩
      intro n hn hn'
      have e : n = m := by omega
      rw [rdL_set _ _ _ _ (by omega), if_pos e]
      refine ⟨by rw [List.length_replicate], fun j hj => ?_⟩
      rw [rd_replicate _ _ _ (by omega), List.drop_eq_nil_of_le (by omega), L_nil_left]; rfl
theorem behind (a b : List Int) (ha : a.length ≤ 100000) (hb : b.length ≤ 100000) {k : Nat} (hk : (2 * b.length + 4) * (a.length + 1) + 1 ≤ k) : ∃ t, tattingref7_Behind.f k a b = some t ∧ IsTab t a b := by
  unfold tattingref7_Behind.f
  have e1 : wrap64 ((a.length : Int) + 1) = ((a.length + 1 : Nat) : Int) := wrap_succ (by omega)
  rw [e1, if_pos (by omega), if_pos (by omega)]
  simp only [Int.toNat_natCast]
  have h := behind_l0 a b ha hb (a.length + 1) k (List.replicate (a.length + 1) []) (Nat.le_refl _) hk ⟨by rw [List.length_replicate], fun n hn hn' => by omega⟩
  rw [show ((a.length + 1 : Nat) : Int) - 1 = (a.length : Int) by omega] at h
  exact h

/-- A list of so many numbers, each told by its place. -/
def tabulate (n : Nat) (f : Nat → Int) : List Int := (List.range n).map f
theorem tabulate_length (n : Nat) (f : Nat → Int) : (tabulate n f).length = n := by unfold tabulate; rw [List.length_map, List.length_range]
theorem rd_tabulate (n : Nat) (f : Nat → Int) (j : Nat) (h : j < n) : rd (tabulate n f) (j : Int) = f j := by
  rw [rd_at _ (by rw [tabulate_length]; exact h)]; unfold tabulate; rw [List.getElem_map, List.getElem_range]
theorem eq_tabulate (l : List Int) (n : Nat) (f : Nat → Int) (hl : l.length = n) (h : ∀ j, j < n → rd l (j : Int) = f j) : l = tabulate n f := by
  apply list_ext (by rw [hl, tabulate_length])
  intro j hj; rw [rd_tabulate _ _ _ (by omega), h j (by omega)]

/-- Number j of the next row. -/
def nxt (row : List Int) (sym : Int) (b : List Int) : Nat → Int
  | 0 => rd row ((0 : Nat) : Int)
  | j + 1 => if rd b (j : Int) = sym then wrap64 (rd row (j : Int) + 1) else mx (rd row ((j + 1 : Nat) : Int)) (nxt row sym b j)
/-- The row of a list. -/
def rowOf (a b : List Int) : List Int := tabulate (b.length + 1) fun j => (L a (b.take j) : Int)
theorem rowOf_length (a b : List Int) : (rowOf a b).length = b.length + 1 := tabulate_length _ _
theorem rd_rowOf (a b : List Int) (j : Nat) (h : j ≤ b.length) : rd (rowOf a b) (j : Int) = (L a (b.take j) : Int) := rd_tabulate _ _ _ (by omega)
theorem mx_nat' (x y : Nat) : mx (x : Int) (y : Int) = ((max x y : Nat) : Int) := by unfold mx; split <;> omega
theorem nxt_rowOf (a b : List Int) (x : Int) (ha : a.length ≤ 1000000) (j : Nat) (hj : j ≤ b.length) : nxt (rowOf a b) x b j = (L (a ++ [x]) (b.take j) : Int) := by
  induction j with
  | zero => rw [nxt, rd_rowOf _ _ _ (by omega), List.take_zero, L_nil_right, L_nil_right]
  | succ j ih =>
    have ih := ih (by omega)
    rw [nxt, ih, rd_rowOf _ _ _ (by omega), rd_rowOf _ _ _ (by omega), take_rd b (show j < b.length by omega)]
    have hl := L_le_left a (b.take j)
    by_cases e : rd b (j : Int) = x
    · rw [if_pos e, wrap_id (by omega) (by omega), e, L_snoc_eq]; omega
    · rw [if_neg e, mx_nat', L_snoc_ne (fun q => e q.symm)]
theorem next_rowOf (a b : List Int) (x : Int) (ha : a.length ≤ 1000000) : tabulate (b.length + 1) (nxt (rowOf a b) x b) = rowOf (a ++ [x]) b := by
  refine eq_tabulate _ _ _ (tabulate_length _ _) ?_
  intro j hj
  rw [rd_tabulate _ _ _ hj, nxt_rowOf a b x ha j (by omega)]
theorem rowOf_nil (b : List Int) : rowOf [] b = List.replicate (b.length + 1) 0 := by
  refine (eq_tabulate _ _ _ (by rw [List.length_replicate]) ?_).symm
  intro j hj; rw [rd_replicate _ _ _ hj, L_nil_left]; rfl

theorem refTurned_l0 (l : List Int) (hl : l.length ≤ 1000000) (m : Nat) : ∀ (k : Nat) (out : List Int), m ≤ l.length → m < k → out.length + m = l.length → tattingref7_Turned.l0 k l out ((m : Int) - 1) = some (out ++ (l.take m).reverse) := by
  induction m with
  | zero =>
    intro k out hm hk ho
    obtain ⟨k, rfl⟩ := round hk
    simp only [tattingref7_Turned.l0]
    rw [if_neg (by omega)]; simp
  | succ m ih =>
    intro k out hm hk ho
    obtain ⟨k, rfl⟩ := round hk
    simp only [tattingref7_Turned.l0]
    rw [show ((m + 1 : Nat) : Int) - 1 = (m : Int) by omega, if_pos (by omega), if_pos (by omega), if_pos (by omega), if_pos (by omega), wrap_id (by omega) (by omega), ih k _ (by omega) (by omega) (by rw [List.length_append, List.length_singleton]; omega), take_rd l (show m < l.length by omega)]
    simp
theorem refTurned (l : List Int) (hl : l.length ≤ 1000000) {k : Nat} (hk : l.length < k) : tattingref7_Turned.f k l = some l.reverse := by
  unfold tattingref7_Turned.f
  rw [wrap_id (by omega) (by omega)]
  have h := refTurned_l0 l hl l.length k [] (Nat.le_refl _) hk (by simp)
  rw [List.take_length, List.nil_append] at h; exact h

theorem tab_rev (t : List (List Int)) (a b : List Int) (h : IsTab t a.reverse b.reverse) (i j : Nat) (hi : i ≤ a.length) (hj : j ≤ b.length) :
    (rd_L2 t ((a.length - i : Nat) : Int)).length = b.length + 1 ∧ rd (rd_L2 t ((a.length - i : Nat) : Int)) ((b.length - j : Nat) : Int) = (L (a.take i) (b.take j) : Int) := by
  have q := h.2 (a.length - i) (Nat.zero_le _) (by rw [List.length_reverse]; omega)
  rw [List.length_reverse] at q
  refine ⟨q.1, ?_⟩
  rw [q.2 (b.length - j) (by omega), List.drop_reverse, List.drop_reverse, L_rev, show a.length - (a.length - i) = i by omega, show b.length - (b.length - j) = j by omega]
/-- The rows ahead of i are those of the beginnings. -/
def AheadOk (out : List (List Int)) (a b : List Int) (i : Nat) : Prop := out.length = a.length + 1 ∧ ∀ n : Nat, n < i → rd_L2 out (n : Int) = rowOf (a.take n) b
theorem ahead_l1 (a b : List Int) (t : List (List Int)) (ha : a.length ≤ 100000) (hb : b.length ≤ 100000) (h : IsTab t a.reverse b.reverse) (i : Nat) (hi : i ≤ a.length) (K : Nat) (Post : Option (List (List Int)) → Prop)
    (hr : ∀ k' out', K ≤ k' → AheadOk out' a b (i + 1) → Post (tattingref7_Ahead.l0 k' a b t out' (wrap64 ((i : Int) + 1)))) (d : Nat) : ∀ (k j : Nat) (out : List (List Int)), j + d = b.length + 1 → d + 1 + K ≤ k → AheadOk out a b i → (rd_L2 out (i : Int)).length = b.length + 1 →
    (∀ m : Nat, m < j → rd (rd_L2 out (i : Int)) (m : Int) = (L (a.take i) (b.take m) : Int)) → Post (tattingref7_Ahead.l1 k a b t out (i : Int) (j : Int)) := by
  induction d with
  | zero =>
    intro k j out hj hk ho hl hm
    obtain ⟨k, rfl⟩ : ∃ q, k = q + 1 := ⟨k - 1, by omega⟩
    simp only [tattingref7_Ahead.l1]
    rw [if_neg (by omega)]
    refine hr k out (by omega) ⟨ho.1, fun n hn => ?_⟩
    by_cases e : n = i
    · rw [e]
      exact eq_tabulate _ _ _ hl (fun m hm' => hm m (by omega))
    · exact ho.2 n (by omega)
  | succ d ih =>
    intro k j out hj hk ho hl hm
    obtain ⟨k, rfl⟩ : ∃ q, k = q + 1 := ⟨k - 1, by omega⟩
    obtain ⟨q1, q2⟩ := tab_rev t a b h i j hi (by omega)
    have ht := h.1
    rw [List.length_reverse] at ht
    have hol := ho.1
    simp only [tattingref7_Ahead.l1]
    have E1 := Aside0.mk (show wrap64 ((a.length : Int) - (i : Int)) = ((a.length - i : Nat) : Int) by rw [wrap_id (by omega) (by omega)]; omega)
    have E2 := Aside0.mk (show wrap64 ((b.length : Int) - (j : Int)) = ((b.length - j : Nat) : Int) by rw [wrap_id (by omega) (by omega)]; omega)
    rw [E1.out, E2.out, if_pos (by omega), if_pos (by omega), if_pos (by omega), if_pos (by omega), if_pos (by omega), if_pos (by omega), if_pos (by omega), if_pos (by omega), if_pos (by omega), q2, wrap_succ (by omega)]
    simp only [Int.toNat_natCast]
    refine ih k (j + 1) _ (by omega) (by omega) ⟨by rw [List.length_set]; exact hol, fun n hn => by rw [rdL_set _ _ _ _ (by omega), if_neg (by omega)]; exact ho.2 n hn⟩ (by rw [rdL_set _ _ _ _ (by omega), if_pos rfl, List.length_set]; exact hl) ?_
    intro m hm'
    rw [rdL_set _ _ _ _ (by omega), if_pos rfl, rd_set _ _ _ _ (by omega)]
    by_cases e : m = j
    · rw [if_pos e, e]
    · rw [if_neg e]; exact hm m (by omega)
theorem ahead_l0 (a b : List Int) (t : List (List Int)) (ha : a.length ≤ 100000) (hb : b.length ≤ 100000) (h : IsTab t a.reverse b.reverse) (d : Nat) : ∀ (k i : Nat) (out : List (List Int)), i + d = a.length + 1 → (b.length + 4) * d + 1 ≤ k → AheadOk out a b i → ∃ out', tattingref7_Ahead.l0 k a b t out (i : Int) = some out' ∧ AheadOk out' a b (a.length + 1) := by
  induction d with
  | zero =>
    intro k i out hi hk ho
    obtain ⟨k, rfl⟩ : ∃ q, k = q + 1 := ⟨k - 1, by omega⟩
    refine ⟨out, ?_, by rw [show a.length + 1 = i by omega]; exact ho⟩
    simp only [tattingref7_Ahead.l0]
    rw [if_neg (by omega)]
  | succ d ih =>
    intro k i out hi hk ho
    rw [Nat.mul_succ] at hk
    obtain ⟨k, rfl⟩ : ∃ q, k = q + 1 := ⟨k - 1, by omega⟩
    have hol := ho.1
    simp only [tattingref7_Ahead.l0]
    rw [wrap_succ (by omega), if_pos (by omega), if_pos (by omega), if_pos (by omega), if_pos (by omega), if_pos (by omega)]
    simp only [Int.toNat_natCast]
    refine ahead_l1 a b t ha hb h i (by omega) ((b.length + 4) * d + 1) (fun o => ∃ out', o = some out' ∧ AheadOk out' a b (a.length + 1)) ?_ (b.length + 1) k 0 _ (by omega) (by omega) ⟨by rw [List.length_set]; exact hol, fun n hn => by rw [rdL_set _ _ _ _ (by omega), if_neg (by omega)]; exact ho.2 n hn⟩ (by rw [rdL_set _ _ _ _ (by omega), if_pos rfl, List.length_replicate]) (fun m hm => by omega)
    intro k' out' hk' ho'
    rw [wrap_succ (by omega)]
    exact ih k' (i + 1) out' (by omega) hk' ho'
theorem refAhead (a b : List Int) (ha : a.length ≤ 100000) (hb : b.length ≤ 100000) {k : Nat} (hk : (2 * b.length + 4) * (a.length + 1) + 1 ≤ k) : ∃ t, tattingref7_Ahead.f k a b = some t ∧ AheadOk t a b (a.length + 1) := by
  have hm := Nat.mul_le_mul (show b.length + 4 ≤ 2 * b.length + 4 by omega) (Nat.le_refl (a.length + 1))
  have h2 : a.length + 1 ≤ (2 * b.length + 4) * (a.length + 1) := by
    have := Nat.mul_le_mul (show 1 ≤ 2 * b.length + 4 by omega) (Nat.le_refl (a.length + 1)); omega
  have h3 : 2 * b.length + 4 ≤ (2 * b.length + 4) * (a.length + 1) := by
    have := Nat.mul_le_mul (Nat.le_refl (2 * b.length + 4)) (show 1 ≤ a.length + 1 by omega); omega
  unfold tattingref7_Ahead.f
  rw [refTurned a (by omega) (by omega), Option.bind_some, refTurned b (by omega) (by omega), Option.bind_some]
  obtain ⟨t, q1, q2⟩ := behind a.reverse b.reverse (by rw [List.length_reverse]; omega) (by rw [List.length_reverse]; omega) (k := k) (by rw [List.length_reverse, List.length_reverse]; omega)
  rw [q1, Option.bind_some]
  unfold tattingref7_Ahead.f3
  rw [wrap_succ (by omega), if_pos (by omega), if_pos (by omega), Int.toNat_natCast]
  exact ahead_l0 a b t ha hb q2 (a.length + 1) k 0 _ (by omega) (by omega) ⟨by rw [List.length_replicate], fun n hn => by omega⟩
theorem refFront (a b : List Int) (ha : a.length ≤ 100000) (hb : b.length ≤ 100000) {k : Nat} (hk : (2 * b.length + 4) * (a.length + 1) + 1 ≤ k) : tattingref7_Front.f k a b = some (rowOf a b) := by
  obtain ⟨t, q1, q2⟩ := refAhead a b ha hb hk
  have hl := q2.1
  unfold tattingref7_Front.f
  rw [q1, Option.bind_some, if_pos (by omega), if_pos (by omega), q2.2 a.length (by omega), List.take_length]

/-- The step from a place on is 0 or 1. -/
def okStep (row : List Int) (i : Nat) : Prop := rd row ((i + 1 : Nat) : Int) = rd row (i : Int) ∨ rd row ((i + 1 : Nat) : Int) > rd row (i : Int) ∧ wrap64 (rd row ((i + 1 : Nat) : Int) - 1) = rd row (i : Int)
instance (row : List Int) (i : Nat) : Decidable (okStep row i) := by unfold okStep; infer_instance
def stepAt (row : List Int) (i : Nat) : Int := if rd row ((i + 1 : Nat) : Int) = rd row (i : Int) then 0 else 1
/-- All steps are 0 or 1, from some place on. -/
def okFrom (row : List Int) (n i : Nat) : Prop := ∀ t, i ≤ t → t < n → okStep row t
theorem okFrom_succ {row : List Int} {n i : Nat} (h : okStep row i) : okFrom row n i ↔ okFrom row n (i + 1) :=
  ⟨fun q t ht => q t (by omega), fun q t ht ht' => if e : t = i then e ▸ h else q t (by omega) ht'⟩
/-- A row's steps. -/
def stepsOf (row : List Int) : List Int := tabulate (row.length - 1) (stepAt row)
theorem same_refl (l : List Int) : tattingref1_Same.f l l = some true := by unfold tattingref1_Same.f; simp
theorem deltaOf_l0 (row : List Int) (n : Nat) (hn : row.length = n + 1) (hl : n ≤ 1000000) (d : Nat) : ∀ (k i : Nat) (t : List Int), i + d = n → d < k → t.length = n → (∀ j, j < n → rd t (j : Int) = if j < i then stepAt row j else 0) →
    (okFrom row n i → delta_Of.l0 k row t (n : Int) (i : Int) = some (stepsOf row, 0)) ∧ (¬ okFrom row n i → delta_Of.l0 k row t (n : Int) (i : Int) = some ([], 1)) := by
  induction d with
  | zero =>
    intro k i t hi hk ht h
    obtain ⟨k, rfl⟩ := round hk
    simp only [delta_Of.l0]
    rw [if_neg (by omega)]
    refine ⟨fun _ => ?_, fun q => absurd (fun t h1 h2 => by omega) q⟩
    have e : t = stepsOf row := eq_tabulate t _ _ (by omega) (fun j hj => by rw [h j (by omega), if_pos (by omega)])
    rw [e]
  | succ d ih =>
    intro k i t hi hk ht h
    obtain ⟨k, rfl⟩ := round hk
    simp only [delta_Of.l0]
    have E1 := Aside0.mk (show wrap64 ((i : Int) + 1) = ((i + 1 : Nat) : Int) from wrap_succ (by omega))
    rw [E1.out, if_pos (by omega), if_pos (by omega), if_pos (by omega), if_pos (by omega), if_pos (by omega)]
    by_cases c1 : rd row ((i + 1 : Nat) : Int) = rd row (i : Int)
    · rw [if_pos c1]
      have hs : okStep row i := Or.inl c1
      rw [okFrom_succ hs]
      refine ih k (i + 1) t (by omega) (by omega) ht ?_
      intro j hj
      rw [h j hj]
      by_cases e : j = i
      · rw [if_neg (by omega), if_pos (by omega), e, stepAt, if_pos c1]
      · by_cases c : j < i
        · rw [if_pos c, if_pos (by omega)]
        · rw [if_neg c, if_neg (by omega)]
    · rw [if_neg c1]
      by_cases c2 : rd row ((i + 1 : Nat) : Int) > rd row (i : Int)
      · rw [if_pos c2]
        by_cases c3 : wrap64 (rd row ((i + 1 : Nat) : Int) - 1) = rd row (i : Int)
        · have hs : okStep row i := Or.inr ⟨c2, c3⟩
          rw [if_pos c3, okFrom_succ hs, if_pos (by omega), Int.toNat_natCast]
          refine ih k (i + 1) _ (by omega) (by omega) (by rw [List.length_set]; exact ht) ?_
          intro j hj
          rw [rd_set _ _ _ _ (by omega), h j hj]
          by_cases e : j = i
          · rw [if_pos e, if_pos (by omega), e, stepAt, if_neg c1]
          · rw [if_neg e]
            by_cases c : j < i
            · rw [if_pos c, if_pos (by omega)]
            · rw [if_neg c, if_neg (by omega)]
        · rw [if_neg c3]
          exact ⟨fun q => absurd (q i (Nat.le_refl _) (by omega)) (fun z => z.elim c1 (fun z => c3 z.2)), fun _ => rfl⟩
      · rw [if_neg c2]
        exact ⟨fun q => absurd (q i (Nat.le_refl _) (by omega)) (fun z => z.elim c1 (fun z => c2 z.1)), fun _ => rfl⟩
theorem deltaOf (row : List Int) (h0 : row.length ≠ 0) (hl : row.length ≤ 1000000) {k : Nat} (hk : row.length < k) : (okFrom row (row.length - 1) 0 → delta_Of.f k row = some (stepsOf row, 0)) ∧ (¬ okFrom row (row.length - 1) 0 → delta_Of.f k row = some ([], 1)) := by
  unfold delta_Of.f
  have e : wrap64 ((row.length : Int) - 1) = ((row.length - 1 : Nat) : Int) := by rw [wrap_id (by omega) (by omega)]; omega
  rw [e, if_neg (by omega), if_pos (by omega), if_pos (by omega), Option.bind_some, Int.toNat_natCast, List.length_replicate]
  exact deltaOf_l0 row (row.length - 1) (by omega) (by omega) (row.length - 1) k 0 _ (by omega) (by omega) (by rw [List.length_replicate]) (fun j hj => by rw [rd_replicate _ _ _ hj, if_neg (by omega)])

/-- Number j of the row of steps. -/
def rowD (first : Int) (d : List Int) : Nat → Int
  | 0 => first
  | j + 1 => if rd d (j : Int) = 0 then rowD first d j else wrap64 (rowD first d j + 1)
theorem deltaRow_l0 (first : Int) (dd : List Int) (hl : dd.length ≤ 1000000) (d : Nat) : ∀ (k i : Nat) (t : List Int), i + d = dd.length → d < k → t.length = i + 1 → (∀ j, j ≤ i → rd t (j : Int) = rowD first dd j) →
    delta_Row.l0 k t dd (dd.length : Int) (i : Int) = some (tabulate (dd.length + 1) (rowD first dd)) := by
  induction d with
  | zero =>
    intro k i t hi hk ht h
    obtain ⟨k, rfl⟩ := round hk
    simp only [delta_Row.l0]
    rw [if_neg (by omega)]
    exact congrArg some (eq_tabulate t _ _ (by omega) (fun j hj => h j (by omega)))
  | succ d ih =>
    intro k i t hi hk ht h
    obtain ⟨k, rfl⟩ := round hk
    simp only [delta_Row.l0]
    rw [if_pos (by omega), if_pos (by omega), if_pos (by omega), if_pos (by omega), wrap_succ (by omega), h i (Nat.le_refl _)]
    have go : ∀ v, v = rowD first dd (i + 1) → delta_Row.l0 k (t ++ [v]) dd (dd.length : Int) ((i + 1 : Nat) : Int) = some (tabulate (dd.length + 1) (rowD first dd)) := by
      intro v hv
      refine ih k (i + 1) _ (by omega) (by omega) (by rw [List.length_append, List.length_singleton]; omega) ?_
      intro j hj
      rw [rd_app _ _ _ (by omega)]
      by_cases e : j = t.length
      · rw [if_pos e, hv, e, ht]
      · rw [if_neg e]; exact h j (by omega)
    by_cases c : rd dd (i : Int) = 0
    · rw [if_pos c, if_pos (by omega)]; exact go _ (by rw [rowD, if_pos c])
    · rw [if_neg c, if_pos (by omega)]; exact go _ (by rw [rowD, if_neg c])
theorem deltaRow (first : Int) (dd : List Int) (hl : dd.length ≤ 1000000) {k : Nat} (hk : dd.length < k) : delta_Row.f k first dd = some (tabulate (dd.length + 1) (rowD first dd)) := by
  unfold delta_Row.f
  exact deltaRow_l0 first dd hl dd.length k 0 [first] (by omega) hk rfl (fun j hj => by rw [show j = 0 by omega]; rfl)

theorem awake : tattinglaw12_awake.f 60 = some true := by decide +kernel
theorem L_step (x y : List Int) (j : Nat) (hj : j < y.length) : L x (y.take (j + 1)) = L x (y.take j) ∨ L x (y.take (j + 1)) = L x (y.take j) + 1 := by
  have h1 : L x (y.take j) ≤ L x (y.take (j + 1)) := L_mono (List.Sublist.refl x) (by rw [take_rd y hj]; exact List.sublist_append_left _ _)
  have h2 : L x (y.take (j + 1)) ≤ L x (y.take j) + 1 := by
    rw [take_rd y hj, ← L_rev x (y.take j ++ [rd y (j : Int)]), ← L_rev x (y.take j), List.reverse_append]
    exact L_cons_le' _ _ _
  omega
theorem rowOf_step (x y : List Int) (hx : x.length ≤ 1000) (j : Nat) (hj : j < y.length) : okStep (rowOf x y) j ∧ (stepAt (rowOf x y) j = 0 ∨ stepAt (rowOf x y) j = 1) ∧ rd (rowOf x y) ((j + 1 : Nat) : Int) = rd (rowOf x y) (j : Int) + stepAt (rowOf x y) j := by
  have h := L_step x y j hj
  have b := L_le_left x (y.take (j + 1))
  unfold okStep stepAt
  rw [rd_rowOf _ _ _ (by omega), rd_rowOf _ _ _ (by omega)]
  rcases h with h | h
  · rw [if_pos (by omega)]; exact ⟨Or.inl (by omega), Or.inl rfl, by omega⟩
  · rw [if_neg (by omega)]
    exact ⟨Or.inr ⟨by omega, by rw [wrap_id (by omega) (by omega)]; omega⟩, Or.inr rfl, by omega⟩
theorem rows_l0 (x y : List Int) (hx : x.length ≤ 40) (hy : y.length ≤ 40) (d : Nat) : ∀ (k i : Nat), i + d = y.length → d + 100 < k → tattinglaw12_DeltaRows.l0 k y (rowOf x y) (stepsOf (rowOf x y)) (rd (rowOf x y) (i : Int)) (i : Int) = some true := by
  have hr := rowOf_length x y
  have hs : (stepsOf (rowOf x y)).length = y.length := by unfold stepsOf; rw [tabulate_length]; omega
  have st : ∀ j, j < y.length → rd (stepsOf (rowOf x y)) (j : Int) = stepAt (rowOf x y) j := fun j hj => by unfold stepsOf; rw [rd_tabulate _ _ _ (by omega)]
  induction d with
  | zero =>
    intro k i hi hk
    obtain ⟨k, rfl⟩ := round hk
    simp only [tattinglaw12_DeltaRows.l0]
    rw [if_neg (by omega), if_pos (by omega), if_pos (by omega), show i = y.length by omega, if_pos rfl, deltaRow 0 _ (by omega) (by omega), Option.bind_some]
    have e : tabulate ((stepsOf (rowOf x y)).length + 1) (rowD 0 (stepsOf (rowOf x y))) = rowOf x y := by
      refine (eq_tabulate _ _ _ (by omega) ?_).symm
      intro j
      induction j with
      | zero => intro _; rw [rd_rowOf _ _ _ (by omega), List.take_zero, L_nil_right]; rfl
      | succ j ih =>
        intro hj
        have q := rowOf_step x y (by omega) j (by omega)
        have b := rd_rowOf x y j (by omega)
        have b1 := L_le_left x (y.take j)
        rw [rowD, st j (by omega), ← ih (by omega), q.2.2]
        rcases q.2.1 with u | u
        · rw [u, if_pos rfl]; omega
        · rw [u, if_neg (by decide), wrap_id (by omega) (by omega)]
    rw [e, sameInts _ _ (by omega) (by omega), Option.bind_some]; simp
  | succ d ih =>
    intro k i hi hk
    obtain ⟨k, rfl⟩ := round hk
    have q := rowOf_step x y (by omega) i (by omega)
    have b := rd_rowOf x y i (by omega)
    have b1 := L_le_left x (y.take i)
    simp only [tattinglaw12_DeltaRows.l0]
    rw [if_pos (by omega), if_pos (by omega), st i (by omega), wrap_succ (by omega)]
    have e : wrap64 (rd (rowOf x y) (i : Int) + wrap64 (stepAt (rowOf x y) i)) = rd (rowOf x y) ((i + 1 : Nat) : Int) := by
      rw [q.2.2]
      rcases q.2.1 with u | u
      · rw [u, wrap_id (i := 0) (by omega) (by omega), wrap_id (by omega) (by omega)]
      · rw [u, wrap_id (i := 1) (by omega) (by omega), wrap_id (by omega) (by omega)]
    rw [e]
    exact ih k (i + 1) (by omega) (by omega)
theorem DeltaRows : tattinglaw12_DeltaRows.Pure := by
  intro a b _ _ _ _ _ _
  refine ⟨10000, ?_⟩
  unfold tattinglaw12_DeltaRows.f
  rw [at_rounds tattinglaw12_awake.mono (by decide) awake, Option.bind_some, if_pos rfl]
  have skip : tattinglaw12_DeltaRows.j0 10000 a b true = some true := by simp [tattinglaw12_DeltaRows.j0]
  by_cases h1 : (a.length : Int) > 40
  · rw [if_pos h1]; exact skip
  rw [if_neg h1]
  by_cases h2 : (b.length : Int) > 40
  · rw [decide_eq_true h2]; exact skip
  rw [decide_eq_false h2]
  clear skip
  simp only [tattinglaw12_DeltaRows.j0]
  have lx : (fewOf a 4).length ≤ 40 := by rw [fewOf_length]; omega
  have ly : (fewOf b 4).length ≤ 40 := by rw [fewOf_length]; omega
  rw [if_neg (by decide), few a 4 (by decide) (by decide) (by omega) (by omega), Option.bind_some, few b 4 (by decide) (by decide) (by omega) (by omega), Option.bind_some]
  generalize fewOf a 4 = x at *
  generalize fewOf b 4 = y at *
  have hk : (2 * y.length + 4) * (x.length + 1) + 1 ≤ 9999 := by
    have := Nat.mul_le_mul (show 2 * y.length + 4 ≤ 84 by omega) (show x.length + 1 ≤ 41 by omega)
    omega
  rw [refFront x y (by omega) (by omega) hk, Option.bind_some]
  have hr := rowOf_length x y
  have ok : okFrom (rowOf x y) ((rowOf x y).length - 1) 0 := fun t _ ht => (rowOf_step x y (by omega) t (by omega)).1
  have hs : (stepsOf (rowOf x y)).length = y.length := by unfold stepsOf; rw [tabulate_length]; omega
  rw [(deltaOf (rowOf x y) (by omega) (by omega) (k := 9999) (by omega)).1 ok, Option.bind_some, if_pos rfl, hs]
  have e3 : ((y.length : Int) != (y.length : Int)) = false := by simp
  rw [e3]
  simp only [tattinglaw12_DeltaRows.j1]
  rw [if_neg (by decide)]
  have h0 : rd (rowOf x y) ((0 : Nat) : Int) = 0 := by rw [rd_rowOf _ _ _ (by omega), List.take_zero, L_nil_right]; rfl
  have := rows_l0 x y lx ly y.length 9998 0 (by omega) (by omega)
  rw [h0] at this
  exact this

end Go.Proofs.Ytjplieecdfbbjaa.Pure
