/- For every two lists of at most 40 numbers, brought to four: the thresholds are the reference's, and each is the least place up to which so many are had. -/
import Derived.Test.YtkhplimibgjmoaaPHuntThresholdsx5
import Derived.Test.YtkhplimibgjmoaaWSized
namespace Go.Proofs.Ytkhplimibgjmoaa.PrintWords
set_option linter.defProp false in
/-- The printed row names this lemma without the seat-wide namespace. -/
def sized_ints := @Go.Proofs.YtkhplimibgjmoaaW.PrintWords.sized_ints
end Go.Proofs.Ytkhplimibgjmoaa.PrintWords
namespace Go.Proofs.Ytkhplimibgjmoaa.Pure
open Go.RowKit Go.Proofs.Ytkhplimibgjmoaa.PHuntThresholds Go.Proofs.YtkhplimibgjmoaaW.PrintWords Go.Proofs.YtkhplimibgjmoaaW.PrintLast Go.Proofs.YtkhplimibgjmoaaW.PrintMore
set_option linter.unusedVariables false
set_option linter.unusedSimpArgs false

theorem wrap_id {i : Int} (h0 : -9223372036854775808 ≤ i) (h1 : i < 9223372036854775808) : wrap64 i = i := by unfold wrap64; omega
theorem wrap_succ {n : Nat} (h : n < 9223372036854775807) : wrap64 ((n : Int) + 1) = ((n + 1 : Nat) : Int) := by unfold wrap64; omega

theorem rd_at (l : List Int) {n : Nat} (h : n < l.length) : rd l (n : Int) = l[n] := by
  unfold rd; rw [Int.toNat_natCast, List.getD_eq_getElem?_getD, List.getElem?_eq_getElem h]; rfl
theorem rd_d (l : List Int) (n : Nat) : rd l (n : Int) = l.getD n 0 := rfl
theorem rd_out (l : List Int) {n : Nat} (h : l.length ≤ n) : rd l (n : Int) = 0 := by
  rw [rd_d, List.getD_eq_getElem?_getD, List.getElem?_eq_none h]; rfl
theorem drop_rd (l : List Int) {n : Nat} (h : n < l.length) : l.drop n = rd l (n : Int) :: l.drop (n + 1) := by
  rw [rd_at l h]; exact List.drop_eq_getElem_cons h
theorem take_rd (l : List Int) {n : Nat} (h : n < l.length) : l.take (n + 1) = l.take n ++ [rd l (n : Int)] := by
  rw [rd_at l h, List.take_succ_eq_append_getElem h]
theorem rd_mem (l : List Int) {n : Nat} (h : n < l.length) : rd l (n : Int) ∈ l := by rw [rd_at l h]; exact List.getElem_mem h
theorem rd_app_lt (l : List Int) (x : Int) {n : Nat} (h : n < l.length) : rd (l ++ [x]) (n : Int) = rd l (n : Int) := by
  rw [rd_at _ (by rw [List.length_append]; omega), rd_at _ h, List.getElem_append_left h]
theorem rd_app_eq (l : List Int) (x : Int) : rd (l ++ [x]) (l.length : Int) = x := by
  rw [rd_at _ (by rw [List.length_append, List.length_singleton]; omega)]; simp
theorem rd_app (l : List Int) (x : Int) (n : Nat) (h : n ≤ l.length) : rd (l ++ [x]) (n : Int) = if n = l.length then x else rd l (n : Int) := by
  by_cases e : n = l.length
  · rw [if_pos e, e, rd_app_eq]
  · rw [if_neg e, rd_app_lt _ _ (by omega)]
theorem rd_set (l : List Int) (i n : Nat) (x : Int) (h : n < l.length) : rd (l.set i x) (n : Int) = if n = i then x else rd l (n : Int) := by
  rw [rd_at _ (by rw [List.length_set]; exact h), rd_at _ h, List.getElem_set]
  by_cases e : n = i
  · rw [if_pos e, if_pos e.symm]
  · rw [if_neg e, if_neg (fun q => e q.symm)]
theorem rd_replicate (m n : Nat) (x : Int) (h : n < m) : rd (List.replicate m x) (n : Int) = x := by
  rw [rd_at _ (by rw [List.length_replicate]; exact h), List.getElem_replicate]
theorem rd_take (l : List Int) {m n : Nat} (h : n < m) (hm : m ≤ l.length) : rd (l.take m) (n : Int) = rd l (n : Int) := by
  rw [rd_at _ (by rw [List.length_take]; omega), rd_at _ (by omega), List.getElem_take]
theorem rd_drop (l : List Int) (m n : Nat) : rd (l.drop m) (n : Int) = rd l ((m + n : Nat) : Int) := by
  rw [rd_d, rd_d, List.getD_eq_getElem?_getD, List.getD_eq_getElem?_getD, List.getElem?_drop]
theorem list_ext {l m : List Int} (h : l.length = m.length) (k : ∀ n : Nat, n < l.length → rd l (n : Int) = rd m (n : Int)) : l = m := by
  apply List.ext_getElem h
  intro i h1 h2
  have := k i h1
  rwa [rd_at _ h1, rd_at _ h2] at this
theorem wf64 {a : Int} (h : (Lit.int .i64 a).wf = true) : -9223372036854775808 ≤ a ∧ a ≤ 9223372036854775807 := by
  simp only [Lit.wf, IntKind.min, IntKind.max, IntKind.signed, IntKind.bits, Bool.and_eq_true, decide_eq_true_eq, if_true] at h
  omega
/-- At least one round. -/
theorem round {k d : Nat} (h : d < k) : ∃ m, k = m + 1 := ⟨k - 1, by omega⟩

/-- The comparison of two lists answers whether they are equal. -/
theorem sameInts_l0 (a b : List Int) (hl : a.length = b.length) (hm : a.length ≤ 9223372036854775806) (d : Nat) : ∀ (k n : Nat), n + d = a.length → d < k → tattingref1_SameInts.l0 k a b (n : Int) = some (decide (a.drop n = b.drop n)) := by
  induction d with
  | zero =>
    intro k n hn hk
    obtain ⟨k, rfl⟩ := round hk
    simp only [tattingref1_SameInts.l0]
    rw [if_neg (by omega), List.drop_eq_nil_of_le (by omega), List.drop_eq_nil_of_le (by omega)]; rfl
  | succ d ih =>
    intro k n hn hk
    obtain ⟨k, rfl⟩ := round hk
    simp only [tattingref1_SameInts.l0]
    rw [if_pos (by omega), if_pos (by omega), if_pos (by omega)]
    rw [drop_rd a (by omega), drop_rd b (by omega)]
    by_cases h : rd a (n : Int) = rd b (n : Int)
    · rw [if_pos h, wrap_succ (by omega), ih k (n + 1) (by omega) (by omega), h]
      simp
    · rw [if_neg h]
      simp [h]
theorem sameInts (a b : List Int) (hm : a.length ≤ 9223372036854775806) {k : Nat} (hk : a.length < k) : tattingref1_SameInts.f k a b = some (decide (a = b)) := by
  unfold tattingref1_SameInts.f
  by_cases h : a.length = b.length
  · rw [if_pos (by omega)]
    exact sameInts_l0 a b h hm a.length k 0 (by omega) hk
  · rw [if_neg (by omega)]
    congr 1
    rw [eq_comm, decide_eq_false_iff_not]
    intro e; exact h (by rw [e])

/-- The numbers brought to a few. -/
def fewOf (l : List Int) (n : Int) : List Int := l.map (· % n)
theorem fewOf_length (l : List Int) (n : Int) : (fewOf l n).length = l.length := by unfold fewOf; rw [List.length_map]
theorem fewOf_range (l : List Int) (n : Int) (hn : 0 < n) : ∀ x ∈ fewOf l n, 0 ≤ x ∧ x < n := by
  intro x hx
  unfold fewOf at hx
  obtain ⟨y, _, rfl⟩ := List.mem_map.mp hx
  exact ⟨Int.emod_nonneg y (by omega), Int.emod_lt_of_pos y hn⟩
theorem tmod_emod (x n : Int) (hn : 0 < n) : (if Int.tmod x n < 0 then Int.tmod x n + n else Int.tmod x n) = x % n := by
  have h0 := Int.emod_nonneg x (show n ≠ 0 by omega)
  have h1 := Int.emod_lt_of_pos x hn
  have h := Int.tmod_eq_emod (a := x) (b := n)
  by_cases c : 0 ≤ x ∨ n ∣ x
  · rw [if_pos c] at h; rw [if_neg (by omega)]; omega
  · rw [if_neg c] at h; rw [if_pos (by omega)]; omega
theorem few_l0 (l : List Int) (n : Int) (hn : 0 < n) (hn' : n ≤ 1000000) (hl : l.length ≤ 1000000) (d : Nat) : ∀ (k i : Nat) (out : List Int), i + d = l.length → d < k → out.length = i → tattingref1_Few.l0 k l n out (i : Int) = some (out ++ fewOf (l.drop i) n) := by
  induction d with
  | zero =>
    intro k i out hi hk ho
    obtain ⟨k, rfl⟩ := round hk
    simp only [tattingref1_Few.l0]
    rw [if_neg (by omega), List.drop_eq_nil_of_le (by omega)]
    simp [fewOf]
  | succ d ih =>
    intro k i out hi hk ho
    obtain ⟨k, rfl⟩ := round hk
    simp only [tattingref1_Few.l0]
    rw [if_pos (by omega), if_pos (by omega), if_neg (by omega), drop_rd l (by omega)]
    have h := tmod_emod (rd l (i : Int)) n hn
    have h0 := Int.emod_nonneg (rd l (i : Int)) (show n ≠ 0 by omega)
    have h1 := Int.emod_lt_of_pos (rd l (i : Int)) hn
    have e : fewOf (rd l (i : Int) :: l.drop (i + 1)) n = (rd l (i : Int) % n) :: fewOf (l.drop (i + 1)) n := rfl
    rw [e]
    by_cases c : Int.tmod (rd l (i : Int)) n < 0
    · rw [if_pos c] at h
      rw [if_pos c, if_pos (by omega), wrap_succ (by omega), wrap_id (by omega) (by omega), h, ih k (i + 1) _ (by omega) (by omega) (by rw [List.length_append, List.length_singleton]; omega)]
      simp
    · rw [if_neg c] at h
      rw [if_neg c, if_pos (by omega), wrap_succ (by omega), h, ih k (i + 1) _ (by omega) (by omega) (by rw [List.length_append, List.length_singleton]; omega)]
      simp
theorem few (l : List Int) (n : Int) (hn : 0 < n) (hn' : n ≤ 1000000) (hl : l.length ≤ 1000000) {k : Nat} (hk : l.length < k) : tattingref1_Few.f k l n = some (fewOf l n) := by
  have h := few_l0 l n hn hn' hl l.length k 0 [] (by omega) hk rfl
  rwa [List.nil_append, List.drop_zero] at h

/-- The longest common subsequence's length. -/
def L : List Int → List Int → Nat
  | [], _ => 0
  | _ :: _, [] => 0
  | x :: xs, y :: ys => if x = y then L xs ys + 1 else max (L xs (y :: ys)) (L (x :: xs) ys)
termination_by a b => a.length + b.length

theorem L_nil_left (b : List Int) : L [] b = 0 := by rw [L]
theorem L_nil_right (a : List Int) : L a [] = 0 := by cases a <;> rw [L]
theorem L_cons_eq (x : Int) (xs ys : List Int) : L (x :: xs) (x :: ys) = L xs ys + 1 := by rw [L, if_pos rfl]
theorem L_cons_ne {x y : Int} (h : x ≠ y) (xs ys : List Int) : L (x :: xs) (y :: ys) = max (L xs (y :: ys)) (L (x :: xs) ys) := by rw [L, if_neg h]

theorem L_ub (a b : List Int) : ∀ s : List Int, s.Sublist a → s.Sublist b → s.length ≤ L a b := by
  induction a, b using L.induct with
  | case1 b => intro s h _; rw [List.sublist_nil.mp h]; simp
  | case2 x xs => intro s _ h; rw [List.sublist_nil.mp h]; simp
  | case3 xs y ys ih =>
    intro s h1 h2
    rw [L_cons_eq]
    have h3 := ih s.tail (by simpa using h1.tail) (by simpa using h2.tail)
    have h4 : s.length ≤ s.tail.length + 1 := by rw [List.length_tail]; omega
    omega
  | case4 x xs y ys hne ih1 ih2 =>
    intro s h1 h2
    rw [L_cons_ne hne]
    rcases List.sublist_cons_iff.mp h1 with h | ⟨r, rfl, hr⟩
    · have := ih1 s h h2; omega
    · rcases List.sublist_cons_iff.mp h2 with h | ⟨r', he, hr'⟩
      · have := ih2 _ h1 h; omega
      · injection he with he1 he2; exact absurd he1 hne

theorem L_has (a b : List Int) : ∃ s : List Int, s.Sublist a ∧ s.Sublist b ∧ s.length = L a b := by
  induction a, b using L.induct with
  | case1 b => exact ⟨[], by simp, by simp, by rw [L_nil_left]; rfl⟩
  | case2 x xs => exact ⟨[], by simp, by simp, by rw [L_nil_right]; rfl⟩
  | case3 xs y ys ih =>
    obtain ⟨s, h1, h2, h3⟩ := ih
    exact ⟨y :: s, h1.cons_cons y, h2.cons_cons y, by rw [L_cons_eq]; simp [h3]⟩
  | case4 x xs y ys hne ih1 ih2 =>
    obtain ⟨s, h1, h2, h3⟩ := ih1
    obtain ⟨t, k1, k2, k3⟩ := ih2
    rw [L_cons_ne hne]
    by_cases h : L (x :: xs) ys ≤ L xs (y :: ys)
    · exact ⟨s, h1.cons x, h2, by omega⟩
    · exact ⟨t, k1, k2.cons y, by omega⟩

theorem L_le_of (a b c d : List Int) (h : ∀ s : List Int, s.Sublist a → s.Sublist b → ∃ t : List Int, t.length = s.length ∧ t.Sublist c ∧ t.Sublist d) : L a b ≤ L c d := by
  obtain ⟨s, h1, h2, h3⟩ := L_has a b
  obtain ⟨t, k1, k2, k3⟩ := h s h1 h2
  have := L_ub c d t k2 k3
  omega

theorem L_mono {a b c d : List Int} (h : a.Sublist c) (k : b.Sublist d) : L a b ≤ L c d :=
  L_le_of _ _ _ _ fun s h1 h2 => ⟨s, rfl, h1.trans h, h2.trans k⟩

theorem L_comm (a b : List Int) : L a b = L b a :=
  Nat.le_antisymm (L_le_of _ _ _ _ fun s h k => ⟨s, rfl, k, h⟩) (L_le_of _ _ _ _ fun s h k => ⟨s, rfl, k, h⟩)

theorem L_rev_le (a b : List Int) : L a b ≤ L a.reverse b.reverse :=
  L_le_of _ _ _ _ fun s h k => ⟨s.reverse, by simp, h.reverse, k.reverse⟩

theorem L_rev (a b : List Int) : L a.reverse b.reverse = L a b :=
  Nat.le_antisymm (by simpa using L_rev_le a.reverse b.reverse) (L_rev_le a b)

theorem L_le_left (a b : List Int) : L a b ≤ a.length := by
  obtain ⟨s, h1, _, h3⟩ := L_has a b
  have := h1.length_le; omega

theorem L_le_right (a b : List Int) : L a b ≤ b.length := by rw [L_comm]; exact L_le_left b a

/-- One element more makes it at most one longer. -/
theorem L_cons_le (x : Int) (a b : List Int) : L (x :: a) b ≤ L a b + 1 := by
  obtain ⟨s, h1, h2, h3⟩ := L_has (x :: a) b
  have h := L_ub a b s.tail (by simpa using h1.tail) ((List.tail_sublist s).trans h2)
  rw [List.length_tail] at h
  omega

theorem L_cons_le' (y : Int) (a b : List Int) : L a (y :: b) ≤ L a b + 1 := by
  rw [L_comm a, L_comm a]; exact L_cons_le y b a

theorem L_le_cons (x : Int) (a b : List Int) : L a b ≤ L (x :: a) b := L_mono (List.sublist_cons_self x a) (List.Sublist.refl b)
theorem L_le_cons' (y : Int) (a b : List Int) : L a b ≤ L a (y :: b) := L_mono (List.Sublist.refl a) (List.sublist_cons_self y b)

/-- The same, from the end. -/
theorem L_snoc_eq (x : Int) (a b : List Int) : L (a ++ [x]) (b ++ [x]) = L a b + 1 := by
  rw [← L_rev]; simp only [List.reverse_append, List.reverse_cons, List.reverse_nil, List.nil_append, List.singleton_append]; rw [L_cons_eq, L_rev]

theorem L_snoc_ne {x y : Int} (h : x ≠ y) (a b : List Int) : L (a ++ [x]) (b ++ [y]) = max (L a (b ++ [y])) (L (a ++ [x]) b) := by
  have e1 : L a (b ++ [y]) = L a.reverse (y :: b.reverse) := by rw [← L_rev]; simp
  have e2 : L (a ++ [x]) b = L (x :: a.reverse) b.reverse := by rw [← L_rev]; simp
  rw [← L_rev, e1, e2]; simp only [List.reverse_append, List.reverse_cons, List.reverse_nil, List.nil_append, List.singleton_append]; rw [L_cons_ne h]

theorem L_prefix (p a b : List Int) : L (p ++ a) (p ++ b) = p.length + L a b := by
  induction p with
  | nil => simp
  | cons x p ih => rw [List.cons_append, List.cons_append, L_cons_eq, ih, List.length_cons]; omega

theorem L_suffix (s a b : List Int) : L (a ++ s) (b ++ s) = L a b + s.length := by
  rw [← L_rev, List.reverse_append, List.reverse_append, L_prefix, L_rev, List.length_reverse]; omega

theorem L_append_ge (a1 a2 b1 b2 : List Int) : L a1 b1 + L a2 b2 ≤ L (a1 ++ a2) (b1 ++ b2) := by
  obtain ⟨s, h1, h2, h3⟩ := L_has a1 b1
  obtain ⟨t, k1, k2, k3⟩ := L_has a2 b2
  have := L_ub (a1 ++ a2) (b1 ++ b2) (s ++ t) (h1.append k1) (h2.append k2)
  rw [List.length_append] at this
  omega

/-- Where the first list is cut, the second one can be cut too. -/
theorem L_split (a1 a2 b : List Int) : ∃ j, j ≤ b.length ∧ L (a1 ++ a2) b = L a1 (b.take j) + L a2 (b.drop j) := by
  obtain ⟨s, h1, h2, h3⟩ := L_has (a1 ++ a2) b
  obtain ⟨s1, s2, rfl, k1, k2⟩ := List.sublist_append_iff.mp h1
  obtain ⟨b1, b2, rfl, m1, m2⟩ := List.append_sublist_iff.mp h2
  refine ⟨b1.length, by simp, ?_⟩
  have e1 : (b1 ++ b2).take b1.length = b1 := List.take_left' rfl
  have e2 : (b1 ++ b2).drop b1.length = b2 := List.drop_left' rfl
  rw [e1, e2]
  have u1 := L_ub a1 b1 s1 k1 m1
  have u2 := L_ub a2 b2 s2 k2 m2
  have u3 := L_append_ge a1 a2 b1 b2
  rw [List.length_append] at h3
  omega

theorem L_split_le (a1 a2 b : List Int) (j : Nat) : L a1 (b.take j) + L a2 (b.drop j) ≤ L (a1 ++ a2) b := by
  have h := L_append_ge a1 a2 (b.take j) (b.drop j)
  rwa [List.take_append_drop] at h

theorem rdL_d (o : List (List Int)) (n : Nat) : rd_L2 o (n : Int) = o.getD n [] := rfl
theorem rdL_at (o : List (List Int)) {n : Nat} (h : n < o.length) : rd_L2 o (n : Int) = o[n] := by
  rw [rdL_d, List.getD_eq_getElem?_getD, List.getElem?_eq_getElem h]; rfl
theorem rdL_set (o : List (List Int)) (i n : Nat) (v : List Int) (h : n < o.length) : rd_L2 (o.set i v) (n : Int) = if n = i then v else rd_L2 o (n : Int) := by
  rw [rdL_at _ (by rw [List.length_set]; exact h), rdL_at _ h, List.getElem_set]
  by_cases e : n = i
  · rw [if_pos e, if_pos e.symm]
  · rw [if_neg e, if_neg (fun q => e q.symm)]

/-- The rows from i on of the table of all ends. -/
def TabFrom (t : List (List Int)) (a b : List Int) (i : Nat) : Prop :=
  t.length = a.length + 1 ∧ ∀ n : Nat, i ≤ n → n ≤ a.length → (rd_L2 t (n : Int)).length = b.length + 1 ∧ ∀ j : Nat, j ≤ b.length → rd (rd_L2 t (n : Int)) (j : Int) = (L (a.drop n) (b.drop j) : Int)
/-- The table of all ends. -/
def IsTab (t : List (List Int)) (a b : List Int) : Prop := TabFrom t a b 0
/-- Row i from column m on. -/
def RowFrom (t : List (List Int)) (a b : List Int) (i m : Nat) : Prop :=
  TabFrom t a b (i + 1) ∧ (rd_L2 t (i : Int)).length = b.length + 1 ∧ ∀ j : Nat, m ≤ j → j ≤ b.length → rd (rd_L2 t (i : Int)) (j : Int) = (L (a.drop i) (b.drop j) : Int)
theorem mx_nat (x y : Nat) : mx (x : Int) (y : Int) = ((max x y : Nat) : Int) := by unfold mx; split <;> omega
theorem L_le_len (a b : List Int) (i j : Nat) : L (a.drop i) (b.drop j) ≤ a.length := by
  have := L_le_left (a.drop i) (b.drop j); rw [List.length_drop] at this; omega
theorem behind_l1 (a b : List Int) (ha : a.length ≤ 100000) (hb : b.length ≤ 100000) (i : Nat) (hi : i < a.length) (K : Nat) (Post : Option (List (List Int)) → Prop)
    (hr : ∀ k' t', K ≤ k' → TabFrom t' a b i → Post (tattingref7_Behind.l0 k' a b t' (wrap64 ((i : Int) - 1)))) (m : Nat) : ∀ (k : Nat) (t : List (List Int)), m ≤ b.length → 2 * m + 2 + K ≤ k → RowFrom t a b i m → Post (tattingref7_Behind.l1 k a b t (i : Int) ((m : Int) - 1)) := by
  induction m with
  | zero =>
    intro k t hm hk ⟨h1, h2, h3⟩
    obtain ⟨k, rfl⟩ : ∃ q, k = q + 2 := ⟨k - 2, by omega⟩
    simp only [tattingref7_Behind.l1]
    rw [if_pos (by omega), decide_eq_false (by omega)]
    simp only [tattingref7_Behind.j2]
    rw [if_neg (by decide)]
    refine hr k t (by omega) ⟨h1.1, ?_⟩
    intro n hn hn'
    by_cases e : n = i
    · rw [e]; exact ⟨h2, fun j hj => h3 j (by omega) hj⟩
    · exact h1.2 n (by omega) hn'
  | succ m ih =>
    intro k t hm hk ⟨h1, h2, h3⟩
    obtain ⟨k, rfl⟩ : ∃ q, k = q + 2 := ⟨k - 2, by omega⟩
    have e0 : ((m + 1 : Nat) : Int) - 1 = (m : Int) := by omega
    rw [e0]
    simp only [tattingref7_Behind.l1]
    rw [if_pos (by omega), decide_eq_true (by omega)]
    simp only [tattingref7_Behind.j2]
    have hlen := h1.1
    have hrow := (h1.2 (i + 1) (by omega) (by omega)).1
    have E1 := Aside0.mk (show wrap64 ((i : Int) + 1) = ((i + 1 : Nat) : Int) from wrap_succ (by omega))
    have E2 := Aside0.mk (show wrap64 ((m : Int) + 1) = ((m + 1 : Nat) : Int) from wrap_succ (by omega))
    have E3 := Aside0.mk (show wrap64 ((m : Int) - 1) = (m : Int) - 1 from wrap_id (by omega) (by omega))
    have r1 := (h1.2 (i + 1) (by omega) (by omega)).2 (m + 1) (by omega)
    have r2 := (h1.2 (i + 1) (by omega) (by omega)).2 m (by omega)
    have r3 := h3 (m + 1) (by omega) (by omega)
    have b1 := L_le_len a b (i + 1) (m + 1)
    have hn : ∀ v : Int, v = (L (a.drop i) (b.drop m) : Int) → RowFrom (t.set i ((rd_L2 t (i : Int)).set m v)) a b i m := by
      intro v hv
      refine ⟨⟨by rw [List.length_set]; exact hlen, ?_⟩, ?_, ?_⟩
      · intro n hn hn'
        rw [rdL_set _ _ _ _ (by omega), if_neg (by omega)]
        exact h1.2 n hn hn'
      · rw [rdL_set _ _ _ _ (by omega), if_pos rfl, List.length_set]; exact h2
      · intro j hj hj'
        rw [rdL_set _ _ _ _ (by omega), if_pos rfl, rd_set _ _ _ _ (by omega)]
        by_cases e : j = m
        · rw [if_pos e, hv, e]
        · rw [if_neg e]; exact h3 j (by omega) hj'
    rw [if_pos True.intro, if_pos (by omega), if_pos (by omega), if_pos (by omega), if_pos (by omega)]
    simp only [E1.out, E2.out, E3.out, Int.toNat_natCast]
    have da := drop_rd a hi
    have db := drop_rd b (show m < b.length by omega)
    by_cases e : rd a (i : Int) = rd b (m : Int)
    · rw [if_pos e, if_pos (by omega), if_pos (by omega), if_pos (by omega), if_pos (by omega), if_pos (by omega), if_pos (by omega)]
      refine ih k _ (by omega) (by omega) (hn _ ?_)
      rw [r1, wrap_id (by omega) (by omega), da, db, e, L_cons_eq]; omega
    · rw [if_neg e, if_pos (by omega), if_pos (by omega), if_pos (by omega), if_pos (by omega), if_pos (by omega), if_pos (by omega), if_pos (by omega)]
      refine ih k _ (by omega) (by omega) (hn _ ?_)
      rw [r2, r3, mx_nat, da, db, L_cons_ne e]
theorem behind_l0 (a b : List Int) (ha : a.length ≤ 100000) (hb : b.length ≤ 100000) (m : Nat) : ∀ (k : Nat) (t : List (List Int)), m ≤ a.length + 1 → (2 * b.length + 4) * m + 1 ≤ k → TabFrom t a b m → ∃ t', tattingref7_Behind.l0 k a b t ((m : Int) - 1) = some t' ∧ IsTab t' a b := by
  induction m with
  | zero =>
    intro k t hm hk h
    obtain ⟨k, rfl⟩ : ∃ q, k = q + 1 := ⟨k - 1, by omega⟩
    refine ⟨t, ?_, h⟩
    simp only [tattingref7_Behind.l0]
    rw [if_neg (by omega)]
  | succ m ih =>
    intro k t hm hk h
    rw [Nat.mul_succ] at hk
    obtain ⟨k, rfl⟩ : ∃ q, k = q + 1 := ⟨k - 1, by omega⟩
    rw [show ((m + 1 : Nat) : Int) - 1 = (m : Int) by omega]
    simp only [tattingref7_Behind.l0]
    have hlen := h.1
    have E1 := Aside0.mk (show wrap64 ((b.length : Int) + 1) = ((b.length + 1 : Nat) : Int) from wrap_succ (by omega))
    have E2 := Aside0.mk (show wrap64 ((b.length : Int) - 1) = (b.length : Int) - 1 from wrap_id (by omega) (by omega))
    have E3 := Aside0.mk (show wrap64 ((m : Int) - 1) = (m : Int) - 1 from wrap_id (by omega) (by omega))
    rw [E1.out, E2.out, if_pos (by omega), if_pos (by omega), if_pos (by omega), if_pos (by omega), if_pos (by omega)]
    simp only [Int.toNat_natCast]
    have hrow : RowFrom (t.set m (List.replicate (b.length + 1) 0)) a b m b.length := by
      refine ⟨⟨by rw [List.length_set]; exact hlen, ?_⟩, ?_, ?_⟩
      · intro n hn hn'
        rw [rdL_set _ _ _ _ (by omega), if_neg (by omega)]
        exact h.2 n hn hn'
      · rw [rdL_set _ _ _ _ (by omega), if_pos rfl, List.length_replicate]
      · intro j hj hj'
        rw [rdL_set _ _ _ _ (by omega), if_pos rfl, rd_replicate _ _ _ (by omega), show j = b.length by omega, List.drop_length, L_nil_right]; rfl
    by_cases c : m < a.length
    · refine behind_l1 a b ha hb m c ((2 * b.length + 4) * m + 1) (fun o => ∃ t', o = some t' ∧ IsTab t' a b) ?_ b.length k _ (Nat.le_refl _) (by omega) hrow
      intro k' t' hk' ht'
      rw [E3.out]
      exact ih k' t' (by omega) hk' ht'
    · obtain ⟨k, rfl⟩ : ∃ q, k = q + 2 := ⟨k - 2, by omega⟩
      simp only [tattingref7_Behind.l1]
      rw [if_neg (by omega)]
      simp only [tattingref7_Behind.j2]
      rw [if_neg (by decide), E3.out]
      refine ih k _ (by omega) (by omega) ⟨by rw [List.length_set]; exact hlen, ?_⟩
      intro n hn hn'
      have e : n = m := by omega
      rw [rdL_set _ _ _ _ (by omega), if_pos e]
      refine ⟨by rw [List.length_replicate], fun j hj => ?_⟩
      rw [rd_replicate _ _ _ (by omega), List.drop_eq_nil_of_le (by omega), L_nil_left]; rfl
theorem behind (a b : List Int) (ha : a.length ≤ 100000) (hb : b.length ≤ 100000) {k : Nat} (hk : (2 * b.length + 4) * (a.length + 1) + 1 ≤ k) : ∃ t, tattingref7_Behind.f k a b = some t ∧ IsTab t a b := by
  unfold tattingref7_Behind.f
  have e1 : wrap64 ((a.length : Int) + 1) = ((a.length + 1 : Nat) : Int) := wrap_succ (by omega)
  rw [e1, if_pos (by omega), if_pos (by omega)]
  simp only [Int.toNat_natCast]
  have h := behind_l0 a b ha hb (a.length + 1) k (List.replicate (a.length + 1) []) (Nat.le_refl _) hk ⟨by rw [List.length_replicate], fun n hn hn' => by omega⟩
  rw [show ((a.length + 1 : Nat) : Int) - 1 = (a.length : Int) by omega] at h
  exact h

theorem refLen (a b : List Int) (ha : a.length ≤ 100000) (hb : b.length ≤ 100000) {k : Nat} (hk : (2 * b.length + 4) * (a.length + 1) + 1 ≤ k) : tattingref7_Len.f k a b = some (L a b : Int) := by
  obtain ⟨t, h, h1, h2⟩ := behind a b ha hb hk
  unfold tattingref7_Len.f
  rw [h]
  simp only [Option.bind_some]
  have h3 := h2 0 (Nat.le_refl _) (by omega)
  have h4 := h3.2 0 (by omega)
  rw [List.drop_zero, List.drop_zero] at h4
  have e : rd_L2 t 0 = rd_L2 t ((0 : Nat) : Int) := rfl
  rw [e, if_pos (by omega), if_pos (by omega)]
  exact congrArg some h4

/-- A list of so many numbers, each told by its place. -/
def tabulate (n : Nat) (f : Nat → Int) : List Int := (List.range n).map f
theorem tabulate_length (n : Nat) (f : Nat → Int) : (tabulate n f).length = n := by unfold tabulate; rw [List.length_map, List.length_range]
theorem rd_tabulate (n : Nat) (f : Nat → Int) (j : Nat) (h : j < n) : rd (tabulate n f) (j : Int) = f j := by
  rw [rd_at _ (by rw [tabulate_length]; exact h)]; unfold tabulate; rw [List.getElem_map, List.getElem_range]
theorem eq_tabulate (l : List Int) (n : Nat) (f : Nat → Int) (hl : l.length = n) (h : ∀ j, j < n → rd l (j : Int) = f j) : l = tabulate n f := by
  apply list_ext (by rw [hl, tabulate_length])
  intro j hj; rw [rd_tabulate _ _ _ (by omega), h j (by omega)]

/-- Number j of the next row. -/
def nxt (row : List Int) (sym : Int) (b : List Int) : Nat → Int
  | 0 => rd row ((0 : Nat) : Int)
  | j + 1 => if rd b (j : Int) = sym then wrap64 (rd row (j : Int) + 1) else mx (rd row ((j + 1 : Nat) : Int)) (nxt row sym b j)
/-- The row of a list. -/
def rowOf (a b : List Int) : List Int := tabulate (b.length + 1) fun j => (L a (b.take j) : Int)
theorem rowOf_length (a b : List Int) : (rowOf a b).length = b.length + 1 := tabulate_length _ _
theorem rd_rowOf (a b : List Int) (j : Nat) (h : j ≤ b.length) : rd (rowOf a b) (j : Int) = (L a (b.take j) : Int) := rd_tabulate _ _ _ (by omega)
theorem mx_nat' (x y : Nat) : mx (x : Int) (y : Int) = ((max x y : Nat) : Int) := by unfold mx; split <;> omega
theorem nxt_rowOf (a b : List Int) (x : Int) (ha : a.length ≤ 1000000) (j : Nat) (hj : j ≤ b.length) : nxt (rowOf a b) x b j = (L (a ++ [x]) (b.take j) : Int) := by
  induction j with
  | zero => rw [nxt, rd_rowOf _ _ _ (by omega), List.take_zero, L_nil_right, L_nil_right]
  | succ j ih =>
    have ih := ih (by omega)
    rw [nxt, ih, rd_rowOf _ _ _ (by omega), rd_rowOf _ _ _ (by omega), take_rd b (show j < b.length by omega)]
    have hl := L_le_left a (b.take j)
    by_cases e : rd b (j : Int) = x
    · rw [if_pos e, wrap_id (by omega) (by omega), e, L_snoc_eq]; omega
    · rw [if_neg e, mx_nat', L_snoc_ne (fun q => e q.symm)]
theorem next_rowOf (a b : List Int) (x : Int) (ha : a.length ≤ 1000000) : tabulate (b.length + 1) (nxt (rowOf a b) x b) = rowOf (a ++ [x]) b := by
  refine eq_tabulate _ _ _ (tabulate_length _ _) ?_
  intro j hj
  rw [rd_tabulate _ _ _ hj, nxt_rowOf a b x ha j (by omega)]
theorem rowOf_nil (b : List Int) : rowOf [] b = List.replicate (b.length + 1) 0 := by
  refine (eq_tabulate _ _ _ (by rw [List.length_replicate]) ?_).symm
  intro j hj; rw [rd_replicate _ _ _ hj, L_nil_left]; rfl

theorem refTurned_l0 (l : List Int) (hl : l.length ≤ 1000000) (m : Nat) : ∀ (k : Nat) (out : List Int), m ≤ l.length → m < k → out.length + m = l.length → tattingref7_Turned.l0 k l out ((m : Int) - 1) = some (out ++ (l.take m).reverse) := by
  induction m with
  | zero =>
    intro k out hm hk ho
    obtain ⟨k, rfl⟩ := round hk
    simp only [tattingref7_Turned.l0]
    rw [if_neg (by omega)]; simp
  | succ m ih =>
    intro k out hm hk ho
    obtain ⟨k, rfl⟩ := round hk
    simp only [tattingref7_Turned.l0]
    rw [show ((m + 1 : Nat) : Int) - 1 = (m : Int) by omega, if_pos (by omega), if_pos (by omega), if_pos (by omega), if_pos (by omega), wrap_id (by omega) (by omega), ih k _ (by omega) (by omega) (by rw [List.length_append, List.length_singleton]; omega), take_rd l (show m < l.length by omega)]
    simp
theorem refTurned (l : List Int) (hl : l.length ≤ 1000000) {k : Nat} (hk : l.length < k) : tattingref7_Turned.f k l = some l.reverse := by
  unfold tattingref7_Turned.f
  rw [wrap_id (by omega) (by omega)]
  have h := refTurned_l0 l hl l.length k [] (Nat.le_refl _) hk (by simp)
  rw [List.take_length, List.nil_append] at h; exact h

theorem tab_rev (t : List (List Int)) (a b : List Int) (h : IsTab t a.reverse b.reverse) (i j : Nat) (hi : i ≤ a.length) (hj : j ≤ b.length) :
    (rd_L2 t ((a.length - i : Nat) : Int)).length = b.length + 1 ∧ rd (rd_L2 t ((a.length - i : Nat) : Int)) ((b.length - j : Nat) : Int) = (L (a.take i) (b.take j) : Int) := by
  have q := h.2 (a.length - i) (Nat.zero_le _) (by rw [List.length_reverse]; omega)
  rw [List.length_reverse] at q
  refine ⟨q.1, ?_⟩
  rw [q.2 (b.length - j) (by omega), List.drop_reverse, List.drop_reverse, L_rev, show a.length - (a.length - i) = i by omega, show b.length - (b.length - j) = j by omega]
/-- The rows ahead of i are those of the beginnings. -/
def AheadOk (out : List (List Int)) (a b : List Int) (i : Nat) : Prop := out.length = a.length + 1 ∧ ∀ n : Nat, n < i → rd_L2 out (n : Int) = rowOf (a.take n) b
theorem ahead_l1 (a b : List Int) (t : List (List Int)) (ha : a.length ≤ 100000) (hb : b.length ≤ 100000) (h : IsTab t a.reverse b.reverse) (i : Nat) (hi : i ≤ a.length) (K : Nat) (Post : Option (List (List Int)) → Prop)
    (hr : ∀ k' out', K ≤ k' → AheadOk out' a b (i + 1) → Post (tattingref7_Ahead.l0 k' a b t out' (wrap64 ((i : Int) + 1)))) (d : Nat) : ∀ (k j : Nat) (out : List (List Int)), j + d = b.length + 1 → d + 1 + K ≤ k → AheadOk out a b i → (rd_L2 out (i : Int)).length = b.length + 1 →
    (∀ m : Nat, m < j → rd (rd_L2 out (i : Int)) (m : Int) = (L (a.take i) (b.take m) : Int)) → Post (tattingref7_Ahead.l1 k a b t out (i : Int) (j : Int)) := by
  induction d with
  | zero =>
    intro k j out hj hk ho hl hm
    obtain ⟨k, rfl⟩ : ∃ q, k = q + 1 := ⟨k - 1, by omega⟩
    simp only [tattingref7_Ahead.l1]
    rw [if_neg (by omega)]
    refine hr k out (by omega) ⟨ho.1, fun n hn => ?_⟩
    by_cases e : n = i
    · rw [e]
      exact eq_tabulate _ _ _ hl (fun m hm' => hm m (by omega))
    · exact ho.2 n (by omega)
  | succ d ih =>
    intro k j out hj hk ho hl hm
    obtain ⟨k, rfl⟩ : ∃ q, k = q + 1 := ⟨k - 1, by omega⟩
    obtain ⟨q1, q2⟩ := tab_rev t a b h i j hi (by omega)
    have ht := h.1
    rw [List.length_reverse] at ht
    have hol := ho.1
    simp only [tattingref7_Ahead.l1]
    have E1 := Aside0.mk (show wrap64 ((a.length : Int) - (i : Int)) = ((a.length - i : Nat) : Int) by rw [wrap_id (by omega) (by omega)]; omega)
    have E2 := Aside0.mk (show wrap64 ((b.length : Int) - (j : Int)) = ((b.length - j : Nat) : Int) by rw [wrap_id (by omega) (by omega)]; omega)
    rw [E1.out, E2.out, if_pos (by omega), if_pos (by omega), if_pos (by omega), if_pos (by omega), if_pos (by omega), if_pos (by omega), if_pos (by omega), if_pos (by omega), if_pos (by omega), q2, wrap_succ (by omega)]
    simp only [Int.toNat_natCast]
    refine ih k (j + 1) _ (by omega) (by omega) ⟨by rw [List.length_set]; exact hol, fun n hn => by rw [rdL_set _ _ _ _ (by omega), if_neg (by omega)]; exact ho.2 n hn⟩ (by rw [rdL_set _ _ _ _ (by omega), if_pos rfl, List.length_set]; exact hl) ?_
    intro m hm'
    rw [rdL_set _ _ _ _ (by omega), if_pos rfl, rd_set _ _ _ _ (by omega)]
    by_cases e : m = j
    · rw [if_pos e, e]
    · rw [if_neg e]; exact hm m (by omega)
theorem ahead_l0 (a b : List Int) (t : List (List Int)) (ha : a.length ≤ 100000) (hb : b.length ≤ 100000) (h : IsTab t a.reverse b.reverse) (d : Nat) : ∀ (k i : Nat) (out : List (List Int)), i + d = a.length + 1 → (b.length + 4) * d + 1 ≤ k → AheadOk out a b i → ∃ out', tattingref7_Ahead.l0 k a b t out (i : Int) = some out' ∧ AheadOk out' a b (a.length + 1) := by
  induction d with
  | zero =>
    intro k i out hi hk ho
    obtain ⟨k, rfl⟩ : ∃ q, k = q + 1 := ⟨k - 1, by omega⟩
    refine ⟨out, ?_, by rw [show a.length + 1 = i by omega]; exact ho⟩
    simp only [tattingref7_Ahead.l0]
    rw [if_neg (by omega)]
  | succ d ih =>
    intro k i out hi hk ho
    rw [Nat.mul_succ] at hk
    obtain ⟨k, rfl⟩ : ∃ q, k = q + 1 := ⟨k - 1, by omega⟩
    have hol := ho.1
    simp only [tattingref7_Ahead.l0]
    rw [wrap_succ (by omega), if_pos (by omega), if_pos (by omega), if_pos (by omega), if_pos (by omega), if_pos (by omega)]
    simp only [Int.toNat_natCast]
    refine ahead_l1 a b t ha hb h i (by omega) ((b.length + 4) * d + 1) (fun o => ∃ out', o = some out' ∧ AheadOk out' a b (a.length + 1)) ?_ (b.length + 1) k 0 _ (by omega) (by omega) ⟨by rw [List.length_set]; exact hol, fun n hn => by rw [rdL_set _ _ _ _ (by omega), if_neg (by omega)]; exact ho.2 n hn⟩ (by rw [rdL_set _ _ _ _ (by omega), if_pos rfl, List.length_replicate]) (fun m hm => by omega)
    intro k' out' hk' ho'
    rw [wrap_succ (by omega)]
    exact ih k' (i + 1) out' (by omega) hk' ho'
theorem refAhead (a b : List Int) (ha : a.length ≤ 100000) (hb : b.length ≤ 100000) {k : Nat} (hk : (2 * b.length + 4) * (a.length + 1) + 1 ≤ k) : ∃ t, tattingref7_Ahead.f k a b = some t ∧ AheadOk t a b (a.length + 1) := by
  have hm := Nat.mul_le_mul (show b.length + 4 ≤ 2 * b.length + 4 by omega) (Nat.le_refl (a.length + 1))
  have h2 : a.length + 1 ≤ (2 * b.length + 4) * (a.length + 1) := by
    have := Nat.mul_le_mul (show 1 ≤ 2 * b.length + 4 by omega) (Nat.le_refl (a.length + 1)); omega
  have h3 : 2 * b.length + 4 ≤ (2 * b.length + 4) * (a.length + 1) := by
    have := Nat.mul_le_mul (Nat.le_refl (2 * b.length + 4)) (show 1 ≤ a.length + 1 by omega); omega
  unfold tattingref7_Ahead.f
  rw [refTurned a (by omega) (by omega), Option.bind_some, refTurned b (by omega) (by omega), Option.bind_some]
  obtain ⟨t, q1, q2⟩ := behind a.reverse b.reverse (by rw [List.length_reverse]; omega) (by rw [List.length_reverse]; omega) (k := k) (by rw [List.length_reverse, List.length_reverse]; omega)
  rw [q1, Option.bind_some]
  unfold tattingref7_Ahead.f3
  rw [wrap_succ (by omega), if_pos (by omega), if_pos (by omega), Int.toNat_natCast]
  exact ahead_l0 a b t ha hb q2 (a.length + 1) k 0 _ (by omega) (by omega) ⟨by rw [List.length_replicate], fun n hn => by omega⟩
theorem refFront (a b : List Int) (ha : a.length ≤ 100000) (hb : b.length ≤ 100000) {k : Nat} (hk : (2 * b.length + 4) * (a.length + 1) + 1 ≤ k) : tattingref7_Front.f k a b = some (rowOf a b) := by
  obtain ⟨t, q1, q2⟩ := refAhead a b ha hb hk
  have hl := q2.1
  unfold tattingref7_Front.f
  rw [q1, Option.bind_some, if_pos (by omega), if_pos (by omega), q2.2 a.length (by omega), List.take_length]

/-- The places of a number in a list, from some place on. -/
def pos (s : Int) : List Int → Nat → List Int
  | [], _ => []
  | x :: xs, i => if x = s then (i : Int) :: pos s xs (i + 1) else pos s xs (i + 1)
/-- Place by place, each one goes to the list of its number. -/
def bld : List (List Int) → List Int → Nat → List (List Int)
  | o, [], _ => o
  | o, x :: xs, i => bld (o.set x.toNat (o.getD x.toNat [] ++ [(i : Int)])) xs (i + 1)
theorem bld_length (o : List (List Int)) (b : List Int) (i : Nat) : (bld o b i).length = o.length := by
  induction b generalizing o i with
  | nil => rfl
  | cons x xs ih => rw [bld, ih, List.length_set]
theorem getD_set (o : List (List Int)) (j s : Nat) (v : List Int) (h : j < o.length) : (o.set j v).getD s [] = if s = j then v else o.getD s [] := by
  rw [List.getD_eq_getElem?_getD, List.getElem?_set, List.getD_eq_getElem?_getD]
  by_cases e : s = j
  · rw [if_pos e.symm, if_pos e]; simp [h]
  · rw [if_neg (fun q => e q.symm), if_neg e]
theorem bld_at (b : List Int) : ∀ (o : List (List Int)) (i s : Nat), (∀ x ∈ b, 0 ≤ x ∧ x < (o.length : Int)) → (bld o b i).getD s [] = o.getD s [] ++ pos (s : Int) b i := by
  induction b with
  | nil => intro o i s _; simp [bld, pos]
  | cons x xs ih =>
    intro o i s h
    have hx := h x (List.mem_cons_self)
    rw [bld, ih _ _ _ (fun y hy => by rw [List.length_set]; exact h y (List.mem_cons_of_mem _ hy)), getD_set _ _ _ _ (by omega), pos]
    by_cases e : x = (s : Int)
    · rw [if_pos (by omega), if_pos e]; subst e; simp
    · rw [if_neg (by omega), if_neg e]
theorem pos_length (s : Int) (b : List Int) (i : Nat) : (pos s b i).length ≤ b.length := by
  induction b generalizing i with
  | nil => simp [pos]
  | cons x xs ih => rw [pos]; have := ih (i + 1); split <;> simp <;> omega
/-- All numbers of a list are from 0 to below n. -/
def InRange (n : Int) (b : List Int) : Prop := ∀ x ∈ b, 0 ≤ x ∧ x < n
instance (n : Int) (b : List Int) : Decidable (InRange n b) := by unfold InRange; infer_instance
theorem inRange_cons {n x : Int} {b : List Int} (h0 : 0 ≤ x) (h1 : x < n) : InRange n (x :: b) ↔ InRange n b :=
  ⟨fun q y hy => q y (List.mem_cons_of_mem _ hy), fun q y hy => (List.mem_cons.mp hy).elim (fun e => e ▸ ⟨h0, h1⟩) (fun hy => q y hy)⟩
/-- What both functions of places answer. -/
def placesOf (n : Int) (b : List Int) : List (List Int) × Int :=
  if 0 ≤ n ∧ n ≤ 1048576 ∧ InRange n b then (bld (List.replicate n.toNat []) b 0, 0) else ([], 1)

theorem isNaN0 (x : Int) : cmp_isNaN_int.f x = some false := by unfold cmp_isNaN_int.f; simp
theorem isNaN1 (x : Int) : slices_isNaN_int.f x = some false := by unfold slices_isNaN_int.f; simp
theorem less_f (x y : Int) : cmp_Less_int.f x y = some (decide (x < y)) := by
  unfold cmp_Less_int.f; rw [isNaN0]; simp
/-- A list that rises. -/
def Rising (l : List Int) : Prop := ∀ i j : Nat, i < j → j < l.length → rd l (i : Int) < rd l (j : Int)
theorem bs_l0 (l : List Int) (x : Int) (hl : l.length ≤ 1000000) (hs : Rising l) (d : Nat) : ∀ (k lo hi : Nat), hi - lo ≤ d → lo ≤ hi → hi ≤ l.length → d < k → (∀ t : Nat, t < lo → rd l (t : Int) < x) → (∀ t : Nat, hi ≤ t → t < l.length → x ≤ rd l (t : Int)) →
    ∃ (r : Nat), slices_BinarySearch_int_int.l0 k l x (l.length : Int) (lo : Int) (hi : Int) = some ((r : Int), decide (r < l.length ∧ rd l (r : Int) = x)) ∧ r ≤ l.length ∧ (∀ t : Nat, t < r → rd l (t : Int) < x) ∧ (∀ t : Nat, r ≤ t → t < l.length → x ≤ rd l (t : Int)) := by
  induction d with
  | zero =>
    intro k lo hi hd hlh hh hk h1 h2
    obtain ⟨k, rfl⟩ := round hk
    have e : lo = hi := by omega
    refine ⟨lo, ?_, by omega, h1, fun t ht => h2 t (by omega)⟩
    simp only [slices_BinarySearch_int_int.l0]
    rw [if_neg (by omega)]
    by_cases c : lo < l.length
    · rw [if_pos (by omega), if_pos (by omega), if_pos (by omega)]
      by_cases q : rd l (lo : Int) = x
      · rw [if_pos q, decide_eq_true ⟨c, q⟩]
      · rw [if_neg q, isNaN1, decide_eq_false (fun z => q z.2)]; simp
    · rw [if_neg (by omega), decide_eq_false (fun z => c z.1)]
  | succ d ih =>
    intro k lo hi hd hlh hh hk h1 h2
    obtain ⟨k, rfl⟩ := round hk
    by_cases c : lo < hi
    · simp only [slices_BinarySearch_int_int.l0]
      have hm : wrap64 (IntKind.u64.wrap (wrap64 ((lo : Int) + (hi : Int))) / 2) = (((lo + hi) / 2 : Nat) : Int) := by
        rw [wrap_id (i := (lo : Int) + hi) (by omega) (by omega), IntWalk.u64_in _ (by omega), wrap_id (by omega) (by omega)]; omega
      have hm1 : (lo + hi) / 2 < l.length := by omega
      rw [hm, if_pos (by omega), if_pos (by omega), if_pos (by omega), less_f]
      simp only [Option.bind_some, decide_eq_true_eq]
      by_cases q : rd l (((lo + hi) / 2 : Nat) : Int) < x
      · rw [if_pos q, wrap_succ (by omega)]
        refine ih k ((lo + hi) / 2 + 1) hi (by omega) (by omega) hh (by omega) ?_ h2
        intro t ht
        by_cases e : t = (lo + hi) / 2
        · rw [e]; exact q
        · have := hs t ((lo + hi) / 2) (by omega) hm1; omega
      · rw [if_neg q]
        refine ih k lo ((lo + hi) / 2) (by omega) (by omega) (by omega) (by omega) h1 ?_
        intro t ht htl
        by_cases e : t = (lo + hi) / 2
        · rw [e]; omega
        · have := hs ((lo + hi) / 2) t (by omega) htl; omega
    · refine ⟨lo, ?_, by omega, h1, fun t ht => h2 t (by omega)⟩
      simp only [slices_BinarySearch_int_int.l0]
      rw [if_neg (by omega)]
      by_cases c' : lo < l.length
      · rw [if_pos (by omega), if_pos (by omega), if_pos (by omega)]
        by_cases q : rd l (lo : Int) = x
        · rw [if_pos q, decide_eq_true ⟨c', q⟩]
        · rw [if_neg q, isNaN1, decide_eq_false (fun z => q z.2)]; simp
      · rw [if_neg (by omega), decide_eq_false (fun z => c' z.1)]
theorem bs (l : List Int) (x : Int) (hl : l.length ≤ 1000000) (hs : Rising l) {k : Nat} (hk : l.length < k) :
    ∃ (r : Nat), slices_BinarySearch_int_int.f k l x = some ((r : Int), decide (r < l.length ∧ rd l (r : Int) = x)) ∧ r ≤ l.length ∧ (∀ t : Nat, t < r → rd l (t : Int) < x) ∧ (∀ t : Nat, r ≤ t → t < l.length → x ≤ rd l (t : Int)) := by
  exact bs_l0 l x hl hs l.length k 0 l.length (by omega) (by omega) (by omega) hk (fun t ht => by omega) (fun t ht => by omega)

/-- The places below j that the list holds are as many as F tells. -/
def Cnt (t : List Int) (n : Nat) (F : Nat → Nat) : Prop := t.length = F n ∧ ∀ i : Nat, i < t.length → ∀ j : Nat, j ≤ n → (rd t (i : Int) < (j : Int) ↔ i < F j)
/-- From none on, step by step. -/
def Stair (n : Nat) (F : Nat → Nat) : Prop := F 0 = 0 ∧ ∀ j : Nat, j < n → F j ≤ F (j + 1) ∧ F (j + 1) ≤ F j + 1
theorem Stair.le {n : Nat} {F : Nat → Nat} (h : Stair n F) (d : Nat) : ∀ i : Nat, i + d ≤ n → F i ≤ F (i + d) := by
  induction d with
  | zero => intro i _; exact Nat.le_refl _
  | succ d ih =>
    intro i hi
    have := ih i (by omega)
    have := (h.2 (i + d) (by omega)).1
    rw [show i + (d + 1) = i + d + 1 by omega]; omega
theorem Stair.mono {n : Nat} {F : Nat → Nat} (h : Stair n F) {i j : Nat} (hij : i ≤ j) (hj : j ≤ n) : F i ≤ F j := by
  have := h.le (j - i) i (by omega)
  rw [show i + (j - i) = j by omega] at this; exact this
theorem Stair.top {n : Nat} {F : Nat → Nat} (h : Stair n F) : F n ≤ n := by
  have : ∀ j : Nat, j ≤ n → F j ≤ j := by
    intro j
    induction j with
    | zero => intro _; rw [h.1]; omega
    | succ j ih => intro hj; have := ih (by omega); have := (h.2 j (by omega)).2; omega
  exact this n (Nat.le_refl n)
theorem Cnt.val {t : List Int} {n : Nat} {F : Nat → Nat} (hs : Stair n F) (h : Cnt t n F) {i : Nat} (hi : i < t.length) : ∃ v : Nat, rd t (i : Int) = (v : Int) ∧ v < n ∧ F v = i ∧ F (v + 1) = i + 1 := by
  have h0 := (h.2 i hi 0 (by omega))
  have h1 := (h.2 i hi n (by omega))
  rw [hs.1] at h0
  have hl := h.1
  have z0 : ¬ rd t (i : Int) < ((0 : Nat) : Int) := fun q => by have := h0.1 q; omega
  have z1 : rd t (i : Int) < (n : Int) := h1.2 (by omega)
  obtain ⟨v, hv⟩ : ∃ v : Nat, rd t (i : Int) = (v : Int) := ⟨(rd t (i : Int)).toNat, by omega⟩
  have hvn : v < n := by omega
  have h2 := h.2 i hi v (by omega)
  have h3 := h.2 i hi (v + 1) (by omega)
  have h4 := hs.2 v hvn
  rw [hv] at h2 h3
  have e2 : ¬ i < F v := fun q => by have := h2.2 q; omega
  have e3 : i < F (v + 1) := h3.1 (by omega)
  exact ⟨v, hv, hvn, by omega, by omega⟩
theorem Cnt.rising {t : List Int} {n : Nat} {F : Nat → Nat} (hs : Stair n F) (h : Cnt t n F) : Rising t := by
  intro i j hij hj
  obtain ⟨v, hv, hvn, hf, _⟩ := h.val hs hj
  rw [hv]
  exact (h.2 i (by omega) v (by omega)).2 (by omega)
theorem Cnt.one {t u : List Int} {n : Nat} {F : Nat → Nat} (hs : Stair n F) (h : Cnt t n F) (k : Cnt u n F) : t = u := by
  have hl : t.length = u.length := by rw [h.1, k.1]
  refine list_ext hl fun i hi => ?_
  obtain ⟨v, hv, hvn, hf, _⟩ := h.val hs hi
  obtain ⟨w, hw, hwn, hg, _⟩ := k.val hs (show i < u.length by omega)
  have a1 := h.2 i hi (w + 1) (by omega)
  have a2 := k.2 i (by omega) (v + 1) (by omega)
  have a3 := h.2 i hi (v + 1) (by omega)
  have a4 := k.2 i (by omega) (w + 1) (by omega)
  rw [hv] at a1 a3 ⊢
  rw [hw] at a2 a4 ⊢
  have b1 : (v : Int) < ((w + 1 : Nat) : Int) := a1.2 (a4.1 (by omega))
  have b2 : (w : Int) < ((v + 1 : Nat) : Int) := a2.2 (a3.1 (by omega))
  omega
/-- What the count is when the place m is put. -/
def putF (F : Nat → Nat) (m j : Nat) : Nat := if j ≤ m then F j else max (F j) (F m + 1)
theorem Cnt.put {t : List Int} {n : Nat} {F : Nat → Nat} (hs : Stair n F) (h : Cnt t n F) (hn : n ≤ 100000) {m : Nat} (hm : m < n) {k : Nat} (hk : t.length < k) :
    ∃ i q, thresh_Find.f k t (m : Int) = some i ∧ thresh_put.f t (m : Int) i = some q ∧ Cnt q n (putF F m) := by
  have ht := hs.top
  have hl := h.1
  obtain ⟨r, r1, r2, r3, r4⟩ := bs t (m : Int) (by omega) (h.rising hs) hk
  have hF : F m ≤ F n := hs.mono (by omega) (Nat.le_refl n)
  have e : r = F m := by
    by_cases c : r < F m
    · have := (h.2 r (by omega) m (by omega)).2 c
      have := r4 r (Nat.le_refl r) (by omega); omega
    · by_cases c' : F m < r
      · have := (h.2 (F m) (by omega) m (by omega)).1 (r3 (F m) c'); omega
      · omega
  subst e
  have hf : thresh_Find.f k t (m : Int) = some ((F m : Nat) : Int) := by
    unfold thresh_Find.f
    rw [r1, Option.bind_some]
  by_cases c : F m = t.length
  · refine ⟨_, t ++ [(m : Int)], hf, ?_, ?_, ?_⟩
    · unfold thresh_put.f
      rw [if_pos (by omega), if_pos (by omega)]
    · rw [List.length_append, List.length_singleton, putF, if_neg (by omega)]
      have : F n = F m := by omega
      omega
    · intro i hi j hj
      rw [putF]
      rw [List.length_append, List.length_singleton] at hi
      rw [rd_app t _ i (by omega)]
      have hj1 : F j ≤ F n := hs.mono hj (Nat.le_refl n)
      by_cases ci : i = t.length
      · rw [if_pos ci]
        by_cases cj : j ≤ m
        · rw [if_pos cj]
          have : F j ≤ F m := hs.mono cj (by omega)
          constructor <;> intro _ <;> omega
        · rw [if_neg cj]
          constructor <;> intro _ <;> omega
      · rw [if_neg ci, h.2 i (by omega) j hj]
        by_cases cj : j ≤ m
        · rw [if_pos cj]
        · rw [if_neg cj]
          have : F m ≤ F j := hs.mono (by omega) hj
          constructor <;> intro _ <;> omega
  · refine ⟨_, t.set (F m) (m : Int), hf, ?_, ?_, ?_⟩
    · unfold thresh_put.f
      rw [if_neg (by omega), if_pos (by omega), if_pos (by omega), Int.toNat_natCast]
    · rw [List.length_set, putF, if_neg (by omega)]
      omega
    · intro i hi j hj
      rw [putF]
      rw [List.length_set] at hi
      rw [rd_set t _ i _ hi]
      by_cases ci : i = F m
      · rw [if_pos ci]
        by_cases cj : j ≤ m
        · rw [if_pos cj]
          have : F j ≤ F m := hs.mono cj (by omega)
          constructor <;> intro _ <;> omega
        · rw [if_neg cj]
          constructor <;> intro _ <;> omega
      · rw [if_neg ci, h.2 i (by omega) j hj]
        by_cases cj : j ≤ m
        · rw [if_pos cj]
        · rw [if_neg cj]
          have : F m ≤ F j := hs.mono (by omega) hj
          constructor <;> intro _ <;> omega
/-- The count when the places of x from m on have been put. -/
def rowF (F : Nat → Nat) (b : List Int) (x : Int) (m : Nat) : Nat → Nat
  | 0 => 0
  | j + 1 => if m ≤ j ∧ rd b (j : Int) = x then F j + 1 else max (F (j + 1)) (rowF F b x m j)
theorem rowF_near {n : Nat} {F : Nat → Nat} (hs : Stair n F) (b : List Int) (x : Int) (m j : Nat) (hj : j ≤ n) : F j ≤ rowF F b x m j ∧ rowF F b x m j ≤ F j + 1 := by
  induction j with
  | zero => rw [rowF, hs.1]; omega
  | succ j ih =>
    have := ih (by omega)
    have := hs.2 j (by omega)
    rw [rowF]; split <;> omega
theorem rowF_stair {n : Nat} {F : Nat → Nat} (hs : Stair n F) (b : List Int) (x : Int) (m : Nat) : Stair n (rowF F b x m) := by
  refine ⟨by rw [rowF], fun j hj => ?_⟩
  have := rowF_near hs b x m j (by omega)
  have := hs.2 j hj
  rw [rowF]; split <;> omega
theorem rowF_below {n : Nat} {F : Nat → Nat} (hs : Stair n F) (b : List Int) (x : Int) (m j : Nat) (hj : j ≤ n) (hm : j ≤ m) : rowF F b x m j = F j := by
  induction j with
  | zero => rw [rowF, hs.1]
  | succ j ih =>
    have := hs.2 j (by omega)
    rw [rowF, if_neg (by omega), ih (by omega) (by omega)]; omega
theorem rowF_skip (F : Nat → Nat) (b : List Int) (x : Int) (m j : Nat) (h : rd b (m : Int) ≠ x) : rowF F b x m j = rowF F b x (m + 1) j := by
  induction j with
  | zero => rw [rowF, rowF]
  | succ j ih =>
    rw [rowF, rowF, ih]
    by_cases c : m ≤ j ∧ rd b (j : Int) = x
    · have hne : j ≠ m := fun e => h (e ▸ c.2)
      rw [if_pos c, if_pos ⟨by omega, c.2⟩]
    · rw [if_neg c, if_neg (fun q => c ⟨by omega, q.2⟩)]
theorem rowF_put {n : Nat} {F : Nat → Nat} (hs : Stair n F) (b : List Int) (x : Int) (m j : Nat) (hm : m < n) (hj : j ≤ n) (h : rd b (m : Int) = x) : rowF F b x m j = putF (rowF F b x (m + 1)) m j := by
  unfold putF
  rw [rowF_below hs b x (m + 1) m (by omega) (by omega)]
  induction j with
  | zero => rw [if_pos (by omega), rowF, rowF]
  | succ j ih =>
    have hi := ih (by omega)
    have hst := hs.2 m hm
    by_cases c0 : j + 1 ≤ m
    · rw [if_pos c0, rowF_below hs b x m (j + 1) hj c0, rowF_below hs b x (m + 1) (j + 1) hj (by omega)]
    · rw [if_neg c0]
      by_cases c1 : j = m
      · subst c1
        rw [rowF, if_pos ⟨by omega, h⟩, rowF_below hs b x (j + 1) (j + 1) hj (by omega)]; omega
      · rw [if_neg (by omega)] at hi
        have hle : F m ≤ F j := hs.mono (by omega) (by omega)
        rw [rowF, rowF]
        by_cases c2 : rd b (j : Int) = x
        · rw [if_pos ⟨by omega, c2⟩, if_pos ⟨by omega, c2⟩]; omega
        · rw [if_neg (fun q => c2 q.2), if_neg (fun q => c2 q.2), hi]; omega
theorem Cnt.congr {t : List Int} {n : Nat} {F G : Nat → Nat} (h : Cnt t n F) (e : ∀ j : Nat, j ≤ n → G j = F j) : Cnt t n G :=
  ⟨by rw [e n (Nat.le_refl n)]; exact h.1, fun i hi j hj => by rw [e j hj]; exact h.2 i hi j hj⟩
theorem go_snoc (k : Nat) (js : List Int) (j : Int) : ∀ r : List Int, thresh_Row.go k r (js ++ [j]) = (thresh_Row.go k r js).bind fun q => thresh_Row.go k q [j] := by
  induction js with
  | nil => intro r; rw [List.nil_append, show thresh_Row.go k r [] = some r from rfl, Option.bind_some]
  | cons a js ih =>
    intro r
    rw [List.cons_append, thresh_Row.go, thresh_Row.go]
    cases h1 : thresh_Find.f k r a with
    | none => rfl
    | some i =>
      rw [Option.bind_some, Option.bind_some]
      cases h2 : thresh_put.f r a i with
      | none => rfl
      | some q => rw [Option.bind_some, Option.bind_some]; exact ih q
theorem go_places {F : Nat → Nat} (b : List Int) (x : Int) (hb : b.length ≤ 100000) (hs : Stair b.length F) (t : List Int) (ht : Cnt t b.length F) {k : Nat} (hk : b.length < k) (d : Nat) : ∀ m : Nat, m + d = b.length →
    ∃ q, thresh_Row.go k t (pos x (b.drop m) m).reverse = some q ∧ Cnt q b.length (rowF F b x m) := by
  induction d with
  | zero =>
    intro m hm
    rw [List.drop_eq_nil_of_le (by omega)]
    exact ⟨t, rfl, ht.congr fun j hj => rowF_below hs b x m j hj (by omega)⟩
  | succ d ih =>
    intro m hm
    obtain ⟨q, q1, q2⟩ := ih (m + 1) (by omega)
    rw [drop_rd b (show m < b.length by omega), pos]
    by_cases c : rd b (m : Int) = x
    · rw [if_pos c, List.reverse_cons, go_snoc, q1, Option.bind_some]
      have hst := rowF_stair hs b x (m + 1)
      have hq := q2.1
      have htop := hst.top
      obtain ⟨i, u, u1, u2, u3⟩ := q2.put hst hb (show m < b.length by omega) (k := k) (by omega)
      rw [thresh_Row.go, u1, Option.bind_some, u2, Option.bind_some]
      exact ⟨u, rfl, u3.congr fun j hj => rowF_put hs b x m j (by omega) hj c⟩
    · rw [if_neg c]
      exact ⟨q, q1, q2.congr fun j hj => rowF_skip F b x m j c⟩
/-- How long a list both hold, the second one up to j. -/
def Lf (a b : List Int) (j : Nat) : Nat := L a (b.take j)
theorem Lf_stair (a b : List Int) : Stair b.length (Lf a b) := by
  refine ⟨by unfold Lf; rw [List.take_zero, L_nil_right], fun j hj => ?_⟩
  unfold Lf
  refine ⟨L_mono (List.Sublist.refl a) ?_, ?_⟩
  · rw [take_rd b hj]; exact List.sublist_append_left _ _
  · rw [take_rd b hj, ← L_rev a (b.take j ++ [_]), ← L_rev a (b.take j), List.reverse_append]
    exact L_cons_le' _ _ _
theorem rowF_L (a b : List Int) (x : Int) (j : Nat) (hj : j ≤ b.length) : rowF (Lf a b) b x 0 j = Lf (a ++ [x]) b j := by
  induction j with
  | zero => unfold rowF Lf; rw [List.take_zero, L_nil_right]
  | succ j ih =>
    have hi := ih (by omega)
    rw [rowF, hi]
    unfold Lf
    rw [take_rd b (show j < b.length by omega)]
    by_cases c : rd b (j : Int) = x
    · rw [if_pos ⟨by omega, c⟩, c, L_snoc_eq]
    · rw [if_neg (fun q => c q.2), L_snoc_ne (fun e => c e.symm)]
theorem row_goes (a b : List Int) (x : Int) (hb : b.length ≤ 100000) (t : List Int) (ht : Cnt t b.length (Lf a b)) {k : Nat} (hk : b.length < k) : ∃ q, thresh_Row.f k t (pos x b 0) = some q ∧ Cnt q b.length (Lf (a ++ [x]) b) := by
  have h0 := ht.1
  have h1 := (Lf_stair a b).top
  have h2 := pos_length x b 0
  obtain ⟨q, q1, q2⟩ := go_places b x hb (Lf_stair a b) t ht hk b.length 0 (by omega)
  rw [List.drop_zero] at q1
  refine ⟨q, ?_, q2.congr fun j hj => (rowF_L a b x j hj).symm⟩
  unfold thresh_Row.f slices_Clone_int_int.f
  rw [if_pos ⟨by omega, by omega⟩, if_pos (by omega), Option.bind_some, q1]
theorem refThresholds_l0 (a b : List Int) (ha : a.length ≤ 100000) (hb : b.length ≤ 100000) (d : Nat) : ∀ (k i : Nat) (out : List Int), i + d = b.length → d < k → Cnt out i (Lf a b) → ∃ q, tattingref15_Thresholds.l0 k b (rowOf a b) out (i : Int) = some q ∧ Cnt q b.length (Lf a b) := by
  have hl := rowOf_length a b
  have hs := Lf_stair a b
  induction d with
  | zero =>
    intro k i out hi hk ho
    obtain ⟨k, rfl⟩ := round hk
    refine ⟨out, ?_, ?_⟩
    · simp only [tattingref15_Thresholds.l0]
      rw [if_neg (by omega)]
    · rw [show b.length = i by omega]; exact ho
  | succ d ih =>
    intro k i out hi hk ho
    obtain ⟨k, rfl⟩ := round hk
    have hst := hs.2 i (by omega)
    have ho1 := ho.1
    have htop := hs.top
    have hF : Lf a b i ≤ Lf a b b.length := hs.mono (by omega) (Nat.le_refl _)
    simp only [tattingref15_Thresholds.l0]
    rw [if_pos (by omega), wrap_succ (by omega), if_pos (by omega), if_pos (by omega), if_pos (by omega), if_pos (by omega), rd_rowOf a b i (by omega), rd_rowOf a b (i + 1) (by omega)]
    change ∃ q, (if ((Lf a b (i + 1) : Nat) : Int) > ((Lf a b i : Nat) : Int) then _ else _) = some q ∧ _
    by_cases c : Lf a b (i + 1) > Lf a b i
    · rw [if_pos (by omega), if_pos (by omega)]
      refine ih k (i + 1) _ (by omega) (by omega) ⟨by rw [List.length_append, List.length_singleton]; omega, ?_⟩
      intro z hz j hj
      rw [List.length_append, List.length_singleton] at hz
      rw [rd_app out _ z (by omega)]
      by_cases cz : z = out.length
      · rw [if_pos cz]
        by_cases cj : j = i + 1
        · rw [cj]; constructor <;> intro _ <;> omega
        · have : Lf a b j ≤ Lf a b i := hs.mono (by omega) (by omega)
          constructor <;> intro _ <;> omega
      · rw [if_neg cz]
        by_cases cj : j = i + 1
        · have := (ho.2 z (by omega) i (by omega)).2 (by omega)
          rw [cj]; constructor <;> intro _ <;> omega
        · exact ho.2 z (by omega) j (by omega)
    · rw [if_neg (by omega)]
      refine ih k (i + 1) _ (by omega) (by omega) ⟨by omega, ?_⟩
      intro z hz j hj
      by_cases cj : j = i + 1
      · have := (ho.2 z (by omega) i (by omega)).2 (by omega)
        rw [cj]; constructor <;> intro _ <;> omega
      · exact ho.2 z (by omega) j (by omega)
theorem refThresholds (a b : List Int) (ha : a.length ≤ 100000) (hb : b.length ≤ 100000) {k : Nat} (hk : (2 * b.length + 4) * (a.length + 1) + 1 ≤ k) : ∃ q, tattingref15_Thresholds.f k a b = some q ∧ Cnt q b.length (Lf a b) := by
  have h3 : 2 * b.length + 4 ≤ (2 * b.length + 4) * (a.length + 1) := by
    have := Nat.mul_le_mul (Nat.le_refl (2 * b.length + 4)) (show 1 ≤ a.length + 1 by omega); omega
  unfold tattingref15_Thresholds.f
  rw [refFront a b ha hb hk, Option.bind_some]
  exact refThresholds_l0 a b ha hb b.length k 0 [] (by omega) (by omega) ⟨by rw [(Lf_stair a b).1]; rfl, fun i hi => by simp at hi⟩

theorem plc_pos (s : Int) : ∀ (l : List Int) (i : Nat), Plc.pos s l i = pos s l i
  | [], _ => rfl
  | x :: xs, i => by rw [Plc.pos, pos, plc_pos s xs (i + 1)]
theorem wf_range (n : Int) (h1 : n ≤ 1000000) (l : List Int) (h : ∀ x ∈ l, 0 ≤ x ∧ x < n) : ∀ x ∈ l, (Lit.int .i64 x).wf = true := by
  intro x hx
  have := h x hx
  simp only [Lit.wf, IntKind.min, IntKind.max, IntKind.signed, IntKind.bits, Bool.and_eq_true, decide_eq_true_eq]
  simp
  omega

theorem awake : tattinglaw16_awake.f 60 = some true := by decide +kernel
theorem go_all (b : List Int) (hb : b.length ≤ 100000) {k : Nat} (hk : b.length < k) : ∀ (xs a t : List Int), Cnt t b.length (Lf a b) → ∃ q, hunt_Thresholds.go k b t xs = some q ∧ Cnt q b.length (Lf (a ++ xs) b)
  | [], a, t, h => ⟨t, rfl, by rw [List.append_nil]; exact h⟩
  | x :: xs, a, t, h => by
    obtain ⟨q, q1, q2⟩ := row_goes a b x hb t h hk
    obtain ⟨r, r1, r2⟩ := go_all b hb hk xs (a ++ [x]) q q2
    refine ⟨r, ?_, by rw [List.append_assoc, List.singleton_append] at r2; exact r2⟩
    rw [hunt_Thresholds.go, plc_pos, q1, Option.bind_some, r1]
theorem cnt_nil (b : List Int) : Cnt [] b.length (Lf [] b) := by
  refine ⟨?_, fun i hi => by simp at hi⟩
  unfold Lf
  cases b <;> simp [L]
theorem least (x y t : List Int) (hx : x.length ≤ 40) (hy : y.length ≤ 40) (ht : Cnt t y.length (Lf x y)) (d : Nat) : ∀ (k i : Nat), i + d = t.length → 10000 + d < k → tattinglaw16_HuntThresholds.l0 k x y t (i : Int) = some true := by
  have hs := Lf_stair x y
  have htop := hs.top
  have hl := ht.1
  have hq : ∀ n : Nat, n ≤ 40 → (2 * n + 4) * (x.length + 1) + 1 ≤ 10000 := by
    intro n hn
    have := Nat.mul_le_mul (show 2 * n + 4 ≤ 84 by omega) (show x.length + 1 ≤ 41 by omega)
    omega
  induction d with
  | zero =>
    intro k i hi hk
    obtain ⟨k, rfl⟩ := round hk
    simp only [tattinglaw16_HuntThresholds.l0]
    rw [if_neg (by omega)]
  | succ d ih =>
    intro k i hi hk
    obtain ⟨k, rfl⟩ := round hk
    obtain ⟨v, hv, hvn, f1, f2⟩ := ht.val hs (show i < t.length by omega)
    have l1 : (y.take (v + 1)).length = v + 1 := by rw [List.length_take]; omega
    have l2 : (y.take v).length = v := by rw [List.length_take]; omega
    have g1 : L x (y.take (v + 1)) = i + 1 := f2
    have g2 : L x (y.take v) = i := f1
    simp only [tattinglaw16_HuntThresholds.l0]
    have k1 := hq (v + 1) (by omega)
    have k2 := hq v (by omega)
    rw [if_pos (by omega), if_pos (by omega), hv, wrap_succ (n := v) (by omega), wrap_succ (n := i) (by omega), if_pos (by omega), if_pos (by omega), Int.toNat_natCast, refLen x (y.take (v + 1)) (by omega) (by omega) (by rw [l1]; omega), Option.bind_some, g1, if_pos rfl, if_pos (by omega), if_pos (by omega), Int.toNat_natCast, refLen x (y.take v) (by omega) (by omega) (by rw [l2]; omega), Option.bind_some, g2, if_pos rfl]
    exact ih k (i + 1) (by omega) (by omega)
theorem HuntThresholds : tattinglaw16_HuntThresholds.Pure := by
  intro a b _ _ _ _ _ _
  refine ⟨20000, ?_⟩
  unfold tattinglaw16_HuntThresholds.f
  rw [at_rounds tattinglaw16_awake.mono (by decide) awake, Option.bind_some, if_pos rfl]
  have skip : tattinglaw16_HuntThresholds.j0 20000 a b true = some true := by simp [tattinglaw16_HuntThresholds.j0]
  by_cases h1 : (a.length : Int) > 40
  · rw [if_pos h1]; exact skip
  rw [if_neg h1]
  by_cases h2 : (b.length : Int) > 40
  · rw [decide_eq_true h2]; exact skip
  rw [decide_eq_false h2]
  clear skip
  simp only [tattinglaw16_HuntThresholds.j0]
  have lx : (fewOf a 4).length ≤ 40 := by rw [fewOf_length]; omega
  have ly : (fewOf b 4).length ≤ 40 := by rw [fewOf_length]; omega
  have rx := fewOf_range a 4 (by decide)
  have ry := fewOf_range b 4 (by decide)
  rw [if_neg (by decide), few a 4 (by decide) (by decide) (by omega) (by omega), Option.bind_some, few b 4 (by decide) (by decide) (by omega) (by omega), Option.bind_some]
  generalize fewOf a 4 = x at *
  generalize fewOf b 4 = y at *
  have hk : (2 * y.length + 4) * (x.length + 1) + 1 ≤ 19999 := by
    have := Nat.mul_le_mul (show 2 * y.length + 4 ≤ 84 by omega) (show x.length + 1 ≤ 41 by omega)
    omega
  obtain ⟨q, q1, q2⟩ := go_all y (by omega) (k := 19999) (by omega) x [] [] (cnt_nil y)
  rw [List.nil_append] at q2
  obtain ⟨u, u1, u2⟩ := refThresholds x y (by omega) (by omega) hk
  obtain rfl := q2.one (Lf_stair _ _) u2
  have hc := q2.1
  have hc' := (Lf_stair x y).top
  have e : hunt_Thresholds.f 19999 x y = some q := by
    unfold hunt_Thresholds.f
    rw [if_pos ⟨by omega, by omega, List.all_eq_true.mpr (wf_range 4 (by decide) x rx), List.all_eq_true.mpr (wf_range 4 (by decide) y ry)⟩, q1]
  rw [e, Option.bind_some, u1, Option.bind_some, sameInts q q (by omega) (by omega), Option.bind_some, decide_eq_true rfl, if_pos rfl]
  exact least x y q lx ly q2 q.length 19999 0 (by omega) (by omega)

end Go.Proofs.Ytkhplimibgjmoaa.Pure
