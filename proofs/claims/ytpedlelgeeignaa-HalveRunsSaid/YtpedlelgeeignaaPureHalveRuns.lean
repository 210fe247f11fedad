/- For every two lists of at most 40 numbers: the list that the halves make, and the steps, are the reference's. -/
import Derived.Test.YtpedlelgeeignaaPHalveRunsx9
import Derived.Test.YtpedlelgeeignaaWSized
namespace Go.Proofs.Ytpedlelgeeignaa.PrintWords
set_option linter.defProp false in
/-- The printed row names this lemma without the seat-wide namespace. -/
def sized_ints := @Go.Proofs.YtpedlelgeeignaaW.PrintWords.sized_ints
end Go.Proofs.Ytpedlelgeeignaa.PrintWords
namespace Go.Proofs.Ytpedlelgeeignaa.Pure
open Go.RowKit Go.Proofs.Ytpedlelgeeignaa.PHalveRuns Go.Proofs.YtpedlelgeeignaaW.PrintWords Go.Proofs.YtpedlelgeeignaaW.PrintLast Go.Proofs.YtpedlelgeeignaaW.PrintMore
set_option linter.unusedVariables false
set_option linter.unusedSimpArgs false

theorem wrap_id {i : Int} (h0 : -9223372036854775808 ≤ i) (h1 : i < 9223372036854775808) : wrap64 i = i := by unfold wrap64; omega
theorem wrap_succ {n : Nat} (h : n < 9223372036854775807) : wrap64 ((n : Int) + 1) = ((n + 1 : Nat) : Int) := by unfold wrap64; omega

theorem rd_at (l : List Int) {n : Nat} (h : n < l.length) : rd l (n : Int) = l[n] := by
  unfold rd; rw [Int.toNat_natCast, List.getD_eq_getElem?_getD, List.getElem?_eq_getElem h]; rfl
theorem rd_d (l : List Int) (n : Nat) : rd l (n : Int) = l.getD n 0 := rfl
theorem rd_out (l : List Int) {n : Nat} (h : l.length ≤ n) : rd l (n : Int) = 0 := by
  rw [rd_d, List.getD_eq_getElem?_getD, List.getElem?_eq_none h]; rfl
theorem drop_rd (l : List Int) {n : Nat} (h : n < l.length) : l.drop n = rd l (n : Int) :: l.drop (n + 1) := by
  rw [rd_at l h]; exact List.drop_eq_getElem_cons h
theorem take_rd (l : List Int) {n : Nat} (h : n < l.length) : l.take (n + 1) = l.take n ++ [rd l (n : Int)] := by
  rw [rd_at l h, List.take_succ_eq_append_getElem h]
theorem rd_mem (l : List Int) {n : Nat} (h : n < l.length) : rd l (n : Int) ∈ l := by rw [rd_at l h]; exact List.getElem_mem h
theorem rd_app_lt (l : List Int) (x : Int) {n : Nat} (h : n < l.length) : rd (l ++ [x]) (n : Int) = rd l (n : Int) := by
  rw [rd_at _ (by rw [List.length_append]; omega), rd_at _ h, List.getElem_append_left h]
theorem rd_app_eq (l : List Int) (x : Int) : rd (l ++ [x]) (l.length : Int) = x := by
  rw [rd_at _ (by rw [List.length_append, List.length_singleton]; omega)]; simp
theorem rd_app (l : List Int) (x : Int) (n : Nat) (h : n ≤ l.length) : rd (l ++ [x]) (n : Int) = if n = l.length then x else rd l (n : Int) := by
  by_cases e : n = l.length
  · rw [if_pos e, e, rd_app_eq]
  · rw [if_neg e, rd_app_lt _ _ (by omega)]
theorem rd_set (l : List Int) (i n : Nat) (x : Int) (h : n < l.length) : rd (l.set i x) (n : Int) = if n = i then x else rd l (n : Int) := by
  rw [rd_at _ (by rw [List.length_set]; exact h), rd_at _ h, List.getElem_set]
  by_cases e : n = i
  · rw [if_pos e, if_pos e.symm]
  · rw [if_neg e, if_neg (fun q => e q.symm)]
theorem rd_replicate (m n : Nat) (x : Int) (h : n < m) : rd (List.replicate m x) (n : Int) = x := by
  rw [rd_at _ (by rw [List.length_replicate]; exact h), List.getElem_replicate]
theorem rd_take (l : List Int) {m n : Nat} (h : n < m) (hm : m ≤ l.length) : rd (l.take m) (n : Int) = rd l (n : Int) := by
  rw [rd_at _ (by rw [List.length_take]; omega), rd_at _ (by omega), List.getElem_take]
theorem rd_drop (l : List Int) (m n : Nat) : rd (l.drop m) (n : Int) = rd l ((m + n : Nat) : Int) := by
  rw [rd_d, rd_d, List.getD_eq_getElem?_getD, List.getD_eq_getElem?_getD, List.getElem?_drop]
theorem list_ext {l m : List Int} (h : l.length = m.length) (k : ∀ n : Nat, n < l.length → rd l (n : Int) = rd m (n : Int)) : l = m := by
  apply List.ext_getElem h
  intro i h1 h2
  have := k i h1
  rwa [rd_at _ h1, rd_at _ h2] at this
theorem wf64 {a : Int} (h : (Lit.int .i64 a).wf = true) : -9223372036854775808 ≤ a ∧ a ≤ 9223372036854775807 := by
  simp only [Lit.wf, IntKind.min, IntKind.max, IntKind.signed, IntKind.bits, Bool.and_eq_true, decide_eq_true_eq, if_true] at h
  omega
/-- At least one round. -/
theorem round {k d : Nat} (h : d < k) : ∃ m, k = m + 1 := ⟨k - 1, by omega⟩

/-- The longest common subsequence's length. -/
def L : List Int → List Int → Nat
  | [], _ => 0
  | _ :: _, [] => 0
  | x :: xs, y :: ys => if x = y then L xs ys + 1 else max (L xs (y :: ys)) (L (x :: xs) ys)
termination_by a b => a.length + b.length

theorem L_nil_left (b : List Int) : L [] b = 0 := by rw [L]
theorem L_nil_right (a : List Int) : L a [] = 0 := by cases a <;> rw [L]
theorem L_cons_eq (x : Int) (xs ys : List Int) : L (x :: xs) (x :: ys) = L xs ys + 1 := by rw [L, if_pos rfl]
theorem L_cons_ne {x y : Int} (h : x ≠ y) (xs ys : List Int) : L (x :: xs) (y :: ys) = max (L xs (y :: ys)) (L (x :: xs) ys) := by rw [L, if_neg h]

theorem L_ub (a b : List Int) : ∀ s : List Int, s.Sublist a → s.Sublist b → s.length ≤ L a b := by
  induction a, b using L.induct with
  | case1 b => intro s h _; rw [List.sublist_nil.mp h]; simp
  | case2 x xs => intro s _ h; rw [List.sublist_nil.mp h]; simp
  | case3 xs y ys ih =>
    intro s h1 h2
    rw [L_cons_eq]
    have h3 := ih s.tail (by simpa using h1.tail) (by simpa using h2.tail)
    have h4 : s.length ≤ s.tail.length + 1 := by rw [List.length_tail]; omega
    omega
  | case4 x xs y ys hne ih1 ih2 =>
    intro s h1 h2
    rw [L_cons_ne hne]
    rcases List.sublist_cons_iff.mp h1 with h | ⟨r, rfl, hr⟩
    · have := ih1 s h h2; omega
    · rcases List.sublist_cons_iff.mp h2 with h | ⟨r', he, hr'⟩
      · have := ih2 _ h1 h; omega
      · injection he with he1 he2; exact absurd he1 hne

theorem L_has (a b : List Int) : ∃ s : List Int, s.Sublist a ∧ s.Sublist b ∧ s.length = L a b := by
  induction a, b using L.induct with
  | case1 b => exact ⟨[], by simp, by simp, by rw [L_nil_left]; rfl⟩
  | case2 x xs => exact ⟨[], by simp, by simp, by rw [L_nil_right]; rfl⟩
  | case3 xs y ys ih =>
    obtain ⟨s, h1, h2, h3⟩ := ih
    exact ⟨y :: s, h1.cons_cons y, h2.cons_cons y, by rw [L_cons_eq]; simp [h3]⟩
  | case4 x xs y ys hne ih1 ih2 =>
    obtain ⟨s, h1, h2, h3⟩ := ih1
    obtain ⟨t, k1, k2, k3⟩ := ih2
    rw [L_cons_ne hne]
    by_cases h : L (x :: xs) ys ≤ L xs (y :: ys)
    · exact ⟨s, h1.cons x, h2, by omega⟩
    · exact ⟨t, k1, k2.cons y, by omega⟩

theorem L_le_of (a b c d : List Int) (h : ∀ s : List Int, s.Sublist a → s.Sublist b → ∃ t : List Int, t.length = s.length ∧ t.Sublist c ∧ t.Sublist d) : L a b ≤ L c d := by
  obtain ⟨s, h1, h2, h3⟩ := L_has a b
  obtain ⟨t, k1, k2, k3⟩ := h s h1 h2
  have := L_ub c d t k2 k3
  omega

theorem L_mono {a b c d : List Int} (h : a.Sublist c) (k : b.Sublist d) : L a b ≤ L c d :=
  L_le_of _ _ _ _ fun s h1 h2 => ⟨s, rfl, h1.trans h, h2.trans k⟩

theorem L_comm (a b : List Int) : L a b = L b a :=
  Nat.le_antisymm (L_le_of _ _ _ _ fun s h k => ⟨s, rfl, k, h⟩) (L_le_of _ _ _ _ fun s h k => ⟨s, rfl, k, h⟩)

theorem L_rev_le (a b : List Int) : L a b ≤ L a.reverse b.reverse :=
  L_le_of _ _ _ _ fun s h k => ⟨s.reverse, by simp, h.reverse, k.reverse⟩

theorem L_rev (a b : List Int) : L a.reverse b.reverse = L a b :=
  Nat.le_antisymm (by simpa using L_rev_le a.reverse b.reverse) (L_rev_le a b)

theorem L_le_left (a b : List Int) : L a b ≤ a.length := by
  obtain ⟨s, h1, _, h3⟩ := L_has a b
  have := h1.length_le; omega

theorem L_le_right (a b : List Int) : L a b ≤ b.length := by rw [L_comm]; exact L_le_left b a

/-- One element more makes it at most one longer. -/
theorem L_cons_le (x : Int) (a b : List Int) : L (x :: a) b ≤ L a b + 1 := by
  obtain ⟨s, h1, h2, h3⟩ := L_has (x :: a) b
  have h := L_ub a b s.tail (by simpa using h1.tail) ((List.tail_sublist s).trans h2)
  rw [List.length_tail] at h
  omega

theorem L_cons_le' (y : Int) (a b : List Int) : L a (y :: b) ≤ L a b + 1 := by
  rw [L_comm a, L_comm a]; exact L_cons_le y b a

theorem L_le_cons (x : Int) (a b : List Int) : L a b ≤ L (x :: a) b := L_mono (List.sublist_cons_self x a) (List.Sublist.refl b)
theorem L_le_cons' (y : Int) (a b : List Int) : L a b ≤ L a (y :: b) := L_mono (List.Sublist.refl a) (List.sublist_cons_self y b)

/-- The same, from the end. -/
theorem L_snoc_eq (x : Int) (a b : List Int) : L (a ++ [x]) (b ++ [x]) = L a b + 1 := by
  rw [← L_rev]; simp only [List.reverse_append, List.reverse_cons, List.reverse_nil, List.nil_append, List.singleton_append]; rw [L_cons_eq, L_rev]

theorem L_snoc_ne {x y : Int} (h : x ≠ y) (a b : List Int) : L (a ++ [x]) (b ++ [y]) = max (L a (b ++ [y])) (L (a ++ [x]) b) := by
  have e1 : L a (b ++ [y]) = L a.reverse (y :: b.reverse) := by rw [← L_rev]; simp
  have e2 : L (a ++ [x]) b = L (x :: a.reverse) b.reverse := by rw [← L_rev]; simp
  rw [← L_rev, e1, e2]; simp only [List.reverse_append, List.reverse_cons, List.reverse_nil, List.nil_append, List.singleton_append]; rw [L_cons_ne h]

theorem L_prefix (p a b : List Int) : L (p ++ a) (p ++ b) = p.length + L a b := by
  induction p with
  | nil => simp
  | cons x p ih => rw [List.cons_append, List.cons_append, L_cons_eq, ih, List.length_cons]; omega

theorem L_suffix (s a b : List Int) : L (a ++ s) (b ++ s) = L a b + s.length := by
  rw [← L_rev, List.reverse_append, List.reverse_append, L_prefix, L_rev, List.length_reverse]; omega

theorem L_append_ge (a1 a2 b1 b2 : List Int) : L a1 b1 + L a2 b2 ≤ L (a1 ++ a2) (b1 ++ b2) := by
  obtain ⟨s, h1, h2, h3⟩ := L_has a1 b1
  obtain ⟨t, k1, k2, k3⟩ := L_has a2 b2
  have := L_ub (a1 ++ a2) (b1 ++ b2) (s ++ t) (h1.append k1) (h2.append k2)
  rw [List.length_append] at this
  omega

/-- Where the first list is cut, the second one can be cut too. -/
theorem L_split (a1 a2 b : List Int) : ∃ j, j ≤ b.length ∧ L (a1 ++ a2) b = L a1 (b.take j) + L a2 (b.drop j) := by
  obtain ⟨s, h1, h2, h3⟩ := L_has (a1 ++ a2) b
  obtain ⟨s1, s2, rfl, k1, k2⟩ := List.sublist_append_iff.mp h1
  obtain ⟨b1, b2, rfl, m1, m2⟩ := List.append_sublist_iff.mp h2
  refine ⟨b1.length, by simp, ?_⟩
  have e1 : (b1 ++ b2).take b1.length = b1 := List.take_left' rfl
  have e2 : (b1 ++ b2).drop b1.length = b2 := List.drop_left' rfl
  rw [e1, e2]
  have u1 := L_ub a1 b1 s1 k1 m1
  have u2 := L_ub a2 b2 s2 k2 m2
  have u3 := L_append_ge a1 a2 b1 b2
  rw [List.length_append] at h3
  omega

theorem L_split_le (a1 a2 b : List Int) (j : Nat) : L a1 (b.take j) + L a2 (b.drop j) ≤ L (a1 ++ a2) b := by
  have h := L_append_ge a1 a2 (b.take j) (b.drop j)
  rwa [List.take_append_drop] at h

theorem rdL_d (o : List (List Int)) (n : Nat) : rd_L3 o (n : Int) = o.getD n [] := rfl
theorem rdL_at (o : List (List Int)) {n : Nat} (h : n < o.length) : rd_L3 o (n : Int) = o[n] := by
  rw [rdL_d, List.getD_eq_getElem?_getD, List.getElem?_eq_getElem h]; rfl
theorem rdL_set (o : List (List Int)) (i n : Nat) (v : List Int) (h : n < o.length) : rd_L3 (o.set i v) (n : Int) = if n = i then v else rd_L3 o (n : Int) := by
  rw [rdL_at _ (by rw [List.length_set]; exact h), rdL_at _ h, List.getElem_set]
  by_cases e : n = i
  · rw [if_pos e, if_pos e.symm]
  · rw [if_neg e, if_neg (fun q => e q.symm)]

/-- The rows from i on of the table of all ends. -/
def TabFrom (t : List (List Int)) (a b : List Int) (i : Nat) : Prop :=
  t.length = a.length + 1 ∧ ∀ n : Nat, i ≤ n → n ≤ a.length → (rd_L3 t (n : Int)).length = b.length + 1 ∧ ∀ j : Nat, j ≤ b.length → rd (rd_L3 t (n : Int)) (j : Int) = (L (a.drop n) (b.drop j) : Int)
/-- The table of all ends. -/
def IsTab (t : List (List Int)) (a b : List Int) : Prop := TabFrom t a b 0
/-- Row i from column m on. -/
def RowFrom (t : List (List Int)) (a b : List Int) (i m : Nat) : Prop :=
  TabFrom t a b (i + 1) ∧ (rd_L3 t (i : Int)).length = b.length + 1 ∧ ∀ j : Nat, m ≤ j → j ≤ b.length → rd (rd_L3 t (i : Int)) (j : Int) = (L (a.drop i) (b.drop j) : Int)
theorem mx_nat (x y : Nat) : mx (x : Int) (y : Int) = ((max x y : Nat) : Int) := by unfold mx; split <;> omega
theorem L_le_len (a b : List Int) (i j : Nat) : L (a.drop i) (b.drop j) ≤ a.length := by
  have := L_le_left (a.drop i) (b.drop j); rw [List.length_drop] at this; omega
theorem behind_l1 (a b : List Int) (ha : a.length ≤ 100000) (hb : b.length ≤ 100000) (i : Nat) (hi : i < a.length) (K : Nat) (Post : Option (List (List Int)) → Prop)
    (hr : ∀ k' t', K ≤ k' → TabFrom t' a b i → Post (tattingref7_Behind.l0 k' a b t' (wrap64 ((i : Int) - 1)))) (m : Nat) : ∀ (k : Nat) (t : List (List Int)), m ≤ b.length → 2 * m + 2 + K ≤ k → RowFrom t a b i m → Post (tattingref7_Behind.l1 k a b t (i : Int) ((m : Int) - 1)) := by
  induction m with
  | zero =>
    intro k t hm hk ⟨h1, h2, h3⟩
    obtain ⟨k, rfl⟩ : ∃ q, k = q + 2 := ⟨k - 2, by omega⟩
    simp only [tattingref7_Behind.l1]
    rw [if_pos (by omega), decide_eq_false (by omega)]
    simp only [tattingref7_Behind.j2]
    rw [if_neg (by decide)]
    refine hr k t (by omega) ⟨h1.1, ?_⟩
    intro n hn hn'
    by_cases e : n = i
    · rw [e]; exact ⟨h2, fun j hj => h3 j (by omega) hj⟩
    · exact h1.2 n (by omega) hn'
  | succ m ih =>
    intro k t hm hk ⟨h1, h2, h3⟩
    obtain ⟨k, rfl⟩ : ∃ q, k = q + 2 := ⟨k - 2, by omega⟩
    have e0 : ((m + 1 : Nat) : Int) - 1 = (m : Int) := by omega
    rw [e0]
    simp only [tattingref7_Behind.l1]
    rw [if_pos (by omega), decide_eq_true (by omega)]
    simp only [tattingref7_Behind.j2]
    have hlen := h1.1
    have hrow := (h1.2 (i + 1) (by omega) (by omega)).1
    have E1 := Aside0.mk (show wrap64 ((i : Int) + 1) = ((i + 1 : Nat) : Int) from wrap_succ (by omega))
    have E2 := Aside0.mk (show wrap64 ((m : Int) + 1) = ((m + 1 : Nat) : Int) from wrap_succ (by omega))
    have E3 := Aside0.mk (show wrap64 ((m : Int) - 1) = (m : Int) - 1 from wrap_id (by omega) (by omega))
    have r1 := (h1.2 (i + 1) (by omega) (by omega)).2 (m + 1) (by omega)
    have r2 := (h1.2 (i + 1) (by omega) (by omega)).2 m (by omega)
    have r3 := h3 (m + 1) (by omega) (by omega)
    have b1 := L_le_len a b (i + 1) (m + 1)
    have hn : ∀ v : Int, v = (L (a.drop i) (b.drop m) : Int) → RowFrom (t.set i ((rd_L3 t (i : Int)).set m v)) a b i m := by
      intro v hv
      refine ⟨⟨by rw [List.length_set]; exact hlen, ?_⟩, ?_, ?_⟩
      · intro n hn hn'
        rw [rdL_set _ _ _ _ (by omega), if_neg (by omega)]
        exact h1.2 n hn hn'
      · rw [rdL_set _ _ _ _ (by omega), if_pos rfl, List.length_set]; exact h2
      · intro j hj hj'
        rw [rdL_set _ _ _ _ (by omega), if_pos rfl, rd_set _ _ _ _ (by omega)]
        by_cases e : j = m
        · rw [if_pos e, hv, e]
        · rw [if_neg e]; exact h3 j (by omega) hj'
    rw [if_pos True.intro, if_pos (by omega), if_pos (by omega), if_pos (by omega), if_pos (by omega)]
    simp only [E1.out, E2.out, E3.out, Int.toNat_natCast]
    have da := drop_rd a hi
    have db := drop_rd b (show m < b.length by omega)
    by_cases e : rd a (i : Int) = rd b (m : Int)
    · rw [if_pos e, if_pos (by omega), if_pos (by omega), if_pos (by omega), if_pos (by omega), if_pos (by omega), if_pos (by omega)]
      refine ih k _ (by omega) (by omega) (hn _ ?_)
      rw [r1, wrap_id (by omega) (by omega), da, db, e, L_cons_eq]; omega
    · rw [if_neg e, if_pos (by omega), if_pos (by omega), if_pos (by omega), if_pos (by omega), if_pos (by omega), if_pos (by omega), if_pos (by omega)]
      refine ih k _ (by omega) (by omega) (hn _ ?_)
      rw [r2, r3, mx_nat, da, db, L_cons_ne e]
theorem behind_l0 (a b : List Int) (ha : a.length ≤ 100000) (hb : b.length ≤ 100000) (m : Nat) : ∀ (k : Nat) (t : List (List Int)), m ≤ a.length + 1 → (2 * b.length + 4) * m + 1 ≤ k → TabFrom t a b m → ∃ t', tattingref7_Behind.l0 k a b t ((m : Int) - 1) = some t' ∧ IsTab t' a b := by
  induction m with
  | zero =>
    intro k t hm hk h
    obtain ⟨k, rfl⟩ : ∃ q, k = q + 1 := ⟨k - 1, by omega⟩
    refine ⟨t, ?_, h⟩
    simp only [tattingref7_Behind.l0]
    rw [if_neg (by omega)]
  | succ m ih =>
    intro k t hm hk h
    rw [Nat.mul_succ] at hk
    obtain ⟨k, rfl⟩ : ∃ q, k = q + 1 := ⟨k - 1, by omega⟩
    rw [show ((m + 1 : Nat) : Int) - 1 = (m : Int) by omega]
    simp only [tattingref7_Behind.l0]
    have hlen := h.1
    have E1 := Aside0.mk (show wrap64 ((b.length : Int) + 1) = ((b.length + 1 : Nat) : Int) from wrap_succ (by omega))
    have E2 := Aside0.mk (show wrap64 ((b.length : Int) - 1) = (b.length : Int) - 1 from wrap_id (by omega) (by omega))
    have E3 := Aside0.mk (show wrap64 ((m : Int) - 1) = (m : Int) - 1 from wrap_id (by omega) (by omega))
    rw [E1.out, E2.out, if_pos (by omega), if_pos (by omega), if_pos (by omega), if_pos (by omega), if_pos (by omega)]
    simp only [Int.toNat_natCast]
    have hrow : RowFrom (t.set m (List.replicate (b.length + 1) 0)) a b m b.length := by
      refine ⟨⟨by rw [List.length_set]; exact hlen, ?_⟩, ?_, ?_⟩
      · intro n hn hn'
        rw [rdL_set _ _ _ _ (by omega), if_neg (by omega)]
        exact h.2 n hn hn'
      · rw [rdL_set _ _ _ _ (by omega), if_pos rfl, List.length_replicate]
      · intro j hj hj'
        rw [rdL_set _ _ _ _ (by omega), if_pos rfl, rd_replicate _ _ _ (by omega), show j = b.length by omega, List.drop_length, L_nil_right]; rfl
    by_cases c : m < a.length
    · refine behind_l1 a b ha hb m c ((2 * b.length + 4) * m + 1) (fun o => ∃ t', o = some t' ∧ IsTab t' a b) ?_ b.length k _ (Nat.le_refl _) (by omega) hrow
      intro k' t' hk' ht'
      rw [E3.out]
      exact ih k' t' (by omega) hk' ht'
    · obtain ⟨k, rfl⟩ : ∃ q, k = q + 2 := ⟨k - 2, by omega⟩
      simp only [tattingref7_Behind.l1]
      rw [if_neg (by omega)]
      simp only [tattingref7_Behind.j2]
      rw [if_neg (by decide), E3.out]
      refine ih k _ (by omega) (by omega) ⟨by rw [List.length_set]; exact hlen, ?_⟩
      intro n hn hn'
      have e : n = m := by omega
      rw [rdL_set _ _ _ _ (by omega), if_pos e]
      refine ⟨by rw [List.length_replicate], fun j hj => ?_⟩
      rw [rd_replicate _ _ _ (by omega), List.drop_eq_nil_of_le (by omega), L_nil_left]; rfl
theorem behind (a b : List Int) (ha : a.length ≤ 100000) (hb : b.length ≤ 100000) {k : Nat} (hk : (2 * b.length + 4) * (a.length + 1) + 1 ≤ k) : ∃ t, tattingref7_Behind.f k a b = some t ∧ IsTab t a b := by
  unfold tattingref7_Behind.f
  have e1 : wrap64 ((a.length : Int) + 1) = ((a.length + 1 : Nat) : Int) := wrap_succ (by omega)
  rw [e1, if_pos (by omega), if_pos (by omega)]
  simp only [Int.toNat_natCast]
  have h := behind_l0 a b ha hb (a.length + 1) k (List.replicate (a.length + 1) []) (Nat.le_refl _) hk ⟨by rw [List.length_replicate], fun n hn hn' => by omega⟩
  rw [show ((a.length + 1 : Nat) : Int) - 1 = (a.length : Int) by omega] at h
  exact h

/-- A list of so many numbers, each told by its place. -/
def tabulate (n : Nat) (f : Nat → Int) : List Int := (List.range n).map f
theorem tabulate_length (n : Nat) (f : Nat → Int) : (tabulate n f).length = n := by unfold tabulate; rw [List.length_map, List.length_range]
theorem rd_tabulate (n : Nat) (f : Nat → Int) (j : Nat) (h : j < n) : rd (tabulate n f) (j : Int) = f j := by
  rw [rd_at _ (by rw [tabulate_length]; exact h)]; unfold tabulate; rw [List.getElem_map, List.getElem_range]
theorem eq_tabulate (l : List Int) (n : Nat) (f : Nat → Int) (hl : l.length = n) (h : ∀ j, j < n → rd l (j : Int) = f j) : l = tabulate n f := by
  apply list_ext (by rw [hl, tabulate_length])
  intro j hj; rw [rd_tabulate _ _ _ (by omega), h j (by omega)]

/-- Number j of the next row. -/
def nxt (row : List Int) (sym : Int) (b : List Int) : Nat → Int
  | 0 => rd row ((0 : Nat) : Int)
  | j + 1 => if rd b (j : Int) = sym then wrap64 (rd row (j : Int) + 1) else mx (rd row ((j + 1 : Nat) : Int)) (nxt row sym b j)
/-- The row of a list. -/
def rowOf (a b : List Int) : List Int := tabulate (b.length + 1) fun j => (L a (b.take j) : Int)
theorem rowOf_length (a b : List Int) : (rowOf a b).length = b.length + 1 := tabulate_length _ _
theorem rd_rowOf (a b : List Int) (j : Nat) (h : j ≤ b.length) : rd (rowOf a b) (j : Int) = (L a (b.take j) : Int) := rd_tabulate _ _ _ (by omega)
theorem mx_nat' (x y : Nat) : mx (x : Int) (y : Int) = ((max x y : Nat) : Int) := by unfold mx; split <;> omega
theorem nxt_rowOf (a b : List Int) (x : Int) (ha : a.length ≤ 1000000) (j : Nat) (hj : j ≤ b.length) : nxt (rowOf a b) x b j = (L (a ++ [x]) (b.take j) : Int) := by
  induction j with
  | zero => rw [nxt, rd_rowOf _ _ _ (by omega), List.take_zero, L_nil_right, L_nil_right]
  | succ j ih =>
    have ih := ih (by omega)
    rw [nxt, ih, rd_rowOf _ _ _ (by omega), rd_rowOf _ _ _ (by omega), take_rd b (show j < b.length by omega)]
    have hl := L_le_left a (b.take j)
    by_cases e : rd b (j : Int) = x
    · rw [if_pos e, wrap_id (by omega) (by omega), e, L_snoc_eq]; omega
    · rw [if_neg e, mx_nat', L_snoc_ne (fun q => e q.symm)]
theorem next_rowOf (a b : List Int) (x : Int) (ha : a.length ≤ 1000000) : tabulate (b.length + 1) (nxt (rowOf a b) x b) = rowOf (a ++ [x]) b := by
  refine eq_tabulate _ _ _ (tabulate_length _ _) ?_
  intro j hj
  rw [rd_tabulate _ _ _ hj, nxt_rowOf a b x ha j (by omega)]
theorem rowOf_nil (b : List Int) : rowOf [] b = List.replicate (b.length + 1) 0 := by
  refine (eq_tabulate _ _ _ (by rw [List.length_replicate]) ?_).symm
  intro j hj; rw [rd_replicate _ _ _ hj, L_nil_left]; rfl

theorem rowsNext_l0 (row : List Int) (sym : Int) (b : List Int) (hr : row.length = b.length + 1) (hb : b.length ≤ 1000000) (d : Nat) : ∀ (k i : Nat) (t : List Int), i + d = b.length → d < k → t.length = b.length + 1 → (∀ j, j ≤ i → rd t (j : Int) = nxt row sym b j) →
    rows_Next.l0 k row sym t b (b.length : Int) (i : Int) = some (tabulate (b.length + 1) (nxt row sym b)) := by
  induction d with
  | zero =>
    intro k i t hi hk ht h
    obtain ⟨k, rfl⟩ := round hk
    simp only [rows_Next.l0]
    rw [if_neg (by omega)]
    exact congrArg some (eq_tabulate t _ _ ht (fun j hj => h j (by omega)))
  | succ d ih =>
    intro k i t hi hk ht h
    obtain ⟨k, rfl⟩ := round hk
    simp only [rows_Next.l0]
    have E1 := Aside0.mk (show wrap64 ((i : Int) + 1) = ((i + 1 : Nat) : Int) from wrap_succ (by omega))
    rw [E1.out, if_pos (by omega), if_pos (by omega), if_pos (by omega)]
    simp only [Int.toNat_natCast]
    have go : ∀ v, v = nxt row sym b (i + 1) → rows_Next.l0 k row sym (t.set (i + 1) v) b (b.length : Int) ((i + 1 : Nat) : Int) = some (tabulate (b.length + 1) (nxt row sym b)) := by
      intro v hv
      refine ih k (i + 1) _ (by omega) (by omega) (by rw [List.length_set]; exact ht) ?_
      intro j hj
      rw [rd_set _ _ _ _ (by omega)]
      by_cases e : j = i + 1
      · rw [if_pos e, hv, e]
      · rw [if_neg e]; exact h j (by omega)
    by_cases e : rd b (i : Int) = sym
    · rw [if_pos e, if_pos (by omega), if_pos (by omega), if_pos (by omega)]
      exact go _ (by rw [nxt, if_pos e])
    · rw [if_neg e, if_pos (by omega), if_pos (by omega), if_pos (by omega), if_pos (by omega)]
      exact go _ (by rw [nxt, if_neg e, h i (Nat.le_refl _)])
theorem rowsNext (row : List Int) (sym : Int) (b : List Int) (hr : row.length = b.length + 1) (hb : b.length ≤ 1000000) {k : Nat} (hk : b.length < k) : rows_Next.f k row sym b = some (tabulate (b.length + 1) (nxt row sym b)) := by
  unfold rows_Next.f
  rw [wrap_succ (by omega), if_pos (by omega), if_pos (by omega), if_pos (by omega), Option.bind_some, if_pos (by omega), if_pos (by rw [List.length_replicate]; omega)]
  refine rowsNext_l0 row sym b hr hb b.length k 0 _ (by omega) hk (by rw [List.length_set, List.length_replicate]; omega) ?_
  intro j hj
  rw [show j = 0 by omega]
  exact rd_set (List.replicate row.length 0) 0 0 (rd row 0) (by rw [List.length_replicate]; omega)
theorem rowsNext_not (row : List Int) (sym : Int) (b : List Int) (hr : row.length ≠ b.length + 1) (hb : b.length ≤ 1000000) (k : Nat) : rows_Next.f k row sym b = some [] := by
  unfold rows_Next.f
  rw [wrap_succ (by omega), if_neg (by omega)]

theorem rowsFront_l0 (a b : List Int) (ha : a.length ≤ 1000000) (hb : b.length ≤ 1000000) (d : Nat) : ∀ (k i : Nat), i + d = a.length → d + b.length + 1 < k → rows_Front.l0 k b (rowOf (a.take i) b) a (a.length : Int) (i : Int) = some (rowOf a b) := by
  induction d with
  | zero =>
    intro k i hi hk
    obtain ⟨k, rfl⟩ := round hk
    simp only [rows_Front.l0]
    rw [if_neg (by omega), List.take_of_length_le (by omega)]
  | succ d ih =>
    intro k i hi hk
    obtain ⟨k, rfl⟩ := round hk
    simp only [rows_Front.l0]
    have h := rowsNext (rowOf (a.take i) b) (rd a (i : Int)) b (rowOf_length _ _) hb (k := k) (by omega)
    rw [next_rowOf _ _ _ (by rw [List.length_take]; omega), ← take_rd a (show i < a.length by omega)] at h
    rw [if_pos (by omega), if_pos (by omega), if_pos (by omega), h, Option.bind_some, wrap_succ (by omega)]
    exact ih k (i + 1) (by omega) (by omega)
theorem rowsFront (a b : List Int) (ha : a.length ≤ 1000000) (hb : b.length ≤ 1000000) {k : Nat} (hk : a.length + b.length + 1 < k) : rows_Front.f k a b = some (rowOf a b) := by
  unfold rows_Front.f
  rw [wrap_succ (by omega), if_pos (by omega), if_pos (by omega), Int.toNat_natCast, ← rowOf_nil]
  have h := rowsFront_l0 a b ha hb a.length k 0 (by omega) hk
  rw [List.take_zero] at h; exact h

theorem reverse_l0 (l : List Int) (hl : l.length ≤ 1000000) (d : Nat) : ∀ (k i : Nat) (y : List Int), l.length ≤ 2 * i + d → d < k → i ≤ l.length → y.length = l.length → (∀ t, t < l.length → rd y (t : Int) = if t < i ∨ l.length ≤ t + i then rd l ((l.length - 1 - t : Nat) : Int) else rd l (t : Int)) →
    slices_Reverse_int_int.l0 k y (i : Int) ((l.length : Int) - 1 - i) = some l.reverse := by
  have fin : ∀ (y : List Int) (i : Nat), y.length = l.length → l.length ≤ 2 * i + 1 → i ≤ l.length → (∀ t, t < l.length → rd y (t : Int) = if t < i ∨ l.length ≤ t + i then rd l ((l.length - 1 - t : Nat) : Int) else rd l (t : Int)) → y = l.reverse := by
    intro y i hy hi hi' h
    apply list_ext (by rw [hy, List.length_reverse])
    intro t ht
    have hr : rd l.reverse (t : Int) = rd l ((l.length - 1 - t : Nat) : Int) := by
      rw [rd_at _ (by rw [List.length_reverse]; omega), rd_at _ (by omega), List.getElem_reverse]
    rw [hr, h t (by omega)]
    by_cases c : t < i ∨ l.length ≤ t + i
    · rw [if_pos c]
    · rw [if_neg c, show l.length - 1 - t = t by omega]
  induction d with
  | zero =>
    intro k i y hi hk hi' hy h
    obtain ⟨k, rfl⟩ := round hk
    simp only [slices_Reverse_int_int.l0]
    rw [if_neg (by omega), fin y i hy (by omega) hi' h]
  | succ d ih =>
    intro k i y hi hk hi' hy h
    obtain ⟨k, rfl⟩ := round hk
    simp only [slices_Reverse_int_int.l0]
    by_cases c : 2 * i + 1 < l.length
    · have ej : (l.length : Int) - 1 - i = ((l.length - 1 - i : Nat) : Int) := by omega
      have E1 := Aside0.mk (show wrap64 ((i : Int) + 1) = ((i + 1 : Nat) : Int) from wrap_succ (by omega))
      have E2 := Aside0.mk (show wrap64 (((l.length - 1 - i : Nat) : Int) - 1) = (l.length : Int) - 1 - ((i + 1 : Nat) : Int) from by rw [wrap_id (by omega) (by omega)]; omega)
      rw [ej, if_pos (by omega), if_pos (by omega), if_pos (by omega), if_pos (by omega), if_pos (by omega), E1.out, E2.out]
      simp only [Int.toNat_natCast]
      refine ih k (i + 1) _ (by omega) (by omega) (by omega) (by rw [List.length_set, List.length_set]; exact hy) ?_
      intro t ht
      rw [rd_set _ _ _ _ (by rw [List.length_set]; omega), rd_set _ _ _ _ (by omega), h (l.length - 1 - i) (by omega), h i (by omega), h t ht]
      by_cases c1 : t = l.length - 1 - i
      · rw [if_pos c1, if_neg (by omega), if_pos (by omega), c1, show l.length - 1 - (l.length - 1 - i) = i by omega]
      · rw [if_neg c1]
        by_cases c2 : t = i
        · rw [if_pos c2, if_neg (by omega), if_pos (by omega), c2]
        · rw [if_neg c2]
          by_cases c3 : t < i ∨ l.length ≤ t + i
          · rw [if_pos c3, if_pos (by omega)]
          · rw [if_neg c3, if_neg (by omega)]
    · rw [if_neg (by omega), fin y i hy (by omega) hi' h]
theorem reverse (l : List Int) (hl : l.length ≤ 1000000) {k : Nat} (hk : l.length < k) : slices_Reverse_int_int.f k l = some l.reverse := by
  unfold slices_Reverse_int_int.f
  rw [wrap_id (by omega) (by omega)]
  have h := reverse_l0 l hl l.length k 0 l (by omega) hk (by omega) rfl (fun t ht => by rw [if_neg (by omega)])
  rw [show (l.length : Int) - 1 - ((0 : Nat) : Int) = (l.length : Int) - 1 by omega] at h
  exact h
theorem cloneI (l : List Int) (h : l.length ≤ 1000000) : slices_Clone_int_int.f l = some l := by unfold slices_Clone_int_int.f; rw [if_pos (by omega)]

theorem rowsTurned (l : List Int) (hl : l.length ≤ 1000000) {k : Nat} (hk : l.length < k) : rows_turned.f k l = some l.reverse := by
  unfold rows_turned.f
  rw [cloneI l hl, Option.bind_some, reverse l hl hk, Option.bind_some]
/-- The row from behind. -/
def backOf (a b : List Int) : List Int := tabulate (b.length + 1) fun j => (L a (b.drop j) : Int)
theorem backOf_length (a b : List Int) : (backOf a b).length = b.length + 1 := tabulate_length _ _
theorem rd_backOf (a b : List Int) (j : Nat) (h : j ≤ b.length) : rd (backOf a b) (j : Int) = (L a (b.drop j) : Int) := rd_tabulate _ _ _ (by omega)
theorem rowOf_rev (a b : List Int) : (rowOf a.reverse b.reverse).reverse = backOf a b := by
  refine eq_tabulate _ _ _ (by rw [List.length_reverse, rowOf_length, List.length_reverse]) ?_
  intro j hj
  rw [rd_at _ (by rw [List.length_reverse, rowOf_length, List.length_reverse]; omega), List.getElem_reverse]
  have e : (rowOf a.reverse b.reverse).length - 1 - j = b.length - j := by rw [rowOf_length, List.length_reverse]; omega
  have h := rd_rowOf a.reverse b.reverse (b.length - j) (by rw [List.length_reverse]; omega)
  rw [rd_at _ (by rw [rowOf_length, List.length_reverse]; omega)] at h
  simp only [e]
  rw [h, List.take_reverse, L_rev, show b.length - (b.length - j) = j by omega]
theorem rowsBack (a b : List Int) (ha : a.length ≤ 100000) (hb : b.length ≤ 100000) {k : Nat} (hk : a.length + b.length + 2 < k) : rows_Back.f k a b = some (backOf a b) := by
  unfold rows_Back.f
  rw [rowsTurned a (by omega) (by omega), Option.bind_some, rowsTurned b (by omega) (by omega), Option.bind_some, rowsFront _ _ (by rw [List.length_reverse]; omega) (by rw [List.length_reverse]; omega) (by rw [List.length_reverse, List.length_reverse]; omega), Option.bind_some, rowsTurned _ (by rw [rowOf_length, List.length_reverse]; omega) (by rw [rowOf_length, List.length_reverse]; omega), Option.bind_some, rowOf_rev]

/-- Both rows together at a place. -/
def both (f g : List Int) (j : Nat) : Int := rd f (j : Int) + rd g (j : Int)
/-- The first place where both together are most. -/
def FirstMost (f g : List Int) (n j : Nat) : Prop := j < n ∧ (∀ t, t < n → both f g t ≤ both f g j) ∧ (∀ t, t < j → both f g t < both f g j)
theorem split_l0 (f g : List Int) (hg : g.length = f.length) (hf : f.length ≤ 1000000) (hb : ∀ j : Nat, j < f.length → -1000000000 ≤ both f g j ∧ both f g j ≤ 1000000000) (d : Nat) : ∀ (k i j : Nat), i + d = f.length → d < k → FirstMost f g i j →
    ∃ j' : Nat, rows_Split.l0 k f g (j : Int) (both f g j) (f.length : Int) (i : Int) = some ((j' : Int), both f g j') ∧ FirstMost f g f.length j' := by
  induction d with
  | zero =>
    intro k i j hi hk h
    obtain ⟨k, rfl⟩ := round hk
    refine ⟨j, ?_, by rw [show f.length = i by omega]; exact h⟩
    simp only [rows_Split.l0]
    rw [if_neg (by omega)]
  | succ d ih =>
    intro k i j hi hk h
    obtain ⟨k, rfl⟩ := round hk
    simp only [rows_Split.l0]
    have hi0 := hb i (by omega)
    have hj := h.1
    have E := Aside0.mk (show wrap64 (rd f (i : Int) + rd g (i : Int)) = both f g i from wrap_id (by unfold both at hi0; omega) (by unfold both at hi0; omega))
    rw [if_pos (by omega), if_pos (by omega), if_pos (by omega), if_pos (by omega), if_neg (by omega), E.out, wrap_succ (by omega)]
    by_cases c : both f g i > both f g j
    · rw [if_pos c]
      refine ih k (i + 1) i (by omega) (by omega) ⟨by omega, ?_, ?_⟩
      · intro t ht
        by_cases e : t = i
        · rw [e]; omega
        · have := h.2.1 t (by omega); omega
      · intro t ht; have := h.2.1 t ht; omega
    · rw [if_neg c]
      refine ih k (i + 1) j (by omega) (by omega) ⟨by omega, ?_, h.2.2⟩
      intro t ht
      by_cases e : t = i
      · rw [e]; omega
      · exact h.2.1 t (by omega)
theorem split (f g : List Int) (hg : g.length = f.length) (h0 : 0 < f.length) (hf : f.length ≤ 1000000) (hb : ∀ j : Nat, j < f.length → -1000000000 ≤ both f g j ∧ both f g j ≤ 1000000000) {k : Nat} (hk : f.length + 1 < k) : ∃ j : Nat, rows_Split.f k f g = some ((j : Int), both f g j) ∧ FirstMost f g f.length j := by
  unfold rows_Split.f
  obtain ⟨k, rfl⟩ : ∃ m, k = m + 2 := ⟨k - 2, by omega⟩
  have e : (((f.length : Int) != (g.length : Int)) : Bool) = false := by simp; omega
  rw [if_neg (by omega), e]
  simp only [rows_Split.j0]
  rw [if_neg (by decide)]
  simp only [rows_Split.l0]
  have hi0 := hb 0 h0
  have E := Aside0.mk (show wrap64 (rd f 0 + rd g 0) = both f g 0 from wrap_id (by unfold both at hi0; exact Int.le_trans (by decide) hi0.1) (by unfold both at hi0; exact Int.lt_of_le_of_lt hi0.2 (by decide)))
  rw [if_pos (by omega), if_pos (by omega), if_pos (by omega), if_pos (by omega), if_pos True.intro, E.out]
  have E2 : wrap64 (0 + 1) = ((1 : Nat) : Int) := wrap_succ (n := 0) (by decide)
  rw [E2]
  exact split_l0 f g hg hf hb (f.length - 1) k 1 0 (by omega) (by omega) ⟨by omega, fun t ht => by rw [show t = 0 by omega]; exact Int.le_refl _, fun t ht => by omega⟩

theorem meet (x y : List Int) (n : Nat) (hn : n ≤ x.length) (hx : x.length ≤ 1000) (j : Nat) (h : FirstMost (rowOf (x.take n) y) (backOf (x.drop n) y) (rowOf (x.take n) y).length j) :
    j ≤ y.length ∧ both (rowOf (x.take n) y) (backOf (x.drop n) y) j = (L x y : Int) ∧ L (x.take n) (y.take j) + L (x.drop n) (y.drop j) = L x y := by
  have hl := rowOf_length (x.take n) y
  have b : ∀ t, t ≤ y.length → both (rowOf (x.take n) y) (backOf (x.drop n) y) t = ((L (x.take n) (y.take t) + L (x.drop n) (y.drop t) : Nat) : Int) := by
    intro t ht
    unfold both
    rw [rd_rowOf _ _ _ ht, rd_backOf _ _ _ ht]; omega
  obtain ⟨h1, h2, h3⟩ := h
  have hj : j ≤ y.length := by omega
  obtain ⟨t, t1, t2⟩ := L_split (x.take n) (x.drop n) y
  rw [List.take_append_drop] at t2
  have u := L_split_le (x.take n) (x.drop n) y j
  rw [List.take_append_drop] at u
  have v := h2 t (by omega)
  rw [b t t1, b j hj] at v
  refine ⟨hj, ?_, by omega⟩
  rw [b j hj]; omega

/-- The first place of a number; the length where it has none. -/
def ix (s : Int) : List Int → Nat
  | [] => 0
  | z :: zs => if z = s then 0 else ix s zs + 1
theorem ix_le (s : Int) (y : List Int) : ix s y ≤ y.length := by
  induction y with
  | nil => exact Nat.le_refl _
  | cons z zs ih => rw [ix]; split <;> simp <;> omega
theorem ix_hit (s : Int) (y : List Int) (h : ix s y < y.length) : rd y (ix s y : Nat) = s := by
  induction y with
  | nil => simp at h
  | cons z zs ih =>
    rw [ix] at h ⊢
    by_cases e : z = s
    · rw [if_pos e]; exact e
    · rw [if_neg e] at h ⊢
      exact ih (by rw [List.length_cons] at h; omega)
/-- The first place where both rows together are most. -/
def most (f g : List Int) : Nat → Nat
  | 0 => 0
  | n + 1 => if both f g (most f g n) < both f g (n + 1) then n + 1 else most f g n
theorem most_first (f g : List Int) (n : Nat) : FirstMost f g (n + 1) (most f g n) := by
  induction n with
  | zero => exact ⟨by rw [most]; omega, fun t ht => by rw [show t = 0 by omega, most]; exact Int.le_refl _, fun t ht => by rw [most] at ht; omega⟩
  | succ n ih =>
    obtain ⟨h1, h2, h3⟩ := ih
    rw [most]
    by_cases c : both f g (most f g n) < both f g (n + 1)
    · rw [if_pos c]
      refine ⟨by omega, fun t ht => ?_, fun t ht => ?_⟩
      · by_cases e : t = n + 1
        · rw [e]; exact Int.le_refl _
        · have := h2 t (by omega); omega
      · have := h2 t (by omega); omega
    · rw [if_neg c]
      refine ⟨by omega, fun t ht => ?_, h3⟩
      by_cases e : t = n + 1
      · rw [e]; omega
      · exact h2 t (by omega)
theorem first_unique (f g : List Int) (n i j : Nat) (hi : FirstMost f g n i) (hj : FirstMost f g n j) : i = j := by
  obtain ⟨a1, a2, a3⟩ := hi
  obtain ⟨b1, b2, b3⟩ := hj
  by_cases c : i < j
  · have := b3 i c; have := a2 j b1; omega
  · by_cases d : j < i
    · have := a3 j d; have := b2 i a1; omega
    · omega
/-- Where the second list is cut. -/
def cutAt (x y : List Int) : Nat := most (rowOf (x.take (x.length / 2)) y) (backOf (x.drop (x.length / 2)) y) y.length
/-- A pair where the one number is found. -/
def hitOf (s : Int) (y : List Int) (i j : Nat) : List S28 := if ix s y < y.length then [⟨(i : Int), ((j + ix s y : Nat) : Int)⟩] else []
/-- By halves: the pairs of a part, and the steps. -/
def hv : Nat → List Int → List Int → Nat → Nat → List S28 × Nat
  | 0, _, _, _, _ => ([], 0)
  | d + 1, x, y, i, j => if x.length = 0 ∨ y.length = 0 then ([], 0) else if x.length = 1 then (hitOf (rd x 0) y i j, y.length)
    else ((hv d (x.take (x.length / 2)) (y.take (cutAt x y)) i j).1 ++ (hv d (x.drop (x.length / 2)) (y.drop (cutAt x y)) (i + x.length / 2) (j + cutAt x y)).1,
      x.length * y.length + (hv d (x.take (x.length / 2)) (y.take (cutAt x y)) i j).2 + (hv d (x.drop (x.length / 2)) (y.drop (cutAt x y)) (i + x.length / 2) (j + cutAt x y)).2)
theorem hv_none (d : Nat) (x y : List Int) (i j : Nat) (h : x.length = 0 ∨ y.length = 0) : hv d x y i j = ([], 0) := by
  cases d with
  | zero => rfl
  | succ d => rw [hv, if_pos h]
theorem hv_one (d : Nat) (x y : List Int) (i j : Nat) (hy : y.length ≠ 0) (h : x.length = 1) : hv (d + 1) x y i j = (hitOf (rd x 0) y i j, y.length) := by
  rw [hv, if_neg (by omega), if_pos h]
theorem hv_two (d : Nat) (x y : List Int) (i j : Nat) (hy : y.length ≠ 0) (h : 2 ≤ x.length) : hv (d + 1) x y i j = ((hv d (x.take (x.length / 2)) (y.take (cutAt x y)) i j).1 ++ (hv d (x.drop (x.length / 2)) (y.drop (cutAt x y)) (i + x.length / 2) (j + cutAt x y)).1,
      x.length * y.length + (hv d (x.take (x.length / 2)) (y.take (cutAt x y)) i j).2 + (hv d (x.drop (x.length / 2)) (y.drop (cutAt x y)) (i + x.length / 2) (j + cutAt x y)).2) := by
  rw [hv, if_neg (by omega), if_neg (by omega)]
theorem cutAt_first (x y : List Int) : FirstMost (rowOf (x.take (x.length / 2)) y) (backOf (x.drop (x.length / 2)) y) (rowOf (x.take (x.length / 2)) y).length (cutAt x y) := by
  rw [rowOf_length]; exact most_first _ _ _
theorem cutAt_le (x y : List Int) : cutAt x y ≤ y.length := by
  have := (cutAt_first x y).1; rw [rowOf_length] at this; omega
theorem hv_len (d : Nat) : ∀ (x y : List Int) (i j : Nat), (hv d x y i j).1.length ≤ x.length := by
  induction d with
  | zero => intro x y i j; exact Nat.zero_le _
  | succ d ih =>
    intro x y i j
    by_cases c : x.length = 0 ∨ y.length = 0
    · rw [hv_none _ _ _ _ _ c]; exact Nat.zero_le _
    · by_cases e : x.length = 1
      · rw [hv_one _ _ _ _ _ (by omega) e]
        unfold hitOf
        split <;> simp <;> omega
      · rw [hv_two _ _ _ _ _ (by omega) (by omega)]
        have h1 := ih (x.take (x.length / 2)) (y.take (cutAt x y)) i j
        have h2 := ih (x.drop (x.length / 2)) (y.drop (cutAt x y)) (i + x.length / 2) (j + cutAt x y)
        rw [List.length_take] at h1
        rw [List.length_drop] at h2
        rw [List.length_append]
        omega
/-- More rounds than numbers turn nothing. -/
theorem hv_fuel (d : Nat) : ∀ (e : Nat) (x y : List Int) (i j : Nat), x.length ≤ d → x.length ≤ e → hv d x y i j = hv e x y i j := by
  induction d with
  | zero => intro e x y i j hd _; rw [hv_none _ _ _ _ _ (Or.inl (by omega)), hv_none _ _ _ _ _ (Or.inl (by omega))]
  | succ d ih =>
    intro e x y i j hd he
    by_cases c : x.length = 0 ∨ y.length = 0
    · rw [hv_none _ _ _ _ _ c, hv_none _ _ _ _ _ c]
    · obtain ⟨e, rfl⟩ : ∃ m, e = m + 1 := ⟨e - 1, by omega⟩
      by_cases u : x.length = 1
      · rw [hv_one _ _ _ _ _ (by omega) u, hv_one _ _ _ _ _ (by omega) u]
      · rw [hv_two _ _ _ _ _ (by omega) (by omega), hv_two _ _ _ _ _ (by omega) (by omega), ih e _ _ _ _ (by rw [List.length_take]; omega) (by rw [List.length_take]; omega), ih e _ _ _ _ (by rw [List.length_drop]; omega) (by rw [List.length_drop]; omega)]
theorem both_bound (x y : List Int) (hx : x.length ≤ 1000) (h t : Nat) (ht : t ≤ y.length) : -1000000000 ≤ both (rowOf (x.take h) y) (backOf (x.drop h) y) t ∧ both (rowOf (x.take h) y) (backOf (x.drop h) y) t ≤ 1000000000 := by
  unfold both
  rw [rd_rowOf _ _ _ ht, rd_backOf _ _ _ ht]
  have := L_le_left (x.take h) (y.take t)
  have := L_le_left (x.drop h) (y.drop t)
  rw [List.length_take] at *
  rw [List.length_drop] at *
  omega
theorem index_l0 (y : List Int) (s : Int) (hy : y.length ≤ 1000000) (d : Nat) : ∀ (k n : Nat), n + d = y.length → d < k → slices_Index_int_int.l0 k y s (y.length : Int) (n : Int) = some (if ix s (y.drop n) < (y.drop n).length then ((n + ix s (y.drop n) : Nat) : Int) else -1) := by
  induction d with
  | zero =>
    intro k n hn hk
    obtain ⟨k, rfl⟩ := round hk
    simp only [slices_Index_int_int.l0]
    rw [if_neg (by omega), List.drop_eq_nil_of_le (by omega)]
    rfl
  | succ d ih =>
    intro k n hn hk
    obtain ⟨k, rfl⟩ := round hk
    simp only [slices_Index_int_int.l0]
    rw [if_pos (by omega), if_pos (by omega), if_pos (by omega), drop_rd y (show n < y.length by omega), ix, List.length_cons]
    by_cases e : rd y (n : Int) = s
    · rw [if_pos e.symm, if_pos e, if_pos (by omega)]; rfl
    · rw [if_neg (fun q => e q.symm), if_neg e, wrap_succ (by omega), ih k (n + 1) (by omega) (by omega)]
      by_cases q : ix s (y.drop (n + 1)) < (y.drop (n + 1)).length
      · rw [if_pos q, if_pos (by omega)]; congr 2; omega
      · rw [if_neg q, if_neg (by omega)]
theorem index (y : List Int) (s : Int) (hy : y.length ≤ 1000000) {k : Nat} (hk : y.length < k) : slices_Index_int_int.f k y s = some (if ix s y < y.length then ((ix s y : Nat) : Int) else -1) := by
  have h := index_l0 y s hy y.length k 0 (by omega) hk
  rw [List.drop_zero] at h
  unfold slices_Index_int_int.f
  rw [show (0 : Int) = ((0 : Nat) : Int) from rfl, h]
  simp

theorem wrap_add' (a b : Nat) (h : a + b ≤ 1000000000) : wrap64 ((a : Int) + (b : Int)) = ((a + b : Nat) : Int) := by rw [wrap_id (by omega) (by omega)]; omega
theorem wrap_mul' (a b : Nat) (h : a * b ≤ 1000000000) : wrap64 ((a : Int) * (b : Int)) = ((a * b : Nat) : Int) := by
  rw [← Int.natCast_mul]
  generalize a * b = c at *
  rw [wrap_id (by omega) (by omega)]
theorem wrap_half' (a : Nat) (h : a ≤ 1000000000) : wrap64 ((a : Int) / 2) = ((a / 2 : Nat) : Int) := by rw [wrap_id (by omega) (by omega)]; omega
theorem rdQ_last (S : List S38) (p : S38) : rd_T38 (S ++ [p]) (S.length : Int) = p := by
  show (S ++ [p]).getD S.length _ = p
  rw [List.getD_eq_getElem?_getD, List.getElem?_append_right (Nat.le_refl _), Nat.sub_self]; rfl
/-- One round over the part on top. -/
theorem run_round (a b : List Int) (i n j m : Nat) (hi : i + n ≤ a.length) (hj : j + m ≤ b.length) (S : List S38) (hS : S.length ≤ 1000000) (l : List S28) (st : Int) (k : Nat) (x y : List Int) (hx : x = (a.take (i + n)).drop i) (hy : y = (b.take (j + m)).drop j)
    (r : Option (List S28 × Int)) (h : halve_Run.j1 k a b l st S x y (decide (x.length = 0 ∨ y.length = 0)) i ((i + n : Nat) : Int) j ((j + m : Nat) : Int) = r) :
    halve_Run.l0 (k + 1) a b l st (S ++ [⟨i, ((i + n : Nat) : Int), j, ((j + m : Nat) : Int)⟩]) = r := by
  simp only [halve_Run.l0]
  have e0 : ((S ++ [(⟨i, ((i + n : Nat) : Int), j, ((j + m : Nat) : Int)⟩ : S38)]).length : Int) = (S.length : Int) + 1 := by rw [List.length_append, List.length_singleton]; omega
  have e1 : wrap64 ((S.length : Int) + 1 - 1) = (S.length : Int) := by rw [wrap_id (by omega) (by omega)]; omega
  have e2 := rdQ_last S (⟨i, ((i + n : Nat) : Int), j, ((j + m : Nat) : Int)⟩ : S38)
  have e3 : (S ++ [(⟨i, ((i + n : Nat) : Int), j, ((j + m : Nat) : Int)⟩ : S38)]).take (S.length : Int).toNat = S := by rw [Int.toNat_natCast, List.take_left]
  rw [e0, e1, e2, e3]
  clear e0 e1 e2 e3
  rw [if_pos (by omega), if_pos (by omega), if_pos (by omega), if_pos (by omega), Option.bind_some]
  dsimp only
  rw [if_pos (by omega), if_pos (by omega), if_pos (by omega), if_pos (by omega), if_pos (by omega), if_pos (by omega)]
  simp only [Int.toNat_natCast]
  rw [← hx, ← hy]
  by_cases c : x.length = 0
  · rw [if_pos (by omega)]; rw [decide_eq_true (Or.inl c)] at h; exact h
  · rw [if_neg (by omega)]
    by_cases q : y.length = 0
    · rw [decide_eq_true (Or.inr q)] at h
      rw [show (((y.length : Int) == 0) = true) from by simp only [beq_iff_eq]; omega]
      exact h
    · rw [decide_eq_false (by omega)] at h
      rw [show (((y.length : Int) == 0) = false) from by simp only [beq_eq_false_iff_ne, ne_eq]; omega]
      exact h
/-- What a part of n numbers, at these places, does with the stack. -/
def RunsPart (a b : List Int) (i n j m c : Nat) (v : List S28 × Nat) : Prop :=
  ∀ (k : Nat) (l : List S28) (st : Nat) (S : List S38), 10000 ≤ k → l.length + n ≤ 1000000 → st + v.2 ≤ 1000000 → S.length + n ≤ 1000000 →
      halve_Run.l0 (k + c) a b l st (S ++ [⟨i, ((i + n : Nat) : Int), j, ((j + m : Nat) : Int)⟩]) = halve_Run.l0 k a b (l ++ v.1) ((st + v.2 : Nat) : Int) S
theorem run_none (a b : List Int) (i n j m : Nat) (hi : i + n ≤ a.length) (hj : j + m ≤ b.length) (h : n = 0 ∨ m = 0) : RunsPart a b i n j m 2 ([], 0) := by
  intro k l st S hk hl hst hS
  refine run_round a b i n j m hi hj S (by omega) l st (k + 1) _ _ rfl rfl _ ?_
  rw [decide_eq_true (by rw [List.length_drop, List.length_take, List.length_drop, List.length_take]; omega)]
  simp only [halve_Run.j1]
  rw [if_pos True.intro, List.append_nil]; rfl
theorem run_one (a b : List Int) (hb : b.length ≤ 1000) (i j m : Nat) (hi : i + 1 ≤ a.length) (ha : a.length ≤ 1000) (hj : j + m ≤ b.length) (h : m ≠ 0) (x y : List Int) (hx : x = (a.take (i + 1)).drop i) (hy : y = (b.take (j + m)).drop j) : RunsPart a b i 1 j m 2 (hitOf (rd x 0) y i j, y.length) := by
  intro k l st S hk hl hst hS
  have lx : x.length = 1 := by rw [hx, List.length_drop, List.length_take]; omega
  have ly : y.length = m := by rw [hy, List.length_drop, List.length_take]; omega
  refine run_round a b i 1 j m hi hj S (by omega) l st (k + 1) x y hx hy _ ?_
  clear hx hy
  rw [decide_eq_false (by omega)]
  dsimp only at hst ⊢
  have hix := ix_le (rd x 0) y
  simp only [halve_Run.j1]
  rw [if_neg (by decide), if_pos (by omega), if_pos (by omega), index _ _ (by omega) (by omega), Option.bind_some]
  unfold hitOf
  rw [wrap_mul' _ _ (by rw [lx]; omega), lx, Nat.one_mul, wrap_add' _ _ (by omega)]
  by_cases q : ix (rd x 0) y < y.length
  · rw [if_pos q, if_pos (by omega), if_pos (by omega), if_pos q, wrap_add' _ _ (by omega)]
  · rw [if_neg q, if_neg (by omega), if_neg q, List.append_nil]
theorem run_two (a b x y : List Int) (i n j m h c k1 k2 : Nat) (hi : i + n ≤ a.length) (ha : a.length ≤ 1000) (hb : b.length ≤ 1000) (hj : j + m ≤ b.length) (hn : 2 ≤ n) (hm : m ≠ 0) (hh : h = n / 2) (hx : x = (a.take (i + n)).drop i) (hy : y = (b.take (j + m)).drop j) (hc : c = cutAt x y)
    (v1 v2 : List S28 × Nat) (hv1 : v1.1.length ≤ h) (p : RunsPart a b i h j c k1 v1) (q : RunsPart a b (i + h) (n - h) (j + c) (m - c) k2 v2) : RunsPart a b i n j m (2 + k1 + k2) (v1.1 ++ v2.1, n * m + v1.2 + v2.2) := by
  intro k l st S hk hl hst hS
  have lx : x.length = n := by rw [hx, List.length_drop, List.length_take]; omega
  have ly : y.length = m := by rw [hy, List.length_drop, List.length_take]; omega
  have hcl : c ≤ m := by rw [hc, ← ly]; exact cutAt_le x y
  have s3 := cutAt_first x y
  rw [lx, ← hh, ← hc] at s3
  dsimp only at hst ⊢
  obtain ⟨j0, s1, s2⟩ := split (rowOf (x.take h) y) (backOf (x.drop h) y) (by rw [backOf_length, rowOf_length]) (by rw [rowOf_length]; omega) (by rw [rowOf_length]; omega) (fun t ht => both_bound x y (by omega) h t (by rw [rowOf_length] at ht; omega)) (k := k + k2 + k1) (by rw [rowOf_length]; omega)
  have s4 := first_unique _ _ _ _ _ s2 s3
  subst s4
  clear s2 s3 hc
  rw [show k + (2 + k1 + k2) = (k + k2 + k1) + 1 + 1 by omega]
  refine run_round a b i n j m hi hj S (by omega) l st _ x y hx hy _ ?_
  clear hx hy
  rw [decide_eq_false (by omega)]
  have hP : x.length * y.length = n * m := by rw [lx, ly]
  obtain ⟨P, eP⟩ : ∃ P, P = n * m := ⟨_, rfl⟩
  rw [← eP] at hst hP ⊢
  have w0 := Aside0.mk (wrap_mul' x.length y.length (by omega))
  have w1 := Aside0.mk (wrap_add' i h (by omega))
  have w2 := Aside0.mk (wrap_add' j j0 (by omega))
  have w3 := Aside0.mk (wrap_add' st P (by omega))
  have w4 := Aside0.mk (wrap_half' x.length (by omega))
  have w5 := Aside0.mk (show x.length / 2 = h by omega)
  have hP' := Aside0.mk hP
  clear hP eP
  simp only [halve_Run.j1]
  rw [w4.out, w5.out, w0.out, hP'.out, w3.out, if_neg (by decide), if_neg (by omega), if_pos (by omega), if_pos (by omega), Int.toNat_natCast]
  rw [rowsFront _ _ (by rw [List.length_take]; omega) (by omega) (by rw [List.length_take]; omega), Option.bind_some, rowsBack _ _ (by rw [List.length_drop]; omega) (by omega) (by rw [List.length_drop]; omega), Option.bind_some, s1, Option.bind_some, Option.bind_some]
  dsimp only
  rw [w1.out, w2.out, if_pos (by simp; omega)]
  clear w0 w1 w2 w3 w4 w5 hP' s1
  have ea : S ++ [(⟨((i + h : Nat) : Int), ((i + n : Nat) : Int), ((j + j0 : Nat) : Int), ((j + m : Nat) : Int)⟩ : S38), ⟨(i : Int), ((i + h : Nat) : Int), (j : Int), ((j + j0 : Nat) : Int)⟩] = (S ++ [⟨((i + h : Nat) : Int), ((i + n : Nat) : Int), ((j + j0 : Nat) : Int), ((j + m : Nat) : Int)⟩]) ++ [⟨(i : Int), ((i + h : Nat) : Int), (j : Int), ((j + j0 : Nat) : Int)⟩] := by simp
  rw [ea, p (k + k2) l (st + P) _ (by omega) (by omega) (by omega) (by rw [List.length_append, List.length_singleton]; omega)]
  have q' := q k (l ++ v1.1) (st + P + v1.2) S hk (by rw [List.length_append]; omega) (by omega) (by omega)
  rw [show i + h + (n - h) = i + n by omega, show j + j0 + (m - j0) = j + m by omega] at q'
  rw [q', List.append_assoc, show st + P + v1.2 + v2.2 = st + (P + v1.2 + v2.2) by omega]
theorem run_part (a b : List Int) (ha : a.length ≤ 1000) (hb : b.length ≤ 1000) (d : Nat) : ∀ (i n j m : Nat), i + n ≤ a.length → j + m ≤ b.length → n ≤ d →
    ∃ c, c ≤ 4 * n + 2 ∧ (n = 0 ∨ c + 2 ≤ 4 * n) ∧ RunsPart a b i n j m c (hv d ((a.take (i + n)).drop i) ((b.take (j + m)).drop j) i j) := by
  induction d with
  | zero =>
    intro i n j m hi hj hd
    exact ⟨2, by omega, by omega, run_none a b i n j m hi hj (Or.inl (by omega))⟩
  | succ d ih =>
    intro i n j m hi hj hd
    obtain ⟨x, hx⟩ : ∃ x, x = (a.take (i + n)).drop i := ⟨_, rfl⟩
    obtain ⟨y, hy⟩ : ∃ y, y = (b.take (j + m)).drop j := ⟨_, rfl⟩
    have lx : x.length = n := by rw [hx, List.length_drop, List.length_take]; omega
    have ly : y.length = m := by rw [hy, List.length_drop, List.length_take]; omega
    rw [← hx, ← hy]
    by_cases c0 : n = 0 ∨ m = 0
    · refine ⟨2, by omega, by omega, ?_⟩
      rw [hv_none _ _ _ _ _ (by omega)]
      exact run_none a b i n j m hi hj c0
    by_cases c1 : n = 1
    · refine ⟨2, by omega, by omega, ?_⟩
      rw [hv_one _ _ _ _ _ (by omega) (by omega)]
      subst c1
      exact run_one a b hb i j m hi ha hj (by omega) x y hx hy
    · have htwo := hv_two d x y i j (by omega) (by omega)
      rw [lx] at htwo
      obtain ⟨h, hh⟩ : ∃ h, h = n / 2 := ⟨_, rfl⟩
      obtain ⟨c, hc⟩ : ∃ c, c = cutAt x y := ⟨_, rfl⟩
      have hcl : c ≤ m := by rw [hc, ← ly]; exact cutAt_le x y
      rw [← hh, ← hc, ly] at htwo
      have x1 : x.take h = (a.take (i + h)).drop i := by rw [hx, List.take_drop, List.take_take]; congr 2; omega
      have x2 : x.drop h = (a.take (i + h + (n - h))).drop (i + h) := by rw [hx, List.drop_drop, show i + h + (n - h) = i + n by omega]
      have y1 : y.take c = (b.take (j + c)).drop j := by rw [hy, List.take_drop, List.take_take]; congr 2; omega
      have y2 : y.drop c = (b.take (j + c + (m - c))).drop (j + c) := by rw [hy, List.drop_drop, show j + c + (m - c) = j + m by omega]
      obtain ⟨k1, p1, p2, p3⟩ := ih i h j c (by omega) (by omega) (by omega)
      obtain ⟨k2, q1, q2, q3⟩ := ih (i + h) (n - h) (j + c) (m - c) (by omega) (by omega) (by omega)
      rw [← x1, ← y1] at p3
      rw [← x2, ← y2] at q3
      have hl1 := hv_len d (x.take h) (y.take c) i j
      rw [List.length_take] at hl1
      rw [htwo]
      refine ⟨2 + k1 + k2, by omega, by omega, ?_⟩
      exact run_two a b x y i n j m h c k1 k2 hi ha hb hj (by omega) (by omega) hh hx hy hc _ _ (by omega) p3 q3
theorem halveRun (x y : List Int) (hx : x.length ≤ 1000) (hy : y.length ≤ 1000) (hs : (hv x.length x y 0 0).2 ≤ 1000000) {k : Nat} (hk : 10000 + (4 * x.length + 3) ≤ k) : halve_Run.f k x y = some ((hv x.length x y 0 0).1, ((hv x.length x y 0 0).2 : Int)) := by
  obtain ⟨c, h1, _, h2⟩ := run_part x y hx hy x.length 0 x.length 0 y.length (by omega) (by omega) (by omega)
  simp only [Nat.zero_add, List.take_length, List.drop_zero] at h2
  have h3 := h2 (k - c) [] 0 [] (by omega) (by simp; omega) (by omega) (by simp; omega)
  rw [show k - c + c = k by omega] at h3
  simp only [Nat.zero_add, List.nil_append] at h3
  unfold halve_Run.f
  refine Eq.trans h3 ?_
  obtain ⟨q, hq⟩ : ∃ q, k - c = q + 1 := ⟨k - c - 1, by omega⟩
  rw [hq]
  simp only [halve_Run.l0]
  rw [if_neg (by simp)]

/-- At most so many steps for each number of the second list. -/
def tOf (n : Nat) : Nat := 2 * n + Lib.bitLen (n - 1) - 1
theorem tOf_two : ∀ n : Fin 41, 2 ≤ n.val → n.val + tOf (n.val - n.val / 2) ≤ tOf n.val ∧ tOf (n.val / 2) ≤ tOf (n.val - n.val / 2) := by decide +kernel
theorem tOf_most : ∀ n : Fin 41, 1 ≤ n.val → tOf n.val ≤ 2 * n.val + Lib.bitLen n.val := by decide +kernel
theorem hv_least (d : Nat) (x y : List Int) (i j : Nat) (hd : x.length ≤ d) : x.length * y.length ≤ (hv d x y i j).2 := by
  by_cases c : x.length = 0 ∨ y.length = 0
  · rw [hv_none _ _ _ _ _ c]
    rcases c with c | c <;> rw [c] <;> simp
  · obtain ⟨d, rfl⟩ : ∃ m, d = m + 1 := ⟨d - 1, by omega⟩
    by_cases u : x.length = 1
    · rw [hv_one _ _ _ _ _ (by omega) u, u]; simp
    · rw [hv_two _ _ _ _ _ (by omega) (by omega)]
      dsimp only; omega
theorem hv_most (d : Nat) : ∀ (x y : List Int) (i j : Nat), x.length ≤ 40 → (hv d x y i j).2 ≤ y.length * tOf x.length := by
  induction d with
  | zero => intro x y i j _; exact Nat.zero_le _
  | succ d ih =>
    intro x y i j h
    by_cases c : x.length = 0 ∨ y.length = 0
    · rw [hv_none _ _ _ _ _ c]; exact Nat.zero_le _
    · by_cases u : x.length = 1
      · rw [hv_one _ _ _ _ _ (by omega) u, u]
        have : tOf 1 = 1 := by decide +kernel
        rw [this]; simp
      · rw [hv_two _ _ _ _ _ (by omega) (by omega)]
        dsimp only
        have h1 := ih (x.take (x.length / 2)) (y.take (cutAt x y)) i j (by rw [List.length_take]; omega)
        have h2 := ih (x.drop (x.length / 2)) (y.drop (cutAt x y)) (i + x.length / 2) (j + cutAt x y) (by rw [List.length_drop]; omega)
        have hc := cutAt_le x y
        rw [List.length_take, List.length_take, Nat.min_eq_left hc, Nat.min_eq_left (by omega)] at h1
        rw [List.length_drop, List.length_drop] at h2
        obtain ⟨t1, t2⟩ := tOf_two ⟨x.length, by omega⟩ (by show 2 ≤ x.length; omega)
        dsimp only at t1 t2
        have h3 := Nat.mul_le_mul (Nat.le_refl (cutAt x y)) t2
        have h4 := Nat.mul_le_mul (Nat.le_refl y.length) t1
        rw [Nat.mul_add, Nat.mul_comm y.length x.length] at h4
        have h5 : cutAt x y * tOf (x.length - x.length / 2) + (y.length - cutAt x y) * tOf (x.length - x.length / 2) = y.length * tOf (x.length - x.length / 2) := by
          rw [← Nat.add_mul]; congr 1; omega
        omega
theorem hv_small (x y : List Int) (hx : x.length ≤ 40) (hy : y.length ≤ 1000) : (hv x.length x y 0 0).2 ≤ 1000000 := by
  have h := hv_most x.length x y 0 0 hx
  have t : tOf x.length ≤ 1000 := by
    have : ∀ n : Fin 41, tOf n.val ≤ 1000 := by decide +kernel
    exact this ⟨x.length, by omega⟩
  have := Nat.mul_le_mul hy t
  omega

theorem refTurned_l0 (l : List Int) (hl : l.length ≤ 1000000) (m : Nat) : ∀ (k : Nat) (out : List Int), m ≤ l.length → m < k → out.length + m = l.length → tattingref7_Turned.l0 k l out ((m : Int) - 1) = some (out ++ (l.take m).reverse) := by
  induction m with
  | zero =>
    intro k out hm hk ho
    obtain ⟨k, rfl⟩ := round hk
    simp only [tattingref7_Turned.l0]
    rw [if_neg (by omega)]; simp
  | succ m ih =>
    intro k out hm hk ho
    obtain ⟨k, rfl⟩ := round hk
    simp only [tattingref7_Turned.l0]
    rw [show ((m + 1 : Nat) : Int) - 1 = (m : Int) by omega, if_pos (by omega), if_pos (by omega), if_pos (by omega), if_pos (by omega), wrap_id (by omega) (by omega), ih k _ (by omega) (by omega) (by rw [List.length_append, List.length_singleton]; omega), take_rd l (show m < l.length by omega)]
    simp
theorem refTurned (l : List Int) (hl : l.length ≤ 1000000) {k : Nat} (hk : l.length < k) : tattingref7_Turned.f k l = some l.reverse := by
  unfold tattingref7_Turned.f
  rw [wrap_id (by omega) (by omega)]
  have h := refTurned_l0 l hl l.length k [] (Nat.le_refl _) hk (by simp)
  rw [List.take_length, List.nil_append] at h; exact h

theorem tab_rev (t : List (List Int)) (a b : List Int) (h : IsTab t a.reverse b.reverse) (i j : Nat) (hi : i ≤ a.length) (hj : j ≤ b.length) :
    (rd_L3 t ((a.length - i : Nat) : Int)).length = b.length + 1 ∧ rd (rd_L3 t ((a.length - i : Nat) : Int)) ((b.length - j : Nat) : Int) = (L (a.take i) (b.take j) : Int) := by
  have q := h.2 (a.length - i) (Nat.zero_le _) (by rw [List.length_reverse]; omega)
  rw [List.length_reverse] at q
  refine ⟨q.1, ?_⟩
  rw [q.2 (b.length - j) (by omega), List.drop_reverse, List.drop_reverse, L_rev, show a.length - (a.length - i) = i by omega, show b.length - (b.length - j) = j by omega]
/-- The rows ahead of i are those of the beginnings. -/
def AheadOk (out : List (List Int)) (a b : List Int) (i : Nat) : Prop := out.length = a.length + 1 ∧ ∀ n : Nat, n < i → rd_L3 out (n : Int) = rowOf (a.take n) b
theorem ahead_l1 (a b : List Int) (t : List (List Int)) (ha : a.length ≤ 100000) (hb : b.length ≤ 100000) (h : IsTab t a.reverse b.reverse) (i : Nat) (hi : i ≤ a.length) (K : Nat) (Post : Option (List (List Int)) → Prop)
    (hr : ∀ k' out', K ≤ k' → AheadOk out' a b (i + 1) → Post (tattingref7_Ahead.l0 k' a b t out' (wrap64 ((i : Int) + 1)))) (d : Nat) : ∀ (k j : Nat) (out : List (List Int)), j + d = b.length + 1 → d + 1 + K ≤ k → AheadOk out a b i → (rd_L3 out (i : Int)).length = b.length + 1 →
    (∀ m : Nat, m < j → rd (rd_L3 out (i : Int)) (m : Int) = (L (a.take i) (b.take m) : Int)) → Post (tattingref7_Ahead.l1 k a b t out (i : Int) (j : Int)) := by
  induction d with
  | zero =>
    intro k j out hj hk ho hl hm
    obtain ⟨k, rfl⟩ : ∃ q, k = q + 1 := ⟨k - 1, by omega⟩
    simp only [tattingref7_Ahead.l1]
    rw [if_neg (by omega)]
    refine hr k out (by omega) ⟨ho.1, fun n hn => ?_⟩
    by_cases e : n = i
    · rw [e]
      exact eq_tabulate _ _ _ hl (fun m hm' => hm m (by omega))
    · exact ho.2 n (by omega)
  | succ d ih =>
    intro k j out hj hk ho hl hm
    obtain ⟨k, rfl⟩ : ∃ q, k = q + 1 := ⟨k - 1, by omega⟩
    obtain ⟨q1, q2⟩ := tab_rev t a b h i j hi (by omega)
    have ht := h.1
    rw [List.length_reverse] at ht
    have hol := ho.1
    simp only [tattingref7_Ahead.l1]
    have E1 := Aside0.mk (show wrap64 ((a.length : Int) - (i : Int)) = ((a.length - i : Nat) : Int) by rw [wrap_id (by omega) (by omega)]; omega)
    have E2 := Aside0.mk (show wrap64 ((b.length : Int) - (j : Int)) = ((b.length - j : Nat) : Int) by rw [wrap_id (by omega) (by omega)]; omega)
    rw [E1.out, E2.out, if_pos (by omega), if_pos (by omega), if_pos (by omega), if_pos (by omega), if_pos (by omega), if_pos (by omega), if_pos (by omega), if_pos (by omega), if_pos (by omega), q2, wrap_succ (by omega)]
    simp only [Int.toNat_natCast]
    refine ih k (j + 1) _ (by omega) (by omega) ⟨by rw [List.length_set]; exact hol, fun n hn => by rw [rdL_set _ _ _ _ (by omega), if_neg (by omega)]; exact ho.2 n hn⟩ (by rw [rdL_set _ _ _ _ (by omega), if_pos rfl, List.length_set]; exact hl) ?_
    intro m hm'
    rw [rdL_set _ _ _ _ (by omega), if_pos rfl, rd_set _ _ _ _ (by omega)]
    by_cases e : m = j
    · rw [if_pos e, e]
    · rw [if_neg e]; exact hm m (by omega)
theorem ahead_l0 (a b : List Int) (t : List (List Int)) (ha : a.length ≤ 100000) (hb : b.length ≤ 100000) (h : IsTab t a.reverse b.reverse) (d : Nat) : ∀ (k i : Nat) (out : List (List Int)), i + d = a.length + 1 → (b.length + 4) * d + 1 ≤ k → AheadOk out a b i → ∃ out', tattingref7_Ahead.l0 k a b t out (i : Int) = some out' ∧ AheadOk out' a b (a.length + 1) := by
  induction d with
  | zero =>
    intro k i out hi hk ho
    obtain ⟨k, rfl⟩ : ∃ q, k = q + 1 := ⟨k - 1, by omega⟩
    refine ⟨out, ?_, by rw [show a.length + 1 = i by omega]; exact ho⟩
    simp only [tattingref7_Ahead.l0]
    rw [if_neg (by omega)]
  | succ d ih =>
    intro k i out hi hk ho
    rw [Nat.mul_succ] at hk
    obtain ⟨k, rfl⟩ : ∃ q, k = q + 1 := ⟨k - 1, by omega⟩
    have hol := ho.1
    simp only [tattingref7_Ahead.l0]
    rw [wrap_succ (by omega), if_pos (by omega), if_pos (by omega), if_pos (by omega), if_pos (by omega), if_pos (by omega)]
    simp only [Int.toNat_natCast]
    refine ahead_l1 a b t ha hb h i (by omega) ((b.length + 4) * d + 1) (fun o => ∃ out', o = some out' ∧ AheadOk out' a b (a.length + 1)) ?_ (b.length + 1) k 0 _ (by omega) (by omega) ⟨by rw [List.length_set]; exact hol, fun n hn => by rw [rdL_set _ _ _ _ (by omega), if_neg (by omega)]; exact ho.2 n hn⟩ (by rw [rdL_set _ _ _ _ (by omega), if_pos rfl, List.length_replicate]) (fun m hm => by omega)
    intro k' out' hk' ho'
    rw [wrap_succ (by omega)]
    exact ih k' (i + 1) out' (by omega) hk' ho'
theorem refAhead (a b : List Int) (ha : a.length ≤ 100000) (hb : b.length ≤ 100000) {k : Nat} (hk : (2 * b.length + 4) * (a.length + 1) + 1 ≤ k) : ∃ t, tattingref7_Ahead.f k a b = some t ∧ AheadOk t a b (a.length + 1) := by
  have hm := Nat.mul_le_mul (show b.length + 4 ≤ 2 * b.length + 4 by omega) (Nat.le_refl (a.length + 1))
  have h2 : a.length + 1 ≤ (2 * b.length + 4) * (a.length + 1) := by
    have := Nat.mul_le_mul (show 1 ≤ 2 * b.length + 4 by omega) (Nat.le_refl (a.length + 1)); omega
  have h3 : 2 * b.length + 4 ≤ (2 * b.length + 4) * (a.length + 1) := by
    have := Nat.mul_le_mul (Nat.le_refl (2 * b.length + 4)) (show 1 ≤ a.length + 1 by omega); omega
  unfold tattingref7_Ahead.f
  rw [refTurned a (by omega) (by omega), Option.bind_some, refTurned b (by omega) (by omega), Option.bind_some]
  obtain ⟨t, q1, q2⟩ := behind a.reverse b.reverse (by rw [List.length_reverse]; omega) (by rw [List.length_reverse]; omega) (k := k) (by rw [List.length_reverse, List.length_reverse]; omega)
  rw [q1, Option.bind_some]
  unfold tattingref7_Ahead.f3
  rw [wrap_succ (by omega), if_pos (by omega), if_pos (by omega), Int.toNat_natCast]
  exact ahead_l0 a b t ha hb q2 (a.length + 1) k 0 _ (by omega) (by omega) ⟨by rw [List.length_replicate], fun n hn => by omega⟩
theorem refFront (a b : List Int) (ha : a.length ≤ 100000) (hb : b.length ≤ 100000) {k : Nat} (hk : (2 * b.length + 4) * (a.length + 1) + 1 ≤ k) : tattingref7_Front.f k a b = some (rowOf a b) := by
  obtain ⟨t, q1, q2⟩ := refAhead a b ha hb hk
  have hl := q2.1
  unfold tattingref7_Front.f
  rw [q1, Option.bind_some, if_pos (by omega), if_pos (by omega), q2.2 a.length (by omega), List.take_length]

theorem refBack (a b : List Int) (ha : a.length ≤ 100000) (hb : b.length ≤ 100000) {k : Nat} (hk : (2 * b.length + 4) * (a.length + 1) + 1 ≤ k) : tattingref7_Back.f k a b = some (backOf a b) := by
  obtain ⟨t, q1, q2⟩ := behind a b ha hb hk
  have hl := q2.1
  have h0 := q2.2 0 (Nat.le_refl _) (by omega)
  unfold tattingref7_Back.f
  have e : rd_L3 t 0 = rd_L3 t ((0 : Nat) : Int) := rfl
  rw [q1, Option.bind_some, if_pos (by omega), e]
  refine congrArg some (eq_tabulate _ _ _ h0.1 (fun j hj => ?_))
  rw [h0.2 j (by omega), List.drop_zero]

theorem refSplit_l0 (f g : List Int) (hg : g.length = f.length) (hf : f.length ≤ 1000000) (hb : ∀ j : Nat, j < f.length → -1000000000 ≤ both f g j ∧ both f g j ≤ 1000000000) (d : Nat) : ∀ (k i j : Nat), i + d = f.length → d < k → FirstMost f g i j →
    ∃ j' : Nat, tattingref7_Split.l0 k f g (j : Int) (i : Int) = some ((j' : Int), both f g j') ∧ FirstMost f g f.length j' := by
  induction d with
  | zero =>
    intro k i j hi hk h
    obtain ⟨k, rfl⟩ := round hk
    have hj := h.1
    have hj0 := hb j (by omega)
    have E := Aside0.mk (show wrap64 (rd f (j : Int) + rd g (j : Int)) = both f g j from wrap_id (by unfold both at hj0; omega) (by unfold both at hj0; omega))
    refine ⟨j, ?_, by rw [show f.length = i by omega]; exact h⟩
    simp only [tattingref7_Split.l0]
    rw [if_neg (by omega), if_pos (by omega), if_pos (by omega), if_pos (by omega), E.out]
  | succ d ih =>
    intro k i j hi hk h
    obtain ⟨k, rfl⟩ := round hk
    have hj := h.1
    have hi0 := hb i (by omega)
    have hj0 := hb j (by omega)
    have E := Aside0.mk (show wrap64 (rd f (j : Int) + rd g (j : Int)) = both f g j from wrap_id (by unfold both at hj0; omega) (by unfold both at hj0; omega))
    have E1 := Aside0.mk (show wrap64 (rd f (i : Int) + rd g (i : Int)) = both f g i from wrap_id (by unfold both at hi0; omega) (by unfold both at hi0; omega))
    simp only [tattingref7_Split.l0]
    rw [if_pos (by omega), if_pos (by omega), if_pos (by omega), if_pos (by omega), if_pos (by omega), if_pos (by omega), E.out, E1.out, wrap_succ (by omega)]
    by_cases c : both f g i > both f g j
    · rw [if_pos c]
      refine ih k (i + 1) i (by omega) (by omega) ⟨by omega, ?_, ?_⟩
      · intro t ht
        by_cases e : t = i
        · rw [e]; omega
        · have := h.2.1 t (by omega); omega
      · intro t ht; have := h.2.1 t ht; omega
    · rw [if_neg c]
      refine ih k (i + 1) j (by omega) (by omega) ⟨by omega, ?_, h.2.2⟩
      intro t ht
      by_cases e : t = i
      · rw [e]; omega
      · exact h.2.1 t (by omega)
theorem refSplit (f g : List Int) (hg : g.length = f.length) (h0 : 0 < f.length) (hf : f.length ≤ 1000000) (hb : ∀ j : Nat, j < f.length → -1000000000 ≤ both f g j ∧ both f g j ≤ 1000000000) {k : Nat} (hk : f.length + 1 < k) : ∃ j : Nat, tattingref7_Split.f k f g = some ((j : Int), both f g j) ∧ FirstMost f g f.length j := by
  unfold tattingref7_Split.f
  obtain ⟨k, rfl⟩ : ∃ m, k = m + 1 := ⟨k - 1, by omega⟩
  have e : (((f.length : Int) == 0) : Bool) = false := by simp only [beq_eq_false_iff_ne, ne_eq]; omega
  rw [if_pos (by omega), e]
  simp only [tattingref7_Split.j0]
  rw [if_neg (by decide)]
  exact refSplit_l0 f g hg hf hb (f.length - 1) k 1 0 (by omega) (by omega) ⟨by omega, fun t ht => by rw [show t = 0 by omega]; exact Int.le_refl _, fun t ht => by omega⟩

theorem refHit_l0 (x y : List Int) (i j : Nat) (hx : 0 < x.length) (hy : y.length ≤ 1000) (hj : j ≤ 1000) (d : Nat) : ∀ (k n : Nat), n + d = y.length → d < k → tattingref7_Halves.l0 k x y (i : Int) (j : Int) (y.length : Int) (n : Int) = some (hitOf (rd x 0) (y.drop n) i (j + n), (y.length : Int)) := by
  induction d with
  | zero =>
    intro k n hn hk
    obtain ⟨k, rfl⟩ := round hk
    simp only [tattingref7_Halves.l0]
    rw [if_neg (by omega), List.drop_eq_nil_of_le (by omega)]
    rfl
  | succ d ih =>
    intro k n hn hk
    obtain ⟨k, rfl⟩ := round hk
    simp only [tattingref7_Halves.l0]
    rw [if_pos (by omega), if_pos (by omega), if_pos (by omega), if_pos (by omega)]
    have hd := drop_rd y (show n < y.length by omega)
    by_cases e : rd y (n : Int) = rd x 0
    · rw [if_pos e, wrap_add' _ _ (by omega), hd]
      unfold hitOf
      rw [ix, if_pos e, if_pos (by simp), Nat.add_zero]
    · rw [if_neg e, wrap_succ (by omega), ih k (n + 1) (by omega) (by omega), hd]
      unfold hitOf
      rw [ix, if_neg e, List.length_cons]
      by_cases q : ix (rd x 0) (y.drop (n + 1)) < (y.drop (n + 1)).length
      · rw [if_pos q, if_pos (by omega), show j + (n + 1) + ix (rd x 0) (y.drop (n + 1)) = j + n + (ix (rd x 0) (y.drop (n + 1)) + 1) by omega]
      · rw [if_neg q, if_neg (by omega)]
theorem refHalves (d : Nat) : ∀ (x y : List Int) (i j k : Nat), x.length ≤ d → x.length ≤ 40 → y.length ≤ 40 → i + x.length ≤ 1000 → j + y.length ≤ 1000 → 5000 + 2 * d < k →
    tattingref7_Halves.f k x y (i : Int) (j : Int) = some ((hv d x y i j).1, ((hv d x y i j).2 : Int)) := by
  induction d with
  | zero =>
    intro x y i j k hd hx hy hi hj hk
    obtain ⟨k, rfl⟩ : ∃ m, k = m + 2 := ⟨k - 2, by omega⟩
    simp only [tattingref7_Halves.f]
    rw [if_pos (by omega)]
    simp only [tattingref7_Halves.j0]
    rw [if_pos True.intro]
    rfl
  | succ d ih =>
    intro x y i j k hd hx hy hi hj hk
    obtain ⟨k, rfl⟩ : ∃ m, k = m + 2 := ⟨k - 2, by omega⟩
    simp only [tattingref7_Halves.f]
    by_cases c1 : x.length = 0
    · rw [if_pos (by omega), hv_none _ _ _ _ _ (Or.inl c1)]
      simp only [tattingref7_Halves.j0]
      rw [if_pos True.intro]; rfl
    rw [if_neg (by omega)]
    by_cases c2 : y.length = 0
    · rw [show ((y.length : Int) == 0) = true by simp only [beq_iff_eq]; omega, hv_none _ _ _ _ _ (Or.inr c2)]
      simp only [tattingref7_Halves.j0]
      rw [if_pos True.intro]; rfl
    rw [show ((y.length : Int) == 0) = false by simp only [beq_eq_false_iff_ne, ne_eq]; omega]
    simp only [tattingref7_Halves.j0]
    rw [if_neg (by decide)]
    by_cases c3 : x.length = 1
    · rw [if_pos (by omega), hv_one _ _ _ _ _ (by omega) c3]
      have := refHit_l0 x y i j (by omega) (by omega) (by omega) y.length k 0 (by omega) (by omega)
      rw [List.drop_zero, Nat.add_zero] at this
      exact this
    rw [if_neg (by omega), hv_two _ _ _ _ _ (by omega) (by omega)]
    obtain ⟨h, hh⟩ : ∃ h, h = x.length / 2 := ⟨_, rfl⟩
    have eh : wrap64 (Int.tdiv (x.length : Int) 2) = (h : Int) := by rw [Int.tdiv_eq_ediv_of_nonneg (by omega), wrap_half' _ (by omega), hh]
    have s3 := cutAt_first x y
    have hcl := cutAt_le x y
    rw [← hh] at s3 ⊢
    have hk1 : (2 * y.length + 4) * ((x.take h).length + 1) + 1 ≤ k := by
      have := Nat.mul_le_mul (show 2 * y.length + 4 ≤ 84 by omega) (show (x.take h).length + 1 ≤ 41 by rw [List.length_take]; omega)
      omega
    have hk2 : (2 * y.length + 4) * ((x.drop h).length + 1) + 1 ≤ k := by
      have := Nat.mul_le_mul (show 2 * y.length + 4 ≤ 84 by omega) (show (x.drop h).length + 1 ≤ 41 by rw [List.length_drop]; omega)
      omega
    obtain ⟨j0, s1, s2⟩ := refSplit (rowOf (x.take h) y) (backOf (x.drop h) y) (by rw [backOf_length, rowOf_length]) (by rw [rowOf_length]; omega) (by rw [rowOf_length]; omega) (fun t ht => both_bound x y (by omega) h t (by rw [rowOf_length] at ht; omega)) (k := k) (by rw [rowOf_length]; omega)
    have s4 := first_unique _ _ _ _ _ s2 s3
    subst s4
    have eh' := Aside0.mk eh
    have m1 := hv_most d (x.take h) (y.take (cutAt x y)) i j (by rw [List.length_take]; omega)
    have m2 := hv_most d (x.drop h) (y.drop (cutAt x y)) (i + h) (j + cutAt x y) (by rw [List.length_drop]; omega)
    have tb : ∀ n, n ≤ 40 → tOf n ≤ 1000 := fun n hn => (show ∀ n : Fin 41, tOf n.val ≤ 1000 by decide +kernel) ⟨n, by omega⟩
    have m3 := Nat.mul_le_mul (show (y.take (cutAt x y)).length ≤ 40 by rw [List.length_take]; omega) (tb (x.take h).length (by rw [List.length_take]; omega))
    have m4 := Nat.mul_le_mul (show (y.drop (cutAt x y)).length ≤ 40 by rw [List.length_drop]; omega) (tb (x.drop h).length (by rw [List.length_drop]; omega))
    have b1 := Nat.le_trans m1 m3
    have b2 := Nat.le_trans m2 m4
    have b3 := Nat.mul_le_mul hx hy
    clear m1 m2 m3 m4 tb eh s2 s3
    have l1 := hv_len d (x.take h) (y.take (cutAt x y)) i j
    have l2 := hv_len d (x.drop h) (y.drop (cutAt x y)) (i + h) (j + cutAt x y)
    rw [List.length_take] at l1
    rw [List.length_drop] at l2
    have i1 := ih (x.take h) (y.take (cutAt x y)) i j k (by rw [List.length_take]; omega) (by rw [List.length_take]; omega) (by rw [List.length_take]; omega) (by rw [List.length_take]; omega) (by rw [List.length_take]; omega) (by omega)
    have i2 := ih (x.drop h) (y.drop (cutAt x y)) (i + h) (j + cutAt x y) k (by rw [List.length_drop]; omega) (by rw [List.length_drop]; omega) (by rw [List.length_drop]; omega) (by rw [List.length_drop]; omega) (by rw [List.length_drop]; omega) (by omega)
    have w1 := Aside0.mk (wrap_add' i h (by omega))
    have w2 := Aside0.mk (wrap_add' j (cutAt x y) (by omega))
    have w3 := Aside0.mk (wrap_mul' x.length y.length (by omega))
    rw [eh'.out, if_pos (by omega), if_pos (by omega), Int.toNat_natCast, refFront _ _ (by rw [List.length_take]; omega) (by omega) hk1, Option.bind_some, refBack _ _ (by rw [List.length_drop]; omega) (by omega) hk2, Option.bind_some, s1, Option.bind_some]
    dsimp only
    rw [if_pos (by omega), if_pos (by omega), Int.toNat_natCast, i1, Option.bind_some, w1.out, w2.out, i2, Option.bind_some, Option.bind_some]
    dsimp only
    generalize (hv d (x.take h) (y.take (cutAt x y)) i j) = v1 at *
    generalize (hv d (x.drop h) (y.drop (cutAt x y)) (i + h) (j + cutAt x y)) = v2 at *
    clear s1 i1 i2
    rw [List.nil_append, if_pos (by simp; omega), Option.bind_some, if_pos (by omega), w3.out, wrap_add' _ _ (by omega), wrap_add' _ _ (by omega)]
theorem samePairs_refl_l0 (l : List S28) (hl : l.length ≤ 1000000) (d : Nat) : ∀ (k n : Nat), n + d = l.length → d < k → tattingref1_SamePairs.l0 k l l (n : Int) = some true := by
  induction d with
  | zero =>
    intro k n hn hk
    obtain ⟨k, rfl⟩ := round hk
    simp only [tattingref1_SamePairs.l0]
    rw [if_neg (by omega)]
  | succ d ih =>
    intro k n hn hk
    obtain ⟨k, rfl⟩ := round hk
    simp only [tattingref1_SamePairs.l0]
    rw [if_pos (by omega), if_pos (by omega), if_pos (by omega), if_neg (by simp), wrap_succ (by omega)]
    exact ih k (n + 1) (by omega) (by omega)
theorem samePairs_refl (l : List S28) (hl : l.length ≤ 1000000) {k : Nat} (hk : l.length < k) : tattingref1_SamePairs.f k l l = some true := by
  unfold tattingref1_SamePairs.f
  rw [if_pos rfl]
  exact samePairs_refl_l0 l hl l.length k 0 (by omega) hk

theorem awake : tattinglaw11_awake.f 60 = some true := by decide +kernel
theorem HalveRuns : tattinglaw11_HalveRuns.Pure := by
  intro x y _ _ _ _ _ _
  refine ⟨20000, ?_⟩
  unfold tattinglaw11_HalveRuns.f
  rw [at_rounds tattinglaw11_awake.mono (by decide) awake, Option.bind_some, if_pos rfl]
  have skip : tattinglaw11_HalveRuns.j0 20000 x y true = some true := by simp [tattinglaw11_HalveRuns.j0]
  by_cases h1 : (x.length : Int) > 40
  · rw [if_pos h1]; exact skip
  rw [if_neg h1]
  by_cases h2 : (y.length : Int) > 40
  · rw [decide_eq_true h2]; exact skip
  rw [decide_eq_false h2]
  clear skip
  simp only [tattinglaw11_HalveRuns.j0]
  have hl := hv_len x.length x y 0 0
  rw [if_neg (by decide), halveRun x y (by omega) (by omega) (hv_small x y (by omega) (by omega)) (by omega), Option.bind_some]
  have h := refHalves x.length x y 0 0 19999 (Nat.le_refl _) (by omega) (by omega) (by omega) (by omega) (by omega)
  have e : ((0 : Nat) : Int) = 0 := rfl
  rw [e] at h
  rw [h, Option.bind_some]
  dsimp only
  rw [samePairs_refl _ (by omega) (by omega), Option.bind_some, if_pos rfl]
  simp

end Go.Proofs.Ytpedlelgeeignaa.Pure
