/- For every two lists of at most 30 numbers, brought to four: the steps are at most both lengths' product and at least as many as the list is long; without the first number they are fewer by its places. -/
import Derived.Test.YtkhplimibgjmoaaPHuntFewx3
import Derived.Test.YtkhplimibgjmoaaWSized
namespace Go.Proofs.Ytkhplimibgjmoaa.PrintWords
set_option linter.defProp false in
/-- The printed row names this lemma without the seat-wide namespace. -/
def sized_ints := @Go.Proofs.YtkhplimibgjmoaaW.PrintWords.sized_ints
end Go.Proofs.Ytkhplimibgjmoaa.PrintWords
namespace Go.Proofs.Ytkhplimibgjmoaa.Pure
open Go.RowKit Go.Proofs.Ytkhplimibgjmoaa.PHuntFew Go.Proofs.YtkhplimibgjmoaaW.PrintWords Go.Proofs.YtkhplimibgjmoaaW.PrintLast Go.Proofs.YtkhplimibgjmoaaW.PrintMore
set_option linter.unusedVariables false
set_option linter.unusedSimpArgs false

theorem wrap_id {i : Int} (h0 : -9223372036854775808 ≤ i) (h1 : i < 9223372036854775808) : wrap64 i = i := by unfold wrap64; omega
theorem wrap_succ {n : Nat} (h : n < 9223372036854775807) : wrap64 ((n : Int) + 1) = ((n + 1 : Nat) : Int) := by unfold wrap64; omega

theorem rd_at (l : List Int) {n : Nat} (h : n < l.length) : rd l (n : Int) = l[n] := by
  unfold rd; rw [Int.toNat_natCast, List.getD_eq_getElem?_getD, List.getElem?_eq_getElem h]; rfl
theorem rd_d (l : List Int) (n : Nat) : rd l (n : Int) = l.getD n 0 := rfl
theorem rd_out (l : List Int) {n : Nat} (h : l.length ≤ n) : rd l (n : Int) = 0 := by
  rw [rd_d, List.getD_eq_getElem?_getD, List.getElem?_eq_none h]; rfl
theorem drop_rd (l : List Int) {n : Nat} (h : n < l.length) : l.drop n = rd l (n : Int) :: l.drop (n + 1) := by
  rw [rd_at l h]; exact List.drop_eq_getElem_cons h
theorem take_rd (l : List Int) {n : Nat} (h : n < l.length) : l.take (n + 1) = l.take n ++ [rd l (n : Int)] := by
  rw [rd_at l h, List.take_succ_eq_append_getElem h]
theorem rd_mem (l : List Int) {n : Nat} (h : n < l.length) : rd l (n : Int) ∈ l := by rw [rd_at l h]; exact List.getElem_mem h
theorem rd_app_lt (l : List Int) (x : Int) {n : Nat} (h : n < l.length) : rd (l ++ [x]) (n : Int) = rd l (n : Int) := by
  rw [rd_at _ (by rw [List.length_append]; omega), rd_at _ h, List.getElem_append_left h]
theorem rd_app_eq (l : List Int) (x : Int) : rd (l ++ [x]) (l.length : Int) = x := by
  rw [rd_at _ (by rw [List.length_append, List.length_singleton]; omega)]; simp
theorem rd_app (l : List Int) (x : Int) (n : Nat) (h : n ≤ l.length) : rd (l ++ [x]) (n : Int) = if n = l.length then x else rd l (n : Int) := by
  by_cases e : n = l.length
  · rw [if_pos e, e, rd_app_eq]
  · rw [if_neg e, rd_app_lt _ _ (by omega)]
theorem rd_set (l : List Int) (i n : Nat) (x : Int) (h : n < l.length) : rd (l.set i x) (n : Int) = if n = i then x else rd l (n : Int) := by
  rw [rd_at _ (by rw [List.length_set]; exact h), rd_at _ h, List.getElem_set]
  by_cases e : n = i
  · rw [if_pos e, if_pos e.symm]
  · rw [if_neg e, if_neg (fun q => e q.symm)]
theorem rd_replicate (m n : Nat) (x : Int) (h : n < m) : rd (List.replicate m x) (n : Int) = x := by
  rw [rd_at _ (by rw [List.length_replicate]; exact h), List.getElem_replicate]
theorem rd_take (l : List Int) {m n : Nat} (h : n < m) (hm : m ≤ l.length) : rd (l.take m) (n : Int) = rd l (n : Int) := by
  rw [rd_at _ (by rw [List.length_take]; omega), rd_at _ (by omega), List.getElem_take]
theorem rd_drop (l : List Int) (m n : Nat) : rd (l.drop m) (n : Int) = rd l ((m + n : Nat) : Int) := by
  rw [rd_d, rd_d, List.getD_eq_getElem?_getD, List.getD_eq_getElem?_getD, List.getElem?_drop]
theorem list_ext {l m : List Int} (h : l.length = m.length) (k : ∀ n : Nat, n < l.length → rd l (n : Int) = rd m (n : Int)) : l = m := by
  apply List.ext_getElem h
  intro i h1 h2
  have := k i h1
  rwa [rd_at _ h1, rd_at _ h2] at this
theorem wf64 {a : Int} (h : (Lit.int .i64 a).wf = true) : -9223372036854775808 ≤ a ∧ a ≤ 9223372036854775807 := by
  simp only [Lit.wf, IntKind.min, IntKind.max, IntKind.signed, IntKind.bits, Bool.and_eq_true, decide_eq_true_eq, if_true] at h
  omega
/-- At least one round. -/
theorem round {k d : Nat} (h : d < k) : ∃ m, k = m + 1 := ⟨k - 1, by omega⟩

/-- The numbers brought to a few. -/
def fewOf (l : List Int) (n : Int) : List Int := l.map (· % n)
theorem fewOf_length (l : List Int) (n : Int) : (fewOf l n).length = l.length := by unfold fewOf; rw [List.length_map]
theorem fewOf_range (l : List Int) (n : Int) (hn : 0 < n) : ∀ x ∈ fewOf l n, 0 ≤ x ∧ x < n := by
  intro x hx
  unfold fewOf at hx
  obtain ⟨y, _, rfl⟩ := List.mem_map.mp hx
  exact ⟨Int.emod_nonneg y (by omega), Int.emod_lt_of_pos y hn⟩
theorem tmod_emod (x n : Int) (hn : 0 < n) : (if Int.tmod x n < 0 then Int.tmod x n + n else Int.tmod x n) = x % n := by
  have h0 := Int.emod_nonneg x (show n ≠ 0 by omega)
  have h1 := Int.emod_lt_of_pos x hn
  have h := Int.tmod_eq_emod (a := x) (b := n)
  by_cases c : 0 ≤ x ∨ n ∣ x
  · rw [if_pos c] at h; rw [if_neg (by omega)]; omega
  · rw [if_neg c] at h; rw [if_pos (by omega)]; omega
theorem few_l0 (l : List Int) (n : Int) (hn : 0 < n) (hn' : n ≤ 1000000) (hl : l.length ≤ 1000000) (d : Nat) : ∀ (k i : Nat) (out : List Int), i + d = l.length → d < k → out.length = i → tattingref1_Few.l0 k l n out (i : Int) = some (out ++ fewOf (l.drop i) n) := by
  induction d with
  | zero =>
    intro k i out hi hk ho
    obtain ⟨k, rfl⟩ := round hk
    simp only [tattingref1_Few.l0]
    rw [if_neg (by omega), List.drop_eq_nil_of_le (by omega)]
    simp [fewOf]
  | succ d ih =>
    intro k i out hi hk ho
    obtain ⟨k, rfl⟩ := round hk
    simp only [tattingref1_Few.l0]
    rw [if_pos (by omega), if_pos (by omega), if_neg (by omega), drop_rd l (by omega)]
    have h := tmod_emod (rd l (i : Int)) n hn
    have h0 := Int.emod_nonneg (rd l (i : Int)) (show n ≠ 0 by omega)
    have h1 := Int.emod_lt_of_pos (rd l (i : Int)) hn
    have e : fewOf (rd l (i : Int) :: l.drop (i + 1)) n = (rd l (i : Int) % n) :: fewOf (l.drop (i + 1)) n := rfl
    rw [e]
    by_cases c : Int.tmod (rd l (i : Int)) n < 0
    · rw [if_pos c] at h
      rw [if_pos c, if_pos (by omega), wrap_succ (by omega), wrap_id (by omega) (by omega), h, ih k (i + 1) _ (by omega) (by omega) (by rw [List.length_append, List.length_singleton]; omega)]
      simp
    · rw [if_neg c] at h
      rw [if_neg c, if_pos (by omega), wrap_succ (by omega), h, ih k (i + 1) _ (by omega) (by omega) (by rw [List.length_append, List.length_singleton]; omega)]
      simp
theorem few (l : List Int) (n : Int) (hn : 0 < n) (hn' : n ≤ 1000000) (hl : l.length ≤ 1000000) {k : Nat} (hk : l.length < k) : tattingref1_Few.f k l n = some (fewOf l n) := by
  have h := few_l0 l n hn hn' hl l.length k 0 [] (by omega) hk rfl
  rwa [List.nil_append, List.drop_zero] at h

/-- The longest common subsequence's length. -/
def L : List Int → List Int → Nat
  | [], _ => 0
  | _ :: _, [] => 0
  | x :: xs, y :: ys => if x = y then L xs ys + 1 else max (L xs (y :: ys)) (L (x :: xs) ys)
termination_by a b => a.length + b.length

theorem L_nil_left (b : List Int) : L [] b = 0 := by rw [L]
theorem L_nil_right (a : List Int) : L a [] = 0 := by cases a <;> rw [L]
theorem L_cons_eq (x : Int) (xs ys : List Int) : L (x :: xs) (x :: ys) = L xs ys + 1 := by rw [L, if_pos rfl]
theorem L_cons_ne {x y : Int} (h : x ≠ y) (xs ys : List Int) : L (x :: xs) (y :: ys) = max (L xs (y :: ys)) (L (x :: xs) ys) := by rw [L, if_neg h]

theorem L_ub (a b : List Int) : ∀ s : List Int, s.Sublist a → s.Sublist b → s.length ≤ L a b := by
  induction a, b using L.induct with
  | case1 b => intro s h _; rw [List.sublist_nil.mp h]; simp
  | case2 x xs => intro s _ h; rw [List.sublist_nil.mp h]; simp
  | case3 xs y ys ih =>
    intro s h1 h2
    rw [L_cons_eq]
    have h3 := ih s.tail (by simpa using h1.tail) (by simpa using h2.tail)
    have h4 : s.length ≤ s.tail.length + 1 := by rw [List.length_tail]; omega
    omega
  | case4 x xs y ys hne ih1 ih2 =>
    intro s h1 h2
    rw [L_cons_ne hne]
    rcases List.sublist_cons_iff.mp h1 with h | ⟨r, rfl, hr⟩
    · have := ih1 s h h2; omega
    · rcases List.sublist_cons_iff.mp h2 with h | ⟨r', he, hr'⟩
      · have := ih2 _ h1 h; omega
      · injection he with he1 he2; exact absurd he1 hne

theorem L_has (a b : List Int) : ∃ s : List Int, s.Sublist a ∧ s.Sublist b ∧ s.length = L a b := by
  induction a, b using L.induct with
  | case1 b => exact ⟨[], by simp, by simp, by rw [L_nil_left]; rfl⟩
  | case2 x xs => exact ⟨[], by simp, by simp, by rw [L_nil_right]; rfl⟩
  | case3 xs y ys ih =>
    obtain ⟨s, h1, h2, h3⟩ := ih
    exact ⟨y :: s, h1.cons_cons y, h2.cons_cons y, by rw [L_cons_eq]; simp [h3]⟩
  | case4 x xs y ys hne ih1 ih2 =>
    obtain ⟨s, h1, h2, h3⟩ := ih1
    obtain ⟨t, k1, k2, k3⟩ := ih2
    rw [L_cons_ne hne]
    by_cases h : L (x :: xs) ys ≤ L xs (y :: ys)
    · exact ⟨s, h1.cons x, h2, by omega⟩
    · exact ⟨t, k1, k2.cons y, by omega⟩

theorem L_le_of (a b c d : List Int) (h : ∀ s : List Int, s.Sublist a → s.Sublist b → ∃ t : List Int, t.length = s.length ∧ t.Sublist c ∧ t.Sublist d) : L a b ≤ L c d := by
  obtain ⟨s, h1, h2, h3⟩ := L_has a b
  obtain ⟨t, k1, k2, k3⟩ := h s h1 h2
  have := L_ub c d t k2 k3
  omega

theorem L_mono {a b c d : List Int} (h : a.Sublist c) (k : b.Sublist d) : L a b ≤ L c d :=
  L_le_of _ _ _ _ fun s h1 h2 => ⟨s, rfl, h1.trans h, h2.trans k⟩

theorem L_comm (a b : List Int) : L a b = L b a :=
  Nat.le_antisymm (L_le_of _ _ _ _ fun s h k => ⟨s, rfl, k, h⟩) (L_le_of _ _ _ _ fun s h k => ⟨s, rfl, k, h⟩)

theorem L_rev_le (a b : List Int) : L a b ≤ L a.reverse b.reverse :=
  L_le_of _ _ _ _ fun s h k => ⟨s.reverse, by simp, h.reverse, k.reverse⟩

theorem L_rev (a b : List Int) : L a.reverse b.reverse = L a b :=
  Nat.le_antisymm (by simpa using L_rev_le a.reverse b.reverse) (L_rev_le a b)

theorem L_le_left (a b : List Int) : L a b ≤ a.length := by
  obtain ⟨s, h1, _, h3⟩ := L_has a b
  have := h1.length_le; omega

theorem L_le_right (a b : List Int) : L a b ≤ b.length := by rw [L_comm]; exact L_le_left b a

/-- One element more makes it at most one longer. -/
theorem L_cons_le (x : Int) (a b : List Int) : L (x :: a) b ≤ L a b + 1 := by
  obtain ⟨s, h1, h2, h3⟩ := L_has (x :: a) b
  have h := L_ub a b s.tail (by simpa using h1.tail) ((List.tail_sublist s).trans h2)
  rw [List.length_tail] at h
  omega

theorem L_cons_le' (y : Int) (a b : List Int) : L a (y :: b) ≤ L a b + 1 := by
  rw [L_comm a, L_comm a]; exact L_cons_le y b a

theorem L_le_cons (x : Int) (a b : List Int) : L a b ≤ L (x :: a) b := L_mono (List.sublist_cons_self x a) (List.Sublist.refl b)
theorem L_le_cons' (y : Int) (a b : List Int) : L a b ≤ L a (y :: b) := L_mono (List.Sublist.refl a) (List.sublist_cons_self y b)

/-- The same, from the end. -/
theorem L_snoc_eq (x : Int) (a b : List Int) : L (a ++ [x]) (b ++ [x]) = L a b + 1 := by
  rw [← L_rev]; simp only [List.reverse_append, List.reverse_cons, List.reverse_nil, List.nil_append, List.singleton_append]; rw [L_cons_eq, L_rev]

theorem L_snoc_ne {x y : Int} (h : x ≠ y) (a b : List Int) : L (a ++ [x]) (b ++ [y]) = max (L a (b ++ [y])) (L (a ++ [x]) b) := by
  have e1 : L a (b ++ [y]) = L a.reverse (y :: b.reverse) := by rw [← L_rev]; simp
  have e2 : L (a ++ [x]) b = L (x :: a.reverse) b.reverse := by rw [← L_rev]; simp
  rw [← L_rev, e1, e2]; simp only [List.reverse_append, List.reverse_cons, List.reverse_nil, List.nil_append, List.singleton_append]; rw [L_cons_ne h]

theorem L_prefix (p a b : List Int) : L (p ++ a) (p ++ b) = p.length + L a b := by
  induction p with
  | nil => simp
  | cons x p ih => rw [List.cons_append, List.cons_append, L_cons_eq, ih, List.length_cons]; omega

theorem L_suffix (s a b : List Int) : L (a ++ s) (b ++ s) = L a b + s.length := by
  rw [← L_rev, List.reverse_append, List.reverse_append, L_prefix, L_rev, List.length_reverse]; omega

theorem L_append_ge (a1 a2 b1 b2 : List Int) : L a1 b1 + L a2 b2 ≤ L (a1 ++ a2) (b1 ++ b2) := by
  obtain ⟨s, h1, h2, h3⟩ := L_has a1 b1
  obtain ⟨t, k1, k2, k3⟩ := L_has a2 b2
  have := L_ub (a1 ++ a2) (b1 ++ b2) (s ++ t) (h1.append k1) (h2.append k2)
  rw [List.length_append] at this
  omega

/-- Where the first list is cut, the second one can be cut too. -/
theorem L_split (a1 a2 b : List Int) : ∃ j, j ≤ b.length ∧ L (a1 ++ a2) b = L a1 (b.take j) + L a2 (b.drop j) := by
  obtain ⟨s, h1, h2, h3⟩ := L_has (a1 ++ a2) b
  obtain ⟨s1, s2, rfl, k1, k2⟩ := List.sublist_append_iff.mp h1
  obtain ⟨b1, b2, rfl, m1, m2⟩ := List.append_sublist_iff.mp h2
  refine ⟨b1.length, by simp, ?_⟩
  have e1 : (b1 ++ b2).take b1.length = b1 := List.take_left' rfl
  have e2 : (b1 ++ b2).drop b1.length = b2 := List.drop_left' rfl
  rw [e1, e2]
  have u1 := L_ub a1 b1 s1 k1 m1
  have u2 := L_ub a2 b2 s2 k2 m2
  have u3 := L_append_ge a1 a2 b1 b2
  rw [List.length_append] at h3
  omega

theorem L_split_le (a1 a2 b : List Int) (j : Nat) : L a1 (b.take j) + L a2 (b.drop j) ≤ L (a1 ++ a2) b := by
  have h := L_append_ge a1 a2 (b.take j) (b.drop j)
  rwa [List.take_append_drop] at h

/-- Pairs that rise from two places on, and are alike. -/
def GoodFrom (a b : List Int) : Int → Int → List S42 → Prop
  | _, _, [] => True
  | i, j, p :: l => i ≤ p.f0 ∧ p.f0 < (a.length : Int) ∧ j ≤ p.f1 ∧ p.f1 < (b.length : Int) ∧ rd a p.f0 = rd b p.f1 ∧ GoodFrom a b (p.f0 + 1) (p.f1 + 1) l
/-- The places behind the last pair. -/
def endI : Int → List S42 → Int
  | i, [] => i
  | _, p :: l => endI (p.f0 + 1) l
def endJ : Int → List S42 → Int
  | j, [] => j
  | _, p :: l => endJ (p.f1 + 1) l
theorem goodFrom_append (a b : List Int) (l m : List S42) : ∀ i j, GoodFrom a b i j l → GoodFrom a b (endI i l) (endJ j l) m → GoodFrom a b i j (l ++ m) := by
  induction l with
  | nil => intro i j _ h; exact h
  | cons p l ih => intro i j h k; exact ⟨h.1, h.2.1, h.2.2.1, h.2.2.2.1, h.2.2.2.2.1, ih _ _ h.2.2.2.2.2 k⟩
theorem endI_append (l m : List S42) : ∀ i, endI i (l ++ m) = endI (endI i l) m := by
  induction l with
  | nil => intro i; rfl
  | cons p l ih => intro i; exact ih _
theorem endJ_append (l m : List S42) : ∀ i, endJ i (l ++ m) = endJ (endJ i l) m := by
  induction l with
  | nil => intro i; rfl
  | cons p l ih => intro i; exact ih _
theorem goodFrom_mono (a b : List Int) (l : List S42) (i j i' j' : Int) (h : GoodFrom a b i j l) (hi : i' ≤ i) (hj : j' ≤ j) : GoodFrom a b i' j' l := by
  cases l with
  | nil => trivial
  | cons p l => exact ⟨by have := h.1; omega, h.2.1, by have := h.2.2.1; omega, h.2.2.2⟩
theorem rdP_at (l : List S42) {n : Nat} (h : n < l.length) : rd_T42 l (n : Int) = l[n] := by
  show l.getD n _ = _
  rw [List.getD_eq_getElem?_getD, List.getElem?_eq_getElem h]; rfl
theorem drop_rdP (l : List S42) {n : Nat} (h : n < l.length) : l.drop n = rd_T42 l (n : Int) :: l.drop (n + 1) := by
  rw [rdP_at l h]; exact List.drop_eq_getElem_cons h

/-- The places of a number in a list, from some place on. -/
def pos (s : Int) : List Int → Nat → List Int
  | [], _ => []
  | x :: xs, i => if x = s then (i : Int) :: pos s xs (i + 1) else pos s xs (i + 1)
/-- Place by place, each one goes to the list of its number. -/
def bld : List (List Int) → List Int → Nat → List (List Int)
  | o, [], _ => o
  | o, x :: xs, i => bld (o.set x.toNat (o.getD x.toNat [] ++ [(i : Int)])) xs (i + 1)
theorem bld_length (o : List (List Int)) (b : List Int) (i : Nat) : (bld o b i).length = o.length := by
  induction b generalizing o i with
  | nil => rfl
  | cons x xs ih => rw [bld, ih, List.length_set]
theorem getD_set (o : List (List Int)) (j s : Nat) (v : List Int) (h : j < o.length) : (o.set j v).getD s [] = if s = j then v else o.getD s [] := by
  rw [List.getD_eq_getElem?_getD, List.getElem?_set, List.getD_eq_getElem?_getD]
  by_cases e : s = j
  · rw [if_pos e.symm, if_pos e]; simp [h]
  · rw [if_neg (fun q => e q.symm), if_neg e]
theorem bld_at (b : List Int) : ∀ (o : List (List Int)) (i s : Nat), (∀ x ∈ b, 0 ≤ x ∧ x < (o.length : Int)) → (bld o b i).getD s [] = o.getD s [] ++ pos (s : Int) b i := by
  induction b with
  | nil => intro o i s _; simp [bld, pos]
  | cons x xs ih =>
    intro o i s h
    have hx := h x (List.mem_cons_self)
    rw [bld, ih _ _ _ (fun y hy => by rw [List.length_set]; exact h y (List.mem_cons_of_mem _ hy)), getD_set _ _ _ _ (by omega), pos]
    by_cases e : x = (s : Int)
    · rw [if_pos (by omega), if_pos e]; subst e; simp
    · rw [if_neg (by omega), if_neg e]
theorem pos_length (s : Int) (b : List Int) (i : Nat) : (pos s b i).length ≤ b.length := by
  induction b generalizing i with
  | nil => simp [pos]
  | cons x xs ih => rw [pos]; have := ih (i + 1); split <;> simp <;> omega
/-- All numbers of a list are from 0 to below n. -/
def InRange (n : Int) (b : List Int) : Prop := ∀ x ∈ b, 0 ≤ x ∧ x < n
instance (n : Int) (b : List Int) : Decidable (InRange n b) := by unfold InRange; infer_instance
theorem inRange_cons {n x : Int} {b : List Int} (h0 : 0 ≤ x) (h1 : x < n) : InRange n (x :: b) ↔ InRange n b :=
  ⟨fun q y hy => q y (List.mem_cons_of_mem _ hy), fun q y hy => (List.mem_cons.mp hy).elim (fun e => e ▸ ⟨h0, h1⟩) (fun hy => q y hy)⟩
/-- What both functions of places answer. -/
def placesOf (n : Int) (b : List Int) : List (List Int) × Int :=
  if 0 ≤ n ∧ n ≤ 1048576 ∧ InRange n b then (bld (List.replicate n.toNat []) b 0, 0) else ([], 1)

theorem isNaN0 (x : Int) : cmp_isNaN_int.f x = some false := by unfold cmp_isNaN_int.f; simp
theorem isNaN1 (x : Int) : slices_isNaN_int.f x = some false := by unfold slices_isNaN_int.f; simp
theorem less_f (x y : Int) : cmp_Less_int.f x y = some (decide (x < y)) := by
  unfold cmp_Less_int.f; rw [isNaN0]; simp
/-- A list that rises. -/
def Rising (l : List Int) : Prop := ∀ i j : Nat, i < j → j < l.length → rd l (i : Int) < rd l (j : Int)
theorem bs_l0 (l : List Int) (x : Int) (hl : l.length ≤ 1000000) (hs : Rising l) (d : Nat) : ∀ (k lo hi : Nat), hi - lo ≤ d → lo ≤ hi → hi ≤ l.length → d < k → (∀ t : Nat, t < lo → rd l (t : Int) < x) → (∀ t : Nat, hi ≤ t → t < l.length → x ≤ rd l (t : Int)) →
    ∃ (r : Nat), slices_BinarySearch_int_int.l0 k l x (l.length : Int) (lo : Int) (hi : Int) = some ((r : Int), decide (r < l.length ∧ rd l (r : Int) = x)) ∧ r ≤ l.length ∧ (∀ t : Nat, t < r → rd l (t : Int) < x) ∧ (∀ t : Nat, r ≤ t → t < l.length → x ≤ rd l (t : Int)) := by
  induction d with
  | zero =>
    intro k lo hi hd hlh hh hk h1 h2
    obtain ⟨k, rfl⟩ := round hk
    have e : lo = hi := by omega
    refine ⟨lo, ?_, by omega, h1, fun t ht => h2 t (by omega)⟩
    simp only [slices_BinarySearch_int_int.l0]
    rw [if_neg (by omega)]
    by_cases c : lo < l.length
    · rw [if_pos (by omega), if_pos (by omega), if_pos (by omega)]
      by_cases q : rd l (lo : Int) = x
      · rw [if_pos q, decide_eq_true ⟨c, q⟩]
      · rw [if_neg q, isNaN1, decide_eq_false (fun z => q z.2)]; simp
    · rw [if_neg (by omega), decide_eq_false (fun z => c z.1)]
  | succ d ih =>
    intro k lo hi hd hlh hh hk h1 h2
    obtain ⟨k, rfl⟩ := round hk
    by_cases c : lo < hi
    · simp only [slices_BinarySearch_int_int.l0]
      have hm : wrap64 (IntKind.u64.wrap (wrap64 ((lo : Int) + (hi : Int))) / 2) = (((lo + hi) / 2 : Nat) : Int) := by
        rw [wrap_id (i := (lo : Int) + hi) (by omega) (by omega), IntWalk.u64_in _ (by omega), wrap_id (by omega) (by omega)]; omega
      have hm1 : (lo + hi) / 2 < l.length := by omega
      rw [hm, if_pos (by omega), if_pos (by omega), if_pos (by omega), less_f]
      simp only [Option.bind_some, decide_eq_true_eq]
      by_cases q : rd l (((lo + hi) / 2 : Nat) : Int) < x
      · rw [if_pos q, wrap_succ (by omega)]
        refine ih k ((lo + hi) / 2 + 1) hi (by omega) (by omega) hh (by omega) ?_ h2
        intro t ht
        by_cases e : t = (lo + hi) / 2
        · rw [e]; exact q
        · have := hs t ((lo + hi) / 2) (by omega) hm1; omega
      · rw [if_neg q]
        refine ih k lo ((lo + hi) / 2) (by omega) (by omega) (by omega) (by omega) h1 ?_
        intro t ht htl
        by_cases e : t = (lo + hi) / 2
        · rw [e]; omega
        · have := hs ((lo + hi) / 2) t (by omega) htl; omega
    · refine ⟨lo, ?_, by omega, h1, fun t ht => h2 t (by omega)⟩
      simp only [slices_BinarySearch_int_int.l0]
      rw [if_neg (by omega)]
      by_cases c' : lo < l.length
      · rw [if_pos (by omega), if_pos (by omega), if_pos (by omega)]
        by_cases q : rd l (lo : Int) = x
        · rw [if_pos q, decide_eq_true ⟨c', q⟩]
        · rw [if_neg q, isNaN1, decide_eq_false (fun z => q z.2)]; simp
      · rw [if_neg (by omega), decide_eq_false (fun z => c' z.1)]
theorem bs (l : List Int) (x : Int) (hl : l.length ≤ 1000000) (hs : Rising l) {k : Nat} (hk : l.length < k) :
    ∃ (r : Nat), slices_BinarySearch_int_int.f k l x = some ((r : Int), decide (r < l.length ∧ rd l (r : Int) = x)) ∧ r ≤ l.length ∧ (∀ t : Nat, t < r → rd l (t : Int) < x) ∧ (∀ t : Nat, r ≤ t → t < l.length → x ≤ rd l (t : Int)) := by
  exact bs_l0 l x hl hs l.length k 0 l.length (by omega) (by omega) (by omega) hk (fun t ht => by omega) (fun t ht => by omega)

/-- The places below j that the list holds are as many as F tells. -/
def Cnt (t : List Int) (n : Nat) (F : Nat → Nat) : Prop := t.length = F n ∧ ∀ i : Nat, i < t.length → ∀ j : Nat, j ≤ n → (rd t (i : Int) < (j : Int) ↔ i < F j)
/-- From none on, step by step. -/
def Stair (n : Nat) (F : Nat → Nat) : Prop := F 0 = 0 ∧ ∀ j : Nat, j < n → F j ≤ F (j + 1) ∧ F (j + 1) ≤ F j + 1
theorem Stair.le {n : Nat} {F : Nat → Nat} (h : Stair n F) (d : Nat) : ∀ i : Nat, i + d ≤ n → F i ≤ F (i + d) := by
  induction d with
  | zero => intro i _; exact Nat.le_refl _
  | succ d ih =>
    intro i hi
    have := ih i (by omega)
    have := (h.2 (i + d) (by omega)).1
    rw [show i + (d + 1) = i + d + 1 by omega]; omega
theorem Stair.mono {n : Nat} {F : Nat → Nat} (h : Stair n F) {i j : Nat} (hij : i ≤ j) (hj : j ≤ n) : F i ≤ F j := by
  have := h.le (j - i) i (by omega)
  rw [show i + (j - i) = j by omega] at this; exact this
theorem Stair.top {n : Nat} {F : Nat → Nat} (h : Stair n F) : F n ≤ n := by
  have : ∀ j : Nat, j ≤ n → F j ≤ j := by
    intro j
    induction j with
    | zero => intro _; rw [h.1]; omega
    | succ j ih => intro hj; have := ih (by omega); have := (h.2 j (by omega)).2; omega
  exact this n (Nat.le_refl n)
theorem Cnt.val {t : List Int} {n : Nat} {F : Nat → Nat} (hs : Stair n F) (h : Cnt t n F) {i : Nat} (hi : i < t.length) : ∃ v : Nat, rd t (i : Int) = (v : Int) ∧ v < n ∧ F v = i ∧ F (v + 1) = i + 1 := by
  have h0 := (h.2 i hi 0 (by omega))
  have h1 := (h.2 i hi n (by omega))
  rw [hs.1] at h0
  have hl := h.1
  have z0 : ¬ rd t (i : Int) < ((0 : Nat) : Int) := fun q => by have := h0.1 q; omega
  have z1 : rd t (i : Int) < (n : Int) := h1.2 (by omega)
  obtain ⟨v, hv⟩ : ∃ v : Nat, rd t (i : Int) = (v : Int) := ⟨(rd t (i : Int)).toNat, by omega⟩
  have hvn : v < n := by omega
  have h2 := h.2 i hi v (by omega)
  have h3 := h.2 i hi (v + 1) (by omega)
  have h4 := hs.2 v hvn
  rw [hv] at h2 h3
  have e2 : ¬ i < F v := fun q => by have := h2.2 q; omega
  have e3 : i < F (v + 1) := h3.1 (by omega)
  exact ⟨v, hv, hvn, by omega, by omega⟩
theorem Cnt.rising {t : List Int} {n : Nat} {F : Nat → Nat} (hs : Stair n F) (h : Cnt t n F) : Rising t := by
  intro i j hij hj
  obtain ⟨v, hv, hvn, hf, _⟩ := h.val hs hj
  rw [hv]
  exact (h.2 i (by omega) v (by omega)).2 (by omega)
theorem Cnt.one {t u : List Int} {n : Nat} {F : Nat → Nat} (hs : Stair n F) (h : Cnt t n F) (k : Cnt u n F) : t = u := by
  have hl : t.length = u.length := by rw [h.1, k.1]
  refine list_ext hl fun i hi => ?_
  obtain ⟨v, hv, hvn, hf, _⟩ := h.val hs hi
  obtain ⟨w, hw, hwn, hg, _⟩ := k.val hs (show i < u.length by omega)
  have a1 := h.2 i hi (w + 1) (by omega)
  have a2 := k.2 i (by omega) (v + 1) (by omega)
  have a3 := h.2 i hi (v + 1) (by omega)
  have a4 := k.2 i (by omega) (w + 1) (by omega)
  rw [hv] at a1 a3 ⊢
  rw [hw] at a2 a4 ⊢
  have b1 : (v : Int) < ((w + 1 : Nat) : Int) := a1.2 (a4.1 (by omega))
  have b2 : (w : Int) < ((v + 1 : Nat) : Int) := a2.2 (a3.1 (by omega))
  omega
/-- What the count is when the place m is put. -/
def putF (F : Nat → Nat) (m j : Nat) : Nat := if j ≤ m then F j else max (F j) (F m + 1)
theorem Cnt.put {t : List Int} {n : Nat} {F : Nat → Nat} (hs : Stair n F) (h : Cnt t n F) (hn : n ≤ 100000) {m : Nat} (hm : m < n) {k : Nat} (hk : t.length < k) :
    ∃ i q, thresh_Find.f k t (m : Int) = some i ∧ thresh_put.f t (m : Int) i = some q ∧ Cnt q n (putF F m) := by
  have ht := hs.top
  have hl := h.1
  obtain ⟨r, r1, r2, r3, r4⟩ := bs t (m : Int) (by omega) (h.rising hs) hk
  have hF : F m ≤ F n := hs.mono (by omega) (Nat.le_refl n)
  have e : r = F m := by
    by_cases c : r < F m
    · have := (h.2 r (by omega) m (by omega)).2 c
      have := r4 r (Nat.le_refl r) (by omega); omega
    · by_cases c' : F m < r
      · have := (h.2 (F m) (by omega) m (by omega)).1 (r3 (F m) c'); omega
      · omega
  subst e
  have hf : thresh_Find.f k t (m : Int) = some ((F m : Nat) : Int) := by
    unfold thresh_Find.f
    rw [r1, Option.bind_some]
  by_cases c : F m = t.length
  · refine ⟨_, t ++ [(m : Int)], hf, ?_, ?_, ?_⟩
    · unfold thresh_put.f
      rw [if_pos (by omega), if_pos (by omega)]
    · rw [List.length_append, List.length_singleton, putF, if_neg (by omega)]
      have : F n = F m := by omega
      omega
    · intro i hi j hj
      rw [putF]
      rw [List.length_append, List.length_singleton] at hi
      rw [rd_app t _ i (by omega)]
      have hj1 : F j ≤ F n := hs.mono hj (Nat.le_refl n)
      by_cases ci : i = t.length
      · rw [if_pos ci]
        by_cases cj : j ≤ m
        · rw [if_pos cj]
          have : F j ≤ F m := hs.mono cj (by omega)
          constructor <;> intro _ <;> omega
        · rw [if_neg cj]
          constructor <;> intro _ <;> omega
      · rw [if_neg ci, h.2 i (by omega) j hj]
        by_cases cj : j ≤ m
        · rw [if_pos cj]
        · rw [if_neg cj]
          have : F m ≤ F j := hs.mono (by omega) hj
          constructor <;> intro _ <;> omega
  · refine ⟨_, t.set (F m) (m : Int), hf, ?_, ?_, ?_⟩
    · unfold thresh_put.f
      rw [if_neg (by omega), if_pos (by omega), if_pos (by omega), Int.toNat_natCast]
    · rw [List.length_set, putF, if_neg (by omega)]
      omega
    · intro i hi j hj
      rw [putF]
      rw [List.length_set] at hi
      rw [rd_set t _ i _ hi]
      by_cases ci : i = F m
      · rw [if_pos ci]
        by_cases cj : j ≤ m
        · rw [if_pos cj]
          have : F j ≤ F m := hs.mono cj (by omega)
          constructor <;> intro _ <;> omega
        · rw [if_neg cj]
          constructor <;> intro _ <;> omega
      · rw [if_neg ci, h.2 i (by omega) j hj]
        by_cases cj : j ≤ m
        · rw [if_pos cj]
        · rw [if_neg cj]
          have : F m ≤ F j := hs.mono (by omega) hj
          constructor <;> intro _ <;> omega
/-- The count when the places of x from m on have been put. -/
def rowF (F : Nat → Nat) (b : List Int) (x : Int) (m : Nat) : Nat → Nat
  | 0 => 0
  | j + 1 => if m ≤ j ∧ rd b (j : Int) = x then F j + 1 else max (F (j + 1)) (rowF F b x m j)
theorem rowF_near {n : Nat} {F : Nat → Nat} (hs : Stair n F) (b : List Int) (x : Int) (m j : Nat) (hj : j ≤ n) : F j ≤ rowF F b x m j ∧ rowF F b x m j ≤ F j + 1 := by
  induction j with
  | zero => rw [rowF, hs.1]; omega
  | succ j ih =>
    have := ih (by omega)
    have := hs.2 j (by omega)
    rw [rowF]; split <;> omega
theorem rowF_stair {n : Nat} {F : Nat → Nat} (hs : Stair n F) (b : List Int) (x : Int) (m : Nat) : Stair n (rowF F b x m) := by
  refine ⟨by rw [rowF], fun j hj => ?_⟩
  have := rowF_near hs b x m j (by omega)
  have := hs.2 j hj
  rw [rowF]; split <;> omega
theorem rowF_below {n : Nat} {F : Nat → Nat} (hs : Stair n F) (b : List Int) (x : Int) (m j : Nat) (hj : j ≤ n) (hm : j ≤ m) : rowF F b x m j = F j := by
  induction j with
  | zero => rw [rowF, hs.1]
  | succ j ih =>
    have := hs.2 j (by omega)
    rw [rowF, if_neg (by omega), ih (by omega) (by omega)]; omega
theorem rowF_skip (F : Nat → Nat) (b : List Int) (x : Int) (m j : Nat) (h : rd b (m : Int) ≠ x) : rowF F b x m j = rowF F b x (m + 1) j := by
  induction j with
  | zero => rw [rowF, rowF]
  | succ j ih =>
    rw [rowF, rowF, ih]
    by_cases c : m ≤ j ∧ rd b (j : Int) = x
    · have hne : j ≠ m := fun e => h (e ▸ c.2)
      rw [if_pos c, if_pos ⟨by omega, c.2⟩]
    · rw [if_neg c, if_neg (fun q => c ⟨by omega, q.2⟩)]
theorem rowF_put {n : Nat} {F : Nat → Nat} (hs : Stair n F) (b : List Int) (x : Int) (m j : Nat) (hm : m < n) (hj : j ≤ n) (h : rd b (m : Int) = x) : rowF F b x m j = putF (rowF F b x (m + 1)) m j := by
  unfold putF
  rw [rowF_below hs b x (m + 1) m (by omega) (by omega)]
  induction j with
  | zero => rw [if_pos (by omega), rowF, rowF]
  | succ j ih =>
    have hi := ih (by omega)
    have hst := hs.2 m hm
    by_cases c0 : j + 1 ≤ m
    · rw [if_pos c0, rowF_below hs b x m (j + 1) hj c0, rowF_below hs b x (m + 1) (j + 1) hj (by omega)]
    · rw [if_neg c0]
      by_cases c1 : j = m
      · subst c1
        rw [rowF, if_pos ⟨by omega, h⟩, rowF_below hs b x (j + 1) (j + 1) hj (by omega)]; omega
      · rw [if_neg (by omega)] at hi
        have hle : F m ≤ F j := hs.mono (by omega) (by omega)
        rw [rowF, rowF]
        by_cases c2 : rd b (j : Int) = x
        · rw [if_pos ⟨by omega, c2⟩, if_pos ⟨by omega, c2⟩]; omega
        · rw [if_neg (fun q => c2 q.2), if_neg (fun q => c2 q.2), hi]; omega
theorem Cnt.congr {t : List Int} {n : Nat} {F G : Nat → Nat} (h : Cnt t n F) (e : ∀ j : Nat, j ≤ n → G j = F j) : Cnt t n G :=
  ⟨by rw [e n (Nat.le_refl n)]; exact h.1, fun i hi j hj => by rw [e j hj]; exact h.2 i hi j hj⟩
theorem go_snoc (k : Nat) (js : List Int) (j : Int) : ∀ r : List Int, thresh_Row.go k r (js ++ [j]) = (thresh_Row.go k r js).bind fun q => thresh_Row.go k q [j] := by
  induction js with
  | nil => intro r; rw [List.nil_append, show thresh_Row.go k r [] = some r from rfl, Option.bind_some]
  | cons a js ih =>
    intro r
    rw [List.cons_append, thresh_Row.go, thresh_Row.go]
    cases h1 : thresh_Find.f k r a with
    | none => rfl
    | some i =>
      rw [Option.bind_some, Option.bind_some]
      cases h2 : thresh_put.f r a i with
      | none => rfl
      | some q => rw [Option.bind_some, Option.bind_some]; exact ih q
theorem go_places {F : Nat → Nat} (b : List Int) (x : Int) (hb : b.length ≤ 100000) (hs : Stair b.length F) (t : List Int) (ht : Cnt t b.length F) {k : Nat} (hk : b.length < k) (d : Nat) : ∀ m : Nat, m + d = b.length →
    ∃ q, thresh_Row.go k t (pos x (b.drop m) m).reverse = some q ∧ Cnt q b.length (rowF F b x m) := by
  induction d with
  | zero =>
    intro m hm
    rw [List.drop_eq_nil_of_le (by omega)]
    exact ⟨t, rfl, ht.congr fun j hj => rowF_below hs b x m j hj (by omega)⟩
  | succ d ih =>
    intro m hm
    obtain ⟨q, q1, q2⟩ := ih (m + 1) (by omega)
    rw [drop_rd b (show m < b.length by omega), pos]
    by_cases c : rd b (m : Int) = x
    · rw [if_pos c, List.reverse_cons, go_snoc, q1, Option.bind_some]
      have hst := rowF_stair hs b x (m + 1)
      have hq := q2.1
      have htop := hst.top
      obtain ⟨i, u, u1, u2, u3⟩ := q2.put hst hb (show m < b.length by omega) (k := k) (by omega)
      rw [thresh_Row.go, u1, Option.bind_some, u2, Option.bind_some]
      exact ⟨u, rfl, u3.congr fun j hj => rowF_put hs b x m j (by omega) hj c⟩
    · rw [if_neg c]
      exact ⟨q, q1, q2.congr fun j hj => rowF_skip F b x m j c⟩
/-- How long a list both hold, the second one up to j. -/
def Lf (a b : List Int) (j : Nat) : Nat := L a (b.take j)
theorem Lf_stair (a b : List Int) : Stair b.length (Lf a b) := by
  refine ⟨by unfold Lf; rw [List.take_zero, L_nil_right], fun j hj => ?_⟩
  unfold Lf
  refine ⟨L_mono (List.Sublist.refl a) ?_, ?_⟩
  · rw [take_rd b hj]; exact List.sublist_append_left _ _
  · rw [take_rd b hj, ← L_rev a (b.take j ++ [_]), ← L_rev a (b.take j), List.reverse_append]
    exact L_cons_le' _ _ _
theorem rowF_L (a b : List Int) (x : Int) (j : Nat) (hj : j ≤ b.length) : rowF (Lf a b) b x 0 j = Lf (a ++ [x]) b j := by
  induction j with
  | zero => unfold rowF Lf; rw [List.take_zero, L_nil_right]
  | succ j ih =>
    have hi := ih (by omega)
    rw [rowF, hi]
    unfold Lf
    rw [take_rd b (show j < b.length by omega)]
    by_cases c : rd b (j : Int) = x
    · rw [if_pos ⟨by omega, c⟩, c, L_snoc_eq]
    · rw [if_neg (fun q => c q.2), L_snoc_ne (fun e => c e.symm)]
theorem row_goes (a b : List Int) (x : Int) (hb : b.length ≤ 100000) (t : List Int) (ht : Cnt t b.length (Lf a b)) {k : Nat} (hk : b.length < k) : ∃ q, thresh_Row.f k t (pos x b 0) = some q ∧ Cnt q b.length (Lf (a ++ [x]) b) := by
  have h0 := ht.1
  have h1 := (Lf_stair a b).top
  have h2 := pos_length x b 0
  obtain ⟨q, q1, q2⟩ := go_places b x hb (Lf_stair a b) t ht hk b.length 0 (by omega)
  rw [List.drop_zero] at q1
  refine ⟨q, ?_, q2.congr fun j hj => (rowF_L a b x j hj).symm⟩
  unfold thresh_Row.f slices_Clone_int_int.f
  rw [if_pos ⟨by omega, by omega⟩, if_pos (by omega), Option.bind_some, q1]

theorem plc_pos (s : Int) : ∀ (l : List Int) (i : Nat), Plc.pos s l i = pos s l i
  | [], _ => rfl
  | x :: xs, i => by rw [Plc.pos, pos, plc_pos s xs (i + 1)]
theorem wf_range (n : Int) (h1 : n ≤ 1000000) (l : List Int) (h : ∀ x ∈ l, 0 ≤ x ∧ x < n) : ∀ x ∈ l, (Lit.int .i64 x).wf = true := by
  intro x hx
  have := h x hx
  simp only [Lit.wf, IntKind.min, IntKind.max, IntKind.signed, IntKind.bits, Bool.and_eq_true, decide_eq_true_eq]
  simp
  omega

/-- How many places of two lists are alike. -/
def alikeOf : List Int → List Int → Int
  | [], _ => 0
  | x :: xs, b => (b.count x : Int) + alikeOf xs b
theorem alikeOf_le (a b : List Int) : 0 ≤ alikeOf a b ∧ alikeOf a b ≤ (a.length : Int) * b.length := by
  induction a with
  | nil => simp [alikeOf]
  | cons x xs ih =>
    have h := List.count_le_length (a := x) (l := b)
    rw [alikeOf, List.length_cons]
    have e : ((xs.length + 1 : Nat) : Int) * (b.length : Int) = (xs.length : Int) * b.length + b.length := by
      rw [Int.natCast_add, Int.add_mul]; simp
    omega
theorem alike_l1 (a b : List Int) (hb : b.length ≤ 100000) (i : Nat) (hi : i < a.length) (acc : Int) (h0 : 0 ≤ acc) (h1 : acc ≤ 1000000000000) (K : Nat) (r : Option Int) (d : Nat) : ∀ (k j : Nat) (c : Int), j + d = b.length → d + K < k → 0 ≤ c → c ≤ j → 
    (∀ k', K ≤ k' → tattingref1_Alike.l0 k' a b (wrap64 (acc + c + ((b.drop j).count (rd a (i : Int)) : Int))) (wrap64 ((i : Int) + 1)) = r) → tattingref1_Alike.l1 k a b (acc + c) (i : Int) (j : Int) = r := by
  induction d with
  | zero =>
    intro k j c hj hk hc0 hc1 hr
    obtain ⟨k, rfl⟩ := round hk
    simp only [tattingref1_Alike.l1]
    rw [if_neg (by omega)]
    have h := hr k (by omega)
    rw [List.drop_eq_nil_of_le (by omega)] at h
    rw [List.count_nil, wrap_id (by simp; omega) (by simp; omega)] at h
    simpa using h
  | succ d ih =>
    intro k j c hj hk hc0 hc1 hr
    obtain ⟨k, rfl⟩ := round hk
    simp only [tattingref1_Alike.l1]
    rw [if_pos (by omega), if_pos (by omega), if_pos (by omega), if_pos (by omega), wrap_succ (by omega)]
    rw [drop_rd b (by omega)] at hr
    by_cases e : rd a (i : Int) = rd b (j : Int)
    · rw [if_pos e, wrap_id (by omega) (by omega), show acc + c + 1 = acc + (c + 1) by omega]
      refine ih k (j + 1) (c + 1) (by omega) (by omega) (by omega) (by omega) ?_
      intro k' hk'
      rw [← hr k' hk', e, List.count_cons_self]
      congr 2; omega
    · rw [if_neg e]
      refine ih k (j + 1) c (by omega) (by omega) (by omega) (by omega) ?_
      intro k' hk'
      rw [← hr k' hk', List.count_cons_of_ne (fun q => e q.symm)]
theorem alike_l0 (a b : List Int) (ha : a.length ≤ 100000) (hb : b.length ≤ 100000) (d : Nat) : ∀ (k i : Nat) (acc : Int), i + d = a.length → d * (b.length + 2) < k → 0 ≤ acc → acc + alikeOf (a.drop i) b ≤ 100000000000 →
    tattingref1_Alike.l0 k a b acc (i : Int) = some (acc + alikeOf (a.drop i) b) := by
  induction d with
  | zero =>
    intro k i acc hi hk h0 h1
    obtain ⟨k, rfl⟩ := round hk
    simp only [tattingref1_Alike.l0]
    rw [if_neg (by omega), List.drop_eq_nil_of_le (by omega)]
    simp [alikeOf]
  | succ d ih =>
    intro k i acc hi hk h0 h1
    rw [Nat.succ_mul] at hk
    obtain ⟨k, rfl⟩ := round hk
    simp only [tattingref1_Alike.l0]
    rw [drop_rd a (by omega), alikeOf] at h1 ⊢
    have hp := (alikeOf_le (a.drop (i + 1)) b).1
    rw [if_pos (by omega)]
    have h := alike_l1 a b hb i (by omega) acc h0 (by omega) (d * (b.length + 2) + 1) (some (acc + ((b.count (rd a (i : Int)) : Int) + alikeOf (a.drop (i + 1)) b))) b.length k 0 0 (by omega) (by omega) (by omega) (by omega)
    rw [Int.add_zero] at h
    refine h ?_
    intro k' hk'
    rw [List.drop_zero, wrap_succ (by omega), wrap_id (by omega) (by omega), ih k' (i + 1) _ (by omega) (by omega) (by omega) (by omega)]
    congr 1; omega
theorem alike (a b : List Int) (ha : a.length ≤ 100000) (hb : b.length ≤ 100000) {k : Nat} (hk : a.length * (b.length + 2) < k) : tattingref1_Alike.f k a b = some (alikeOf a b) := by
  have hm : (a.length : Int) * b.length ≤ 10000000000 := by
    have := Nat.mul_le_mul ha hb
    have e : ((a.length * b.length : Nat) : Int) ≤ ((100000 * 100000 : Nat) : Int) := Int.ofNat_le.mpr this
    simpa using e
  have h := alike_l0 a b ha hb a.length k 0 0 (by omega) hk (by omega) (by rw [List.drop_zero]; have := (alikeOf_le a b).2; omega)
  rw [List.drop_zero, Int.zero_add] at h
  exact h

theorem etaP (p : S42) : (⟨p.f0, p.f1⟩ : S42) = p := rfl
theorem rdP_set (l : List S42) (i n : Nat) (x : S42) (h : n < l.length) : rd_T42 (l.set i x) (n : Int) = if n = i then x else rd_T42 l (n : Int) := by
  rw [rdP_at _ (by rw [List.length_set]; exact h), rdP_at _ h, List.getElem_set]
  by_cases e : n = i
  · rw [if_pos e, if_pos e.symm]
  · rw [if_neg e, if_neg (fun q => e q.symm)]
theorem list_extP {l m : List S42} (h : l.length = m.length) (k : ∀ n : Nat, n < l.length → rd_T42 l (n : Int) = rd_T42 m (n : Int)) : l = m := by
  refine List.ext_getElem h fun n h1 h2 => ?_
  have := k n h1
  rwa [rdP_at l h1, rdP_at m h2] at this
theorem reverseP_l0 (l : List S42) (hl : l.length ≤ 1000000) (d : Nat) : ∀ (k i : Nat) (y : List S42), l.length ≤ 2 * i + d → d < k → i ≤ l.length → y.length = l.length → (∀ t, t < l.length → rd_T42 y (t : Int) = if t < i ∨ l.length ≤ t + i then rd_T42 l ((l.length - 1 - t : Nat) : Int) else rd_T42 l (t : Int)) →
    api_Pair.l0 k y (i : Int) ((l.length : Int) - 1 - i) = some l.reverse := by
  have fin : ∀ (y : List S42) (i : Nat), y.length = l.length → l.length ≤ 2 * i + 1 → i ≤ l.length → (∀ t, t < l.length → rd_T42 y (t : Int) = if t < i ∨ l.length ≤ t + i then rd_T42 l ((l.length - 1 - t : Nat) : Int) else rd_T42 l (t : Int)) → y = l.reverse := by
    intro y i hy hi hi' h
    apply list_extP (by rw [hy, List.length_reverse])
    intro t ht
    have hr : rd_T42 l.reverse (t : Int) = rd_T42 l ((l.length - 1 - t : Nat) : Int) := by
      rw [rdP_at _ (by rw [List.length_reverse]; omega), rdP_at _ (by omega), List.getElem_reverse]
    rw [hr, h t (by omega)]
    by_cases c : t < i ∨ l.length ≤ t + i
    · rw [if_pos c]
    · rw [if_neg c, show l.length - 1 - t = t by omega]
  induction d with
  | zero =>
    intro k i y hi hk hi' hy h
    obtain ⟨k, rfl⟩ := round hk
    simp only [api_Pair.l0, etaP]
    rw [if_neg (by omega), fin y i hy (by omega) hi' h]
  | succ d ih =>
    intro k i y hi hk hi' hy h
    obtain ⟨k, rfl⟩ := round hk
    simp only [api_Pair.l0, etaP]
    by_cases c : 2 * i + 1 < l.length
    · have ej : (l.length : Int) - 1 - i = ((l.length - 1 - i : Nat) : Int) := by omega
      have E1 := Aside0.mk (show wrap64 ((i : Int) + 1) = ((i + 1 : Nat) : Int) from wrap_succ (by omega))
      have E2 := Aside0.mk (show wrap64 (((l.length - 1 - i : Nat) : Int) - 1) = (l.length : Int) - 1 - ((i + 1 : Nat) : Int) from by rw [wrap_id (by omega) (by omega)]; omega)
      rw [ej, if_pos (by omega), if_pos (by omega), if_pos (by omega), if_pos (by omega), if_pos (by omega), E1.out, E2.out]
      simp only [Int.toNat_natCast]
      refine ih k (i + 1) _ (by omega) (by omega) (by omega) (by rw [List.length_set, List.length_set]; exact hy) ?_
      intro t ht
      rw [rdP_set _ _ _ _ (by rw [List.length_set]; omega), rdP_set _ _ _ _ (by omega), h (l.length - 1 - i) (by omega), h i (by omega), h t ht]
      by_cases c1 : t = l.length - 1 - i
      · rw [if_pos c1, if_neg (by omega), if_pos (by omega), c1, show l.length - 1 - (l.length - 1 - i) = i by omega]
      · rw [if_neg c1]
        by_cases c2 : t = i
        · rw [if_pos c2, if_neg (by omega), if_pos (by omega), c2]
        · rw [if_neg c2]
          by_cases c3 : t < i ∨ l.length ≤ t + i
          · rw [if_pos c3, if_pos (by omega)]
          · rw [if_neg c3, if_neg (by omega)]
    · rw [if_neg (by omega), fin y i hy (by omega) hi' h]
theorem reverseP (l : List S42) (hl : l.length ≤ 1000000) {k : Nat} (hk : l.length < k) : api_Pair.f k l = some l.reverse := by
  unfold api_Pair.f
  rw [wrap_id (by omega) (by omega)]
  have h := reverseP_l0 l hl l.length k 0 l (by omega) hk (by omega) rfl (fun t ht => by rw [if_neg (by omega)])
  rw [show (l.length : Int) - 1 - ((0 : Nat) : Int) = (l.length : Int) - 1 by omega] at h
  exact h

/-- Pairs that fall from two places on, and are alike. -/
def Down (a b : List Int) : Int → Int → List (Int × Int) → Prop
  | _, _, [] => True
  | I, J, p :: c => 0 ≤ p.1 ∧ p.1 < I ∧ 0 ≤ p.2 ∧ p.2 < J ∧ rd a p.1 = rd b p.2 ∧ Down a b p.1 p.2 c
theorem down_good (a b : List Int) : ∀ (c : List (Int × Int)) (I J : Int), 0 ≤ I → 0 ≤ J → I ≤ (a.length : Int) → J ≤ (b.length : Int) → Down a b I J c → GoodFrom a b 0 0 (hunt_Run.pairs c).reverse ∧ endI 0 (hunt_Run.pairs c).reverse ≤ I ∧ endJ 0 (hunt_Run.pairs c).reverse ≤ J
  | [], I, J, hI, hJ, _, _, _ => ⟨trivial, hI, hJ⟩
  | p :: c, I, J, hI, hJ, hIa, hJb, h => by
    obtain ⟨h1, h2, h3, h4, h5, h6⟩ := h
    obtain ⟨g1, g2, g3⟩ := down_good a b c p.1 p.2 h1 h3 (by omega) (by omega) h6
    have e : (hunt_Run.pairs (p :: c)).reverse = (hunt_Run.pairs c).reverse ++ [(⟨p.1, p.2⟩ : S42)] := by
      unfold hunt_Run.pairs
      rw [List.map_cons, List.reverse_cons]
    rw [e]
    refine ⟨goodFrom_append a b _ _ 0 0 g1 ⟨g2, by show p.1 < _; omega, g3, by show p.2 < _; omega, h5, trivial⟩, ?_, ?_⟩
    · rw [endI_append]; show p.1 + 1 ≤ I; omega
    · rw [endJ_append]; show p.2 + 1 ≤ J; omega
/-- What stands at a threshold: a list of pairs that ends at it, of the right length. -/
def Ent (a b t : List Int) (i m u : Nat) (c : List (Int × Int)) : Prop := ∃ (i' : Nat) (c' : List (Int × Int)), c = ((i' : Int), rd t (u : Int)) :: c' ∧ c'.length = u ∧ i' ≤ i ∧ (i' = i → (m : Int) ≤ rd t (u : Int)) ∧ rd a (i' : Int) = rd b (rd t (u : Int)) ∧ Down a b (i' : Int) (rd t (u : Int)) c'
def Ents (a b : List Int) (i m : Nat) (s : List Int × List (List (Int × Int))) : Prop := s.2.length = s.1.length ∧ ∀ u : Nat, u < s.1.length → Ent a b s.1 i m u (s.2.getD u [])
theorem row_snoc (k : Nat) (i : Int) (j : Int) : ∀ (js : List Int) (s : List Int × List (List (Int × Int))), hunt_Run.row k i s (js ++ [j]) = (hunt_Run.row k i s js).bind fun q => hunt_Run.step k i q j
  | [], s => by
    rw [List.nil_append, hunt_Run.row]
    show ((hunt_Run.step k i s j).bind fun q => some q) = hunt_Run.step k i s j
    cases hunt_Run.step k i s j <;> rfl
  | x :: js, s => by
    rw [List.cons_append, hunt_Run.row, hunt_Run.row]
    cases hunt_Run.step k i s x with
    | none => rfl
    | some q => exact row_snoc k i j js q
theorem getD_app (l : List (List (Int × Int))) (c : List (Int × Int)) (u : Nat) (h : u ≤ l.length) : (l ++ [c]).getD u [] = if u = l.length then c else l.getD u [] := by
  rw [List.getD_eq_getElem?_getD, List.getD_eq_getElem?_getD, List.getElem?_append]
  by_cases e : u = l.length
  · subst e; simp
  · rw [if_pos (by omega), if_neg e]
theorem getD_setC (l : List (List (Int × Int))) (c : List (Int × Int)) (r u : Nat) (h : u < l.length) : (l.set r c).getD u [] = if u = r then c else l.getD u [] := by
  rw [List.getD_eq_getElem?_getD, List.getD_eq_getElem?_getD, List.getElem?_set]
  by_cases e : r = u
  · subst e; rw [if_pos rfl, if_pos h, if_pos rfl]; rfl
  · rw [if_neg e, if_neg (fun q => e q.symm)]
theorem step_goes (a b : List Int) (i m : Nat) {F : Nat → Nat} (hs : Stair b.length F) (hb : b.length ≤ 100000) (hm : m < b.length) (hx : rd a (i : Int) = rd b (m : Int)) (s : List Int × List (List (Int × Int))) (ht : Cnt s.1 b.length F) (he : Ents a b i (m + 1) s) {k : Nat} (hk : b.length < k) :
    ∃ q, hunt_Run.step k (i : Int) s (m : Int) = some q ∧ Cnt q.1 b.length (putF F m) ∧ Ents a b i m q := by
  have htop := hs.top
  have hl := ht.1
  obtain ⟨v, t', h1, h2, h3⟩ := ht.put hs hb hm (k := k) (by omega)
  obtain ⟨r, r1, r2, r3, r4⟩ := bs s.1 (m : Int) (by omega) (ht.rising hs) (k := k) (by omega)
  have hv : v = (r : Int) := by
    unfold thresh_Find.f at h1
    rw [r1, Option.bind_some] at h1
    exact (Option.some.inj h1).symm
  subst hv
  obtain ⟨e1, e2⟩ := he
  have et : t' = (if (r : Int) = (s.1.length : Int) then s.1 ++ [(m : Int)] else s.1.set (r : Int).toNat (m : Int)) := by
    unfold thresh_put.f at h2
    by_cases c : (r : Int) = (s.1.length : Int)
    · rw [if_pos c, if_pos (by omega)] at h2
      rw [if_pos c]; exact (Option.some.inj h2).symm
    · rw [if_neg c, if_pos (by omega), if_pos (by omega)] at h2
      rw [if_neg c]; exact (Option.some.inj h2).symm
  have hrd : ∀ u : Nat, u < t'.length → rd t' (u : Int) = if u = r then (m : Int) else rd s.1 (u : Int) := by
    intro u hu
    rw [et] at hu ⊢
    by_cases c : (r : Int) = (s.1.length : Int)
    · rw [if_pos c, List.length_append, List.length_singleton] at hu
      rw [if_pos c, rd_app s.1 _ u (by omega), show s.1.length = r by omega]
    · rw [if_neg c, List.length_set] at hu
      rw [if_neg c, Int.toNat_natCast, rd_set s.1 r u _ hu]
  have hlen : t'.length = if (r : Int) = (s.1.length : Int) then s.1.length + 1 else s.1.length := by
    rw [et]; split <;> simp
  have hnow : Down a b (i : Int) (m : Int) (if 0 < (r : Int) then s.2.getD ((r : Int) - 1).toNat [] else []) ∧ (if 0 < (r : Int) then s.2.getD ((r : Int) - 1).toNat [] else []).length = r := by
    by_cases c : 0 < r
    · rw [if_pos (by omega)]
      have er : ((r : Int) - 1).toNat = r - 1 := by omega
      rw [er]
      obtain ⟨i', c', g1, g2, g3, g4, g5, g6⟩ := e2 (r - 1) (by omega)
      obtain ⟨w, hw, hwn, _⟩ := ht.val hs (show r - 1 < s.1.length by omega)
      have hlt := r3 (r - 1) (by omega)
      have hi : i' ≠ i := fun q => by have := g4 q; omega
      rw [g1]
      refine ⟨⟨by show (0 : Int) ≤ (i' : Int); omega, by show (i' : Int) < i; omega, by show (0 : Int) ≤ rd s.1 _; omega, hlt, g5, g6⟩, by rw [List.length_cons, g2]; omega⟩
    · rw [if_neg (by omega)]
      exact ⟨trivial, by show 0 = r; omega⟩
  obtain ⟨now, hnw⟩ : ∃ now, now = ((i : Int), (m : Int)) :: (if 0 < (r : Int) then s.2.getD ((r : Int) - 1).toNat [] else []) := ⟨_, rfl⟩
  refine ⟨(t', if (r : Int) = (s.1.length : Int) then s.2 ++ [now] else s.2.set (r : Int).toNat now), ?_, h3, ?_, ?_⟩
  · unfold hunt_Run.step
    rw [h1, Option.bind_some, ← hnw, ← et]
  · show (if (r : Int) = (s.1.length : Int) then s.2 ++ [now] else s.2.set (r : Int).toNat now).length = t'.length
    rw [hlen]; split <;> simp [e1]
  · intro u hu
    have hu' : u < t'.length := hu
    have hrdu := hrd u hu'
    have hch : (if (r : Int) = (s.1.length : Int) then s.2 ++ [now] else s.2.set (r : Int).toNat now).getD u [] = if u = r then now else s.2.getD u [] := by
      rw [hlen] at hu'
      by_cases c : (r : Int) = (s.1.length : Int)
      · rw [if_pos c] at hu' ⊢
        rw [getD_app _ _ _ (by omega), show s.2.length = r by omega]
      · rw [if_neg c] at hu' ⊢
        rw [Int.toNat_natCast, getD_setC _ _ _ _ (by omega)]
    show Ent a b t' i m u ((if (r : Int) = (s.1.length : Int) then s.2 ++ [now] else s.2.set (r : Int).toNat now).getD u [])
    rw [hch]
    by_cases c : u = r
    · rw [if_pos c] at hrdu ⊢
      subst c
      refine ⟨i, _, by rw [hrdu]; exact hnw, hnow.2, Nat.le_refl _, fun _ => by rw [hrdu]; omega, by rw [hrdu]; exact hx, by rw [hrdu]; exact hnow.1⟩
    · rw [if_neg c] at hrdu ⊢
      have hul : u < s.1.length := by rw [hlen] at hu'; split at hu' <;> omega
      obtain ⟨i', c', g1, g2, g3, g4, g5, g6⟩ := e2 u hul
      exact ⟨i', c', by rw [hrdu]; exact g1, g2, g3, fun q => by rw [hrdu]; have := g4 q; omega, by rw [hrdu]; exact g5, by rw [hrdu]; exact g6⟩
theorem row_places (a b : List Int) (i : Nat) (x : Int) {F : Nat → Nat} (hx : rd a (i : Int) = x) (hb : b.length ≤ 100000) (hs : Stair b.length F) (s : List Int × List (List (Int × Int))) (ht : Cnt s.1 b.length F) (he : Ents a b i b.length s) {k : Nat} (hk : b.length < k) (d : Nat) : ∀ m : Nat, m + d = b.length →
    ∃ q, hunt_Run.row k (i : Int) s (pos x (b.drop m) m).reverse = some q ∧ Cnt q.1 b.length (rowF F b x m) ∧ Ents a b i m q := by
  induction d with
  | zero =>
    intro m hm
    rw [List.drop_eq_nil_of_le (by omega)]
    refine ⟨s, rfl, ht.congr fun j hj => rowF_below hs b x m j hj (by omega), ?_⟩
    rw [show m = b.length by omega]; exact he
  | succ d ih =>
    intro m hm
    obtain ⟨q, q1, q2, q3⟩ := ih (m + 1) (by omega)
    rw [drop_rd b (show m < b.length by omega), pos]
    by_cases c : rd b (m : Int) = x
    · rw [if_pos c, List.reverse_cons, row_snoc, q1, Option.bind_some]
      obtain ⟨u, u1, u2, u3⟩ := step_goes a b i m (rowF_stair hs b x (m + 1)) hb (by omega) (by rw [hx, c]) q q2 q3 hk
      exact ⟨u, u1, u2.congr fun j hj => rowF_put hs b x m j (by omega) hj c, u3⟩
    · rw [if_neg c]
      refine ⟨q, q1, q2.congr fun j hj => rowF_skip F b x m j c, q3.1, fun u hu => ?_⟩
      obtain ⟨i', c', g1, g2, g3, g4, g5, g6⟩ := q3.2 u hu
      exact ⟨i', c', g1, g2, g3, fun q => by have := g4 q; omega, g5, g6⟩
theorem run_go (a b : List Int) (hb : b.length ≤ 100000) {k : Nat} (hk : b.length < k) (d : Nat) : ∀ (i : Nat) (s : List Int × List (List (Int × Int))), i + d = a.length → Cnt s.1 b.length (Lf (a.take i) b) → Ents a b i b.length s →
    ∃ q, hunt_Run.go k b i s (a.drop i) = some q ∧ Cnt q.1 b.length (Lf a b) ∧ Ents a b a.length b.length q := by
  induction d with
  | zero =>
    intro i s hi ht he
    rw [List.drop_eq_nil_of_le (by omega)]
    rw [List.take_of_length_le (by omega)] at ht
    refine ⟨s, rfl, ht, ?_⟩
    rw [show a.length = i by omega]; exact he
  | succ d ih =>
    intro i s hi ht he
    rw [drop_rd a (show i < a.length by omega), hunt_Run.go, plc_pos]
    obtain ⟨q, q1, q2, q3⟩ := row_places a b i (rd a (i : Int)) rfl hb (Lf_stair _ b) s ht he hk b.length 0 (by omega)
    rw [List.drop_zero] at q1
    rw [q1, Option.bind_some]
    refine ih (i + 1) q (by omega) ?_ ⟨q3.1, fun u hu => ?_⟩
    · rw [take_rd a (show i < a.length by omega)]
      exact q2.congr fun j hj => (rowF_L (a.take i) b _ j hj).symm
    · obtain ⟨i', c', g1, g2, g3, g4, g5, g6⟩ := q3.2 u hu
      exact ⟨i', c', g1, g2, by omega, fun q => by omega, g5, g6⟩

theorem pos_count (x : Int) : ∀ (b : List Int) (i : Nat), (pos x b i).length = b.count x
  | [], _ => by simp [pos]
  | y :: b, i => by
    rw [pos, List.count_cons]
    by_cases c : y = x
    · rw [if_pos c, List.length_cons, pos_count x b (i + 1)]; simp [c]
    · rw [if_neg c, pos_count x b (i + 1)]; simp [c]
theorem many_from (b : List Int) : ∀ (a : List Int) (s : Int), a.foldl (fun s x => s + ((Plc.pos x b 0).length : Int)) s = s + alikeOf a b
  | [], s => by simp [alikeOf]
  | x :: xs, s => by rw [List.foldl_cons, many_from b xs, alikeOf, plc_pos, pos_count]; omega
theorem many_eq (a b : List Int) : hunt_Hits.many a b = alikeOf a b := by
  unfold hunt_Hits.many; rw [many_from]; omega
theorem hits_eq (a b : List Int) (ha : a.length ≤ 1000) (hb : b.length ≤ 1000) (wa : ∀ x ∈ a, (Lit.int .i64 x).wf = true) (wb : ∀ x ∈ b, (Lit.int .i64 x).wf = true) : hunt_Hits.f a b = some (alikeOf a b) := by
  unfold hunt_Hits.f
  rw [if_pos ⟨by omega, by omega, List.all_eq_true.mpr wa, List.all_eq_true.mpr wb⟩, many_eq]
theorem last_at (l : List (List (Int × Int))) (h : 0 < l.length) : l.getLastD [] = l.getD (l.length - 1) [] := by
  cases l with
  | nil => simp at h
  | cons x xs => rw [List.getLastD_cons, List.getD_eq_getElem?_getD, List.getLastD_eq_getLast?, List.getLast?_eq_getElem?]; cases xs <;> simp
theorem run_all (a b : List Int) (ha : a.length ≤ 1000) (hb : b.length ≤ 1000) (wa : ∀ x ∈ a, (Lit.int .i64 x).wf = true) (wb : ∀ x ∈ b, (Lit.int .i64 x).wf = true) {k : Nat} (hk : 1001 < k) :
    ∃ l, hunt_Run.f k a b = some (l, alikeOf a b) ∧ GoodFrom a b 0 0 l ∧ l.length = L a b := by
  have c0 : Cnt [] b.length (Lf (a.take 0) b) := by
    refine ⟨?_, fun i hi => by simp at hi⟩
    unfold Lf
    rw [List.take_zero]
    cases b <;> simp [L]
  obtain ⟨q, q1, q2, q3⟩ := run_go a b (by omega) (k := k) (by omega) a.length 0 ([], []) (by omega) c0 ⟨rfl, fun u hu => by simp at hu⟩
  rw [List.drop_zero] at q1
  have hl : q.1.length = L a b := by rw [q2.1]; unfold Lf; rw [List.take_length]
  have hL := L_le_left a b
  have hg : GoodFrom a b 0 0 (hunt_Run.pairs (q.2.getLastD [])).reverse ∧ (q.2.getLastD []).length = L a b := by
    by_cases c : 0 < q.1.length
    · rw [last_at q.2 (by rw [q3.1]; exact c), q3.1]
      obtain ⟨i', c', g1, g2, g3, g4, g5, g6⟩ := q3.2 (q.1.length - 1) (by omega)
      obtain ⟨v, hv, hvn, _⟩ := q2.val (Lf_stair a b) (show q.1.length - 1 < q.1.length by omega)
      have hi : i' < a.length := by
        by_cases e : i' = a.length
        · have := g4 e; omega
        · omega
      rw [g1]
      refine ⟨(down_good a b (((i' : Int), rd q.1 ((q.1.length - 1 : Nat) : Int)) :: c') (a.length : Int) (b.length : Int) (by omega) (by omega) (by omega) (by omega) ⟨by show (0 : Int) ≤ (i' : Int); omega, by show (i' : Int) < _; omega, by show (0 : Int) ≤ rd q.1 _; omega, by show rd q.1 _ < _; omega, g5, g6⟩).1, by rw [List.length_cons, g2]; omega⟩
    · have e : q.2 = [] := List.length_eq_zero_iff.mp (by rw [q3.1]; omega)
      rw [e]
      exact ⟨trivial, by show 0 = L a b; omega⟩
  have hp : (hunt_Run.pairs (q.2.getLastD [])).length = L a b := by unfold hunt_Run.pairs; rw [List.length_map]; exact hg.2
  refine ⟨(hunt_Run.pairs (q.2.getLastD [])).reverse, ?_, hg.1, by rw [List.length_reverse, hp]⟩
  unfold hunt_Run.f
  rw [if_pos ⟨ha, hb, List.all_eq_true.mpr wa, List.all_eq_true.mpr wb⟩, q1, Option.bind_some, reverseP _ (by rw [hp]; omega) (by rw [hp]; omega), Option.bind_some, hits_eq a b ha hb wa wb, Option.bind_some]

theorem awake : tattinglaw16_awake.f 60 = some true := by decide +kernel
theorem L_alike (y : List Int) : ∀ x : List Int, (L x y : Int) ≤ alikeOf x y
  | [] => by rw [L_nil_left]; exact Int.le_refl _
  | v :: x => by
    have ih := L_alike y x
    rw [alikeOf]
    by_cases c : v ∈ y
    · have := L_cons_le v x y
      have : 0 < y.count v := List.count_pos_iff.mpr c
      omega
    · have e : L (v :: x) y ≤ L x y := by
        refine L_le_of _ _ _ _ fun s h1 h2 => ⟨s, rfl, ?_, h2⟩
        rcases List.sublist_cons_iff.mp h1 with h | ⟨r, rfl, h⟩
        · exact h
        · exact absurd (h2.subset (List.mem_cons_self ..)) c
      omega
theorem HuntFew : tattinglaw16_HuntFew.Pure := by
  intro a b _ _ _ _ _ _
  refine ⟨20000, ?_⟩
  unfold tattinglaw16_HuntFew.f
  rw [at_rounds tattinglaw16_awake.mono (by decide) awake, Option.bind_some, if_pos rfl]
  have skip : tattinglaw16_HuntFew.j0 20000 a b true = some true := by simp [tattinglaw16_HuntFew.j0]
  by_cases h0 : (a.length : Int) = 0
  · rw [if_pos h0]; exact skip
  rw [if_neg h0]
  by_cases h1 : (a.length : Int) > 30
  · rw [if_pos h1]; exact skip
  rw [if_neg h1]
  by_cases h2 : (b.length : Int) > 30
  · rw [decide_eq_true h2]; exact skip
  rw [decide_eq_false h2]
  clear skip
  simp only [tattinglaw16_HuntFew.j0]
  have lx : (fewOf a 4).length = a.length := fewOf_length a 4
  have ly : (fewOf b 4).length ≤ 30 := by rw [fewOf_length]; omega
  have wa := wf_range 4 (by decide) _ (fewOf_range a 4 (by decide))
  have wb := wf_range 4 (by decide) _ (fewOf_range b 4 (by decide))
  rw [if_neg (by decide), few a 4 (by decide) (by decide) (by omega) (by omega), Option.bind_some, few b 4 (by decide) (by decide) (by omega) (by omega), Option.bind_some]
  generalize fewOf a 4 = x at *
  generalize fewOf b 4 = y at *
  match x, lx, wa with
  | [], lx, _ => exact absurd (by rw [← lx]; rfl) h0
  | v :: x, lx, wa =>
    rw [List.length_cons] at lx
    obtain ⟨l, l1, l2, l3⟩ := run_all (v :: x) y (by rw [List.length_cons]; omega) (by omega) wa wb (k := 19999) (by omega)
    obtain ⟨m, m1, m2, m3⟩ := run_all x y (by omega) (by omega) (fun z hz => wa z (List.mem_cons_of_mem _ hz)) wb (k := 19999) (by omega)
    have q1 := alikeOf_le (v :: x) y
    have q2 := L_alike y (v :: x)
    have q3 := L_le_cons v x y
    have q4 : alikeOf (v :: x) y = (y.count v : Int) + alikeOf x y := rfl
    have q5 := alikeOf_le x y
    have q6 : y.count v ≤ y.length := List.count_le_length
    have hp : (((v :: x).length : Nat) : Int) * (y.length : Int) ≤ 900 := by
      have := Nat.mul_le_mul (show (v :: x).length ≤ 30 by rw [List.length_cons]; omega) ly
      have e : (((v :: x).length : Nat) : Int) * (y.length : Int) = (((v :: x).length * y.length : Nat) : Int) := by simp
      omega
    have hp0 : 0 ≤ (((v :: x).length : Nat) : Int) * (y.length : Int) := by omega
    have q7 : alikeOf [v] y = (y.count v : Int) := by simp [alikeOf]
    rw [l1, Option.bind_some, if_pos (by rw [List.length_cons]; omega), show List.drop 1 (v :: x) = x from rfl, m1, Option.bind_some]
    dsimp only
    rw [wrap_id (i := (((v :: x).length : Nat) : Int) * (y.length : Int)) (by omega) (by omega), if_pos q1.2, if_pos (by omega), if_pos (by omega), if_pos (by omega), show List.take 1 (v :: x) = [v] from rfl, alike [v] y (by simp) (by omega) (by simp; omega), Option.bind_some, q7, wrap_id (by omega) (by omega)]
    simp
    omega

end Go.Proofs.Ytkhplimibgjmoaa.Pure
