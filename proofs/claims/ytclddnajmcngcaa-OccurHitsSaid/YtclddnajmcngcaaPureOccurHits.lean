/- For every two lists of at most 80 numbers, brought to few: how many places all numbers of the first have in the second is how many pairs of places are alike. -/
import Derived.Test.YtclddnajmcngcaaPOccurHitsx2
import Derived.Test.YtclddnajmcngcaaWSized
namespace Go.Proofs.Ytclddnajmcngcaa.PrintWords
set_option linter.defProp false in
/-- The printed row names this lemma without the seat-wide namespace. -/
def sized_ints := @Go.Proofs.YtclddnajmcngcaaW.PrintWords.sized_ints
end Go.Proofs.Ytclddnajmcngcaa.PrintWords
namespace Go.Proofs.Ytclddnajmcngcaa.Pure
open Go.RowKit Go.Proofs.Ytclddnajmcngcaa.POccurHits Go.Proofs.YtclddnajmcngcaaW.PrintWords Go.Proofs.YtclddnajmcngcaaW.PrintLast Go.Proofs.YtclddnajmcngcaaW.PrintMore
set_option linter.unusedVariables false
set_option linter.unusedSimpArgs false

theorem wrap_id {i : Int} (h0 : -9223372036854775808 ≤ i) (h1 : i < 9223372036854775808) : wrap64 i = i := by unfold wrap64; omega
theorem wrap_succ {n : Nat} (h : n < 9223372036854775807) : wrap64 ((n : Int) + 1) = ((n + 1 : Nat) : Int) := by unfold wrap64; omega

theorem rd_at (l : List Int) {n : Nat} (h : n < l.length) : rd l (n : Int) = l[n] := by
  unfold rd; rw [Int.toNat_natCast, List.getD_eq_getElem?_getD, List.getElem?_eq_getElem h]; rfl
theorem rd_d (l : List Int) (n : Nat) : rd l (n : Int) = l.getD n 0 := rfl
theorem rd_out (l : List Int) {n : Nat} (h : l.length ≤ n) : rd l (n : Int) = 0 := by
  rw [rd_d, List.getD_eq_getElem?_getD, List.getElem?_eq_none h]; rfl
theorem drop_rd (l : List Int) {n : Nat} (h : n < l.length) : l.drop n = rd l (n : Int) :: l.drop (n + 1) := by
  rw [rd_at l h]; exact List.drop_eq_getElem_cons h
theorem take_rd (l : List Int) {n : Nat} (h : n < l.length) : l.take (n + 1) = l.take n ++ [rd l (n : Int)] := by
  rw [rd_at l h, List.take_succ_eq_append_getElem h]
theorem rd_mem (l : List Int) {n : Nat} (h : n < l.length) : rd l (n : Int) ∈ l := by rw [rd_at l h]; exact List.getElem_mem h
theorem rd_app_lt (l : List Int) (x : Int) {n : Nat} (h : n < l.length) : rd (l ++ [x]) (n : Int) = rd l (n : Int) := by
  rw [rd_at _ (by rw [List.length_append]; omega), rd_at _ h, List.getElem_append_left h]
theorem rd_app_eq (l : List Int) (x : Int) : rd (l ++ [x]) (l.length : Int) = x := by
  rw [rd_at _ (by rw [List.length_append, List.length_singleton]; omega)]; simp
theorem rd_app (l : List Int) (x : Int) (n : Nat) (h : n ≤ l.length) : rd (l ++ [x]) (n : Int) = if n = l.length then x else rd l (n : Int) := by
  by_cases e : n = l.length
  · rw [if_pos e, e, rd_app_eq]
  · rw [if_neg e, rd_app_lt _ _ (by omega)]
theorem rd_set (l : List Int) (i n : Nat) (x : Int) (h : n < l.length) : rd (l.set i x) (n : Int) = if n = i then x else rd l (n : Int) := by
  rw [rd_at _ (by rw [List.length_set]; exact h), rd_at _ h, List.getElem_set]
  by_cases e : n = i
  · rw [if_pos e, if_pos e.symm]
  · rw [if_neg e, if_neg (fun q => e q.symm)]
theorem rd_replicate (m n : Nat) (x : Int) (h : n < m) : rd (List.replicate m x) (n : Int) = x := by
  rw [rd_at _ (by rw [List.length_replicate]; exact h), List.getElem_replicate]
theorem rd_take (l : List Int) {m n : Nat} (h : n < m) (hm : m ≤ l.length) : rd (l.take m) (n : Int) = rd l (n : Int) := by
  rw [rd_at _ (by rw [List.length_take]; omega), rd_at _ (by omega), List.getElem_take]
theorem rd_drop (l : List Int) (m n : Nat) : rd (l.drop m) (n : Int) = rd l ((m + n : Nat) : Int) := by
  rw [rd_d, rd_d, List.getD_eq_getElem?_getD, List.getD_eq_getElem?_getD, List.getElem?_drop]
theorem list_ext {l m : List Int} (h : l.length = m.length) (k : ∀ n : Nat, n < l.length → rd l (n : Int) = rd m (n : Int)) : l = m := by
  apply List.ext_getElem h
  intro i h1 h2
  have := k i h1
  rwa [rd_at _ h1, rd_at _ h2] at this
theorem wf64 {a : Int} (h : (Lit.int .i64 a).wf = true) : -9223372036854775808 ≤ a ∧ a ≤ 9223372036854775807 := by
  simp only [Lit.wf, IntKind.min, IntKind.max, IntKind.signed, IntKind.bits, Bool.and_eq_true, decide_eq_true_eq, if_true] at h
  omega
/-- At least one round. -/
theorem round {k d : Nat} (h : d < k) : ∃ m, k = m + 1 := ⟨k - 1, by omega⟩

/-- The comparison of two lists answers whether they are equal. -/
theorem sameInts_l0 (a b : List Int) (hl : a.length = b.length) (hm : a.length ≤ 9223372036854775806) (d : Nat) : ∀ (k n : Nat), n + d = a.length → d < k → tattingref1_SameInts.l0 k a b (n : Int) = some (decide (a.drop n = b.drop n)) := by
  induction d with
  | zero =>
    intro k n hn hk
    obtain ⟨k, rfl⟩ := round hk
    simp only [tattingref1_SameInts.l0]
    rw [if_neg (by omega), List.drop_eq_nil_of_le (by omega), List.drop_eq_nil_of_le (by omega)]; rfl
  | succ d ih =>
    intro k n hn hk
    obtain ⟨k, rfl⟩ := round hk
    simp only [tattingref1_SameInts.l0]
    rw [if_pos (by omega), if_pos (by omega), if_pos (by omega)]
    rw [drop_rd a (by omega), drop_rd b (by omega)]
    by_cases h : rd a (n : Int) = rd b (n : Int)
    · rw [if_pos h, wrap_succ (by omega), ih k (n + 1) (by omega) (by omega), h]
      simp
    · rw [if_neg h]
      simp [h]
theorem sameInts (a b : List Int) (hm : a.length ≤ 9223372036854775806) {k : Nat} (hk : a.length < k) : tattingref1_SameInts.f k a b = some (decide (a = b)) := by
  unfold tattingref1_SameInts.f
  by_cases h : a.length = b.length
  · rw [if_pos (by omega)]
    exact sameInts_l0 a b h hm a.length k 0 (by omega) hk
  · rw [if_neg (by omega)]
    congr 1
    rw [eq_comm, decide_eq_false_iff_not]
    intro e; exact h (by rw [e])

/-- The places of a number in a list, from some place on. -/
def pos (s : Int) : List Int → Nat → List Int
  | [], _ => []
  | x :: xs, i => if x = s then (i : Int) :: pos s xs (i + 1) else pos s xs (i + 1)
/-- Place by place, each one goes to the list of its number. -/
def bld : List (List Int) → List Int → Nat → List (List Int)
  | o, [], _ => o
  | o, x :: xs, i => bld (o.set x.toNat (o.getD x.toNat [] ++ [(i : Int)])) xs (i + 1)
theorem bld_length (o : List (List Int)) (b : List Int) (i : Nat) : (bld o b i).length = o.length := by
  induction b generalizing o i with
  | nil => rfl
  | cons x xs ih => rw [bld, ih, List.length_set]
theorem getD_set (o : List (List Int)) (j s : Nat) (v : List Int) (h : j < o.length) : (o.set j v).getD s [] = if s = j then v else o.getD s [] := by
  rw [List.getD_eq_getElem?_getD, List.getElem?_set, List.getD_eq_getElem?_getD]
  by_cases e : s = j
  · rw [if_pos e.symm, if_pos e]; simp [h]
  · rw [if_neg (fun q => e q.symm), if_neg e]
theorem bld_at (b : List Int) : ∀ (o : List (List Int)) (i s : Nat), (∀ x ∈ b, 0 ≤ x ∧ x < (o.length : Int)) → (bld o b i).getD s [] = o.getD s [] ++ pos (s : Int) b i := by
  induction b with
  | nil => intro o i s _; simp [bld, pos]
  | cons x xs ih =>
    intro o i s h
    have hx := h x (List.mem_cons_self)
    rw [bld, ih _ _ _ (fun y hy => by rw [List.length_set]; exact h y (List.mem_cons_of_mem _ hy)), getD_set _ _ _ _ (by omega), pos]
    by_cases e : x = (s : Int)
    · rw [if_pos (by omega), if_pos e]; subst e; simp
    · rw [if_neg (by omega), if_neg e]
theorem pos_length (s : Int) (b : List Int) (i : Nat) : (pos s b i).length ≤ b.length := by
  induction b generalizing i with
  | nil => simp [pos]
  | cons x xs ih => rw [pos]; have := ih (i + 1); split <;> simp <;> omega
/-- All numbers of a list are from 0 to below n. -/
def InRange (n : Int) (b : List Int) : Prop := ∀ x ∈ b, 0 ≤ x ∧ x < n
instance (n : Int) (b : List Int) : Decidable (InRange n b) := by unfold InRange; infer_instance
theorem inRange_cons {n x : Int} {b : List Int} (h0 : 0 ≤ x) (h1 : x < n) : InRange n (x :: b) ↔ InRange n b :=
  ⟨fun q y hy => q y (List.mem_cons_of_mem _ hy), fun q y hy => (List.mem_cons.mp hy).elim (fun e => e ▸ ⟨h0, h1⟩) (fun hy => q y hy)⟩
/-- What both functions of places answer. -/
def placesOf (n : Int) (b : List Int) : List (List Int) × Int :=
  if 0 ≤ n ∧ n ≤ 1048576 ∧ InRange n b then (bld (List.replicate n.toNat []) b 0, 0) else ([], 1)

theorem occurOf_l0 (N : Int) (l : List Int) (hl : l.length ≤ 1000000) (d : Nat) : ∀ (k n : Nat) (o : List (List Int)), n + d = l.length → d < k → (o.length : Int) = N → (∀ s, (o.getD s []).length ≤ n) →
    occur_Of.l0 k N o l (l.length : Int) (n : Int) = some (if InRange N (l.drop n) then (bld o (l.drop n) n, 0) else ([], 1)) := by
  induction d with
  | zero =>
    intro k n o hn hk ho hs
    obtain ⟨k, rfl⟩ := round hk
    simp only [occur_Of.l0]
    rw [if_neg (by omega), List.drop_eq_nil_of_le (by omega)]
    simp [InRange, bld]
  | succ d ih =>
    intro k n o hn hk ho hs
    obtain ⟨k, rfl⟩ := round hk
    simp only [occur_Of.l0]
    rw [if_pos (by omega), if_pos (by omega), if_pos (by omega), drop_rd l (by omega)]
    by_cases h0 : rd l (n : Int) < 0
    · rw [if_pos h0, if_neg (fun q => by have := q _ (List.mem_cons_self); omega)]
    · rw [if_neg h0]
      by_cases h1 : rd l (n : Int) ≥ N
      · rw [if_pos h1, if_neg (fun q => by have := q _ (List.mem_cons_self); omega)]
      · have hs1 : (rd_L1 o (rd l (n : Int))).length ≤ n := hs _
        rw [if_neg h1, if_pos (by omega), if_pos (by omega), if_pos (by omega), wrap_succ (by omega)]
        rw [ih k (n + 1) _ (by omega) (by omega) (by rw [List.length_set]; exact ho)]
        · have e : InRange N (rd l (n : Int) :: l.drop (n + 1)) ↔ InRange N (l.drop (n + 1)) :=
            inRange_cons (by omega) (by omega)
          rw [bld]
          by_cases q : InRange N (l.drop (n + 1))
          · rw [if_pos q, if_pos (e.mpr q)]; rfl
          · rw [if_neg q, if_neg (fun z => q (e.mp z))]
        · intro s
          rw [getD_set _ _ _ _ (by omega)]
          split
          · rw [List.length_append, List.length_singleton]; omega
          · have := hs s; omega
theorem getD_replicate_nil (m s : Nat) : ((List.replicate m ([] : List Int)).getD s []) = [] := by
  rw [List.getD_eq_getElem?_getD, List.getElem?_replicate]; split <;> rfl
theorem occurOf (N : Int) (l : List Int) (hl : l.length ≤ 1000000) {k : Nat} (hk : l.length + 1 < k) : occur_Of.f k N l = some (placesOf N l) := by
  obtain ⟨k, rfl⟩ : ∃ m, k = m + 1 := ⟨k - 1, by omega⟩
  unfold occur_Of.f placesOf
  by_cases h0 : N < 0
  · rw [if_pos h0, if_neg (by omega)]; simp [occur_Of.j0]
  · rw [if_neg h0]; simp only [occur_Of.j0]
    by_cases h1 : N > 1048576
    · rw [if_pos (by simpa using h1), if_neg (by omega)]
    · rw [if_neg (by simpa using h1), if_pos (by omega), if_pos (by omega)]
      have h := occurOf_l0 N l hl l.length k 0 (List.replicate N.toNat []) (by omega) (by omega) (by rw [List.length_replicate]; omega) (fun s => by rw [getD_replicate_nil]; simp)
      refine h.trans ?_
      congr 1
      rw [List.drop_zero]
      by_cases q : InRange N l
      · rw [if_pos q, if_pos ⟨by omega, by omega, q⟩]
      · rw [if_neg q, if_neg (fun z => q z.2.2)]

/-- The numbers brought to a few. -/
def fewOf (l : List Int) (n : Int) : List Int := l.map (· % n)
theorem fewOf_length (l : List Int) (n : Int) : (fewOf l n).length = l.length := by unfold fewOf; rw [List.length_map]
theorem fewOf_range (l : List Int) (n : Int) (hn : 0 < n) : ∀ x ∈ fewOf l n, 0 ≤ x ∧ x < n := by
  intro x hx
  unfold fewOf at hx
  obtain ⟨y, _, rfl⟩ := List.mem_map.mp hx
  exact ⟨Int.emod_nonneg y (by omega), Int.emod_lt_of_pos y hn⟩
theorem tmod_emod (x n : Int) (hn : 0 < n) : (if Int.tmod x n < 0 then Int.tmod x n + n else Int.tmod x n) = x % n := by
  have h0 := Int.emod_nonneg x (show n ≠ 0 by omega)
  have h1 := Int.emod_lt_of_pos x hn
  have h := Int.tmod_eq_emod (a := x) (b := n)
  by_cases c : 0 ≤ x ∨ n ∣ x
  · rw [if_pos c] at h; rw [if_neg (by omega)]; omega
  · rw [if_neg c] at h; rw [if_pos (by omega)]; omega
theorem few_l0 (l : List Int) (n : Int) (hn : 0 < n) (hn' : n ≤ 1000000) (hl : l.length ≤ 1000000) (d : Nat) : ∀ (k i : Nat) (out : List Int), i + d = l.length → d < k → out.length = i → tattingref1_Few.l0 k l n out (i : Int) = some (out ++ fewOf (l.drop i) n) := by
  induction d with
  | zero =>
    intro k i out hi hk ho
    obtain ⟨k, rfl⟩ := round hk
    simp only [tattingref1_Few.l0]
    rw [if_neg (by omega), List.drop_eq_nil_of_le (by omega)]
    simp [fewOf]
  | succ d ih =>
    intro k i out hi hk ho
    obtain ⟨k, rfl⟩ := round hk
    simp only [tattingref1_Few.l0]
    rw [if_pos (by omega), if_pos (by omega), if_neg (by omega), drop_rd l (by omega)]
    have h := tmod_emod (rd l (i : Int)) n hn
    have h0 := Int.emod_nonneg (rd l (i : Int)) (show n ≠ 0 by omega)
    have h1 := Int.emod_lt_of_pos (rd l (i : Int)) hn
    have e : fewOf (rd l (i : Int) :: l.drop (i + 1)) n = (rd l (i : Int) % n) :: fewOf (l.drop (i + 1)) n := rfl
    rw [e]
    by_cases c : Int.tmod (rd l (i : Int)) n < 0
    · rw [if_pos c] at h
      rw [if_pos c, if_pos (by omega), wrap_succ (by omega), wrap_id (by omega) (by omega), h, ih k (i + 1) _ (by omega) (by omega) (by rw [List.length_append, List.length_singleton]; omega)]
      simp
    · rw [if_neg c] at h
      rw [if_neg c, if_pos (by omega), wrap_succ (by omega), h, ih k (i + 1) _ (by omega) (by omega) (by rw [List.length_append, List.length_singleton]; omega)]
      simp
theorem few (l : List Int) (n : Int) (hn : 0 < n) (hn' : n ≤ 1000000) (hl : l.length ≤ 1000000) {k : Nat} (hk : l.length < k) : tattingref1_Few.f k l n = some (fewOf l n) := by
  have h := few_l0 l n hn hn' hl l.length k 0 [] (by omega) hk rfl
  rwa [List.nil_append, List.drop_zero] at h

/-- How many places of two lists are alike. -/
def alikeOf : List Int → List Int → Int
  | [], _ => 0
  | x :: xs, b => (b.count x : Int) + alikeOf xs b
theorem alikeOf_le (a b : List Int) : 0 ≤ alikeOf a b ∧ alikeOf a b ≤ (a.length : Int) * b.length := by
  induction a with
  | nil => simp [alikeOf]
  | cons x xs ih =>
    have h := List.count_le_length (a := x) (l := b)
    rw [alikeOf, List.length_cons]
    have e : ((xs.length + 1 : Nat) : Int) * (b.length : Int) = (xs.length : Int) * b.length + b.length := by
      rw [Int.natCast_add, Int.add_mul]; simp
    omega
theorem alike_l1 (a b : List Int) (hb : b.length ≤ 100000) (i : Nat) (hi : i < a.length) (acc : Int) (h0 : 0 ≤ acc) (h1 : acc ≤ 1000000000000) (K : Nat) (r : Option Int) (d : Nat) : ∀ (k j : Nat) (c : Int), j + d = b.length → d + K < k → 0 ≤ c → c ≤ j → 
    (∀ k', K ≤ k' → tattingref1_Alike.l0 k' a b (wrap64 (acc + c + ((b.drop j).count (rd a (i : Int)) : Int))) (wrap64 ((i : Int) + 1)) = r) → tattingref1_Alike.l1 k a b (acc + c) (i : Int) (j : Int) = r := by
  induction d with
  | zero =>
    intro k j c hj hk hc0 hc1 hr
    obtain ⟨k, rfl⟩ := round hk
    simp only [tattingref1_Alike.l1]
    rw [if_neg (by omega)]
    have h := hr k (by omega)
    rw [List.drop_eq_nil_of_le (by omega)] at h
    rw [List.count_nil, wrap_id (by simp; omega) (by simp; omega)] at h
    simpa using h
  | succ d ih =>
    intro k j c hj hk hc0 hc1 hr
    obtain ⟨k, rfl⟩ := round hk
    simp only [tattingref1_Alike.l1]
    rw [if_pos (by omega), if_pos (by omega), if_pos (by omega), if_pos (by omega), wrap_succ (by omega)]
    rw [drop_rd b (by omega)] at hr
    by_cases e : rd a (i : Int) = rd b (j : Int)
    · rw [if_pos e, wrap_id (by omega) (by omega), show acc + c + 1 = acc + (c + 1) by omega]
      refine ih k (j + 1) (c + 1) (by omega) (by omega) (by omega) (by omega) ?_
      intro k' hk'
      rw [← hr k' hk', e, List.count_cons_self]
      congr 2; omega
    · rw [if_neg e]
      refine ih k (j + 1) c (by omega) (by omega) (by omega) (by omega) ?_
      intro k' hk'
      rw [← hr k' hk', List.count_cons_of_ne (fun q => e q.symm)]
theorem alike_l0 (a b : List Int) (ha : a.length ≤ 100000) (hb : b.length ≤ 100000) (d : Nat) : ∀ (k i : Nat) (acc : Int), i + d = a.length → d * (b.length + 2) < k → 0 ≤ acc → acc + alikeOf (a.drop i) b ≤ 100000000000 →
    tattingref1_Alike.l0 k a b acc (i : Int) = some (acc + alikeOf (a.drop i) b) := by
  induction d with
  | zero =>
    intro k i acc hi hk h0 h1
    obtain ⟨k, rfl⟩ := round hk
    simp only [tattingref1_Alike.l0]
    rw [if_neg (by omega), List.drop_eq_nil_of_le (by omega)]
    simp [alikeOf]
  | succ d ih =>
    intro k i acc hi hk h0 h1
    rw [Nat.succ_mul] at hk
    obtain ⟨k, rfl⟩ := round hk
    simp only [tattingref1_Alike.l0]
    rw [drop_rd a (by omega), alikeOf] at h1 ⊢
    have hp := (alikeOf_le (a.drop (i + 1)) b).1
    rw [if_pos (by omega)]
    have h := alike_l1 a b hb i (by omega) acc h0 (by omega) (d * (b.length + 2) + 1) (some (acc + ((b.count (rd a (i : Int)) : Int) + alikeOf (a.drop (i + 1)) b))) b.length k 0 0 (by omega) (by omega) (by omega) (by omega)
    rw [Int.add_zero] at h
    refine h ?_
    intro k' hk'
    rw [List.drop_zero, wrap_succ (by omega), wrap_id (by omega) (by omega), ih k' (i + 1) _ (by omega) (by omega) (by omega) (by omega)]
    congr 1; omega
theorem alike (a b : List Int) (ha : a.length ≤ 100000) (hb : b.length ≤ 100000) {k : Nat} (hk : a.length * (b.length + 2) < k) : tattingref1_Alike.f k a b = some (alikeOf a b) := by
  have hm : (a.length : Int) * b.length ≤ 10000000000 := by
    have := Nat.mul_le_mul ha hb
    have e : ((a.length * b.length : Nat) : Int) ≤ ((100000 * 100000 : Nat) : Int) := Int.ofNat_le.mpr this
    simpa using e
  have h := alike_l0 a b ha hb a.length k 0 0 (by omega) hk (by omega) (by rw [List.drop_zero]; have := (alikeOf_le a b).2; omega)
  rw [List.drop_zero, Int.zero_add] at h
  exact h

theorem pos_count (s : Int) (b : List Int) (i : Nat) : (pos s b i).length = b.count s := by
  induction b generalizing i with
  | nil => simp [pos]
  | cons x xs ih =>
    rw [pos]
    by_cases e : x = s
    · rw [if_pos e, e, List.count_cons_self, List.length_cons, ih]
    · rw [if_neg e, List.count_cons_of_ne e, ih]
theorem hits_l0 (o : List (List Int)) (a b : List Int) (ha : a.length ≤ 100000) (hb : b.length ≤ 100000)
    (ho : ∀ x ∈ a, 0 ≤ x ∧ (x < (o.length : Int) → (o.getD x.toNat []).length = b.count x) ∧ (¬ x < (o.length : Int) → b.count x = 0)) (d : Nat) : ∀ (k i : Nat) (acc : Int), i + d = a.length → d < k → 0 ≤ acc → acc + alikeOf (a.drop i) b ≤ 100000000000 →
    occur_Hits.l0 k o acc a (a.length : Int) (i : Int) = some (acc + alikeOf (a.drop i) b) := by
  induction d with
  | zero =>
    intro k i acc hi hk h0 h1
    obtain ⟨k, rfl⟩ := round hk
    simp only [occur_Hits.l0]
    rw [if_neg (by omega), List.drop_eq_nil_of_le (by omega)]
    simp [alikeOf]
  | succ d ih =>
    intro k i acc hi hk h0 h1
    obtain ⟨k, rfl⟩ := round hk
    simp only [occur_Hits.l0]
    rw [drop_rd a (by omega), alikeOf] at h1 ⊢
    have hp := (alikeOf_le (a.drop (i + 1)) b).1
    obtain ⟨g0, g1, g2⟩ := ho _ (rd_mem a (show i < a.length by omega))
    rw [if_pos (by omega), if_pos (by omega), if_pos (by omega)]
    unfold occur_has.f
    rw [if_pos (by omega)]
    simp only [Option.bind_some]
    rw [wrap_succ (by omega)]
    by_cases c : rd a (i : Int) < (o.length : Int)
    · have g : (rd_L1 o (rd a (i : Int))).length = b.count (rd a (i : Int)) := g1 c
      rw [if_pos (by simpa using c), if_pos g0, if_pos c, g, wrap_id (by omega) (by omega), ih k (i + 1) _ (by omega) (by omega) (by omega) (by omega)]
      congr 1; omega
    · rw [if_neg (by simpa using c), ih k (i + 1) _ (by omega) (by omega) (by omega) (by have := g2 c; omega)]
      have := g2 c
      congr 1; omega
theorem hits (o : List (List Int)) (a b : List Int) (ha : a.length ≤ 100000) (hb : b.length ≤ 100000)
    (ho : ∀ x ∈ a, 0 ≤ x ∧ (x < (o.length : Int) → (o.getD x.toNat []).length = b.count x) ∧ (¬ x < (o.length : Int) → b.count x = 0)) {k : Nat} (hk : a.length < k) : occur_Hits.f k o a = some (alikeOf a b) := by
  have hm : (a.length : Int) * b.length ≤ 10000000000 := by
    have := Nat.mul_le_mul ha hb
    have e : ((a.length * b.length : Nat) : Int) ≤ ((100000 * 100000 : Nat) : Int) := Int.ofNat_le.mpr this
    simpa using e
  have h := hits_l0 o a b ha hb ho a.length k 0 0 (by omega) hk (by omega) (by rw [List.drop_zero]; have := (alikeOf_le a b).2; omega)
  rw [List.drop_zero, Int.zero_add] at h
  exact h

theorem awake : tattinglaw4_awake.f 40 = some true := by decide +kernel
theorem OccurHits : tattinglaw4_OccurHits.Pure := by
  intro a b _ _ _ _ _ _
  refine ⟨8000, ?_⟩
  unfold tattinglaw4_OccurHits.f
  rw [at_rounds tattinglaw4_awake.mono (by decide) awake]
  simp only [Option.bind_some, if_true]
  have key : a.length ≤ 80 → b.length ≤ 80 → tattinglaw4_OccurHits.j0 8000 a b false = some true := by
    intro ha hb
    simp only [tattinglaw4_OccurHits.j0]
    have hx := fewOf_range a 9 (by decide)
    have hy := fewOf_range b 8 (by decide)
    have lx : (fewOf a 9).length ≤ 80 := by rw [fewOf_length]; exact ha
    have ly : (fewOf b 8).length ≤ 80 := by rw [fewOf_length]; exact hb
    rw [few a 9 (by decide) (by decide) (by omega) (by omega), few b 8 (by decide) (by decide) (by omega) (by omega)]
    simp only [Option.bind_some, Bool.false_eq_true, if_false]
    generalize fewOf a 9 = x at *
    generalize fewOf b 8 = y at *
    rw [occurOf 8 y (by omega) (by omega)]
    have e : placesOf 8 y = (bld (List.replicate 8 []) y 0, 0) := by unfold placesOf; rw [if_pos ⟨by decide, by decide, hy⟩]; rfl
    rw [e]
    simp only [Option.bind_some, if_true]
    have hm : x.length * (y.length + 2) ≤ 80 * 82 := Nat.mul_le_mul lx (by omega)
    rw [hits _ x y (by omega) (by omega) ?_ (by omega), alike x y (by omega) (by omega) (by omega)]
    · simp
    · intro v hv
      have hv' := hx v hv
      refine ⟨hv'.1, fun _ => ?_, fun h => ?_⟩
      · rw [bld_at y _ 0 v.toNat (by intro z hz; have := hy z hz; simp; omega), getD_replicate_nil, List.nil_append, pos_count, Int.toNat_of_nonneg hv'.1]
      · rw [bld_length, List.length_replicate] at h
        rw [List.count_eq_zero]
        intro hz; have := hy v hz; omega
  have skip : tattinglaw4_OccurHits.j0 8000 a b true = some true := by simp [tattinglaw4_OccurHits.j0]
  by_cases h1 : (a.length : Int) > 80
  · rw [if_pos h1]; exact skip
  · rw [if_neg h1]
    by_cases h2 : (b.length : Int) > 80
    · rw [decide_eq_true h2]; exact skip
    · rw [decide_eq_false h2]; exact key (by omega) (by omega)

end Go.Proofs.Ytclddnajmcngcaa.Pure
