/- For every list of at most 80 numbers, brought to eight: each place stands in just one list of places, that of its number, in rising order, and the longest list's length is told. -/
import Derived.Test.YtclddnajmcngcaaPOccurPartsx2
import Derived.Test.YtclddnajmcngcaaWSized
namespace Go.Proofs.Ytclddnajmcngcaa.PrintWords
set_option linter.defProp false in
/-- The printed row names this lemma without the seat-wide namespace. -/
def sized_ints := @Go.Proofs.YtclddnajmcngcaaW.PrintWords.sized_ints
end Go.Proofs.Ytclddnajmcngcaa.PrintWords
namespace Go.Proofs.Ytclddnajmcngcaa.Pure
open Go.RowKit Go.Proofs.Ytclddnajmcngcaa.POccurParts Go.Proofs.YtclddnajmcngcaaW.PrintWords Go.Proofs.YtclddnajmcngcaaW.PrintLast Go.Proofs.YtclddnajmcngcaaW.PrintMore
set_option linter.unusedVariables false
set_option linter.unusedSimpArgs false

theorem wrap_id {i : Int} (h0 : -9223372036854775808 ≤ i) (h1 : i < 9223372036854775808) : wrap64 i = i := by unfold wrap64; omega
theorem wrap_succ {n : Nat} (h : n < 9223372036854775807) : wrap64 ((n : Int) + 1) = ((n + 1 : Nat) : Int) := by unfold wrap64; omega

theorem rd_at (l : List Int) {n : Nat} (h : n < l.length) : rd l (n : Int) = l[n] := by
  unfold rd; rw [Int.toNat_natCast, List.getD_eq_getElem?_getD, List.getElem?_eq_getElem h]; rfl
theorem rd_d (l : List Int) (n : Nat) : rd l (n : Int) = l.getD n 0 := rfl
theorem rd_out (l : List Int) {n : Nat} (h : l.length ≤ n) : rd l (n : Int) = 0 := by
  rw [rd_d, List.getD_eq_getElem?_getD, List.getElem?_eq_none h]; rfl
theorem drop_rd (l : List Int) {n : Nat} (h : n < l.length) : l.drop n = rd l (n : Int) :: l.drop (n + 1) := by
  rw [rd_at l h]; exact List.drop_eq_getElem_cons h
theorem take_rd (l : List Int) {n : Nat} (h : n < l.length) : l.take (n + 1) = l.take n ++ [rd l (n : Int)] := by
  rw [rd_at l h, List.take_succ_eq_append_getElem h]
theorem rd_mem (l : List Int) {n : Nat} (h : n < l.length) : rd l (n : Int) ∈ l := by rw [rd_at l h]; exact List.getElem_mem h
theorem rd_app_lt (l : List Int) (x : Int) {n : Nat} (h : n < l.length) : rd (l ++ [x]) (n : Int) = rd l (n : Int) := by
  rw [rd_at _ (by rw [List.length_append]; omega), rd_at _ h, List.getElem_append_left h]
theorem rd_app_eq (l : List Int) (x : Int) : rd (l ++ [x]) (l.length : Int) = x := by
  rw [rd_at _ (by rw [List.length_append, List.length_singleton]; omega)]; simp
theorem rd_app (l : List Int) (x : Int) (n : Nat) (h : n ≤ l.length) : rd (l ++ [x]) (n : Int) = if n = l.length then x else rd l (n : Int) := by
  by_cases e : n = l.length
  · rw [if_pos e, e, rd_app_eq]
  · rw [if_neg e, rd_app_lt _ _ (by omega)]
theorem rd_set (l : List Int) (i n : Nat) (x : Int) (h : n < l.length) : rd (l.set i x) (n : Int) = if n = i then x else rd l (n : Int) := by
  rw [rd_at _ (by rw [List.length_set]; exact h), rd_at _ h, List.getElem_set]
  by_cases e : n = i
  · rw [if_pos e, if_pos e.symm]
  · rw [if_neg e, if_neg (fun q => e q.symm)]
theorem rd_replicate (m n : Nat) (x : Int) (h : n < m) : rd (List.replicate m x) (n : Int) = x := by
  rw [rd_at _ (by rw [List.length_replicate]; exact h), List.getElem_replicate]
theorem rd_take (l : List Int) {m n : Nat} (h : n < m) (hm : m ≤ l.length) : rd (l.take m) (n : Int) = rd l (n : Int) := by
  rw [rd_at _ (by rw [List.length_take]; omega), rd_at _ (by omega), List.getElem_take]
theorem rd_drop (l : List Int) (m n : Nat) : rd (l.drop m) (n : Int) = rd l ((m + n : Nat) : Int) := by
  rw [rd_d, rd_d, List.getD_eq_getElem?_getD, List.getD_eq_getElem?_getD, List.getElem?_drop]
theorem list_ext {l m : List Int} (h : l.length = m.length) (k : ∀ n : Nat, n < l.length → rd l (n : Int) = rd m (n : Int)) : l = m := by
  apply List.ext_getElem h
  intro i h1 h2
  have := k i h1
  rwa [rd_at _ h1, rd_at _ h2] at this
theorem wf64 {a : Int} (h : (Lit.int .i64 a).wf = true) : -9223372036854775808 ≤ a ∧ a ≤ 9223372036854775807 := by
  simp only [Lit.wf, IntKind.min, IntKind.max, IntKind.signed, IntKind.bits, Bool.and_eq_true, decide_eq_true_eq, if_true] at h
  omega
/-- At least one round. -/
theorem round {k d : Nat} (h : d < k) : ∃ m, k = m + 1 := ⟨k - 1, by omega⟩

/-- The places of a number in a list, from some place on. -/
def pos (s : Int) : List Int → Nat → List Int
  | [], _ => []
  | x :: xs, i => if x = s then (i : Int) :: pos s xs (i + 1) else pos s xs (i + 1)
/-- Place by place, each one goes to the list of its number. -/
def bld : List (List Int) → List Int → Nat → List (List Int)
  | o, [], _ => o
  | o, x :: xs, i => bld (o.set x.toNat (o.getD x.toNat [] ++ [(i : Int)])) xs (i + 1)
theorem bld_length (o : List (List Int)) (b : List Int) (i : Nat) : (bld o b i).length = o.length := by
  induction b generalizing o i with
  | nil => rfl
  | cons x xs ih => rw [bld, ih, List.length_set]
theorem getD_set (o : List (List Int)) (j s : Nat) (v : List Int) (h : j < o.length) : (o.set j v).getD s [] = if s = j then v else o.getD s [] := by
  rw [List.getD_eq_getElem?_getD, List.getElem?_set, List.getD_eq_getElem?_getD]
  by_cases e : s = j
  · rw [if_pos e.symm, if_pos e]; simp [h]
  · rw [if_neg (fun q => e q.symm), if_neg e]
theorem bld_at (b : List Int) : ∀ (o : List (List Int)) (i s : Nat), (∀ x ∈ b, 0 ≤ x ∧ x < (o.length : Int)) → (bld o b i).getD s [] = o.getD s [] ++ pos (s : Int) b i := by
  induction b with
  | nil => intro o i s _; simp [bld, pos]
  | cons x xs ih =>
    intro o i s h
    have hx := h x (List.mem_cons_self)
    rw [bld, ih _ _ _ (fun y hy => by rw [List.length_set]; exact h y (List.mem_cons_of_mem _ hy)), getD_set _ _ _ _ (by omega), pos]
    by_cases e : x = (s : Int)
    · rw [if_pos (by omega), if_pos e]; subst e; simp
    · rw [if_neg (by omega), if_neg e]
theorem pos_length (s : Int) (b : List Int) (i : Nat) : (pos s b i).length ≤ b.length := by
  induction b generalizing i with
  | nil => simp [pos]
  | cons x xs ih => rw [pos]; have := ih (i + 1); split <;> simp <;> omega
/-- All numbers of a list are from 0 to below n. -/
def InRange (n : Int) (b : List Int) : Prop := ∀ x ∈ b, 0 ≤ x ∧ x < n
instance (n : Int) (b : List Int) : Decidable (InRange n b) := by unfold InRange; infer_instance
theorem inRange_cons {n x : Int} {b : List Int} (h0 : 0 ≤ x) (h1 : x < n) : InRange n (x :: b) ↔ InRange n b :=
  ⟨fun q y hy => q y (List.mem_cons_of_mem _ hy), fun q y hy => (List.mem_cons.mp hy).elim (fun e => e ▸ ⟨h0, h1⟩) (fun hy => q y hy)⟩
/-- What both functions of places answer. -/
def placesOf (n : Int) (b : List Int) : List (List Int) × Int :=
  if 0 ≤ n ∧ n ≤ 1048576 ∧ InRange n b then (bld (List.replicate n.toNat []) b 0, 0) else ([], 1)

theorem occurOf_l0 (N : Int) (l : List Int) (hl : l.length ≤ 1000000) (d : Nat) : ∀ (k n : Nat) (o : List (List Int)), n + d = l.length → d < k → (o.length : Int) = N → (∀ s, (o.getD s []).length ≤ n) →
    occur_Of.l0 k N o l (l.length : Int) (n : Int) = some (if InRange N (l.drop n) then (bld o (l.drop n) n, 0) else ([], 1)) := by
  induction d with
  | zero =>
    intro k n o hn hk ho hs
    obtain ⟨k, rfl⟩ := round hk
    simp only [occur_Of.l0]
    rw [if_neg (by omega), List.drop_eq_nil_of_le (by omega)]
    simp [InRange, bld]
  | succ d ih =>
    intro k n o hn hk ho hs
    obtain ⟨k, rfl⟩ := round hk
    simp only [occur_Of.l0]
    rw [if_pos (by omega), if_pos (by omega), if_pos (by omega), drop_rd l (by omega)]
    by_cases h0 : rd l (n : Int) < 0
    · rw [if_pos h0, if_neg (fun q => by have := q _ (List.mem_cons_self); omega)]
    · rw [if_neg h0]
      by_cases h1 : rd l (n : Int) ≥ N
      · rw [if_pos h1, if_neg (fun q => by have := q _ (List.mem_cons_self); omega)]
      · have hs1 : (rd_L1 o (rd l (n : Int))).length ≤ n := hs _
        rw [if_neg h1, if_pos (by omega), if_pos (by omega), if_pos (by omega), wrap_succ (by omega)]
        rw [ih k (n + 1) _ (by omega) (by omega) (by rw [List.length_set]; exact ho)]
        · have e : InRange N (rd l (n : Int) :: l.drop (n + 1)) ↔ InRange N (l.drop (n + 1)) :=
            inRange_cons (by omega) (by omega)
          rw [bld]
          by_cases q : InRange N (l.drop (n + 1))
          · rw [if_pos q, if_pos (e.mpr q)]; rfl
          · rw [if_neg q, if_neg (fun z => q (e.mp z))]
        · intro s
          rw [getD_set _ _ _ _ (by omega)]
          split
          · rw [List.length_append, List.length_singleton]; omega
          · have := hs s; omega
theorem getD_replicate_nil (m s : Nat) : ((List.replicate m ([] : List Int)).getD s []) = [] := by
  rw [List.getD_eq_getElem?_getD, List.getElem?_replicate]; split <;> rfl
theorem occurOf (N : Int) (l : List Int) (hl : l.length ≤ 1000000) {k : Nat} (hk : l.length + 1 < k) : occur_Of.f k N l = some (placesOf N l) := by
  obtain ⟨k, rfl⟩ : ∃ m, k = m + 1 := ⟨k - 1, by omega⟩
  unfold occur_Of.f placesOf
  by_cases h0 : N < 0
  · rw [if_pos h0, if_neg (by omega)]; simp [occur_Of.j0]
  · rw [if_neg h0]; simp only [occur_Of.j0]
    by_cases h1 : N > 1048576
    · rw [if_pos (by simpa using h1), if_neg (by omega)]
    · rw [if_neg (by simpa using h1), if_pos (by omega), if_pos (by omega)]
      have h := occurOf_l0 N l hl l.length k 0 (List.replicate N.toNat []) (by omega) (by omega) (by rw [List.length_replicate]; omega) (fun s => by rw [getD_replicate_nil]; simp)
      refine h.trans ?_
      congr 1
      rw [List.drop_zero]
      by_cases q : InRange N l
      · rw [if_pos q, if_pos ⟨by omega, by omega, q⟩]
      · rw [if_neg q, if_neg (fun z => q z.2.2)]

/-- The numbers brought to a few. -/
def fewOf (l : List Int) (n : Int) : List Int := l.map (· % n)
theorem fewOf_length (l : List Int) (n : Int) : (fewOf l n).length = l.length := by unfold fewOf; rw [List.length_map]
theorem fewOf_range (l : List Int) (n : Int) (hn : 0 < n) : ∀ x ∈ fewOf l n, 0 ≤ x ∧ x < n := by
  intro x hx
  unfold fewOf at hx
  obtain ⟨y, _, rfl⟩ := List.mem_map.mp hx
  exact ⟨Int.emod_nonneg y (by omega), Int.emod_lt_of_pos y hn⟩
theorem tmod_emod (x n : Int) (hn : 0 < n) : (if Int.tmod x n < 0 then Int.tmod x n + n else Int.tmod x n) = x % n := by
  have h0 := Int.emod_nonneg x (show n ≠ 0 by omega)
  have h1 := Int.emod_lt_of_pos x hn
  have h := Int.tmod_eq_emod (a := x) (b := n)
  by_cases c : 0 ≤ x ∨ n ∣ x
  · rw [if_pos c] at h; rw [if_neg (by omega)]; omega
  · rw [if_neg c] at h; rw [if_pos (by omega)]; omega
theorem few_l0 (l : List Int) (n : Int) (hn : 0 < n) (hn' : n ≤ 1000000) (hl : l.length ≤ 1000000) (d : Nat) : ∀ (k i : Nat) (out : List Int), i + d = l.length → d < k → out.length = i → tattingref1_Few.l0 k l n out (i : Int) = some (out ++ fewOf (l.drop i) n) := by
  induction d with
  | zero =>
    intro k i out hi hk ho
    obtain ⟨k, rfl⟩ := round hk
    simp only [tattingref1_Few.l0]
    rw [if_neg (by omega), List.drop_eq_nil_of_le (by omega)]
    simp [fewOf]
  | succ d ih =>
    intro k i out hi hk ho
    obtain ⟨k, rfl⟩ := round hk
    simp only [tattingref1_Few.l0]
    rw [if_pos (by omega), if_pos (by omega), if_neg (by omega), drop_rd l (by omega)]
    have h := tmod_emod (rd l (i : Int)) n hn
    have h0 := Int.emod_nonneg (rd l (i : Int)) (show n ≠ 0 by omega)
    have h1 := Int.emod_lt_of_pos (rd l (i : Int)) hn
    have e : fewOf (rd l (i : Int) :: l.drop (i + 1)) n = (rd l (i : Int) % n) :: fewOf (l.drop (i + 1)) n := rfl
    rw [e]
    by_cases c : Int.tmod (rd l (i : Int)) n < 0
    · rw [if_pos c] at h
      rw [if_pos c, if_pos (by omega), wrap_succ (by omega), wrap_id (by omega) (by omega), h, ih k (i + 1) _ (by omega) (by omega) (by rw [List.length_append, List.length_singleton]; omega)]
      simp
    · rw [if_neg c] at h
      rw [if_neg c, if_pos (by omega), wrap_succ (by omega), h, ih k (i + 1) _ (by omega) (by omega) (by rw [List.length_append, List.length_singleton]; omega)]
      simp
theorem few (l : List Int) (n : Int) (hn : 0 < n) (hn' : n ≤ 1000000) (hl : l.length ≤ 1000000) {k : Nat} (hk : l.length < k) : tattingref1_Few.f k l n = some (fewOf l n) := by
  have h := few_l0 l n hn hn' hl l.length k 0 [] (by omega) hk rfl
  rwa [List.nil_append, List.drop_zero] at h

theorem pos_count (s : Int) (b : List Int) (i : Nat) : (pos s b i).length = b.count s := by
  induction b generalizing i with
  | nil => simp [pos]
  | cons x xs ih =>
    rw [pos]
    by_cases e : x = s
    · rw [if_pos e, e, List.count_cons_self, List.length_cons, ih]
    · rw [if_neg e, List.count_cons_of_ne e, ih]

theorem pos_ge (s : Int) (b : List Int) : ∀ (i : Nat), ∀ v ∈ pos s b i, ∃ t : Nat, t < b.length ∧ v = ((i + t : Nat) : Int) ∧ rd b (t : Int) = s := by
  induction b with
  | nil => intro i v hv; simp [pos] at hv
  | cons x xs ih =>
    intro i v hv
    rw [pos] at hv
    have go : v ∈ pos s xs (i + 1) → ∃ t : Nat, t < (x :: xs).length ∧ v = ((i + t : Nat) : Int) ∧ rd (x :: xs) (t : Int) = s := by
      intro h
      obtain ⟨t, h1, h2, h3⟩ := ih (i + 1) v h
      refine ⟨t + 1, by rw [List.length_cons]; omega, by rw [h2]; omega, ?_⟩
      rw [← h3, rd_d, rd_d]; rfl
    by_cases e : x = s
    · rw [if_pos e] at hv
      rcases List.mem_cons.mp hv with h | h
      · exact ⟨0, by rw [List.length_cons]; omega, by rw [h]; simp, by rw [rd_d]; exact e⟩
      · exact go h
    · rw [if_neg e] at hv; exact go hv
theorem pos_pairwise (s : Int) (b : List Int) : ∀ (i : Nat), (pos s b i).Pairwise (· < ·) := by
  induction b with
  | nil => intro i; simp [pos]
  | cons x xs ih =>
    intro i
    rw [pos]
    split
    · refine List.Pairwise.cons ?_ (ih (i + 1))
      intro v hv
      obtain ⟨t, _, h, _⟩ := pos_ge s xs (i + 1) v hv
      omega
    · exact ih (i + 1)
theorem rising_of (l : List Int) (h : l.Pairwise (· < ·)) : ∀ i j : Nat, i < j → j < l.length → rd l (i : Int) < rd l (j : Int) := by
  intro i j hij hj
  rw [rd_at l (by omega), rd_at l hj]
  exact List.pairwise_iff_getElem.mp h i j (by omega) hj hij

/-- The greatest length, from some number on. -/
def mostOf (m : Int) (o : List (List Int)) : Int := o.foldl (fun m l => mx m (l.length : Int)) m
theorem drop_rdL (o : List (List Int)) {n : Nat} (h : n < o.length) : o.drop n = rd_L1 o (n : Int) :: o.drop (n + 1) := by
  rw [List.drop_eq_getElem_cons h]; congr 1
  show _ = o.getD n []
  rw [List.getD_eq_getElem?_getD, List.getElem?_eq_getElem h]; rfl
theorem most_l0 (o : List (List Int)) (ho : o.length ≤ 1000000) (d : Nat) : ∀ (k i : Nat) (m : Int), i + d = o.length → d < k → occur_Most.l0 k m o (o.length : Int) (i : Int) = some (mostOf m (o.drop i)) := by
  induction d with
  | zero =>
    intro k i m hi hk
    obtain ⟨k, rfl⟩ := round hk
    simp only [occur_Most.l0]
    rw [if_neg (by omega), List.drop_eq_nil_of_le (by omega)]; rfl
  | succ d ih =>
    intro k i m hi hk
    obtain ⟨k, rfl⟩ := round hk
    simp only [occur_Most.l0]
    rw [if_pos (by omega), if_pos (by omega), if_pos (by omega), wrap_succ (by omega), ih k (i + 1) _ (by omega) (by omega), drop_rdL o (show i < o.length by omega)]; rfl
theorem most (o : List (List Int)) (ho : o.length ≤ 1000000) {k : Nat} (hk : o.length < k) : occur_Most.f k o = some (mostOf 0 o) := by
  have h := most_l0 o ho o.length k 0 0 (by omega) hk
  rw [List.drop_zero] at h; exact h

theorem awake : tattinglaw4_awake.f 40 = some true := by decide +kernel
theorem countP_succ (y : List Int) (s : Int) : y.countP (fun v => decide (v < s + 1)) = y.countP (fun v => decide (v < s)) + y.count s := by
  induction y with
  | nil => rfl
  | cons x xs ih =>
    rw [List.countP_cons, List.countP_cons, List.count_cons, ih]
    by_cases h1 : x < s
    · simp [h1, show x < s + 1 by omega, show ¬ x = s by omega]; omega
    · by_cases h2 : x = s
      · subst h2; simp [show x < x + 1 by omega]; omega
      · simp [h1, h2, show ¬ x < s + 1 by omega]
theorem parts_l1 (y : List Int) (o : List (List Int)) (s : Nat) (hs : s < o.length) (ho : o.length ≤ 1000) (hq : rd_L1 o (s : Int) = pos (s : Int) y 0) (hy : y.length ≤ 1000) (n m : Int) (hn0 : 0 ≤ n) (hn : n ≤ 1000000) (K : Nat) (r : Option Bool) (d : Nat) : ∀ (k j : Nat), j + d = (rd_L1 o (s : Int)).length → d + K < k →
    (∀ k', K ≤ k' → tattinglaw4_OccurParts.l0 k' y o (n + ((rd_L1 o (s : Int)).length : Int)) (mx m ((rd_L1 o (s : Int)).length : Int)) ((s + 1 : Nat) : Int) = r) →
    tattinglaw4_OccurParts.l1 k y o (n + (j : Int)) m (s : Int) (j : Int) = r := by
  have hlen : (rd_L1 o (s : Int)).length ≤ y.length := by rw [hq]; exact pos_length _ _ _
  induction d with
  | zero =>
    intro k j hj hk hr
    obtain ⟨k, rfl⟩ := round hk
    simp only [tattinglaw4_OccurParts.l1]
    rw [if_pos (by omega), if_pos (by omega), if_neg (by omega), wrap_succ (by omega), ← hr k (by omega)]
    congr 2; omega
  | succ d ih =>
    intro k j hj hk hr
    obtain ⟨k, rfl⟩ := round hk
    have hmem : rd (rd_L1 o (s : Int)) (j : Int) ∈ pos (s : Int) y 0 := by rw [← hq]; exact rd_mem _ (by omega)
    obtain ⟨t, t1, t2, t3⟩ := pos_ge _ _ _ _ hmem
    rw [Nat.zero_add] at t2
    have hrise := rising_of (rd_L1 o (s : Int)) (by rw [hq]; exact pos_pairwise _ y 0)
    simp only [tattinglaw4_OccurParts.l1]
    rw [if_pos (by omega), if_pos (by omega), if_pos (by omega), if_pos (by omega), if_neg (by omega), if_neg (by omega), if_pos (by omega), if_pos (by omega)]
    rw [t2, if_pos t3]
    have go : tattinglaw4_OccurParts.l1 k y o (wrap64 (n + (j : Int) + 1)) m (s : Int) (wrap64 ((j : Int) + 1)) = r := by
      rw [wrap_succ (by omega), wrap_id (by omega) (by omega), show n + (j : Int) + 1 = n + ((j + 1 : Nat) : Int) by omega]
      exact ih k (j + 1) (by omega) (by omega) hr
    by_cases c : (j : Int) > 0
    · have e : wrap64 ((j : Int) - 1) = ((j - 1 : Nat) : Int) := by rw [wrap_id (by omega) (by omega)]; omega
      have hlt := hrise (j - 1) j (by omega) (by omega)
      rw [t2] at hlt
      rw [if_pos c, e, if_pos (by omega), if_pos (by omega), if_neg (by omega)]
      exact go
    · rw [if_neg c]; exact go
theorem parts_l0 (y : List Int) (o : List (List Int)) (ho : o.length = 8) (hq : ∀ s : Nat, s < 8 → rd_L1 o (s : Int) = pos (s : Int) y 0) (hy : y.length ≤ 1000) (hr : ∀ v ∈ y, 0 ≤ v ∧ v < 8) (d : Nat) : ∀ (k s : Nat) (m : Int), s + d = 8 → d * (y.length + 2) + 20 < k → mostOf m (o.drop s) = mostOf 0 o →
    tattinglaw4_OccurParts.l0 k y o ((y.countP (fun v => decide (v < (s : Int))) : Nat) : Int) m (s : Int) = some true := by
  induction d with
  | zero =>
    intro k s m hs hk hm
    obtain ⟨k, rfl⟩ : ∃ m, k = m + 1 := ⟨k - 1, by omega⟩
    simp only [tattinglaw4_OccurParts.l0]
    have hc : y.countP (fun v => decide (v < (s : Int))) = y.length := by
      rw [List.countP_eq_length]; intro v hv; have := hr v hv; simp; omega
    rw [if_neg (by omega), if_pos (by rw [hc]), most o (by omega) (by omega)]
    rw [List.drop_eq_nil_of_le (by omega)] at hm
    simp only [Option.bind_some]
    rw [← hm]; simp [mostOf]
  | succ d ih =>
    intro k s m hs hk hm
    rw [Nat.succ_mul] at hk
    obtain ⟨k, rfl⟩ : ∃ m, k = m + 1 := ⟨k - 1, by omega⟩
    simp only [tattinglaw4_OccurParts.l0]
    rw [if_pos (by omega)]
    have hlen : (rd_L1 o (s : Int)).length ≤ y.length := by rw [hq s (by omega)]; exact pos_length _ _ _
    have hcl := List.countP_le_length (p := fun v => decide (v < (s : Int))) (l := y)
    have h := parts_l1 y o s (by omega) (by omega) (hq s (by omega)) hy ((y.countP (fun v => decide (v < (s : Int))) : Nat) : Int) m (by omega) (by omega) (d * (y.length + 2) + 21) (some true) (rd_L1 o (s : Int)).length k 0 (by omega) (by omega)
    rw [show ((y.countP (fun v => decide (v < (s : Int))) : Nat) : Int) + ((0 : Nat) : Int) = ((y.countP (fun v => decide (v < (s : Int))) : Nat) : Int) by omega] at h
    refine h ?_
    intro k' hk'
    have e : ((y.countP (fun v => decide (v < (s : Int))) : Nat) : Int) + ((rd_L1 o (s : Int)).length : Int) = ((y.countP (fun v => decide (v < ((s + 1 : Nat) : Int))) : Nat) : Int) := by
      rw [hq s (by omega), pos_count, show ((s + 1 : Nat) : Int) = (s : Int) + 1 by omega, countP_succ]; omega
    rw [e]
    refine ih k' (s + 1) _ (by omega) (by omega) ?_
    rw [← hm, drop_rdL o (show s < o.length by omega)]; rfl
theorem OccurParts : tattinglaw4_OccurParts.Pure := by
  intro b _ _ _
  refine ⟨8000, ?_⟩
  unfold tattinglaw4_OccurParts.f
  rw [at_rounds tattinglaw4_awake.mono (by decide) awake]
  simp only [Option.bind_some, if_true]
  by_cases h1 : (b.length : Int) > 80
  · rw [if_pos h1]
  · rw [if_neg h1]
    have hy := fewOf_range b 8 (by decide)
    have ly : (fewOf b 8).length ≤ 80 := by rw [fewOf_length]; omega
    rw [few b 8 (by decide) (by decide) (by omega) (by omega)]
    simp only [Option.bind_some]
    generalize fewOf b 8 = y at *
    rw [occurOf 8 y (by omega) (by omega)]
    have e : placesOf 8 y = (bld (List.replicate 8 []) y 0, 0) := by unfold placesOf; rw [if_pos ⟨by decide, by decide, hy⟩]; rfl
    rw [e]
    simp only [Option.bind_some, if_true]
    have ho : (bld (List.replicate 8 []) y 0).length = 8 := by rw [bld_length]; rfl
    have hp : ∀ t : Nat, (bld (List.replicate 8 []) y 0).getD t [] = pos (t : Int) y 0 := fun t => by
      rw [bld_at y _ 0 t (by intro z hz; have := hy z hz; simp; omega), getD_replicate_nil, List.nil_append]
    generalize bld (List.replicate 8 []) y 0 = o at *
    rw [ho]
    simp only [tattinglaw4_OccurParts.j0]
    rw [if_neg (by decide)]
    have h := parts_l0 y o ho (fun s _ => hp s) (by omega) hy 8 7999 0 0 (by omega) (by omega) (by rw [List.drop_zero])
    have e0 : y.countP (fun v => decide (v < ((0 : Nat) : Int))) = 0 := by
      rw [List.countP_eq_zero]; intro v hv; have := hy v hv; simp; omega
    rw [e0] at h; exact h

end Go.Proofs.Ytclddnajmcngcaa.Pure
