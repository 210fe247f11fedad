/- For every number n and every list b, both functions of places (the program's and the reference's) answer the same lists and the same error; for lists of at most 80 numbers and n of at most 300, or above the limit. -/
import Derived.Test.YtclddnajmcngcaaPOccurSaysx3
import Derived.Test.YtclddnajmcngcaaWSized
namespace Go.Proofs.Ytclddnajmcngcaa.PrintWords
set_option linter.defProp false in
/-- The printed row names this lemma without the seat-wide namespace. -/
def sized_ints := @Go.Proofs.YtclddnajmcngcaaW.PrintWords.sized_ints
end Go.Proofs.Ytclddnajmcngcaa.PrintWords
namespace Go.Proofs.Ytclddnajmcngcaa.Pure
open Go.RowKit Go.Proofs.Ytclddnajmcngcaa.POccurSays Go.Proofs.YtclddnajmcngcaaW.PrintWords Go.Proofs.YtclddnajmcngcaaW.PrintLast
set_option linter.unusedVariables false
set_option linter.unusedSimpArgs false

theorem wrap_id {i : Int} (h0 : -9223372036854775808 ≤ i) (h1 : i < 9223372036854775808) : wrap64 i = i := by unfold wrap64; omega
theorem wrap_succ {n : Nat} (h : n < 9223372036854775807) : wrap64 ((n : Int) + 1) = ((n + 1 : Nat) : Int) := by unfold wrap64; omega

theorem rd_at (l : List Int) {n : Nat} (h : n < l.length) : rd l (n : Int) = l[n] := by
  unfold rd; rw [Int.toNat_natCast, List.getD_eq_getElem?_getD, List.getElem?_eq_getElem h]; rfl
theorem rd_d (l : List Int) (n : Nat) : rd l (n : Int) = l.getD n 0 := rfl
theorem rd_out (l : List Int) {n : Nat} (h : l.length ≤ n) : rd l (n : Int) = 0 := by
  rw [rd_d, List.getD_eq_getElem?_getD, List.getElem?_eq_none h]; rfl
theorem drop_rd (l : List Int) {n : Nat} (h : n < l.length) : l.drop n = rd l (n : Int) :: l.drop (n + 1) := by
  rw [rd_at l h]; exact List.drop_eq_getElem_cons h
theorem take_rd (l : List Int) {n : Nat} (h : n < l.length) : l.take (n + 1) = l.take n ++ [rd l (n : Int)] := by
  rw [rd_at l h, List.take_succ_eq_append_getElem h]
theorem rd_mem (l : List Int) {n : Nat} (h : n < l.length) : rd l (n : Int) ∈ l := by rw [rd_at l h]; exact List.getElem_mem h
theorem rd_app_lt (l : List Int) (x : Int) {n : Nat} (h : n < l.length) : rd (l ++ [x]) (n : Int) = rd l (n : Int) := by
  rw [rd_at _ (by rw [List.length_append]; omega), rd_at _ h, List.getElem_append_left h]
theorem rd_app_eq (l : List Int) (x : Int) : rd (l ++ [x]) (l.length : Int) = x := by
  rw [rd_at _ (by rw [List.length_append, List.length_singleton]; omega)]; simp
theorem rd_app (l : List Int) (x : Int) (n : Nat) (h : n ≤ l.length) : rd (l ++ [x]) (n : Int) = if n = l.length then x else rd l (n : Int) := by
  by_cases e : n = l.length
  · rw [if_pos e, e, rd_app_eq]
  · rw [if_neg e, rd_app_lt _ _ (by omega)]
theorem rd_set (l : List Int) (i n : Nat) (x : Int) (h : n < l.length) : rd (l.set i x) (n : Int) = if n = i then x else rd l (n : Int) := by
  rw [rd_at _ (by rw [List.length_set]; exact h), rd_at _ h, List.getElem_set]
  by_cases e : n = i
  · rw [if_pos e, if_pos e.symm]
  · rw [if_neg e, if_neg (fun q => e q.symm)]
theorem rd_replicate (m n : Nat) (x : Int) (h : n < m) : rd (List.replicate m x) (n : Int) = x := by
  rw [rd_at _ (by rw [List.length_replicate]; exact h), List.getElem_replicate]
theorem rd_take (l : List Int) {m n : Nat} (h : n < m) (hm : m ≤ l.length) : rd (l.take m) (n : Int) = rd l (n : Int) := by
  rw [rd_at _ (by rw [List.length_take]; omega), rd_at _ (by omega), List.getElem_take]
theorem rd_drop (l : List Int) (m n : Nat) : rd (l.drop m) (n : Int) = rd l ((m + n : Nat) : Int) := by
  rw [rd_d, rd_d, List.getD_eq_getElem?_getD, List.getD_eq_getElem?_getD, List.getElem?_drop]
theorem list_ext {l m : List Int} (h : l.length = m.length) (k : ∀ n : Nat, n < l.length → rd l (n : Int) = rd m (n : Int)) : l = m := by
  apply List.ext_getElem h
  intro i h1 h2
  have := k i h1
  rwa [rd_at _ h1, rd_at _ h2] at this
theorem wf64 {a : Int} (h : (Lit.int .i64 a).wf = true) : -9223372036854775808 ≤ a ∧ a ≤ 9223372036854775807 := by
  simp only [Lit.wf, IntKind.min, IntKind.max, IntKind.signed, IntKind.bits, Bool.and_eq_true, decide_eq_true_eq, if_true] at h
  omega
/-- At least one round. -/
theorem round {k d : Nat} (h : d < k) : ∃ m, k = m + 1 := ⟨k - 1, by omega⟩

/-- The comparison of two lists answers whether they are equal. -/
theorem sameInts_l0 (a b : List Int) (hl : a.length = b.length) (hm : a.length ≤ 9223372036854775806) (d : Nat) : ∀ (k n : Nat), n + d = a.length → d < k → tattingref1_SameInts.l0 k a b (n : Int) = some (decide (a.drop n = b.drop n)) := by
  induction d with
  | zero =>
    intro k n hn hk
    obtain ⟨k, rfl⟩ := round hk
    simp only [tattingref1_SameInts.l0]
    rw [if_neg (by omega), List.drop_eq_nil_of_le (by omega), List.drop_eq_nil_of_le (by omega)]; rfl
  | succ d ih =>
    intro k n hn hk
    obtain ⟨k, rfl⟩ := round hk
    simp only [tattingref1_SameInts.l0]
    rw [if_pos (by omega), if_pos (by omega), if_pos (by omega)]
    rw [drop_rd a (by omega), drop_rd b (by omega)]
    by_cases h : rd a (n : Int) = rd b (n : Int)
    · rw [if_pos h, wrap_succ (by omega), ih k (n + 1) (by omega) (by omega), h]
      simp
    · rw [if_neg h]
      simp [h]
theorem sameInts (a b : List Int) (hm : a.length ≤ 9223372036854775806) {k : Nat} (hk : a.length < k) : tattingref1_SameInts.f k a b = some (decide (a = b)) := by
  unfold tattingref1_SameInts.f
  by_cases h : a.length = b.length
  · rw [if_pos (by omega)]
    exact sameInts_l0 a b h hm a.length k 0 (by omega) hk
  · rw [if_neg (by omega)]
    congr 1
    rw [eq_comm, decide_eq_false_iff_not]
    intro e; exact h (by rw [e])

/-- The places of a number in a list, from some place on. -/
def pos (s : Int) : List Int → Nat → List Int
  | [], _ => []
  | x :: xs, i => if x = s then (i : Int) :: pos s xs (i + 1) else pos s xs (i + 1)
/-- Place by place, each one goes to the list of its number. -/
def bld : List (List Int) → List Int → Nat → List (List Int)
  | o, [], _ => o
  | o, x :: xs, i => bld (o.set x.toNat (o.getD x.toNat [] ++ [(i : Int)])) xs (i + 1)
theorem bld_length (o : List (List Int)) (b : List Int) (i : Nat) : (bld o b i).length = o.length := by
  induction b generalizing o i with
  | nil => rfl
  | cons x xs ih => rw [bld, ih, List.length_set]
theorem getD_set (o : List (List Int)) (j s : Nat) (v : List Int) (h : j < o.length) : (o.set j v).getD s [] = if s = j then v else o.getD s [] := by
  rw [List.getD_eq_getElem?_getD, List.getElem?_set, List.getD_eq_getElem?_getD]
  by_cases e : s = j
  · rw [if_pos e.symm, if_pos e]; simp [h]
  · rw [if_neg (fun q => e q.symm), if_neg e]
theorem bld_at (b : List Int) : ∀ (o : List (List Int)) (i s : Nat), (∀ x ∈ b, 0 ≤ x ∧ x < (o.length : Int)) → (bld o b i).getD s [] = o.getD s [] ++ pos (s : Int) b i := by
  induction b with
  | nil => intro o i s _; simp [bld, pos]
  | cons x xs ih =>
    intro o i s h
    have hx := h x (List.mem_cons_self)
    rw [bld, ih _ _ _ (fun y hy => by rw [List.length_set]; exact h y (List.mem_cons_of_mem _ hy)), getD_set _ _ _ _ (by omega), pos]
    by_cases e : x = (s : Int)
    · rw [if_pos (by omega), if_pos e]; subst e; simp
    · rw [if_neg (by omega), if_neg e]
theorem pos_length (s : Int) (b : List Int) (i : Nat) : (pos s b i).length ≤ b.length := by
  induction b generalizing i with
  | nil => simp [pos]
  | cons x xs ih => rw [pos]; have := ih (i + 1); split <;> simp <;> omega
/-- All numbers of a list are from 0 to below n. -/
def InRange (n : Int) (b : List Int) : Prop := ∀ x ∈ b, 0 ≤ x ∧ x < n
instance (n : Int) (b : List Int) : Decidable (InRange n b) := by unfold InRange; infer_instance
theorem inRange_cons {n x : Int} {b : List Int} (h0 : 0 ≤ x) (h1 : x < n) : InRange n (x :: b) ↔ InRange n b :=
  ⟨fun q y hy => q y (List.mem_cons_of_mem _ hy), fun q y hy => (List.mem_cons.mp hy).elim (fun e => e ▸ ⟨h0, h1⟩) (fun hy => q y hy)⟩
/-- What both functions of places answer. -/
def placesOf (n : Int) (b : List Int) : List (List Int) × Int :=
  if 0 ≤ n ∧ n ≤ 1048576 ∧ InRange n b then (bld (List.replicate n.toNat []) b 0, 0) else ([], 1)

theorem occurOf_l0 (N : Int) (l : List Int) (hl : l.length ≤ 1000000) (d : Nat) : ∀ (k n : Nat) (o : List (List Int)), n + d = l.length → d < k → (o.length : Int) = N → (∀ s, (o.getD s []).length ≤ n) →
    occur_Of.l0 k N o l (l.length : Int) (n : Int) = some (if InRange N (l.drop n) then (bld o (l.drop n) n, 0) else ([], 1)) := by
  induction d with
  | zero =>
    intro k n o hn hk ho hs
    obtain ⟨k, rfl⟩ := round hk
    simp only [occur_Of.l0]
    rw [if_neg (by omega), List.drop_eq_nil_of_le (by omega)]
    simp [InRange, bld]
  | succ d ih =>
    intro k n o hn hk ho hs
    obtain ⟨k, rfl⟩ := round hk
    simp only [occur_Of.l0]
    rw [if_pos (by omega), if_pos (by omega), if_pos (by omega), drop_rd l (by omega)]
    by_cases h0 : rd l (n : Int) < 0
    · rw [if_pos h0, if_neg (fun q => by have := q _ (List.mem_cons_self); omega)]
    · rw [if_neg h0]
      by_cases h1 : rd l (n : Int) ≥ N
      · rw [if_pos h1, if_neg (fun q => by have := q _ (List.mem_cons_self); omega)]
      · have hs1 : (rd_L1 o (rd l (n : Int))).length ≤ n := hs _
        rw [if_neg h1, if_pos (by omega), if_pos (by omega), if_pos (by omega), wrap_succ (by omega)]
        rw [ih k (n + 1) _ (by omega) (by omega) (by rw [List.length_set]; exact ho)]
        · have e : InRange N (rd l (n : Int) :: l.drop (n + 1)) ↔ InRange N (l.drop (n + 1)) :=
            inRange_cons (by omega) (by omega)
          rw [bld]
          by_cases q : InRange N (l.drop (n + 1))
          · rw [if_pos q, if_pos (e.mpr q)]; rfl
          · rw [if_neg q, if_neg (fun z => q (e.mp z))]
        · intro s
          rw [getD_set _ _ _ _ (by omega)]
          split
          · rw [List.length_append, List.length_singleton]; omega
          · have := hs s; omega
theorem getD_replicate_nil (m s : Nat) : ((List.replicate m ([] : List Int)).getD s []) = [] := by
  rw [List.getD_eq_getElem?_getD, List.getElem?_replicate]; split <;> rfl
theorem occurOf (N : Int) (l : List Int) (hl : l.length ≤ 1000000) {k : Nat} (hk : l.length + 1 < k) : occur_Of.f k N l = some (placesOf N l) := by
  obtain ⟨k, rfl⟩ : ∃ m, k = m + 1 := ⟨k - 1, by omega⟩
  unfold occur_Of.f placesOf
  by_cases h0 : N < 0
  · rw [if_pos h0, if_neg (by omega)]; simp [occur_Of.j0]
  · rw [if_neg h0]; simp only [occur_Of.j0]
    by_cases h1 : N > 1048576
    · rw [if_pos (by simpa using h1), if_neg (by omega)]
    · rw [if_neg (by simpa using h1), if_pos (by omega), if_pos (by omega)]
      have h := occurOf_l0 N l hl l.length k 0 (List.replicate N.toNat []) (by omega) (by omega) (by rw [List.length_replicate]; omega) (fun s => by rw [getD_replicate_nil]; simp)
      refine h.trans ?_
      congr 1
      rw [List.drop_zero]
      by_cases q : InRange N l
      · rw [if_pos q, if_pos ⟨by omega, by omega, q⟩]
      · rw [if_neg q, if_neg (fun z => q z.2.2)]

theorem refPlaces_l1 (N : Int) (l : List Int) (hl : l.length ≤ 1000000) (d : Nat) : ∀ (k n : Nat) (o : List (List Int)), n + d = l.length → d < k → (o.length : Int) = N → (∀ s, (o.getD s []).length ≤ n) → InRange N (l.drop n) →
    tattingref1_Places.l1 k l o (n : Int) = some (bld o (l.drop n) n, 0) := by
  induction d with
  | zero =>
    intro k n o hn hk ho hs hr
    obtain ⟨k, rfl⟩ := round hk
    simp only [tattingref1_Places.l1]
    rw [if_neg (by omega), List.drop_eq_nil_of_le (by omega), bld]
  | succ d ih =>
    intro k n o hn hk ho hs hr
    obtain ⟨k, rfl⟩ := round hk
    rw [drop_rd l (by omega)] at hr
    have hr1 := hr _ (List.mem_cons_self)
    simp only [tattingref1_Places.l1]
    have hs1 : (rd_L1 o (rd l (n : Int))).length ≤ n := hs _
    rw [if_pos (by omega), if_pos (by omega), if_pos (by omega), if_pos (by omega), if_pos (by omega), wrap_succ (by omega), drop_rd l (by omega), bld]
    rw [ih k (n + 1) _ (by omega) (by omega) (by rw [List.length_set]; exact ho)]
    · rfl
    · intro s
      rw [getD_set _ _ _ _ (by omega)]
      split
      · rw [List.length_append, List.length_singleton]; omega
      · have := hs s; omega
    · exact fun x hx => hr x (List.mem_cons_of_mem _ hx)
theorem refPlaces_l0 (N : Int) (hN : 0 ≤ N) (hN' : N ≤ 1048576) (l : List Int) (hl : l.length ≤ 1000000) (d : Nat) : ∀ (k n : Nat), n + d = l.length → d + l.length + 1 < k → InRange N (l.take n) →
    tattingref1_Places.l0 k N l (n : Int) = some (if InRange N (l.drop n) then (bld (List.replicate N.toNat []) l 0, 0) else ([], 1)) := by
  induction d with
  | zero =>
    intro k n hn hk hr
    obtain ⟨k, rfl⟩ := round hk
    simp only [tattingref1_Places.l0]
    rw [if_neg (by omega), if_pos (by omega), if_pos (by omega)]
    have hr' : InRange N l := by rwa [List.take_of_length_le (by omega)] at hr
    have h := refPlaces_l1 N l hl l.length k 0 (List.replicate N.toNat []) (by omega) (by omega) (by rw [List.length_replicate]; omega) (fun s => by rw [getD_replicate_nil]; simp) (by rwa [List.drop_zero])
    refine h.trans ?_
    rw [if_pos (by rw [List.drop_eq_nil_of_le (by omega)]; intro x hx; cases hx), List.drop_zero]
  | succ d ih =>
    intro k n hn hk hr
    obtain ⟨k, rfl⟩ := round hk
    simp only [tattingref1_Places.l0]
    rw [if_pos (by omega), if_pos (by omega), drop_rd l (by omega)]
    by_cases h0 : rd l (n : Int) < 0
    · rw [if_pos h0, if_neg (fun q => by have := q _ (List.mem_cons_self); omega)]
    · rw [if_neg h0]
      by_cases h1 : rd l (n : Int) ≥ N
      · rw [if_pos h1, if_neg (fun q => by have := q _ (List.mem_cons_self); omega)]
      · rw [if_neg h1, wrap_succ (by omega)]
        rw [ih k (n + 1) (by omega) (by omega) ?_]
        · have e : InRange N (rd l (n : Int) :: l.drop (n + 1)) ↔ InRange N (l.drop (n + 1)) :=
            inRange_cons (by omega) (by omega)
          by_cases q : InRange N (l.drop (n + 1))
          · rw [if_pos q, if_pos (e.mpr q)]
          · rw [if_neg q, if_neg (fun z => q (e.mp z))]
        · rw [take_rd l (by omega)]
          intro x hx
          rcases List.mem_append.mp hx with h | h
          · exact hr x h
          · rw [List.mem_singleton.mp h]; omega
theorem refPlaces (N : Int) (l : List Int) (hl : l.length ≤ 1000000) {k : Nat} (hk : 2 * l.length + 2 < k) : tattingref1_Places.f k N l = some (placesOf N l) := by
  obtain ⟨k, rfl⟩ : ∃ m, k = m + 1 := ⟨k - 1, by omega⟩
  unfold tattingref1_Places.f placesOf
  by_cases h0 : N < 0
  · rw [if_pos h0, if_neg (by omega)]; simp [tattingref1_Places.j0]
  · rw [if_neg h0]; simp only [tattingref1_Places.j0]
    by_cases h1 : N > 1048576
    · rw [if_pos (by simpa using h1), if_neg (by omega)]
    · rw [if_neg (by simpa using h1)]
      have h := refPlaces_l0 N (by omega) (by omega) l hl l.length k 0 (by omega) (by omega) (by rw [List.take_zero]; intro x hx; cases hx)
      refine h.trans ?_
      congr 1
      rw [List.drop_zero]
      by_cases q : InRange N l
      · rw [if_pos q, if_pos ⟨by omega, by omega, q⟩]
      · rw [if_neg q, if_neg (fun z => q z.2.2)]

theorem sameLists_refl_l0 (a : List (List Int)) (m : Nat) (hl : ∀ s, (a.getD s []).length ≤ m) (hm : m ≤ 1000000) (hm' : a.length ≤ 100000000) (d : Nat) : ∀ (k n : Nat), n + d = a.length → d + m + 1 < k → tattingref1_SameLists.l0 k a a (n : Int) = some true := by
  induction d with
  | zero =>
    intro k n hn hk
    obtain ⟨k, rfl⟩ := round hk
    simp only [tattingref1_SameLists.l0]
    rw [if_neg (by omega)]
  | succ d ih =>
    intro k n hn hk
    obtain ⟨k, rfl⟩ := round hk
    have hs : (rd_L1 a (n : Int)).length ≤ m := hl n
    simp only [tattingref1_SameLists.l0]
    rw [if_pos (by omega), if_pos (by omega), if_pos (by omega), sameInts _ _ (by omega) (by omega)]
    simp only [Option.bind_some, decide_true, if_true]
    rw [wrap_succ (by omega)]
    exact ih k (n + 1) (by omega) (by omega)
theorem sameLists_refl (a : List (List Int)) (m : Nat) (hl : ∀ s, (a.getD s []).length ≤ m) (hm : m ≤ 1000000) (hm' : a.length ≤ 100000000) {k : Nat} (hk : a.length + m + 1 < k) : tattingref1_SameLists.f k a a = some true := by
  unfold tattingref1_SameLists.f
  rw [if_pos rfl]
  exact sameLists_refl_l0 a m hl hm hm' a.length k 0 (by omega) (by omega)

theorem awake : tattinglaw4_awake.f 40 = some true := by decide +kernel
theorem OccurSays : tattinglaw4_OccurSays.Pure := by
  intro n l hn hl _ _
  refine ⟨1000, ?_⟩
  unfold tattinglaw4_OccurSays.f
  rw [at_rounds tattinglaw4_awake.mono (by decide) awake]
  simp only [Option.bind_some, if_true]
  have key : l.length ≤ 80 → (n ≤ 300 ∨ n > 1048576) → tattinglaw4_OccurSays.j0 1000 n l false = some true := by
    intro h80 hn3
    simp only [tattinglaw4_OccurSays.j0]
    rw [occurOf n l (by omega) (by omega), refPlaces n l (by omega) (by omega)]
    simp only [Option.bind_some, if_true, Bool.false_eq_true, if_false]
    rw [sameLists_refl _ 80]
    · rfl
    · intro s
      unfold placesOf
      split
      · rename_i h
        rw [bld_at _ _ _ _ (by intro x hx; have := h.2.2 x hx; rw [List.length_replicate]; omega), getD_replicate_nil, List.nil_append]
        have := pos_length (s : Int) l 0; omega
      · simp
    · decide
    · unfold placesOf; split
      · rw [bld_length, List.length_replicate]; omega
      · simp
    · unfold placesOf; split
      · rw [bld_length, List.length_replicate]; omega
      · simp
  have skip : tattinglaw4_OccurSays.j0 1000 n l true = some true := by simp [tattinglaw4_OccurSays.j0]
  by_cases h1 : (l.length : Int) > 80
  · rw [if_pos h1]; exact skip
  · rw [if_neg h1]
    by_cases h2 : n > 300
    · rw [if_pos h2]
      by_cases h3 : n ≤ 1048576
      · rw [decide_eq_true h3]; exact skip
      · rw [decide_eq_false h3]; exact key (by omega) (by omega)
    · rw [if_neg h2]; exact key (by omega) (by omega)

end Go.Proofs.Ytclddnajmcngcaa.Pure
