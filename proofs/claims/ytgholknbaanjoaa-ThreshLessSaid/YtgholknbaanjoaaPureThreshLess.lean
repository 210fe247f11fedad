/- For every list of at most 40 numbers, made to rise, and every number: where it is put no number grows but at its place, the list grows by one at most, and it is put there again. -/
import Derived.Test.YtgholknbaanjoaaPThreshLessx2
import Derived.Test.YtgholknbaanjoaaWSized
namespace Go.Proofs.Ytgholknbaanjoaa.PrintWords
set_option linter.defProp false in
/-- The printed row names this lemma without the seat-wide namespace. -/
def sized_ints := @Go.Proofs.YtgholknbaanjoaaW.PrintWords.sized_ints
end Go.Proofs.Ytgholknbaanjoaa.PrintWords
namespace Go.Proofs.Ytgholknbaanjoaa.Pure
open Go.RowKit Go.Proofs.Ytgholknbaanjoaa.PThreshLess Go.Proofs.YtgholknbaanjoaaW.PrintWords Go.Proofs.YtgholknbaanjoaaW.PrintLast Go.Proofs.YtgholknbaanjoaaW.PrintMore
set_option linter.unusedVariables false
set_option linter.unusedSimpArgs false

theorem wrap_id {i : Int} (h0 : -9223372036854775808 ≤ i) (h1 : i < 9223372036854775808) : wrap64 i = i := by unfold wrap64; omega
theorem wrap_succ {n : Nat} (h : n < 9223372036854775807) : wrap64 ((n : Int) + 1) = ((n + 1 : Nat) : Int) := by unfold wrap64; omega

theorem rd_at (l : List Int) {n : Nat} (h : n < l.length) : rd l (n : Int) = l[n] := by
  unfold rd; rw [Int.toNat_natCast, List.getD_eq_getElem?_getD, List.getElem?_eq_getElem h]; rfl
theorem rd_d (l : List Int) (n : Nat) : rd l (n : Int) = l.getD n 0 := rfl
theorem rd_out (l : List Int) {n : Nat} (h : l.length ≤ n) : rd l (n : Int) = 0 := by
  rw [rd_d, List.getD_eq_getElem?_getD, List.getElem?_eq_none h]; rfl
theorem drop_rd (l : List Int) {n : Nat} (h : n < l.length) : l.drop n = rd l (n : Int) :: l.drop (n + 1) := by
  rw [rd_at l h]; exact List.drop_eq_getElem_cons h
theorem take_rd (l : List Int) {n : Nat} (h : n < l.length) : l.take (n + 1) = l.take n ++ [rd l (n : Int)] := by
  rw [rd_at l h, List.take_succ_eq_append_getElem h]
theorem rd_mem (l : List Int) {n : Nat} (h : n < l.length) : rd l (n : Int) ∈ l := by rw [rd_at l h]; exact List.getElem_mem h
theorem rd_app_lt (l : List Int) (x : Int) {n : Nat} (h : n < l.length) : rd (l ++ [x]) (n : Int) = rd l (n : Int) := by
  rw [rd_at _ (by rw [List.length_append]; omega), rd_at _ h, List.getElem_append_left h]
theorem rd_app_eq (l : List Int) (x : Int) : rd (l ++ [x]) (l.length : Int) = x := by
  rw [rd_at _ (by rw [List.length_append, List.length_singleton]; omega)]; simp
theorem rd_app (l : List Int) (x : Int) (n : Nat) (h : n ≤ l.length) : rd (l ++ [x]) (n : Int) = if n = l.length then x else rd l (n : Int) := by
  by_cases e : n = l.length
  · rw [if_pos e, e, rd_app_eq]
  · rw [if_neg e, rd_app_lt _ _ (by omega)]
theorem rd_set (l : List Int) (i n : Nat) (x : Int) (h : n < l.length) : rd (l.set i x) (n : Int) = if n = i then x else rd l (n : Int) := by
  rw [rd_at _ (by rw [List.length_set]; exact h), rd_at _ h, List.getElem_set]
  by_cases e : n = i
  · rw [if_pos e, if_pos e.symm]
  · rw [if_neg e, if_neg (fun q => e q.symm)]
theorem rd_replicate (m n : Nat) (x : Int) (h : n < m) : rd (List.replicate m x) (n : Int) = x := by
  rw [rd_at _ (by rw [List.length_replicate]; exact h), List.getElem_replicate]
theorem rd_take (l : List Int) {m n : Nat} (h : n < m) (hm : m ≤ l.length) : rd (l.take m) (n : Int) = rd l (n : Int) := by
  rw [rd_at _ (by rw [List.length_take]; omega), rd_at _ (by omega), List.getElem_take]
theorem rd_drop (l : List Int) (m n : Nat) : rd (l.drop m) (n : Int) = rd l ((m + n : Nat) : Int) := by
  rw [rd_d, rd_d, List.getD_eq_getElem?_getD, List.getD_eq_getElem?_getD, List.getElem?_drop]
theorem list_ext {l m : List Int} (h : l.length = m.length) (k : ∀ n : Nat, n < l.length → rd l (n : Int) = rd m (n : Int)) : l = m := by
  apply List.ext_getElem h
  intro i h1 h2
  have := k i h1
  rwa [rd_at _ h1, rd_at _ h2] at this
theorem wf64 {a : Int} (h : (Lit.int .i64 a).wf = true) : -9223372036854775808 ≤ a ∧ a ≤ 9223372036854775807 := by
  simp only [Lit.wf, IntKind.min, IntKind.max, IntKind.signed, IntKind.bits, Bool.and_eq_true, decide_eq_true_eq, if_true] at h
  omega
/-- At least one round. -/
theorem round {k d : Nat} (h : d < k) : ∃ m, k = m + 1 := ⟨k - 1, by omega⟩

/-- The comparison of two lists answers whether they are equal. -/
theorem sameInts_l0 (a b : List Int) (hl : a.length = b.length) (hm : a.length ≤ 9223372036854775806) (d : Nat) : ∀ (k n : Nat), n + d = a.length → d < k → tattingref1_SameInts.l0 k a b (n : Int) = some (decide (a.drop n = b.drop n)) := by
  induction d with
  | zero =>
    intro k n hn hk
    obtain ⟨k, rfl⟩ := round hk
    simp only [tattingref1_SameInts.l0]
    rw [if_neg (by omega), List.drop_eq_nil_of_le (by omega), List.drop_eq_nil_of_le (by omega)]; rfl
  | succ d ih =>
    intro k n hn hk
    obtain ⟨k, rfl⟩ := round hk
    simp only [tattingref1_SameInts.l0]
    rw [if_pos (by omega), if_pos (by omega), if_pos (by omega)]
    rw [drop_rd a (by omega), drop_rd b (by omega)]
    by_cases h : rd a (n : Int) = rd b (n : Int)
    · rw [if_pos h, wrap_succ (by omega), ih k (n + 1) (by omega) (by omega), h]
      simp
    · rw [if_neg h]
      simp [h]
theorem sameInts (a b : List Int) (hm : a.length ≤ 9223372036854775806) {k : Nat} (hk : a.length < k) : tattingref1_SameInts.f k a b = some (decide (a = b)) := by
  unfold tattingref1_SameInts.f
  by_cases h : a.length = b.length
  · rw [if_pos (by omega)]
    exact sameInts_l0 a b h hm a.length k 0 (by omega) hk
  · rw [if_neg (by omega)]
    congr 1
    rw [eq_comm, decide_eq_false_iff_not]
    intro e; exact h (by rw [e])

theorem isNaN0 (x : Int) : cmp_isNaN_int.f x = some false := by unfold cmp_isNaN_int.f; simp
theorem isNaN1 (x : Int) : slices_isNaN_int.f x = some false := by unfold slices_isNaN_int.f; simp
theorem less_f (x y : Int) : cmp_Less_int.f x y = some (decide (x < y)) := by
  unfold cmp_Less_int.f; rw [isNaN0]; simp
/-- A list that rises. -/
def Rising (l : List Int) : Prop := ∀ i j : Nat, i < j → j < l.length → rd l (i : Int) < rd l (j : Int)
theorem bs_l0 (l : List Int) (x : Int) (hl : l.length ≤ 1000000) (hs : Rising l) (d : Nat) : ∀ (k lo hi : Nat), hi - lo ≤ d → lo ≤ hi → hi ≤ l.length → d < k → (∀ t : Nat, t < lo → rd l (t : Int) < x) → (∀ t : Nat, hi ≤ t → t < l.length → x ≤ rd l (t : Int)) →
    ∃ (r : Nat), slices_BinarySearch_int_int.l0 k l x (l.length : Int) (lo : Int) (hi : Int) = some ((r : Int), decide (r < l.length ∧ rd l (r : Int) = x)) ∧ r ≤ l.length ∧ (∀ t : Nat, t < r → rd l (t : Int) < x) ∧ (∀ t : Nat, r ≤ t → t < l.length → x ≤ rd l (t : Int)) := by
  induction d with
  | zero =>
    intro k lo hi hd hlh hh hk h1 h2
    obtain ⟨k, rfl⟩ := round hk
    have e : lo = hi := by omega
    refine ⟨lo, ?_, by omega, h1, fun t ht => h2 t (by omega)⟩
    simp only [slices_BinarySearch_int_int.l0]
    rw [if_neg (by omega)]
    by_cases c : lo < l.length
    · rw [if_pos (by omega), if_pos (by omega), if_pos (by omega)]
      by_cases q : rd l (lo : Int) = x
      · rw [if_pos q, decide_eq_true ⟨c, q⟩]
      · rw [if_neg q, isNaN1, decide_eq_false (fun z => q z.2)]; simp
    · rw [if_neg (by omega), decide_eq_false (fun z => c z.1)]
  | succ d ih =>
    intro k lo hi hd hlh hh hk h1 h2
    obtain ⟨k, rfl⟩ := round hk
    by_cases c : lo < hi
    · simp only [slices_BinarySearch_int_int.l0]
      have hm : wrap64 (IntKind.u64.wrap (wrap64 ((lo : Int) + (hi : Int))) / 2) = (((lo + hi) / 2 : Nat) : Int) := by
        rw [wrap_id (i := (lo : Int) + hi) (by omega) (by omega), IntWalk.u64_in _ (by omega), wrap_id (by omega) (by omega)]; omega
      have hm1 : (lo + hi) / 2 < l.length := by omega
      rw [hm, if_pos (by omega), if_pos (by omega), if_pos (by omega), less_f]
      simp only [Option.bind_some, decide_eq_true_eq]
      by_cases q : rd l (((lo + hi) / 2 : Nat) : Int) < x
      · rw [if_pos q, wrap_succ (by omega)]
        refine ih k ((lo + hi) / 2 + 1) hi (by omega) (by omega) hh (by omega) ?_ h2
        intro t ht
        by_cases e : t = (lo + hi) / 2
        · rw [e]; exact q
        · have := hs t ((lo + hi) / 2) (by omega) hm1; omega
      · rw [if_neg q]
        refine ih k lo ((lo + hi) / 2) (by omega) (by omega) (by omega) (by omega) h1 ?_
        intro t ht htl
        by_cases e : t = (lo + hi) / 2
        · rw [e]; omega
        · have := hs ((lo + hi) / 2) t (by omega) htl; omega
    · refine ⟨lo, ?_, by omega, h1, fun t ht => h2 t (by omega)⟩
      simp only [slices_BinarySearch_int_int.l0]
      rw [if_neg (by omega)]
      by_cases c' : lo < l.length
      · rw [if_pos (by omega), if_pos (by omega), if_pos (by omega)]
        by_cases q : rd l (lo : Int) = x
        · rw [if_pos q, decide_eq_true ⟨c', q⟩]
        · rw [if_neg q, isNaN1, decide_eq_false (fun z => q z.2)]; simp
      · rw [if_neg (by omega), decide_eq_false (fun z => c' z.1)]
theorem bs (l : List Int) (x : Int) (hl : l.length ≤ 1000000) (hs : Rising l) {k : Nat} (hk : l.length < k) :
    ∃ (r : Nat), slices_BinarySearch_int_int.f k l x = some ((r : Int), decide (r < l.length ∧ rd l (r : Int) = x)) ∧ r ≤ l.length ∧ (∀ t : Nat, t < r → rd l (t : Int) < x) ∧ (∀ t : Nat, r ≤ t → t < l.length → x ≤ rd l (t : Int)) := by
  exact bs_l0 l x hl hs l.length k 0 l.length (by omega) (by omega) (by omega) hk (fun t ht => by omega) (fun t ht => by omega)

/-- The place of a number in a list that rises. -/
def IsAt (t : List Int) (x : Int) (r : Nat) : Prop := r ≤ t.length ∧ (∀ u : Nat, u < r → rd t (u : Int) < x) ∧ (∀ u : Nat, r ≤ u → u < t.length → x ≤ rd t (u : Int))
theorem IsAt.one {t : List Int} {x : Int} {r s : Nat} (h : IsAt t x r) (k : IsAt t x s) : r = s := by
  obtain ⟨h1, h2, h3⟩ := h
  obtain ⟨k1, k2, k3⟩ := k
  by_cases c : r < s
  · have := k2 r c; have := h3 r (Nat.le_refl r) (by omega); omega
  · by_cases c' : s < r
    · have := h2 s c'; have := k3 s (Nat.le_refl s) (by omega); omega
    · omega
theorem find_at (t : List Int) (x : Int) (ht : t.length ≤ 1000000) (hs : Rising t) {k : Nat} (hk : t.length < k) : ∃ r : Nat, thresh_Find.f k t x = some (r : Int) ∧ IsAt t x r := by
  obtain ⟨r, r1, r2, r3, r4⟩ := bs t x ht hs hk
  exact ⟨r, by unfold thresh_Find.f; rw [r1, Option.bind_some], r2, r3, r4⟩
theorem find15_l0 (t : List Int) (x : Int) (ht : t.length ≤ 1000000) (hs : Rising t) (d : Nat) : ∀ (k n i : Nat), i + d = t.length → d < k → n ≤ i → (∀ u : Nat, u < n → rd t (u : Int) < x) → (∀ u : Nat, n ≤ u → u < i → x ≤ rd t (u : Int)) →
    ∃ r : Nat, tattingref15_Find.l0 k t x (n : Int) (i : Int) = some (r : Int) ∧ IsAt t x r := by
  induction d with
  | zero =>
    intro k n i hi hk hn h1 h2
    obtain ⟨k, rfl⟩ := round hk
    refine ⟨n, ?_, by omega, h1, fun u hu hl => h2 u hu (by omega)⟩
    simp only [tattingref15_Find.l0]
    rw [if_neg (by omega)]
  | succ d ih =>
    intro k n i hi hk hn h1 h2
    obtain ⟨k, rfl⟩ := round hk
    simp only [tattingref15_Find.l0]
    rw [if_pos (by omega), if_pos (by omega), wrap_succ (by omega), wrap_succ (by omega)]
    by_cases c : rd t (i : Int) < x
    · rw [if_pos c]
      have e : n = i := by
        by_cases q : n < i
        · have := h2 n (Nat.le_refl n) q; have := hs n i q (by omega); omega
        · omega
      subst e
      refine ih k (n + 1) (n + 1) (by omega) (by omega) (Nat.le_refl _) (fun u hu => ?_) (fun u hu hv => by omega)
      by_cases q : u = n
      · rw [q]; exact c
      · exact h1 u (by omega)
    · rw [if_neg c]
      refine ih k n (i + 1) (by omega) (by omega) (by omega) h1 (fun u hu hv => ?_)
      by_cases q : u = i
      · rw [q]; omega
      · exact h2 u hu (by omega)
theorem find15 (t : List Int) (x : Int) (ht : t.length ≤ 1000000) (hs : Rising t) {k : Nat} (hk : t.length < k) : ∃ r : Nat, tattingref15_Find.f k t x = some (r : Int) ∧ IsAt t x r :=
  find15_l0 t x ht hs t.length k 0 0 (by omega) hk (by omega) (fun u hu => by omega) (fun u hu hv => by omega)
/-- The list with a number put at its place. -/
def putOf (t : List Int) (x : Int) (r : Nat) : List Int := if r = t.length then t ++ [x] else t.set r x
theorem putOf_length (t : List Int) (x : Int) (r : Nat) : (putOf t x r).length = if r = t.length then t.length + 1 else t.length := by
  unfold putOf; split <;> simp
theorem rd_putOf (t : List Int) (x : Int) (r n : Nat) (hr : r ≤ t.length) (hn : n < (putOf t x r).length) : rd (putOf t x r) (n : Int) = if n = r then x else rd t (n : Int) := by
  rw [putOf_length] at hn
  unfold putOf
  by_cases c : r = t.length
  · rw [if_pos c] at hn ⊢
    rw [rd_app t x n (by omega), c]
  · rw [if_neg c] at hn ⊢
    exact rd_set t r n x hn
theorem putOf_rising (t : List Int) (x : Int) (r : Nat) (hs : Rising t) (h : IsAt t x r) : Rising (putOf t x r) := by
  intro i j hij hj
  obtain ⟨h1, h2, h3⟩ := h
  rw [rd_putOf t x r i h1 (by omega), rd_putOf t x r j h1 hj]
  rw [putOf_length] at hj
  by_cases ci : i = r
  · rw [if_pos ci, if_neg (by omega)]
    have hr : r ≠ t.length := fun e => by rw [if_pos e] at hj; omega
    rw [if_neg hr] at hj
    have := h3 r (Nat.le_refl r) (by omega); have := hs r j (by omega) hj; omega
  · rw [if_neg ci]
    by_cases cj : j = r
    · rw [if_pos cj]; exact h2 i (by omega)
    · rw [if_neg cj]
      refine hs i j hij ?_
      by_cases q : r = t.length
      · rw [if_pos q] at hj; omega
      · rw [if_neg q] at hj; exact hj
theorem putOf_at (t : List Int) (x : Int) (r : Nat) (h : IsAt t x r) : IsAt (putOf t x r) x r := by
  obtain ⟨h1, h2, h3⟩ := h
  have hl := putOf_length t x r
  have hr : r < (putOf t x r).length := by rw [hl]; split <;> omega
  refine ⟨by omega, fun u hu => ?_, fun u hu hl' => ?_⟩
  · rw [rd_putOf t x r u h1 (by omega), if_neg (by omega)]; exact h2 u hu
  · rw [rd_putOf t x r u h1 hl']
    by_cases c : u = r
    · rw [if_pos c]; exact Int.le_refl x
    · rw [if_neg c]
      refine h3 u hu ?_
      rw [hl] at hl'
      split at hl' <;> omega
theorem putOf_again (t : List Int) (x : Int) (r : Nat) (h : IsAt t x r) : putOf (putOf t x r) x r = putOf t x r := by
  obtain ⟨h1, h2, h3⟩ := h
  have hl := putOf_length t x r
  have hr : r < (putOf t x r).length := by rw [hl]; split <;> omega
  have hl2 : (putOf (putOf t x r) x r).length = (putOf t x r).length := by rw [putOf_length, if_neg (by omega)]
  refine list_ext hl2 fun n hn => ?_
  rw [rd_putOf _ x r n (by omega) hn, rd_putOf t x r n h1 (by omega)]
  split <;> rfl
theorem thresh_put_eq (t : List Int) (x : Int) (r : Nat) (ht : t.length ≤ 1000000) (hr : r ≤ t.length) : thresh_put.f t x (r : Int) = some (putOf t x r) := by
  unfold thresh_put.f putOf
  by_cases c : r = t.length
  · rw [if_pos (by omega), if_pos (by omega), if_pos c]
  · rw [if_neg (by omega), if_pos (by omega), if_pos (by omega), if_neg c, Int.toNat_natCast]
theorem thresh_Put_eq (t : List Int) (x : Int) (ht : t.length ≤ 1000000) (hs : Rising t) {k : Nat} (hk : t.length < k) : ∃ r : Nat, IsAt t x r ∧ thresh_Find.f k t x = some (r : Int) ∧ thresh_Put.f k t x = some (putOf t x r, (r : Int)) := by
  obtain ⟨r, r1, r2⟩ := find_at t x ht hs hk
  refine ⟨r, r2, r1, ?_⟩
  unfold thresh_Put.f slices_Clone_int_int.f
  rw [r1, Option.bind_some, if_pos (by omega), Option.bind_some, thresh_put_eq t x r ht r2.1, Option.bind_some]

theorem rd_ins (t : List Int) (x : Int) (r n : Nat) (hr : r ≤ t.length) : rd (t.take r ++ [x] ++ t.drop r) (n : Int) = if n < r then rd t (n : Int) else if n = r then x else rd t ((n - 1 : Nat) : Int) := by
  rw [rd_d, rd_d, rd_d]
  simp only [List.getD_eq_getElem?_getD, List.getElem?_append, List.length_append, List.length_take, List.length_singleton, List.getElem?_take, List.getElem?_drop]
  have e : min r t.length = r := by omega
  rw [e]
  by_cases c : n < r
  · rw [if_pos (by omega), if_pos c, if_pos c]
    simp [c]
  · by_cases c' : n = r
    · subst c'
      simp
    · rw [if_neg (by omega), if_neg c, if_neg c', show r + (n - (r + 1)) = n - 1 by omega]
theorem ins_rising (t : List Int) (x : Int) (r : Nat) (hs : Rising t) (h : IsAt t x r) (hx : r = t.length ∨ rd t (r : Int) ≠ x) : Rising (t.take r ++ [x] ++ t.drop r) := by
  intro i j hij hj
  obtain ⟨h1, h2, h3⟩ := h
  have hl : (t.take r ++ [x] ++ t.drop r).length = t.length + 1 := by simp; omega
  rw [hl] at hj
  rw [rd_ins t x r i h1, rd_ins t x r j h1]
  by_cases ci : i < r
  · rw [if_pos ci]
    by_cases cj : j < r
    · rw [if_pos cj]; exact hs i j hij (by omega)
    · rw [if_neg cj]
      by_cases cj' : j = r
      · rw [if_pos cj']; exact h2 i ci
      · rw [if_neg cj']
        exact hs i (j - 1) (by omega) (by omega)
  · rw [if_neg ci, if_neg (show ¬ j < r by omega), if_neg (show ¬ j = r by omega)]
    by_cases ci' : i = r
    · rw [if_pos ci']
      have h4 := h3 r (Nat.le_refl r) (by omega)
      have h5 : rd t (r : Int) ≠ x := hx.resolve_left (by omega)
      by_cases q : j - 1 = r
      · rw [q]; omega
      · have := hs r (j - 1) (by omega) (by omega); omega
    · rw [if_neg ci']
      exact hs (i - 1) (j - 1) (by omega) (by omega)
theorem ins_eq (l t : List Int) (i r : Nat) (ht : t.length ≤ 1000000) (hi : i < l.length) (hr : r ≤ t.length) : tattinglaw15_rising.ins l t (i : Int) (r : Int) = some (t.take r ++ [rd l (i : Int)] ++ t.drop r) := by
  unfold tattinglaw15_rising.ins
  simp only [Option.bind_some, Int.toNat_natCast, List.nil_append]
  have e1 : (t.take r).length = r := by rw [List.length_take]; omega
  rw [if_pos (by omega), if_pos (by omega), if_pos (by rw [e1]; show 0 + r < _; omega), if_pos (by omega), if_pos (by omega), if_pos (by rw [e1]; show r + 1 < _; omega), if_pos (by rw [List.length_append, List.length_singleton, e1, List.length_drop]; omega)]
theorem rising_l0 (l : List Int) (hl : l.length ≤ 1000) (d : Nat) : ∀ (k i : Nat) (t : List Int), i + d = l.length → d + l.length < k → Rising t → t.length ≤ i → ∃ u, tattinglaw15_rising.l0 k l t (i : Int) = some u ∧ Rising u ∧ u.length ≤ l.length := by
  induction d with
  | zero =>
    intro k i t hi hk hs ht
    obtain ⟨k, rfl⟩ := round hk
    refine ⟨t, ?_, hs, by omega⟩
    simp only [tattinglaw15_rising.l0]
    rw [if_neg (by omega)]
  | succ d ih =>
    intro k i t hi hk hs ht
    obtain ⟨k, rfl⟩ := round hk
    simp only [tattinglaw15_rising.l0]
    obtain ⟨r, r1, r2⟩ := find15 t (rd l (i : Int)) (by omega) hs (k := k) (by omega)
    have hr := r2.1
    have hn : (t.take r ++ [rd l (i : Int)] ++ t.drop r).length ≤ i + 1 := by simp; omega
    rw [if_pos (by omega), if_pos (by omega), r1, Option.bind_some, wrap_succ (by omega)]
    by_cases c : r = t.length
    · rw [if_pos (by omega), ins_eq l t i r (by omega) (by omega) hr, Option.bind_some]
      exact ih k (i + 1) _ (by omega) (by omega) (ins_rising t _ r hs r2 (Or.inl c)) hn
    · rw [if_neg (by omega), if_pos (by omega), if_pos (by omega)]
      by_cases c2 : rd t (r : Int) = rd l (i : Int)
      · rw [if_pos c2]
        exact ih k (i + 1) t (by omega) (by omega) hs (by omega)
      · rw [if_neg c2, ins_eq l t i r (by omega) (by omega) hr, Option.bind_some]
        exact ih k (i + 1) _ (by omega) (by omega) (ins_rising t _ r hs r2 (Or.inr c2)) hn
theorem rising_eq (l : List Int) (hl : l.length ≤ 1000) {k : Nat} (hk : 2 * l.length < k) : ∃ u, tattinglaw15_rising.f k l = some u ∧ Rising u ∧ u.length ≤ l.length :=
  rising_l0 l hl l.length k 0 [] (by omega) (by omega) (fun i j _ hj => by simp at hj) (by simp)

theorem awake : tattinglaw15_awake.f 60 = some true := by decide +kernel
theorem less_l0 (t : List Int) (x : Int) (r : Nat) (ht : t.length ≤ 1000) (h : IsAt t x r) (d : Nat) : ∀ (k i : Nat), i + d = t.length → d < k → tattinglaw15_ThreshLess.l0 k t (putOf t x r) (r : Int) (i : Int) = some true := by
  have hl := putOf_length t x r
  have hl' : t.length ≤ (putOf t x r).length := by rw [hl]; split <;> omega
  obtain ⟨h1, h2, h3⟩ := h
  induction d with
  | zero =>
    intro k i hi hk
    obtain ⟨k, rfl⟩ := round hk
    simp only [tattinglaw15_ThreshLess.l0]
    rw [if_neg (by omega)]
  | succ d ih =>
    intro k i hi hk
    obtain ⟨k, rfl⟩ := round hk
    simp only [tattinglaw15_ThreshLess.l0]
    have e := rd_putOf t x r i h1 (by omega)
    rw [if_pos (by omega), if_pos (by omega), if_pos (by omega), e, wrap_succ (by omega)]
    by_cases c : i = r
    · have := h3 i (by omega) (by omega)
      rw [if_pos c, if_neg (by omega), if_pos (by omega)]
      exact ih k (i + 1) (by omega) (by omega)
    · rw [if_neg c, if_neg (by omega), if_neg (by omega), if_pos rfl]
      exact ih k (i + 1) (by omega) (by omega)
theorem ThreshLess : tattinglaw15_ThreshLess.Pure := by
  intro l x _ _ _ _
  refine ⟨1000, ?_⟩
  unfold tattinglaw15_ThreshLess.f
  rw [at_rounds tattinglaw15_awake.mono (by decide) awake, Option.bind_some, if_pos rfl]
  by_cases h1 : (l.length : Int) > 40
  · rw [if_pos h1]
  rw [if_neg h1]
  obtain ⟨t, t1, t2, t3⟩ := rising_eq l (by omega) (k := 1000) (by omega)
  obtain ⟨r, r1, r2, r3⟩ := thresh_Put_eq t x (by omega) t2 (k := 1000) (by omega)
  have hl := putOf_length t x r
  have hl' : (putOf t x r).length ≤ 41 := by rw [hl]; split <;> omega
  obtain ⟨s, s1, s2, s3⟩ := thresh_Put_eq (putOf t x r) x (by omega) (putOf_rising t x r t2 r1) (k := 1000) (by omega)
  obtain rfl := (putOf_at t x r r1).one s1
  rw [putOf_again t x r r1] at s3
  have hr := r1.1
  have hr' : r < (putOf t x r).length := by rw [hl]; split <;> omega
  have hg : t.length ≤ (putOf t x r).length ∧ (putOf t x r).length ≤ t.length + 1 := by rw [hl]; split <;> omega
  have e := rd_putOf t x r r hr hr'
  rw [if_pos rfl] at e
  rw [t1, Option.bind_some, r3, Option.bind_some]
  dsimp only
  rw [s3, Option.bind_some]
  dsimp only
  rw [if_neg (by omega), wrap_succ (by omega), if_neg (by omega), if_pos rfl, sameInts _ _ (by omega) (by omega), Option.bind_some, decide_eq_true rfl, if_pos rfl, if_neg (by omega), if_neg (by omega), if_pos (by omega), if_pos (by omega), e, bne_self_eq_false]
  simp only [tattinglaw15_ThreshLess.j0]
  rw [if_neg (by decide)]
  exact less_l0 t x r (by omega) r1 t.length 999 0 (by omega) (by omega)

end Go.Proofs.Ytgholknbaanjoaa.Pure
