/- For every first number and every list of at most 60 steps: the row is the reference's, and its steps are these again, as 0 and 1 (where the first number is not above 2^62). -/
import Derived.Test.YtjplieecdfbbjaaPDeltaRowx3
import Derived.Test.YtjplieecdfbbjaaWSized
namespace Go.Proofs.Ytjplieecdfbbjaa.PrintWords
set_option linter.defProp false in
/-- The printed row names this lemma without the seat-wide namespace. -/
def sized_ints := @Go.Proofs.YtjplieecdfbbjaaW.PrintWords.sized_ints
end Go.Proofs.Ytjplieecdfbbjaa.PrintWords
namespace Go.Proofs.Ytjplieecdfbbjaa.Pure
open Go.RowKit Go.Proofs.Ytjplieecdfbbjaa.PDeltaRow Go.Proofs.YtjplieecdfbbjaaW.PrintWords Go.Proofs.YtjplieecdfbbjaaW.PrintLast Go.Proofs.YtjplieecdfbbjaaW.PrintMore
set_option linter.unusedVariables false
set_option linter.unusedSimpArgs false

theorem wrap_id {i : Int} (h0 : -9223372036854775808 ≤ i) (h1 : i < 9223372036854775808) : wrap64 i = i := by unfold wrap64; omega
theorem wrap_succ {n : Nat} (h : n < 9223372036854775807) : wrap64 ((n : Int) + 1) = ((n + 1 : Nat) : Int) := by unfold wrap64; omega

theorem rd_at (l : List Int) {n : Nat} (h : n < l.length) : rd l (n : Int) = l[n] := by
  unfold rd; rw [Int.toNat_natCast, List.getD_eq_getElem?_getD, List.getElem?_eq_getElem h]; rfl
theorem rd_d (l : List Int) (n : Nat) : rd l (n : Int) = l.getD n 0 := rfl
theorem rd_out (l : List Int) {n : Nat} (h : l.length ≤ n) : rd l (n : Int) = 0 := by
  rw [rd_d, List.getD_eq_getElem?_getD, List.getElem?_eq_none h]; rfl
theorem drop_rd (l : List Int) {n : Nat} (h : n < l.length) : l.drop n = rd l (n : Int) :: l.drop (n + 1) := by
  rw [rd_at l h]; exact List.drop_eq_getElem_cons h
theorem take_rd (l : List Int) {n : Nat} (h : n < l.length) : l.take (n + 1) = l.take n ++ [rd l (n : Int)] := by
  rw [rd_at l h, List.take_succ_eq_append_getElem h]
theorem rd_mem (l : List Int) {n : Nat} (h : n < l.length) : rd l (n : Int) ∈ l := by rw [rd_at l h]; exact List.getElem_mem h
theorem rd_app_lt (l : List Int) (x : Int) {n : Nat} (h : n < l.length) : rd (l ++ [x]) (n : Int) = rd l (n : Int) := by
  rw [rd_at _ (by rw [List.length_append]; omega), rd_at _ h, List.getElem_append_left h]
theorem rd_app_eq (l : List Int) (x : Int) : rd (l ++ [x]) (l.length : Int) = x := by
  rw [rd_at _ (by rw [List.length_append, List.length_singleton]; omega)]; simp
theorem rd_app (l : List Int) (x : Int) (n : Nat) (h : n ≤ l.length) : rd (l ++ [x]) (n : Int) = if n = l.length then x else rd l (n : Int) := by
  by_cases e : n = l.length
  · rw [if_pos e, e, rd_app_eq]
  · rw [if_neg e, rd_app_lt _ _ (by omega)]
theorem rd_set (l : List Int) (i n : Nat) (x : Int) (h : n < l.length) : rd (l.set i x) (n : Int) = if n = i then x else rd l (n : Int) := by
  rw [rd_at _ (by rw [List.length_set]; exact h), rd_at _ h, List.getElem_set]
  by_cases e : n = i
  · rw [if_pos e, if_pos e.symm]
  · rw [if_neg e, if_neg (fun q => e q.symm)]
theorem rd_replicate (m n : Nat) (x : Int) (h : n < m) : rd (List.replicate m x) (n : Int) = x := by
  rw [rd_at _ (by rw [List.length_replicate]; exact h), List.getElem_replicate]
theorem rd_take (l : List Int) {m n : Nat} (h : n < m) (hm : m ≤ l.length) : rd (l.take m) (n : Int) = rd l (n : Int) := by
  rw [rd_at _ (by rw [List.length_take]; omega), rd_at _ (by omega), List.getElem_take]
theorem rd_drop (l : List Int) (m n : Nat) : rd (l.drop m) (n : Int) = rd l ((m + n : Nat) : Int) := by
  rw [rd_d, rd_d, List.getD_eq_getElem?_getD, List.getD_eq_getElem?_getD, List.getElem?_drop]
theorem list_ext {l m : List Int} (h : l.length = m.length) (k : ∀ n : Nat, n < l.length → rd l (n : Int) = rd m (n : Int)) : l = m := by
  apply List.ext_getElem h
  intro i h1 h2
  have := k i h1
  rwa [rd_at _ h1, rd_at _ h2] at this
theorem wf64 {a : Int} (h : (Lit.int .i64 a).wf = true) : -9223372036854775808 ≤ a ∧ a ≤ 9223372036854775807 := by
  simp only [Lit.wf, IntKind.min, IntKind.max, IntKind.signed, IntKind.bits, Bool.and_eq_true, decide_eq_true_eq, if_true] at h
  omega
/-- At least one round. -/
theorem round {k d : Nat} (h : d < k) : ∃ m, k = m + 1 := ⟨k - 1, by omega⟩

/-- The comparison of two lists answers whether they are equal. -/
theorem sameInts_l0 (a b : List Int) (hl : a.length = b.length) (hm : a.length ≤ 9223372036854775806) (d : Nat) : ∀ (k n : Nat), n + d = a.length → d < k → tattingref1_SameInts.l0 k a b (n : Int) = some (decide (a.drop n = b.drop n)) := by
  induction d with
  | zero =>
    intro k n hn hk
    obtain ⟨k, rfl⟩ := round hk
    simp only [tattingref1_SameInts.l0]
    rw [if_neg (by omega), List.drop_eq_nil_of_le (by omega), List.drop_eq_nil_of_le (by omega)]; rfl
  | succ d ih =>
    intro k n hn hk
    obtain ⟨k, rfl⟩ := round hk
    simp only [tattingref1_SameInts.l0]
    rw [if_pos (by omega), if_pos (by omega), if_pos (by omega)]
    rw [drop_rd a (by omega), drop_rd b (by omega)]
    by_cases h : rd a (n : Int) = rd b (n : Int)
    · rw [if_pos h, wrap_succ (by omega), ih k (n + 1) (by omega) (by omega), h]
      simp
    · rw [if_neg h]
      simp [h]
theorem sameInts (a b : List Int) (hm : a.length ≤ 9223372036854775806) {k : Nat} (hk : a.length < k) : tattingref1_SameInts.f k a b = some (decide (a = b)) := by
  unfold tattingref1_SameInts.f
  by_cases h : a.length = b.length
  · rw [if_pos (by omega)]
    exact sameInts_l0 a b h hm a.length k 0 (by omega) hk
  · rw [if_neg (by omega)]
    congr 1
    rw [eq_comm, decide_eq_false_iff_not]
    intro e; exact h (by rw [e])

/-- A list of so many numbers, each told by its place. -/
def tabulate (n : Nat) (f : Nat → Int) : List Int := (List.range n).map f
theorem tabulate_length (n : Nat) (f : Nat → Int) : (tabulate n f).length = n := by unfold tabulate; rw [List.length_map, List.length_range]
theorem rd_tabulate (n : Nat) (f : Nat → Int) (j : Nat) (h : j < n) : rd (tabulate n f) (j : Int) = f j := by
  rw [rd_at _ (by rw [tabulate_length]; exact h)]; unfold tabulate; rw [List.getElem_map, List.getElem_range]
theorem eq_tabulate (l : List Int) (n : Nat) (f : Nat → Int) (hl : l.length = n) (h : ∀ j, j < n → rd l (j : Int) = f j) : l = tabulate n f := by
  apply list_ext (by rw [hl, tabulate_length])
  intro j hj; rw [rd_tabulate _ _ _ (by omega), h j (by omega)]

/-- The step from a place on is 0 or 1. -/
def okStep (row : List Int) (i : Nat) : Prop := rd row ((i + 1 : Nat) : Int) = rd row (i : Int) ∨ rd row ((i + 1 : Nat) : Int) > rd row (i : Int) ∧ wrap64 (rd row ((i + 1 : Nat) : Int) - 1) = rd row (i : Int)
instance (row : List Int) (i : Nat) : Decidable (okStep row i) := by unfold okStep; infer_instance
def stepAt (row : List Int) (i : Nat) : Int := if rd row ((i + 1 : Nat) : Int) = rd row (i : Int) then 0 else 1
/-- All steps are 0 or 1, from some place on. -/
def okFrom (row : List Int) (n i : Nat) : Prop := ∀ t, i ≤ t → t < n → okStep row t
theorem okFrom_succ {row : List Int} {n i : Nat} (h : okStep row i) : okFrom row n i ↔ okFrom row n (i + 1) :=
  ⟨fun q t ht => q t (by omega), fun q t ht ht' => if e : t = i then e ▸ h else q t (by omega) ht'⟩
/-- A row's steps. -/
def stepsOf (row : List Int) : List Int := tabulate (row.length - 1) (stepAt row)
theorem same_refl (l : List Int) : tattingref1_Same.f l l = some true := by unfold tattingref1_Same.f; simp
theorem deltaOf_l0 (row : List Int) (n : Nat) (hn : row.length = n + 1) (hl : n ≤ 1000000) (d : Nat) : ∀ (k i : Nat) (t : List Int), i + d = n → d < k → t.length = n → (∀ j, j < n → rd t (j : Int) = if j < i then stepAt row j else 0) →
    (okFrom row n i → delta_Of.l0 k row t (n : Int) (i : Int) = some (stepsOf row, 0)) ∧ (¬ okFrom row n i → delta_Of.l0 k row t (n : Int) (i : Int) = some ([], 1)) := by
  induction d with
  | zero =>
    intro k i t hi hk ht h
    obtain ⟨k, rfl⟩ := round hk
    simp only [delta_Of.l0]
    rw [if_neg (by omega)]
    refine ⟨fun _ => ?_, fun q => absurd (fun t h1 h2 => by omega) q⟩
    have e : t = stepsOf row := eq_tabulate t _ _ (by omega) (fun j hj => by rw [h j (by omega), if_pos (by omega)])
    rw [e]
  | succ d ih =>
    intro k i t hi hk ht h
    obtain ⟨k, rfl⟩ := round hk
    simp only [delta_Of.l0]
    have E1 := Aside0.mk (show wrap64 ((i : Int) + 1) = ((i + 1 : Nat) : Int) from wrap_succ (by omega))
    rw [E1.out, if_pos (by omega), if_pos (by omega), if_pos (by omega), if_pos (by omega), if_pos (by omega)]
    by_cases c1 : rd row ((i + 1 : Nat) : Int) = rd row (i : Int)
    · rw [if_pos c1]
      have hs : okStep row i := Or.inl c1
      rw [okFrom_succ hs]
      refine ih k (i + 1) t (by omega) (by omega) ht ?_
      intro j hj
      rw [h j hj]
      by_cases e : j = i
      · rw [if_neg (by omega), if_pos (by omega), e, stepAt, if_pos c1]
      · by_cases c : j < i
        · rw [if_pos c, if_pos (by omega)]
        · rw [if_neg c, if_neg (by omega)]
    · rw [if_neg c1]
      by_cases c2 : rd row ((i + 1 : Nat) : Int) > rd row (i : Int)
      · rw [if_pos c2]
        by_cases c3 : wrap64 (rd row ((i + 1 : Nat) : Int) - 1) = rd row (i : Int)
        · have hs : okStep row i := Or.inr ⟨c2, c3⟩
          rw [if_pos c3, okFrom_succ hs, if_pos (by omega), Int.toNat_natCast]
          refine ih k (i + 1) _ (by omega) (by omega) (by rw [List.length_set]; exact ht) ?_
          intro j hj
          rw [rd_set _ _ _ _ (by omega), h j hj]
          by_cases e : j = i
          · rw [if_pos e, if_pos (by omega), e, stepAt, if_neg c1]
          · rw [if_neg e]
            by_cases c : j < i
            · rw [if_pos c, if_pos (by omega)]
            · rw [if_neg c, if_neg (by omega)]
        · rw [if_neg c3]
          exact ⟨fun q => absurd (q i (Nat.le_refl _) (by omega)) (fun z => z.elim c1 (fun z => c3 z.2)), fun _ => rfl⟩
      · rw [if_neg c2]
        exact ⟨fun q => absurd (q i (Nat.le_refl _) (by omega)) (fun z => z.elim c1 (fun z => c2 z.1)), fun _ => rfl⟩
theorem deltaOf (row : List Int) (h0 : row.length ≠ 0) (hl : row.length ≤ 1000000) {k : Nat} (hk : row.length < k) : (okFrom row (row.length - 1) 0 → delta_Of.f k row = some (stepsOf row, 0)) ∧ (¬ okFrom row (row.length - 1) 0 → delta_Of.f k row = some ([], 1)) := by
  unfold delta_Of.f
  have e : wrap64 ((row.length : Int) - 1) = ((row.length - 1 : Nat) : Int) := by rw [wrap_id (by omega) (by omega)]; omega
  rw [e, if_neg (by omega), if_pos (by omega), if_pos (by omega), Option.bind_some, Int.toNat_natCast, List.length_replicate]
  exact deltaOf_l0 row (row.length - 1) (by omega) (by omega) (row.length - 1) k 0 _ (by omega) (by omega) (by rw [List.length_replicate]) (fun j hj => by rw [rd_replicate _ _ _ hj, if_neg (by omega)])

/-- Number j of the row of steps. -/
def rowD (first : Int) (d : List Int) : Nat → Int
  | 0 => first
  | j + 1 => if rd d (j : Int) = 0 then rowD first d j else wrap64 (rowD first d j + 1)
theorem deltaRow_l0 (first : Int) (dd : List Int) (hl : dd.length ≤ 1000000) (d : Nat) : ∀ (k i : Nat) (t : List Int), i + d = dd.length → d < k → t.length = i + 1 → (∀ j, j ≤ i → rd t (j : Int) = rowD first dd j) →
    delta_Row.l0 k t dd (dd.length : Int) (i : Int) = some (tabulate (dd.length + 1) (rowD first dd)) := by
  induction d with
  | zero =>
    intro k i t hi hk ht h
    obtain ⟨k, rfl⟩ := round hk
    simp only [delta_Row.l0]
    rw [if_neg (by omega)]
    exact congrArg some (eq_tabulate t _ _ (by omega) (fun j hj => h j (by omega)))
  | succ d ih =>
    intro k i t hi hk ht h
    obtain ⟨k, rfl⟩ := round hk
    simp only [delta_Row.l0]
    rw [if_pos (by omega), if_pos (by omega), if_pos (by omega), if_pos (by omega), wrap_succ (by omega), h i (Nat.le_refl _)]
    have go : ∀ v, v = rowD first dd (i + 1) → delta_Row.l0 k (t ++ [v]) dd (dd.length : Int) ((i + 1 : Nat) : Int) = some (tabulate (dd.length + 1) (rowD first dd)) := by
      intro v hv
      refine ih k (i + 1) _ (by omega) (by omega) (by rw [List.length_append, List.length_singleton]; omega) ?_
      intro j hj
      rw [rd_app _ _ _ (by omega)]
      by_cases e : j = t.length
      · rw [if_pos e, hv, e, ht]
      · rw [if_neg e]; exact h j (by omega)
    by_cases c : rd dd (i : Int) = 0
    · rw [if_pos c, if_pos (by omega)]; exact go _ (by rw [rowD, if_pos c])
    · rw [if_neg c, if_pos (by omega)]; exact go _ (by rw [rowD, if_neg c])
theorem deltaRow (first : Int) (dd : List Int) (hl : dd.length ≤ 1000000) {k : Nat} (hk : dd.length < k) : delta_Row.f k first dd = some (tabulate (dd.length + 1) (rowD first dd)) := by
  unfold delta_Row.f
  exact deltaRow_l0 first dd hl dd.length k 0 [first] (by omega) hk rfl (fun j hj => by rw [show j = 0 by omega]; rfl)

theorem awake : tattinglaw12_awake.f 60 = some true := by decide +kernel
theorem refRow_l0 (first : Int) (dd : List Int) (hl : dd.length ≤ 1000000) (d : Nat) : ∀ (k i : Nat) (t : List Int), i + d = dd.length → d < k → t.length = i + 1 → (∀ j, j ≤ i → rd t (j : Int) = rowD first dd j) →
    tattingref12_Row.l0 k dd t (i : Int) = some (tabulate (dd.length + 1) (rowD first dd)) := by
  induction d with
  | zero =>
    intro k i t hi hk ht h
    obtain ⟨k, rfl⟩ := round hk
    simp only [tattingref12_Row.l0]
    rw [if_neg (by omega)]
    exact congrArg some (eq_tabulate t _ _ (by omega) (fun j hj => h j (by omega)))
  | succ d ih =>
    intro k i t hi hk ht h
    obtain ⟨k, rfl⟩ := round hk
    simp only [tattingref12_Row.l0]
    rw [if_pos (by omega), if_pos (by omega), if_pos (by omega), wrap_succ (by omega), h i (Nat.le_refl _)]
    have go : ∀ v, v = rowD first dd (i + 1) → tattingref12_Row.l0 k dd (t ++ [v]) ((i + 1 : Nat) : Int) = some (tabulate (dd.length + 1) (rowD first dd)) := by
      intro v hv
      refine ih k (i + 1) _ (by omega) (by omega) (by rw [List.length_append, List.length_singleton]; omega) ?_
      intro j hj
      rw [rd_app _ _ _ (by omega)]
      by_cases e : j = t.length
      · rw [if_pos e, hv, e, ht]
      · rw [if_neg e]; exact h j (by omega)
    by_cases c : rd dd (i : Int) = 0
    · rw [if_pos c, if_pos (by omega)]; exact go _ (by rw [rowD, if_pos c])
    · rw [if_neg c, if_pos (by omega)]; exact go _ (by rw [rowD, if_neg c])
theorem rowD_bound (first : Int) (dd : List Int) (h0 : -9223372036854775808 ≤ first) (h1 : first ≤ 4611686018427387904) (j : Nat) (hj : j ≤ 1000000) : first ≤ rowD first dd j ∧ rowD first dd j ≤ first + j := by
  induction j with
  | zero => rw [rowD]; omega
  | succ j ih =>
    have ih := ih (by omega)
    rw [rowD]
    split
    · omega
    · rw [wrap_id (by omega) (by omega)]; omega
theorem rowD_step (first : Int) (dd : List Int) (h0 : -9223372036854775808 ≤ first) (h1 : first ≤ 4611686018427387904) (hl : dd.length ≤ 1000000) (j : Nat) (hj : j < dd.length) :
    okStep (tabulate (dd.length + 1) (rowD first dd)) j ∧ stepAt (tabulate (dd.length + 1) (rowD first dd)) j = if rd dd (j : Int) = 0 then 0 else 1 := by
  have b := rowD_bound first dd h0 h1 j (by omega)
  unfold okStep stepAt
  rw [rd_tabulate _ _ _ (by omega), rd_tabulate _ _ _ (by omega), rowD]
  by_cases c : rd dd (j : Int) = 0
  · rw [if_pos c, if_pos rfl, if_pos c]; exact ⟨Or.inl rfl, rfl⟩
  · rw [if_neg c, if_neg c, wrap_id (by omega) (by omega), if_neg (by omega)]
    exact ⟨Or.inr ⟨by omega, by rw [wrap_id (by omega) (by omega)]; omega⟩, rfl⟩
theorem law_l0 (dd x : List Int) (hx : x.length = dd.length) (hl : dd.length ≤ 1000000) (hs : ∀ j : Nat, j < dd.length → rd x (j : Int) = if rd dd (j : Int) = 0 then 0 else 1) (d : Nat) : ∀ (k i : Nat), i + d = dd.length → d < k → tattinglaw12_DeltaRow.l0 k dd x (i : Int) = some true := by
  induction d with
  | zero =>
    intro k i hi hk
    obtain ⟨k, rfl⟩ := round hk
    simp only [tattinglaw12_DeltaRow.l0]
    rw [if_neg (by omega)]
  | succ d ih =>
    intro k i hi hk
    obtain ⟨k, rfl⟩ := round hk
    simp only [tattinglaw12_DeltaRow.l0]
    rw [if_pos (by omega), if_pos (by omega), if_pos (by omega), hs i (by omega), wrap_succ (by omega)]
    by_cases c : rd dd (i : Int) = 0
    · rw [if_pos c, if_neg (by decide), if_neg (by rw [c]; decide)]; exact ih k (i + 1) (by omega) (by omega)
    · rw [if_neg c, if_neg (by decide), if_neg (by simp [c])]; exact ih k (i + 1) (by omega) (by omega)
theorem DeltaRow : tattinglaw12_DeltaRow.Pure := by
  intro first dd hf _ _ _
  refine ⟨1000, ?_⟩
  have hw := wf64 hf
  unfold tattinglaw12_DeltaRow.f
  rw [at_rounds tattinglaw12_awake.mono (by decide) awake, Option.bind_some, if_pos rfl]
  by_cases h1 : (dd.length : Int) > 60
  · rw [if_pos h1]
  rw [if_neg h1, deltaRow first dd (by omega) (by omega), Option.bind_some]
  have e2 : tattingref12_Row.f 1000 first dd = some (tabulate (dd.length + 1) (rowD first dd)) := by
    unfold tattingref12_Row.f
    exact refRow_l0 first dd (by omega) dd.length 1000 0 [first] (by omega) (by omega) rfl (fun j hj => by rw [show j = 0 by omega]; rfl)
  rw [e2, Option.bind_some, sameInts _ _ (by rw [tabulate_length]; omega) (by rw [tabulate_length]; omega), Option.bind_some, if_pos (by simp)]
  by_cases h2 : first > 4611686018427387904
  · rw [if_pos h2]
  rw [if_neg h2]
  have hs := rowD_step first dd (by omega) (by omega) (by omega)
  have hlen := tabulate_length (dd.length + 1) (rowD first dd)
  generalize tabulate (dd.length + 1) (rowD first dd) = row at *
  have a := deltaOf row (by omega) (by omega) (k := 1000) (by omega)
  have ok : okFrom row (row.length - 1) 0 := fun t _ ht => (hs t (by omega)).1
  have hx : (stepsOf row).length = dd.length := by unfold stepsOf; rw [tabulate_length]; omega
  have e3 : (((stepsOf row).length : Int) != (dd.length : Int)) = false := by rw [hx]; simp
  rw [a.1 ok, Option.bind_some, if_pos rfl, e3]
  simp only [tattinglaw12_DeltaRow.j0]
  rw [if_neg (by decide)]
  refine law_l0 dd (stepsOf row) hx (by omega) ?_ dd.length 999 0 (by omega) (by omega)
  intro j hj
  unfold stepsOf
  rw [rd_tabulate _ _ _ (by omega)]; exact (hs j hj).2

end Go.Proofs.Ytjplieecdfbbjaa.Pure
