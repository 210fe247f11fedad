/- For every row of at most 60 numbers: its steps, or that it has others than 0 and 1, are the reference's. -/
import Derived.Test.YtjplieecdfbbjaaPDeltaSaysx2
import Derived.Test.YtjplieecdfbbjaaWSized
namespace Go.Proofs.Ytjplieecdfbbjaa.PrintWords
set_option linter.defProp false in
/-- The printed row names this lemma without the seat-wide namespace. -/
def sized_ints := @Go.Proofs.YtjplieecdfbbjaaW.PrintWords.sized_ints
end Go.Proofs.Ytjplieecdfbbjaa.PrintWords
namespace Go.Proofs.Ytjplieecdfbbjaa.Pure
open Go.RowKit Go.Proofs.Ytjplieecdfbbjaa.PDeltaSays Go.Proofs.YtjplieecdfbbjaaW.PrintWords Go.Proofs.YtjplieecdfbbjaaW.PrintLast Go.Proofs.YtjplieecdfbbjaaW.PrintMore
set_option linter.unusedVariables false
set_option linter.unusedSimpArgs false

theorem wrap_id {i : Int} (h0 : -9223372036854775808 ≤ i) (h1 : i < 9223372036854775808) : wrap64 i = i := by unfold wrap64; omega
theorem wrap_succ {n : Nat} (h : n < 9223372036854775807) : wrap64 ((n : Int) + 1) = ((n + 1 : Nat) : Int) := by unfold wrap64; omega

theorem rd_at (l : List Int) {n : Nat} (h : n < l.length) : rd l (n : Int) = l[n] := by
  unfold rd; rw [Int.toNat_natCast, List.getD_eq_getElem?_getD, List.getElem?_eq_getElem h]; rfl
theorem rd_d (l : List Int) (n : Nat) : rd l (n : Int) = l.getD n 0 := rfl
theorem rd_out (l : List Int) {n : Nat} (h : l.length ≤ n) : rd l (n : Int) = 0 := by
  rw [rd_d, List.getD_eq_getElem?_getD, List.getElem?_eq_none h]; rfl
theorem drop_rd (l : List Int) {n : Nat} (h : n < l.length) : l.drop n = rd l (n : Int) :: l.drop (n + 1) := by
  rw [rd_at l h]; exact List.drop_eq_getElem_cons h
theorem take_rd (l : List Int) {n : Nat} (h : n < l.length) : l.take (n + 1) = l.take n ++ [rd l (n : Int)] := by
  rw [rd_at l h, List.take_succ_eq_append_getElem h]
theorem rd_mem (l : List Int) {n : Nat} (h : n < l.length) : rd l (n : Int) ∈ l := by rw [rd_at l h]; exact List.getElem_mem h
theorem rd_app_lt (l : List Int) (x : Int) {n : Nat} (h : n < l.length) : rd (l ++ [x]) (n : Int) = rd l (n : Int) := by
  rw [rd_at _ (by rw [List.length_append]; omega), rd_at _ h, List.getElem_append_left h]
theorem rd_app_eq (l : List Int) (x : Int) : rd (l ++ [x]) (l.length : Int) = x := by
  rw [rd_at _ (by rw [List.length_append, List.length_singleton]; omega)]; simp
theorem rd_app (l : List Int) (x : Int) (n : Nat) (h : n ≤ l.length) : rd (l ++ [x]) (n : Int) = if n = l.length then x else rd l (n : Int) := by
  by_cases e : n = l.length
  · rw [if_pos e, e, rd_app_eq]
  · rw [if_neg e, rd_app_lt _ _ (by omega)]
theorem rd_set (l : List Int) (i n : Nat) (x : Int) (h : n < l.length) : rd (l.set i x) (n : Int) = if n = i then x else rd l (n : Int) := by
  rw [rd_at _ (by rw [List.length_set]; exact h), rd_at _ h, List.getElem_set]
  by_cases e : n = i
  · rw [if_pos e, if_pos e.symm]
  · rw [if_neg e, if_neg (fun q => e q.symm)]
theorem rd_replicate (m n : Nat) (x : Int) (h : n < m) : rd (List.replicate m x) (n : Int) = x := by
  rw [rd_at _ (by rw [List.length_replicate]; exact h), List.getElem_replicate]
theorem rd_take (l : List Int) {m n : Nat} (h : n < m) (hm : m ≤ l.length) : rd (l.take m) (n : Int) = rd l (n : Int) := by
  rw [rd_at _ (by rw [List.length_take]; omega), rd_at _ (by omega), List.getElem_take]
theorem rd_drop (l : List Int) (m n : Nat) : rd (l.drop m) (n : Int) = rd l ((m + n : Nat) : Int) := by
  rw [rd_d, rd_d, List.getD_eq_getElem?_getD, List.getD_eq_getElem?_getD, List.getElem?_drop]
theorem list_ext {l m : List Int} (h : l.length = m.length) (k : ∀ n : Nat, n < l.length → rd l (n : Int) = rd m (n : Int)) : l = m := by
  apply List.ext_getElem h
  intro i h1 h2
  have := k i h1
  rwa [rd_at _ h1, rd_at _ h2] at this
theorem wf64 {a : Int} (h : (Lit.int .i64 a).wf = true) : -9223372036854775808 ≤ a ∧ a ≤ 9223372036854775807 := by
  simp only [Lit.wf, IntKind.min, IntKind.max, IntKind.signed, IntKind.bits, Bool.and_eq_true, decide_eq_true_eq, if_true] at h
  omega
/-- At least one round. -/
theorem round {k d : Nat} (h : d < k) : ∃ m, k = m + 1 := ⟨k - 1, by omega⟩

/-- A list of so many numbers, each told by its place. -/
def tabulate (n : Nat) (f : Nat → Int) : List Int := (List.range n).map f
theorem tabulate_length (n : Nat) (f : Nat → Int) : (tabulate n f).length = n := by unfold tabulate; rw [List.length_map, List.length_range]
theorem rd_tabulate (n : Nat) (f : Nat → Int) (j : Nat) (h : j < n) : rd (tabulate n f) (j : Int) = f j := by
  rw [rd_at _ (by rw [tabulate_length]; exact h)]; unfold tabulate; rw [List.getElem_map, List.getElem_range]
theorem eq_tabulate (l : List Int) (n : Nat) (f : Nat → Int) (hl : l.length = n) (h : ∀ j, j < n → rd l (j : Int) = f j) : l = tabulate n f := by
  apply list_ext (by rw [hl, tabulate_length])
  intro j hj; rw [rd_tabulate _ _ _ (by omega), h j (by omega)]

/-- The step from a place on is 0 or 1. -/
def okStep (row : List Int) (i : Nat) : Prop := rd row ((i + 1 : Nat) : Int) = rd row (i : Int) ∨ rd row ((i + 1 : Nat) : Int) > rd row (i : Int) ∧ wrap64 (rd row ((i + 1 : Nat) : Int) - 1) = rd row (i : Int)
instance (row : List Int) (i : Nat) : Decidable (okStep row i) := by unfold okStep; infer_instance
def stepAt (row : List Int) (i : Nat) : Int := if rd row ((i + 1 : Nat) : Int) = rd row (i : Int) then 0 else 1
/-- All steps are 0 or 1, from some place on. -/
def okFrom (row : List Int) (n i : Nat) : Prop := ∀ t, i ≤ t → t < n → okStep row t
theorem okFrom_succ {row : List Int} {n i : Nat} (h : okStep row i) : okFrom row n i ↔ okFrom row n (i + 1) :=
  ⟨fun q t ht => q t (by omega), fun q t ht ht' => if e : t = i then e ▸ h else q t (by omega) ht'⟩
/-- A row's steps. -/
def stepsOf (row : List Int) : List Int := tabulate (row.length - 1) (stepAt row)
theorem same_refl (l : List Int) : tattingref1_Same.f l l = some true := by unfold tattingref1_Same.f; simp
theorem deltaOf_l0 (row : List Int) (n : Nat) (hn : row.length = n + 1) (hl : n ≤ 1000000) (d : Nat) : ∀ (k i : Nat) (t : List Int), i + d = n → d < k → t.length = n → (∀ j, j < n → rd t (j : Int) = if j < i then stepAt row j else 0) →
    (okFrom row n i → delta_Of.l0 k row t (n : Int) (i : Int) = some (stepsOf row, 0)) ∧ (¬ okFrom row n i → delta_Of.l0 k row t (n : Int) (i : Int) = some ([], 1)) := by
  induction d with
  | zero =>
    intro k i t hi hk ht h
    obtain ⟨k, rfl⟩ := round hk
    simp only [delta_Of.l0]
    rw [if_neg (by omega)]
    refine ⟨fun _ => ?_, fun q => absurd (fun t h1 h2 => by omega) q⟩
    have e : t = stepsOf row := eq_tabulate t _ _ (by omega) (fun j hj => by rw [h j (by omega), if_pos (by omega)])
    rw [e]
  | succ d ih =>
    intro k i t hi hk ht h
    obtain ⟨k, rfl⟩ := round hk
    simp only [delta_Of.l0]
    have E1 := Aside0.mk (show wrap64 ((i : Int) + 1) = ((i + 1 : Nat) : Int) from wrap_succ (by omega))
    rw [E1.out, if_pos (by omega), if_pos (by omega), if_pos (by omega), if_pos (by omega), if_pos (by omega)]
    by_cases c1 : rd row ((i + 1 : Nat) : Int) = rd row (i : Int)
    · rw [if_pos c1]
      have hs : okStep row i := Or.inl c1
      rw [okFrom_succ hs]
      refine ih k (i + 1) t (by omega) (by omega) ht ?_
      intro j hj
      rw [h j hj]
      by_cases e : j = i
      · rw [if_neg (by omega), if_pos (by omega), e, stepAt, if_pos c1]
      · by_cases c : j < i
        · rw [if_pos c, if_pos (by omega)]
        · rw [if_neg c, if_neg (by omega)]
    · rw [if_neg c1]
      by_cases c2 : rd row ((i + 1 : Nat) : Int) > rd row (i : Int)
      · rw [if_pos c2]
        by_cases c3 : wrap64 (rd row ((i + 1 : Nat) : Int) - 1) = rd row (i : Int)
        · have hs : okStep row i := Or.inr ⟨c2, c3⟩
          rw [if_pos c3, okFrom_succ hs, if_pos (by omega), Int.toNat_natCast]
          refine ih k (i + 1) _ (by omega) (by omega) (by rw [List.length_set]; exact ht) ?_
          intro j hj
          rw [rd_set _ _ _ _ (by omega), h j hj]
          by_cases e : j = i
          · rw [if_pos e, if_pos (by omega), e, stepAt, if_neg c1]
          · rw [if_neg e]
            by_cases c : j < i
            · rw [if_pos c, if_pos (by omega)]
            · rw [if_neg c, if_neg (by omega)]
        · rw [if_neg c3]
          exact ⟨fun q => absurd (q i (Nat.le_refl _) (by omega)) (fun z => z.elim c1 (fun z => c3 z.2)), fun _ => rfl⟩
      · rw [if_neg c2]
        exact ⟨fun q => absurd (q i (Nat.le_refl _) (by omega)) (fun z => z.elim c1 (fun z => c2 z.1)), fun _ => rfl⟩
theorem deltaOf (row : List Int) (h0 : row.length ≠ 0) (hl : row.length ≤ 1000000) {k : Nat} (hk : row.length < k) : (okFrom row (row.length - 1) 0 → delta_Of.f k row = some (stepsOf row, 0)) ∧ (¬ okFrom row (row.length - 1) 0 → delta_Of.f k row = some ([], 1)) := by
  unfold delta_Of.f
  have e : wrap64 ((row.length : Int) - 1) = ((row.length - 1 : Nat) : Int) := by rw [wrap_id (by omega) (by omega)]; omega
  rw [e, if_neg (by omega), if_pos (by omega), if_pos (by omega), Option.bind_some, Int.toNat_natCast, List.length_replicate]
  exact deltaOf_l0 row (row.length - 1) (by omega) (by omega) (row.length - 1) k 0 _ (by omega) (by omega) (by rw [List.length_replicate]) (fun j hj => by rw [rd_replicate _ _ _ hj, if_neg (by omega)])

theorem awake : tattinglaw12_awake.f 60 = some true := by decide +kernel
theorem steps_l0 (row : List Int) (n : Nat) (hn : row.length = n + 1) (hl : n ≤ 1000000) (d : Nat) : ∀ (k i : Nat) (t : List Int), i + d = n → d < k → t.length = i → (∀ j, j < i → rd t (j : Int) = stepAt row j) →
    (okFrom row n i → tattingref12_Steps.l0 k row t ((i + 1 : Nat) : Int) = some (stepsOf row, 0)) ∧ (¬ okFrom row n i → tattingref12_Steps.l0 k row t ((i + 1 : Nat) : Int) = some ([], 1)) := by
  induction d with
  | zero =>
    intro k i t hi hk ht h
    obtain ⟨k, rfl⟩ := round hk
    simp only [tattingref12_Steps.l0]
    rw [if_neg (by omega)]
    refine ⟨fun _ => ?_, fun q => absurd (fun t h1 h2 => by omega) q⟩
    have e : t = stepsOf row := eq_tabulate t _ _ (by omega) (fun j hj => h j (by omega))
    rw [e]
  | succ d ih =>
    intro k i t hi hk ht h
    obtain ⟨k, rfl⟩ := round hk
    simp only [tattingref12_Steps.l0]
    have E1 := Aside0.mk (show wrap64 (((i + 1 : Nat) : Int) + 1) = ((i + 1 + 1 : Nat) : Int) from wrap_succ (by omega))
    have E2 := Aside0.mk (show wrap64 (((i + 1 : Nat) : Int) - 1) = (i : Int) from by rw [wrap_id (by omega) (by omega)]; omega)
    rw [E1.out, E2.out, if_pos (by omega), if_pos (by omega), if_pos (by omega), if_pos (by omega)]
    have go : ∀ v, v = stepAt row i → (∀ j, j < i + 1 → rd (t ++ [v]) (j : Int) = stepAt row j) := by
      intro v hv j hj
      rw [rd_app _ _ _ (by omega)]
      by_cases e : j = t.length
      · rw [if_pos e, hv, e, ht]
      · rw [if_neg e]; exact h j (by omega)
    by_cases c1 : rd row ((i + 1 : Nat) : Int) = rd row (i : Int)
    · rw [if_pos c1, if_pos (by omega), okFrom_succ (Or.inl c1 : okStep row i)]
      exact ih k (i + 1) _ (by omega) (by omega) (by rw [List.length_append, List.length_singleton]; omega) (go 0 (by rw [stepAt, if_pos c1]))
    · rw [if_neg c1]
      by_cases c2 : rd row ((i + 1 : Nat) : Int) > rd row (i : Int)
      · rw [if_pos c2]
        by_cases c3 : wrap64 (rd row ((i + 1 : Nat) : Int) - 1) = rd row (i : Int)
        · rw [if_pos c3, if_pos (by omega), okFrom_succ (Or.inr ⟨c2, c3⟩ : okStep row i)]
          exact ih k (i + 1) _ (by omega) (by omega) (by rw [List.length_append, List.length_singleton]; omega) (go 1 (by rw [stepAt, if_neg c1]))
        · rw [if_neg c3]
          exact ⟨fun q => absurd (q i (Nat.le_refl _) (by omega)) (fun z => z.elim c1 (fun z => c3 z.2)), fun _ => rfl⟩
      · rw [if_neg c2]
        exact ⟨fun q => absurd (q i (Nat.le_refl _) (by omega)) (fun z => z.elim c1 (fun z => c2 z.1)), fun _ => rfl⟩
theorem DeltaSays : tattinglaw12_DeltaSays.Pure := by
  intro row _ _ _
  refine ⟨1000, ?_⟩
  unfold tattinglaw12_DeltaSays.f
  rw [at_rounds tattinglaw12_awake.mono (by decide) awake, Option.bind_some, if_pos rfl]
  by_cases h1 : (row.length : Int) > 60
  · rw [if_pos h1]
  rw [if_neg h1]
  by_cases h0 : row.length = 0
  · have e1 : delta_Of.f 1000 row = some ([], 1) := by unfold delta_Of.f; rw [if_pos (by omega)]
    have e2 : tattingref12_Steps.f 1000 row = some ([], 1) := by unfold tattingref12_Steps.f; rw [if_pos (by omega)]
    rw [e1, Option.bind_some, e2, Option.bind_some, if_pos rfl, same_refl, Option.bind_some]
  · have a := deltaOf row h0 (by omega) (k := 1000) (by omega)
    have b := steps_l0 row (row.length - 1) (by omega) (by omega) (row.length - 1) 1000 0 [] (by omega) (by omega) rfl (fun j hj => by omega)
    have e2 : tattingref12_Steps.f 1000 row = tattingref12_Steps.l0 1000 row [] ((0 + 1 : Nat) : Int) := by unfold tattingref12_Steps.f; rw [if_neg (by omega)]; rfl
    rw [e2]
    by_cases c : okFrom row (row.length - 1) 0
    · rw [a.1 c, Option.bind_some, b.1 c, Option.bind_some, if_pos rfl, same_refl, Option.bind_some]
    · rw [a.2 c, Option.bind_some, b.2 c, Option.bind_some, if_pos rfl, same_refl, Option.bind_some]

end Go.Proofs.Ytjplieecdfbbjaa.Pure
