/- For every two lists of at most 60 numbers: how long both ends are that are alike, and what stands between, are the reference's. -/
import Derived.Test.YtamfpadkdkjalaaPTrimSaysx5
import Derived.Test.YtamfpadkdkjalaaWSized
namespace Go.Proofs.Ytamfpadkdkjalaa.PrintWords
set_option linter.defProp false in
/-- The printed row names this lemma without the seat-wide namespace. -/
def sized_ints := @Go.Proofs.YtamfpadkdkjalaaW.PrintWords.sized_ints
end Go.Proofs.Ytamfpadkdkjalaa.PrintWords
namespace Go.Proofs.Ytamfpadkdkjalaa.Pure
open Go.RowKit Go.Proofs.Ytamfpadkdkjalaa.PTrimSays Go.Proofs.YtamfpadkdkjalaaW.PrintWords Go.Proofs.YtamfpadkdkjalaaW.PrintLast Go.Proofs.YtamfpadkdkjalaaW.PrintMore
set_option linter.unusedVariables false
set_option linter.unusedSimpArgs false

theorem wrap_id {i : Int} (h0 : -9223372036854775808 ≤ i) (h1 : i < 9223372036854775808) : wrap64 i = i := by unfold wrap64; omega
theorem wrap_succ {n : Nat} (h : n < 9223372036854775807) : wrap64 ((n : Int) + 1) = ((n + 1 : Nat) : Int) := by unfold wrap64; omega

theorem rd_at (l : List Int) {n : Nat} (h : n < l.length) : rd l (n : Int) = l[n] := by
  unfold rd; rw [Int.toNat_natCast, List.getD_eq_getElem?_getD, List.getElem?_eq_getElem h]; rfl
theorem rd_d (l : List Int) (n : Nat) : rd l (n : Int) = l.getD n 0 := rfl
theorem rd_out (l : List Int) {n : Nat} (h : l.length ≤ n) : rd l (n : Int) = 0 := by
  rw [rd_d, List.getD_eq_getElem?_getD, List.getElem?_eq_none h]; rfl
theorem drop_rd (l : List Int) {n : Nat} (h : n < l.length) : l.drop n = rd l (n : Int) :: l.drop (n + 1) := by
  rw [rd_at l h]; exact List.drop_eq_getElem_cons h
theorem take_rd (l : List Int) {n : Nat} (h : n < l.length) : l.take (n + 1) = l.take n ++ [rd l (n : Int)] := by
  rw [rd_at l h, List.take_succ_eq_append_getElem h]
theorem rd_mem (l : List Int) {n : Nat} (h : n < l.length) : rd l (n : Int) ∈ l := by rw [rd_at l h]; exact List.getElem_mem h
theorem rd_app_lt (l : List Int) (x : Int) {n : Nat} (h : n < l.length) : rd (l ++ [x]) (n : Int) = rd l (n : Int) := by
  rw [rd_at _ (by rw [List.length_append]; omega), rd_at _ h, List.getElem_append_left h]
theorem rd_app_eq (l : List Int) (x : Int) : rd (l ++ [x]) (l.length : Int) = x := by
  rw [rd_at _ (by rw [List.length_append, List.length_singleton]; omega)]; simp
theorem rd_app (l : List Int) (x : Int) (n : Nat) (h : n ≤ l.length) : rd (l ++ [x]) (n : Int) = if n = l.length then x else rd l (n : Int) := by
  by_cases e : n = l.length
  · rw [if_pos e, e, rd_app_eq]
  · rw [if_neg e, rd_app_lt _ _ (by omega)]
theorem rd_set (l : List Int) (i n : Nat) (x : Int) (h : n < l.length) : rd (l.set i x) (n : Int) = if n = i then x else rd l (n : Int) := by
  rw [rd_at _ (by rw [List.length_set]; exact h), rd_at _ h, List.getElem_set]
  by_cases e : n = i
  · rw [if_pos e, if_pos e.symm]
  · rw [if_neg e, if_neg (fun q => e q.symm)]
theorem rd_replicate (m n : Nat) (x : Int) (h : n < m) : rd (List.replicate m x) (n : Int) = x := by
  rw [rd_at _ (by rw [List.length_replicate]; exact h), List.getElem_replicate]
theorem rd_take (l : List Int) {m n : Nat} (h : n < m) (hm : m ≤ l.length) : rd (l.take m) (n : Int) = rd l (n : Int) := by
  rw [rd_at _ (by rw [List.length_take]; omega), rd_at _ (by omega), List.getElem_take]
theorem rd_drop (l : List Int) (m n : Nat) : rd (l.drop m) (n : Int) = rd l ((m + n : Nat) : Int) := by
  rw [rd_d, rd_d, List.getD_eq_getElem?_getD, List.getD_eq_getElem?_getD, List.getElem?_drop]
theorem list_ext {l m : List Int} (h : l.length = m.length) (k : ∀ n : Nat, n < l.length → rd l (n : Int) = rd m (n : Int)) : l = m := by
  apply List.ext_getElem h
  intro i h1 h2
  have := k i h1
  rwa [rd_at _ h1, rd_at _ h2] at this
theorem wf64 {a : Int} (h : (Lit.int .i64 a).wf = true) : -9223372036854775808 ≤ a ∧ a ≤ 9223372036854775807 := by
  simp only [Lit.wf, IntKind.min, IntKind.max, IntKind.signed, IntKind.bits, Bool.and_eq_true, decide_eq_true_eq, if_true] at h
  omega
/-- At least one round. -/
theorem round {k d : Nat} (h : d < k) : ∃ m, k = m + 1 := ⟨k - 1, by omega⟩

/-- The comparison of two lists answers whether they are equal. -/
theorem sameInts_l0 (a b : List Int) (hl : a.length = b.length) (hm : a.length ≤ 9223372036854775806) (d : Nat) : ∀ (k n : Nat), n + d = a.length → d < k → tattingref1_SameInts.l0 k a b (n : Int) = some (decide (a.drop n = b.drop n)) := by
  induction d with
  | zero =>
    intro k n hn hk
    obtain ⟨k, rfl⟩ := round hk
    simp only [tattingref1_SameInts.l0]
    rw [if_neg (by omega), List.drop_eq_nil_of_le (by omega), List.drop_eq_nil_of_le (by omega)]; rfl
  | succ d ih =>
    intro k n hn hk
    obtain ⟨k, rfl⟩ := round hk
    simp only [tattingref1_SameInts.l0]
    rw [if_pos (by omega), if_pos (by omega), if_pos (by omega)]
    rw [drop_rd a (by omega), drop_rd b (by omega)]
    by_cases h : rd a (n : Int) = rd b (n : Int)
    · rw [if_pos h, wrap_succ (by omega), ih k (n + 1) (by omega) (by omega), h]
      simp
    · rw [if_neg h]
      simp [h]
theorem sameInts (a b : List Int) (hm : a.length ≤ 9223372036854775806) {k : Nat} (hk : a.length < k) : tattingref1_SameInts.f k a b = some (decide (a = b)) := by
  unfold tattingref1_SameInts.f
  by_cases h : a.length = b.length
  · rw [if_pos (by omega)]
    exact sameInts_l0 a b h hm a.length k 0 (by omega) hk
  · rw [if_neg (by omega)]
    congr 1
    rw [eq_comm, decide_eq_false_iff_not]
    intro e; exact h (by rw [e])

/-- How many numbers are alike at the beginning. -/
def cpre : List Int → List Int → Nat
  | x :: xs, y :: ys => if x = y then cpre xs ys + 1 else 0
  | _, _ => 0
theorem cpre_nil_right (a : List Int) : cpre a [] = 0 := by cases a <;> rfl
theorem cpre_le (a b : List Int) : cpre a b ≤ a.length ∧ cpre a b ≤ b.length := by
  induction a generalizing b with
  | nil => simp [cpre]
  | cons x xs ih =>
    cases b with
    | nil => simp [cpre]
    | cons y ys => rw [cpre]; have := ih ys; split <;> simp <;> omega
theorem cpre_take (a b : List Int) : a.take (cpre a b) = b.take (cpre a b) := by
  induction a generalizing b with
  | nil => simp [cpre]
  | cons x xs ih =>
    cases b with
    | nil => simp [cpre]
    | cons y ys =>
      rw [cpre]
      by_cases e : x = y
      · rw [if_pos e, List.take_succ_cons, List.take_succ_cons, ih ys, e]
      · rw [if_neg e]; rfl
theorem cpre_max (n : Nat) : ∀ (a b : List Int), n ≤ a.length → n ≤ b.length → a.take n = b.take n → n ≤ cpre a b := by
  induction n with
  | zero => intros; omega
  | succ n ih =>
    intro a b ha hb h
    cases a with
    | nil => simp at ha
    | cons x xs =>
      cases b with
      | nil => simp at hb
      | cons y ys =>
        rw [List.take_succ_cons, List.take_succ_cons] at h
        injection h with h1 h2
        rw [cpre, if_pos h1]
        have := ih xs ys (by simpa using ha) (by simpa using hb) h2
        omega
theorem cpre_ne (a b : List Int) (ha : cpre a b < a.length) (hb : cpre a b < b.length) : rd a (cpre a b : Int) ≠ rd b (cpre a b : Int) := by
  intro h
  have h1 : a.take (cpre a b + 1) = b.take (cpre a b + 1) := by rw [take_rd a ha, take_rd b hb, h, cpre_take]
  have := cpre_max (cpre a b + 1) a b ha hb h1
  omega
theorem cpre_step (a b : List Int) (n : Nat) (ha : n < a.length) (hb : n < b.length) : cpre (a.drop n) (b.drop n) = if rd a (n : Int) = rd b (n : Int) then cpre (a.drop (n + 1)) (b.drop (n + 1)) + 1 else 0 := by
  rw [drop_rd a ha, drop_rd b hb, cpre]
theorem cpre_end (a b : List Int) (n : Nat) (h : a.length ≤ n ∨ b.length ≤ n) : cpre (a.drop n) (b.drop n) = 0 := by
  rcases h with h | h
  · rw [List.drop_eq_nil_of_le h]; cases b.drop n <;> rfl
  · rw [List.drop_eq_nil_of_le h, cpre_nil_right]
theorem rd_reverse (l : List Int) (n : Nat) (h : n < l.length) : rd l.reverse (n : Int) = rd l ((l.length - 1 - n : Nat) : Int) := by
  rw [rd_at _ (by rw [List.length_reverse]; exact h), rd_at _ (by omega), List.getElem_reverse]

theorem trimOf_l1 (a b : List Int) (p : Int) (ha : a.length ≤ 1000000) (hb : b.length ≤ 1000000) (d : Nat) : ∀ (k s : Nat), s + d = a.length → d < k →
    trim_Of.l1 k a b p (s : Int) = some (p, ((s + cpre (a.reverse.drop s) (b.reverse.drop s) : Nat) : Int)) := by
  induction d with
  | zero =>
    intro k s hs hk
    obtain ⟨k, rfl⟩ := round hk
    simp only [trim_Of.l1]
    rw [if_neg (by omega), cpre_end _ _ _ (by rw [List.length_reverse]; omega), Nat.add_zero]
  | succ d ih =>
    intro k s hs hk
    obtain ⟨k, rfl⟩ := round hk
    simp only [trim_Of.l1]
    rw [if_pos (by omega)]
    by_cases c : s < b.length
    · have ea : wrap64 (wrap64 ((a.length : Int) - 1) - (s : Int)) = ((a.length - 1 - s : Nat) : Int) := by
        rw [wrap_id (i := (a.length : Int) - 1) (by omega) (by omega), wrap_id (by omega) (by omega)]; omega
      have eb : wrap64 (wrap64 ((b.length : Int) - 1) - (s : Int)) = ((b.length - 1 - s : Nat) : Int) := by
        rw [wrap_id (i := (b.length : Int) - 1) (by omega) (by omega), wrap_id (by omega) (by omega)]; omega
      rw [ea, eb, if_pos (by omega), if_pos (by omega), if_pos (by omega), if_pos (by omega), if_pos (by omega)]
      rw [cpre_step _ _ _ (by rw [List.length_reverse]; omega) (by rw [List.length_reverse]; exact c), rd_reverse a s (by omega), rd_reverse b s c]
      by_cases e : rd a ((a.length - 1 - s : Nat) : Int) = rd b ((b.length - 1 - s : Nat) : Int)
      · rw [if_pos e, if_pos e, wrap_succ (by omega), ih k (s + 1) (by omega) (by omega)]
        congr 2; omega
      · rw [if_neg e, if_neg e, Nat.add_zero]
    · rw [if_neg (by omega), cpre_end _ _ _ (by rw [List.length_reverse, List.length_reverse]; omega), Nat.add_zero]
theorem trimOf_l0 (a b : List Int) (ha : a.length ≤ 1000000) (hb : b.length ≤ 1000000) (K : Nat) (r : Option (Int × Int)) (d : Nat) : ∀ (k i : Nat), i + d = a.length → d + K < k →
    (∀ k', K ≤ k' → trim_Of.j1 k' a b ((i + cpre (a.drop i) (b.drop i) : Nat) : Int) 0 = r) → trim_Of.l0 k a b (i : Int) 0 = r := by
  induction d with
  | zero =>
    intro k i hi hk hr
    obtain ⟨k, rfl⟩ := round hk
    simp only [trim_Of.l0]
    rw [cpre_end _ _ _ (by omega), Nat.add_zero] at hr
    rw [if_neg (by omega)]; exact hr k (by omega)
  | succ d ih =>
    intro k i hi hk hr
    obtain ⟨k, rfl⟩ := round hk
    simp only [trim_Of.l0]
    rw [if_pos (by omega)]
    by_cases c : i < b.length
    · rw [if_pos (by omega), if_pos (by omega)]
      rw [cpre_step _ _ _ (by omega) c] at hr
      by_cases e : rd a (i : Int) = rd b (i : Int)
      · rw [if_pos e] at hr
        rw [if_pos e, wrap_succ (by omega)]
        refine ih k (i + 1) (by omega) (by omega) ?_
        intro k' hk'
        rw [← hr k' hk']; congr 1; omega
      · rw [if_neg e, Nat.add_zero] at hr
        rw [if_neg e]; exact hr k (by omega)
    · rw [cpre_end _ _ _ (by omega), Nat.add_zero] at hr
      rw [if_neg (by omega)]; exact hr k (by omega)
/-- The suffix that is alike behind the prefix. -/
def csuf (a b : List Int) : Nat := cpre (a.drop (cpre a b)).reverse (b.drop (cpre a b)).reverse
theorem trimOf (a b : List Int) (ha : a.length ≤ 1000000) (hb : b.length ≤ 1000000) {k : Nat} (hk : 2 * a.length + 3 < k) : trim_Of.f k a b = some ((cpre a b : Int), (csuf a b : Int)) := by
  unfold trim_Of.f
  refine trimOf_l0 a b ha hb (a.length + 2) _ a.length k 0 (by omega) (by omega) ?_
  intro k' hk'
  obtain ⟨k', rfl⟩ : ∃ m, k' = m + 1 := ⟨k' - 1, by omega⟩
  have hl := cpre_le a b
  simp only [trim_Of.j1]
  rw [List.drop_zero, List.drop_zero, Nat.zero_add, if_pos (by omega), if_pos (by omega), if_pos (by omega), Int.toNat_natCast]
  have h := trimOf_l1 (a.drop (cpre a b)) (b.drop (cpre a b)) (cpre a b : Int) (by rw [List.length_drop]; omega) (by rw [List.length_drop]; omega) (a.drop (cpre a b)).length k' 0 (by omega) (by rw [List.length_drop]; omega)
  rw [List.drop_zero, List.drop_zero, Nat.zero_add] at h
  exact h
theorem csuf_le (a b : List Int) : cpre a b + csuf a b ≤ a.length ∧ cpre a b + csuf a b ≤ b.length := by
  have h := cpre_le a b
  have k := cpre_le (a.drop (cpre a b)).reverse (b.drop (cpre a b)).reverse
  rw [List.length_reverse, List.length_reverse, List.length_drop, List.length_drop] at k
  unfold csuf; omega
/-- What stands between. -/
def midOf (a : List Int) (p s : Nat) : List Int := (a.take (a.length - s)).drop p
theorem midOf_length (a : List Int) (p s : Nat) : (midOf a p s).length = a.length - s - p := by unfold midOf; rw [List.length_drop, List.length_take]; omega
theorem clone (l : List Int) (h : l.length ≤ 1000000) : slices_Clone_int_int.f l = some l := by unfold slices_Clone_int_int.f; rw [if_pos (by omega)]
theorem trimMid (a b : List Int) (ha : a.length ≤ 1000000) (hb : b.length ≤ 1000000) {k : Nat} (hk : 2 * a.length + 3 < k) : trim_Mid.f k a b = some (midOf a (cpre a b) (csuf a b), midOf b (cpre a b) (csuf a b)) := by
  unfold trim_Mid.f
  rw [trimOf a b ha hb hk]
  simp only [Option.bind_some]
  have hl := csuf_le a b
  have ea : wrap64 ((a.length : Int) - (csuf a b : Int)) = ((a.length - csuf a b : Nat) : Int) := by rw [wrap_id (by omega) (by omega)]; omega
  have eb : wrap64 ((b.length : Int) - (csuf a b : Int)) = ((b.length - csuf a b : Nat) : Int) := by rw [wrap_id (by omega) (by omega)]; omega
  rw [ea, eb, if_pos (by omega), if_pos (by omega), if_pos (by omega)]
  simp only [Int.toNat_natCast]
  rw [clone _ (by rw [List.length_drop, List.length_take]; omega), Option.bind_some, if_pos (by omega), if_pos (by omega), clone _ (by rw [List.length_drop, List.length_take]; omega)]
  rfl

theorem refEnds_l1 (a b : List Int) (p : Nat) (ha : a.length ≤ 1000000) (hb : b.length ≤ 1000000) (pa : p ≤ a.length) (pb : p ≤ b.length) (d : Nat) : ∀ (k s : Nat), s + d = a.length - p → d < k →
    tattingref1_Ends.l1 k a b (p : Int) (s : Int) = some ((p : Int), ((s + cpre ((a.drop p).reverse.drop s) ((b.drop p).reverse.drop s) : Nat) : Int)) := by
  have wa := Aside0.mk (show wrap64 ((a.length : Int) - (p : Int)) = ((a.length - p : Nat) : Int) from by rw [wrap_id (by omega) (by omega)]; omega)
  have wb := Aside0.mk (show wrap64 ((b.length : Int) - (p : Int)) = ((b.length - p : Nat) : Int) from by rw [wrap_id (by omega) (by omega)]; omega)
  induction d with
  | zero =>
    intro k s hs hk
    obtain ⟨k, rfl⟩ := round hk
    simp only [tattingref1_Ends.l1]
    rw [wa.out, if_neg (by omega), cpre_end _ _ _ (by rw [List.length_reverse, List.length_drop]; omega), Nat.add_zero]
  | succ d ih =>
    intro k s hs hk
    obtain ⟨k, rfl⟩ := round hk
    simp only [tattingref1_Ends.l1]
    rw [wa.out, wb.out, if_pos (by omega)]
    by_cases c : s < b.length - p
    · have ea : wrap64 (wrap64 ((a.length : Int) - 1) - (s : Int)) = ((a.length - 1 - s : Nat) : Int) := by
        rw [wrap_id (i := (a.length : Int) - 1) (by omega) (by omega), wrap_id (by omega) (by omega)]; omega
      have eb : wrap64 (wrap64 ((b.length : Int) - 1) - (s : Int)) = ((b.length - 1 - s : Nat) : Int) := by
        rw [wrap_id (i := (b.length : Int) - 1) (by omega) (by omega), wrap_id (by omega) (by omega)]; omega
      rw [ea, eb, if_pos (by omega), if_pos (by omega), if_pos (by omega), if_pos (by omega), if_pos (by omega)]
      rw [cpre_step _ _ _ (by rw [List.length_reverse, List.length_drop]; omega) (by rw [List.length_reverse, List.length_drop]; exact c), rd_reverse (a.drop p) s (by rw [List.length_drop]; omega), rd_reverse (b.drop p) s (by rw [List.length_drop]; exact c),
        rd_drop, rd_drop, List.length_drop, List.length_drop, show p + (a.length - p - 1 - s) = a.length - 1 - s by omega, show p + (b.length - p - 1 - s) = b.length - 1 - s by omega]
      by_cases e : rd a ((a.length - 1 - s : Nat) : Int) = rd b ((b.length - 1 - s : Nat) : Int)
      · rw [if_pos e, if_pos e, wrap_succ (by omega), ih k (s + 1) (by omega) (by omega)]
        congr 2; omega
      · rw [if_neg e, if_neg e, Nat.add_zero]
    · rw [if_neg (by omega), cpre_end _ _ _ (by rw [List.length_reverse, List.length_reverse, List.length_drop, List.length_drop]; omega), Nat.add_zero]
theorem refEnds_l0 (a b : List Int) (ha : a.length ≤ 1000000) (hb : b.length ≤ 1000000) (K : Nat) (r : Option (Int × Int)) (d : Nat) : ∀ (k i : Nat), i + d = a.length → d + K < k →
    (∀ k', K ≤ k' → tattingref1_Ends.j1 k' a b ((i + cpre (a.drop i) (b.drop i) : Nat) : Int) = r) → tattingref1_Ends.l0 k a b (i : Int) = r := by
  induction d with
  | zero =>
    intro k i hi hk hr
    obtain ⟨k, rfl⟩ := round hk
    simp only [tattingref1_Ends.l0]
    rw [cpre_end _ _ _ (by omega), Nat.add_zero] at hr
    rw [if_neg (by omega)]; exact hr k (by omega)
  | succ d ih =>
    intro k i hi hk hr
    obtain ⟨k, rfl⟩ := round hk
    simp only [tattingref1_Ends.l0]
    rw [if_pos (by omega)]
    by_cases c : i < b.length
    · rw [if_pos (by omega), if_pos (by omega)]
      rw [cpre_step _ _ _ (by omega) c] at hr
      by_cases e : rd a (i : Int) = rd b (i : Int)
      · rw [if_pos e] at hr
        rw [if_pos e, wrap_succ (by omega)]
        refine ih k (i + 1) (by omega) (by omega) ?_
        intro k' hk'
        rw [← hr k' hk']; congr 1; omega
      · rw [if_neg e, Nat.add_zero] at hr
        rw [if_neg e]; exact hr k (by omega)
    · rw [cpre_end _ _ _ (by omega), Nat.add_zero] at hr
      rw [if_neg (by omega)]; exact hr k (by omega)
theorem refEnds (a b : List Int) (ha : a.length ≤ 1000000) (hb : b.length ≤ 1000000) {k : Nat} (hk : 2 * a.length + 3 < k) : tattingref1_Ends.f k a b = some ((cpre a b : Int), (csuf a b : Int)) := by
  unfold tattingref1_Ends.f
  refine refEnds_l0 a b ha hb (a.length + 2) _ a.length k 0 (by omega) (by omega) ?_
  intro k' hk'
  obtain ⟨k', rfl⟩ : ∃ m, k' = m + 1 := ⟨k' - 1, by omega⟩
  have hl := cpre_le a b
  simp only [tattingref1_Ends.j1]
  rw [List.drop_zero, List.drop_zero, Nat.zero_add]
  have h := refEnds_l1 a b (cpre a b) ha hb (by omega) (by omega) (a.length - cpre a b) k' 0 (by omega) (by omega)
  rw [List.drop_zero, List.drop_zero, Nat.zero_add] at h
  exact h
theorem refMid (a b : List Int) (ha : a.length ≤ 1000000) (hb : b.length ≤ 1000000) {k : Nat} (hk : 2 * a.length + 3 < k) : tattingref1_Mid.f k a b = some (midOf a (cpre a b) (csuf a b), midOf b (cpre a b) (csuf a b)) := by
  unfold tattingref1_Mid.f
  rw [refEnds a b ha hb hk]
  simp only [Option.bind_some]
  have hl := csuf_le a b
  have ea : wrap64 ((a.length : Int) - (csuf a b : Int)) = ((a.length - csuf a b : Nat) : Int) := by rw [wrap_id (by omega) (by omega)]; omega
  have eb : wrap64 ((b.length : Int) - (csuf a b : Int)) = ((b.length - csuf a b : Nat) : Int) := by rw [wrap_id (by omega) (by omega)]; omega
  rw [ea, eb, if_pos (by omega), if_pos (by omega), if_pos (by omega)]
  simp only [Int.toNat_natCast]
  rw [clone _ (by rw [List.length_drop, List.length_take]; omega), Option.bind_some, if_pos (by omega), if_pos (by omega), clone _ (by rw [List.length_drop, List.length_take]; omega)]
  rfl
theorem awake : tattinglaw3_awake.f 60 = some true := by decide +kernel
theorem TrimSays : tattinglaw3_TrimSays.Pure := by
  intro a b _ _ _ _ _ _
  refine ⟨1000, ?_⟩
  unfold tattinglaw3_TrimSays.f
  rw [at_rounds tattinglaw3_awake.mono (by decide) awake, Option.bind_some, if_pos rfl]
  have yes : ∀ k, tattinglaw3_TrimSays.j0 (k + 1) a b true = some true := fun k => by simp only [tattinglaw3_TrimSays.j0]; rw [if_pos True.intro]
  by_cases h1 : (a.length : Int) > 60
  · rw [if_pos h1]; exact yes 999
  rw [if_neg h1]
  by_cases h2 : (b.length : Int) > 60
  · rw [decide_eq_true h2]; exact yes 999
  rw [decide_eq_false h2]
  have no : ∀ k, 200 < k → tattinglaw3_TrimSays.j0 (k + 1) a b false = some true := by
    intro k hk
    simp only [tattinglaw3_TrimSays.j0]
    rw [if_neg (by decide), trimOf a b (by omega) (by omega) (by omega), Option.bind_some, refEnds a b (by omega) (by omega) (by omega), Option.bind_some, trimMid a b (by omega) (by omega) (by omega), Option.bind_some, refMid a b (by omega) (by omega) (by omega), Option.bind_some, if_pos rfl, if_pos rfl]
    have m1 := midOf_length a (cpre a b) (csuf a b)
    have m2 := midOf_length b (cpre a b) (csuf a b)
    rw [sameInts _ _ (by simp only [m1]; omega) (by simp only [m1]; omega), Option.bind_some, decide_eq_true rfl, if_pos rfl, sameInts _ _ (by simp only [m2]; omega) (by simp only [m2]; omega), Option.bind_some, decide_eq_true rfl]
  exact no 999 (by omega)

end Go.Proofs.Ytamfpadkdkjalaa.Pure
