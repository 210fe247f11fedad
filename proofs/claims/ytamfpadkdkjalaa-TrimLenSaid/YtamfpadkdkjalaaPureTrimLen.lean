/- For every two lists of at most 30 numbers, brought to four: the longest that both have in common is both ends that are alike, and the longest of what stands between. -/
import Derived.Test.YtamfpadkdkjalaaPTrimLenx6
import Derived.Test.YtamfpadkdkjalaaWSized
namespace Go.Proofs.Ytamfpadkdkjalaa.PrintWords
set_option linter.defProp false in
/-- The printed row names this lemma without the seat-wide namespace. -/
def sized_ints := @Go.Proofs.YtamfpadkdkjalaaW.PrintWords.sized_ints
end Go.Proofs.Ytamfpadkdkjalaa.PrintWords
namespace Go.Proofs.Ytamfpadkdkjalaa.Pure
open Go.RowKit Go.Proofs.Ytamfpadkdkjalaa.PTrimLen Go.Proofs.YtamfpadkdkjalaaW.PrintWords Go.Proofs.YtamfpadkdkjalaaW.PrintLast Go.Proofs.YtamfpadkdkjalaaW.PrintMore
set_option linter.unusedVariables false
set_option linter.unusedSimpArgs false

theorem wrap_id {i : Int} (h0 : -9223372036854775808 ≤ i) (h1 : i < 9223372036854775808) : wrap64 i = i := by unfold wrap64; omega
theorem wrap_succ {n : Nat} (h : n < 9223372036854775807) : wrap64 ((n : Int) + 1) = ((n + 1 : Nat) : Int) := by unfold wrap64; omega

theorem rd_at (l : List Int) {n : Nat} (h : n < l.length) : rd l (n : Int) = l[n] := by
  unfold rd; rw [Int.toNat_natCast, List.getD_eq_getElem?_getD, List.getElem?_eq_getElem h]; rfl
theorem rd_d (l : List Int) (n : Nat) : rd l (n : Int) = l.getD n 0 := rfl
theorem rd_out (l : List Int) {n : Nat} (h : l.length ≤ n) : rd l (n : Int) = 0 := by
  rw [rd_d, List.getD_eq_getElem?_getD, List.getElem?_eq_none h]; rfl
theorem drop_rd (l : List Int) {n : Nat} (h : n < l.length) : l.drop n = rd l (n : Int) :: l.drop (n + 1) := by
  rw [rd_at l h]; exact List.drop_eq_getElem_cons h
theorem take_rd (l : List Int) {n : Nat} (h : n < l.length) : l.take (n + 1) = l.take n ++ [rd l (n : Int)] := by
  rw [rd_at l h, List.take_succ_eq_append_getElem h]
theorem rd_mem (l : List Int) {n : Nat} (h : n < l.length) : rd l (n : Int) ∈ l := by rw [rd_at l h]; exact List.getElem_mem h
theorem rd_app_lt (l : List Int) (x : Int) {n : Nat} (h : n < l.length) : rd (l ++ [x]) (n : Int) = rd l (n : Int) := by
  rw [rd_at _ (by rw [List.length_append]; omega), rd_at _ h, List.getElem_append_left h]
theorem rd_app_eq (l : List Int) (x : Int) : rd (l ++ [x]) (l.length : Int) = x := by
  rw [rd_at _ (by rw [List.length_append, List.length_singleton]; omega)]; simp
theorem rd_app (l : List Int) (x : Int) (n : Nat) (h : n ≤ l.length) : rd (l ++ [x]) (n : Int) = if n = l.length then x else rd l (n : Int) := by
  by_cases e : n = l.length
  · rw [if_pos e, e, rd_app_eq]
  · rw [if_neg e, rd_app_lt _ _ (by omega)]
theorem rd_set (l : List Int) (i n : Nat) (x : Int) (h : n < l.length) : rd (l.set i x) (n : Int) = if n = i then x else rd l (n : Int) := by
  rw [rd_at _ (by rw [List.length_set]; exact h), rd_at _ h, List.getElem_set]
  by_cases e : n = i
  · rw [if_pos e, if_pos e.symm]
  · rw [if_neg e, if_neg (fun q => e q.symm)]
theorem rd_replicate (m n : Nat) (x : Int) (h : n < m) : rd (List.replicate m x) (n : Int) = x := by
  rw [rd_at _ (by rw [List.length_replicate]; exact h), List.getElem_replicate]
theorem rd_take (l : List Int) {m n : Nat} (h : n < m) (hm : m ≤ l.length) : rd (l.take m) (n : Int) = rd l (n : Int) := by
  rw [rd_at _ (by rw [List.length_take]; omega), rd_at _ (by omega), List.getElem_take]
theorem rd_drop (l : List Int) (m n : Nat) : rd (l.drop m) (n : Int) = rd l ((m + n : Nat) : Int) := by
  rw [rd_d, rd_d, List.getD_eq_getElem?_getD, List.getD_eq_getElem?_getD, List.getElem?_drop]
theorem list_ext {l m : List Int} (h : l.length = m.length) (k : ∀ n : Nat, n < l.length → rd l (n : Int) = rd m (n : Int)) : l = m := by
  apply List.ext_getElem h
  intro i h1 h2
  have := k i h1
  rwa [rd_at _ h1, rd_at _ h2] at this
theorem wf64 {a : Int} (h : (Lit.int .i64 a).wf = true) : -9223372036854775808 ≤ a ∧ a ≤ 9223372036854775807 := by
  simp only [Lit.wf, IntKind.min, IntKind.max, IntKind.signed, IntKind.bits, Bool.and_eq_true, decide_eq_true_eq, if_true] at h
  omega
/-- At least one round. -/
theorem round {k d : Nat} (h : d < k) : ∃ m, k = m + 1 := ⟨k - 1, by omega⟩

/-- The numbers brought to a few. -/
def fewOf (l : List Int) (n : Int) : List Int := l.map (· % n)
theorem fewOf_length (l : List Int) (n : Int) : (fewOf l n).length = l.length := by unfold fewOf; rw [List.length_map]
theorem fewOf_range (l : List Int) (n : Int) (hn : 0 < n) : ∀ x ∈ fewOf l n, 0 ≤ x ∧ x < n := by
  intro x hx
  unfold fewOf at hx
  obtain ⟨y, _, rfl⟩ := List.mem_map.mp hx
  exact ⟨Int.emod_nonneg y (by omega), Int.emod_lt_of_pos y hn⟩
theorem tmod_emod (x n : Int) (hn : 0 < n) : (if Int.tmod x n < 0 then Int.tmod x n + n else Int.tmod x n) = x % n := by
  have h0 := Int.emod_nonneg x (show n ≠ 0 by omega)
  have h1 := Int.emod_lt_of_pos x hn
  have h := Int.tmod_eq_emod (a := x) (b := n)
  by_cases c : 0 ≤ x ∨ n ∣ x
  · rw [if_pos c] at h; rw [if_neg (by omega)]; omega
  · rw [if_neg c] at h; rw [if_pos (by omega)]; omega
theorem few_l0 (l : List Int) (n : Int) (hn : 0 < n) (hn' : n ≤ 1000000) (hl : l.length ≤ 1000000) (d : Nat) : ∀ (k i : Nat) (out : List Int), i + d = l.length → d < k → out.length = i → tattingref1_Few.l0 k l n out (i : Int) = some (out ++ fewOf (l.drop i) n) := by
  induction d with
  | zero =>
    intro k i out hi hk ho
    obtain ⟨k, rfl⟩ := round hk
    simp only [tattingref1_Few.l0]
    rw [if_neg (by omega), List.drop_eq_nil_of_le (by omega)]
    simp [fewOf]
  | succ d ih =>
    intro k i out hi hk ho
    obtain ⟨k, rfl⟩ := round hk
    simp only [tattingref1_Few.l0]
    rw [if_pos (by omega), if_pos (by omega), if_neg (by omega), drop_rd l (by omega)]
    have h := tmod_emod (rd l (i : Int)) n hn
    have h0 := Int.emod_nonneg (rd l (i : Int)) (show n ≠ 0 by omega)
    have h1 := Int.emod_lt_of_pos (rd l (i : Int)) hn
    have e : fewOf (rd l (i : Int) :: l.drop (i + 1)) n = (rd l (i : Int) % n) :: fewOf (l.drop (i + 1)) n := rfl
    rw [e]
    by_cases c : Int.tmod (rd l (i : Int)) n < 0
    · rw [if_pos c] at h
      rw [if_pos c, if_pos (by omega), wrap_succ (by omega), wrap_id (by omega) (by omega), h, ih k (i + 1) _ (by omega) (by omega) (by rw [List.length_append, List.length_singleton]; omega)]
      simp
    · rw [if_neg c] at h
      rw [if_neg c, if_pos (by omega), wrap_succ (by omega), h, ih k (i + 1) _ (by omega) (by omega) (by rw [List.length_append, List.length_singleton]; omega)]
      simp
theorem few (l : List Int) (n : Int) (hn : 0 < n) (hn' : n ≤ 1000000) (hl : l.length ≤ 1000000) {k : Nat} (hk : l.length < k) : tattingref1_Few.f k l n = some (fewOf l n) := by
  have h := few_l0 l n hn hn' hl l.length k 0 [] (by omega) hk rfl
  rwa [List.nil_append, List.drop_zero] at h

/-- How many numbers are alike at the beginning. -/
def cpre : List Int → List Int → Nat
  | x :: xs, y :: ys => if x = y then cpre xs ys + 1 else 0
  | _, _ => 0
theorem cpre_nil_right (a : List Int) : cpre a [] = 0 := by cases a <;> rfl
theorem cpre_le (a b : List Int) : cpre a b ≤ a.length ∧ cpre a b ≤ b.length := by
  induction a generalizing b with
  | nil => simp [cpre]
  | cons x xs ih =>
    cases b with
    | nil => simp [cpre]
    | cons y ys => rw [cpre]; have := ih ys; split <;> simp <;> omega
theorem cpre_take (a b : List Int) : a.take (cpre a b) = b.take (cpre a b) := by
  induction a generalizing b with
  | nil => simp [cpre]
  | cons x xs ih =>
    cases b with
    | nil => simp [cpre]
    | cons y ys =>
      rw [cpre]
      by_cases e : x = y
      · rw [if_pos e, List.take_succ_cons, List.take_succ_cons, ih ys, e]
      · rw [if_neg e]; rfl
theorem cpre_max (n : Nat) : ∀ (a b : List Int), n ≤ a.length → n ≤ b.length → a.take n = b.take n → n ≤ cpre a b := by
  induction n with
  | zero => intros; omega
  | succ n ih =>
    intro a b ha hb h
    cases a with
    | nil => simp at ha
    | cons x xs =>
      cases b with
      | nil => simp at hb
      | cons y ys =>
        rw [List.take_succ_cons, List.take_succ_cons] at h
        injection h with h1 h2
        rw [cpre, if_pos h1]
        have := ih xs ys (by simpa using ha) (by simpa using hb) h2
        omega
theorem cpre_ne (a b : List Int) (ha : cpre a b < a.length) (hb : cpre a b < b.length) : rd a (cpre a b : Int) ≠ rd b (cpre a b : Int) := by
  intro h
  have h1 : a.take (cpre a b + 1) = b.take (cpre a b + 1) := by rw [take_rd a ha, take_rd b hb, h, cpre_take]
  have := cpre_max (cpre a b + 1) a b ha hb h1
  omega
theorem cpre_step (a b : List Int) (n : Nat) (ha : n < a.length) (hb : n < b.length) : cpre (a.drop n) (b.drop n) = if rd a (n : Int) = rd b (n : Int) then cpre (a.drop (n + 1)) (b.drop (n + 1)) + 1 else 0 := by
  rw [drop_rd a ha, drop_rd b hb, cpre]
theorem cpre_end (a b : List Int) (n : Nat) (h : a.length ≤ n ∨ b.length ≤ n) : cpre (a.drop n) (b.drop n) = 0 := by
  rcases h with h | h
  · rw [List.drop_eq_nil_of_le h]; cases b.drop n <;> rfl
  · rw [List.drop_eq_nil_of_le h, cpre_nil_right]
theorem rd_reverse (l : List Int) (n : Nat) (h : n < l.length) : rd l.reverse (n : Int) = rd l ((l.length - 1 - n : Nat) : Int) := by
  rw [rd_at _ (by rw [List.length_reverse]; exact h), rd_at _ (by omega), List.getElem_reverse]

theorem trimOf_l1 (a b : List Int) (p : Int) (ha : a.length ≤ 1000000) (hb : b.length ≤ 1000000) (d : Nat) : ∀ (k s : Nat), s + d = a.length → d < k →
    trim_Of.l1 k a b p (s : Int) = some (p, ((s + cpre (a.reverse.drop s) (b.reverse.drop s) : Nat) : Int)) := by
  induction d with
  | zero =>
    intro k s hs hk
    obtain ⟨k, rfl⟩ := round hk
    simp only [trim_Of.l1]
    rw [if_neg (by omega), cpre_end _ _ _ (by rw [List.length_reverse]; omega), Nat.add_zero]
  | succ d ih =>
    intro k s hs hk
    obtain ⟨k, rfl⟩ := round hk
    simp only [trim_Of.l1]
    rw [if_pos (by omega)]
    by_cases c : s < b.length
    · have ea : wrap64 (wrap64 ((a.length : Int) - 1) - (s : Int)) = ((a.length - 1 - s : Nat) : Int) := by
        rw [wrap_id (i := (a.length : Int) - 1) (by omega) (by omega), wrap_id (by omega) (by omega)]; omega
      have eb : wrap64 (wrap64 ((b.length : Int) - 1) - (s : Int)) = ((b.length - 1 - s : Nat) : Int) := by
        rw [wrap_id (i := (b.length : Int) - 1) (by omega) (by omega), wrap_id (by omega) (by omega)]; omega
      rw [ea, eb, if_pos (by omega), if_pos (by omega), if_pos (by omega), if_pos (by omega), if_pos (by omega)]
      rw [cpre_step _ _ _ (by rw [List.length_reverse]; omega) (by rw [List.length_reverse]; exact c), rd_reverse a s (by omega), rd_reverse b s c]
      by_cases e : rd a ((a.length - 1 - s : Nat) : Int) = rd b ((b.length - 1 - s : Nat) : Int)
      · rw [if_pos e, if_pos e, wrap_succ (by omega), ih k (s + 1) (by omega) (by omega)]
        congr 2; omega
      · rw [if_neg e, if_neg e, Nat.add_zero]
    · rw [if_neg (by omega), cpre_end _ _ _ (by rw [List.length_reverse, List.length_reverse]; omega), Nat.add_zero]
theorem trimOf_l0 (a b : List Int) (ha : a.length ≤ 1000000) (hb : b.length ≤ 1000000) (K : Nat) (r : Option (Int × Int)) (d : Nat) : ∀ (k i : Nat), i + d = a.length → d + K < k →
    (∀ k', K ≤ k' → trim_Of.j1 k' a b ((i + cpre (a.drop i) (b.drop i) : Nat) : Int) 0 = r) → trim_Of.l0 k a b (i : Int) 0 = r := by
  induction d with
  | zero =>
    intro k i hi hk hr
    obtain ⟨k, rfl⟩ := round hk
    simp only [trim_Of.l0]
    rw [cpre_end _ _ _ (by omega), Nat.add_zero] at hr
    rw [if_neg (by omega)]; exact hr k (by omega)
  | succ d ih =>
    intro k i hi hk hr
    obtain ⟨k, rfl⟩ := round hk
    simp only [trim_Of.l0]
    rw [if_pos (by omega)]
    by_cases c : i < b.length
    · rw [if_pos (by omega), if_pos (by omega)]
      rw [cpre_step _ _ _ (by omega) c] at hr
      by_cases e : rd a (i : Int) = rd b (i : Int)
      · rw [if_pos e] at hr
        rw [if_pos e, wrap_succ (by omega)]
        refine ih k (i + 1) (by omega) (by omega) ?_
        intro k' hk'
        rw [← hr k' hk']; congr 1; omega
      · rw [if_neg e, Nat.add_zero] at hr
        rw [if_neg e]; exact hr k (by omega)
    · rw [cpre_end _ _ _ (by omega), Nat.add_zero] at hr
      rw [if_neg (by omega)]; exact hr k (by omega)
/-- The suffix that is alike behind the prefix. -/
def csuf (a b : List Int) : Nat := cpre (a.drop (cpre a b)).reverse (b.drop (cpre a b)).reverse
theorem trimOf (a b : List Int) (ha : a.length ≤ 1000000) (hb : b.length ≤ 1000000) {k : Nat} (hk : 2 * a.length + 3 < k) : trim_Of.f k a b = some ((cpre a b : Int), (csuf a b : Int)) := by
  unfold trim_Of.f
  refine trimOf_l0 a b ha hb (a.length + 2) _ a.length k 0 (by omega) (by omega) ?_
  intro k' hk'
  obtain ⟨k', rfl⟩ : ∃ m, k' = m + 1 := ⟨k' - 1, by omega⟩
  have hl := cpre_le a b
  simp only [trim_Of.j1]
  rw [List.drop_zero, List.drop_zero, Nat.zero_add, if_pos (by omega), if_pos (by omega), if_pos (by omega), Int.toNat_natCast]
  have h := trimOf_l1 (a.drop (cpre a b)) (b.drop (cpre a b)) (cpre a b : Int) (by rw [List.length_drop]; omega) (by rw [List.length_drop]; omega) (a.drop (cpre a b)).length k' 0 (by omega) (by rw [List.length_drop]; omega)
  rw [List.drop_zero, List.drop_zero, Nat.zero_add] at h
  exact h
theorem csuf_le (a b : List Int) : cpre a b + csuf a b ≤ a.length ∧ cpre a b + csuf a b ≤ b.length := by
  have h := cpre_le a b
  have k := cpre_le (a.drop (cpre a b)).reverse (b.drop (cpre a b)).reverse
  rw [List.length_reverse, List.length_reverse, List.length_drop, List.length_drop] at k
  unfold csuf; omega
/-- What stands between. -/
def midOf (a : List Int) (p s : Nat) : List Int := (a.take (a.length - s)).drop p
theorem midOf_length (a : List Int) (p s : Nat) : (midOf a p s).length = a.length - s - p := by unfold midOf; rw [List.length_drop, List.length_take]; omega
theorem clone (l : List Int) (h : l.length ≤ 1000000) : slices_Clone_int_int.f l = some l := by unfold slices_Clone_int_int.f; rw [if_pos (by omega)]
theorem trimMid (a b : List Int) (ha : a.length ≤ 1000000) (hb : b.length ≤ 1000000) {k : Nat} (hk : 2 * a.length + 3 < k) : trim_Mid.f k a b = some (midOf a (cpre a b) (csuf a b), midOf b (cpre a b) (csuf a b)) := by
  unfold trim_Mid.f
  rw [trimOf a b ha hb hk]
  simp only [Option.bind_some]
  have hl := csuf_le a b
  have ea : wrap64 ((a.length : Int) - (csuf a b : Int)) = ((a.length - csuf a b : Nat) : Int) := by rw [wrap_id (by omega) (by omega)]; omega
  have eb : wrap64 ((b.length : Int) - (csuf a b : Int)) = ((b.length - csuf a b : Nat) : Int) := by rw [wrap_id (by omega) (by omega)]; omega
  rw [ea, eb, if_pos (by omega), if_pos (by omega), if_pos (by omega)]
  simp only [Int.toNat_natCast]
  rw [clone _ (by rw [List.length_drop, List.length_take]; omega), Option.bind_some, if_pos (by omega), if_pos (by omega), clone _ (by rw [List.length_drop, List.length_take]; omega)]
  rfl

/-- The longest common subsequence's length. -/
def L : List Int → List Int → Nat
  | [], _ => 0
  | _ :: _, [] => 0
  | x :: xs, y :: ys => if x = y then L xs ys + 1 else max (L xs (y :: ys)) (L (x :: xs) ys)
termination_by a b => a.length + b.length

theorem L_nil_left (b : List Int) : L [] b = 0 := by rw [L]
theorem L_nil_right (a : List Int) : L a [] = 0 := by cases a <;> rw [L]
theorem L_cons_eq (x : Int) (xs ys : List Int) : L (x :: xs) (x :: ys) = L xs ys + 1 := by rw [L, if_pos rfl]
theorem L_cons_ne {x y : Int} (h : x ≠ y) (xs ys : List Int) : L (x :: xs) (y :: ys) = max (L xs (y :: ys)) (L (x :: xs) ys) := by rw [L, if_neg h]

theorem L_ub (a b : List Int) : ∀ s : List Int, s.Sublist a → s.Sublist b → s.length ≤ L a b := by
  induction a, b using L.induct with
  | case1 b => intro s h _; rw [List.sublist_nil.mp h]; simp
  | case2 x xs => intro s _ h; rw [List.sublist_nil.mp h]; simp
  | case3 xs y ys ih =>
    intro s h1 h2
    rw [L_cons_eq]
    have h3 := ih s.tail (by simpa using h1.tail) (by simpa using h2.tail)
    have h4 : s.length ≤ s.tail.length + 1 := by rw [List.length_tail]; omega
    omega
  | case4 x xs y ys hne ih1 ih2 =>
    intro s h1 h2
    rw [L_cons_ne hne]
    rcases List.sublist_cons_iff.mp h1 with h | ⟨r, rfl, hr⟩
    · have := ih1 s h h2; omega
    · rcases List.sublist_cons_iff.mp h2 with h | ⟨r', he, hr'⟩
      · have := ih2 _ h1 h; omega
      · injection he with he1 he2; exact absurd he1 hne

theorem L_has (a b : List Int) : ∃ s : List Int, s.Sublist a ∧ s.Sublist b ∧ s.length = L a b := by
  induction a, b using L.induct with
  | case1 b => exact ⟨[], by simp, by simp, by rw [L_nil_left]; rfl⟩
  | case2 x xs => exact ⟨[], by simp, by simp, by rw [L_nil_right]; rfl⟩
  | case3 xs y ys ih =>
    obtain ⟨s, h1, h2, h3⟩ := ih
    exact ⟨y :: s, h1.cons_cons y, h2.cons_cons y, by rw [L_cons_eq]; simp [h3]⟩
  | case4 x xs y ys hne ih1 ih2 =>
    obtain ⟨s, h1, h2, h3⟩ := ih1
    obtain ⟨t, k1, k2, k3⟩ := ih2
    rw [L_cons_ne hne]
    by_cases h : L (x :: xs) ys ≤ L xs (y :: ys)
    · exact ⟨s, h1.cons x, h2, by omega⟩
    · exact ⟨t, k1, k2.cons y, by omega⟩

theorem L_le_of (a b c d : List Int) (h : ∀ s : List Int, s.Sublist a → s.Sublist b → ∃ t : List Int, t.length = s.length ∧ t.Sublist c ∧ t.Sublist d) : L a b ≤ L c d := by
  obtain ⟨s, h1, h2, h3⟩ := L_has a b
  obtain ⟨t, k1, k2, k3⟩ := h s h1 h2
  have := L_ub c d t k2 k3
  omega

theorem L_mono {a b c d : List Int} (h : a.Sublist c) (k : b.Sublist d) : L a b ≤ L c d :=
  L_le_of _ _ _ _ fun s h1 h2 => ⟨s, rfl, h1.trans h, h2.trans k⟩

theorem L_comm (a b : List Int) : L a b = L b a :=
  Nat.le_antisymm (L_le_of _ _ _ _ fun s h k => ⟨s, rfl, k, h⟩) (L_le_of _ _ _ _ fun s h k => ⟨s, rfl, k, h⟩)

theorem L_rev_le (a b : List Int) : L a b ≤ L a.reverse b.reverse :=
  L_le_of _ _ _ _ fun s h k => ⟨s.reverse, by simp, h.reverse, k.reverse⟩

theorem L_rev (a b : List Int) : L a.reverse b.reverse = L a b :=
  Nat.le_antisymm (by simpa using L_rev_le a.reverse b.reverse) (L_rev_le a b)

theorem L_le_left (a b : List Int) : L a b ≤ a.length := by
  obtain ⟨s, h1, _, h3⟩ := L_has a b
  have := h1.length_le; omega

theorem L_le_right (a b : List Int) : L a b ≤ b.length := by rw [L_comm]; exact L_le_left b a

/-- One element more makes it at most one longer. -/
theorem L_cons_le (x : Int) (a b : List Int) : L (x :: a) b ≤ L a b + 1 := by
  obtain ⟨s, h1, h2, h3⟩ := L_has (x :: a) b
  have h := L_ub a b s.tail (by simpa using h1.tail) ((List.tail_sublist s).trans h2)
  rw [List.length_tail] at h
  omega

theorem L_cons_le' (y : Int) (a b : List Int) : L a (y :: b) ≤ L a b + 1 := by
  rw [L_comm a, L_comm a]; exact L_cons_le y b a

theorem L_le_cons (x : Int) (a b : List Int) : L a b ≤ L (x :: a) b := L_mono (List.sublist_cons_self x a) (List.Sublist.refl b)
theorem L_le_cons' (y : Int) (a b : List Int) : L a b ≤ L a (y :: b) := L_mono (List.Sublist.refl a) (List.sublist_cons_self y b)

/-- The same, from the end. -/
theorem L_snoc_eq (x : Int) (a b : List Int) : L (a ++ [x]) (b ++ [x]) = L a b + 1 := by
  rw [← L_rev]; simp only [List.reverse_append, List.reverse_cons, List.reverse_nil, List.nil_append, List.singleton_append]; rw [L_cons_eq, L_rev]

theorem L_snoc_ne {x y : Int} (h : x ≠ y) (a b : List Int) : L (a ++ [x]) (b ++ [y]) = max (L a (b ++ [y])) (L (a ++ [x]) b) := by
  have e1 : L a (b ++ [y]) = L a.reverse (y :: b.reverse) := by rw [← L_rev]; simp
  have e2 : L (a ++ [x]) b = L (x :: a.reverse) b.reverse := by rw [← L_rev]; simp
  rw [← L_rev, e1, e2]; simp only [List.reverse_append, List.reverse_cons, List.reverse_nil, List.nil_append, List.singleton_append]; rw [L_cons_ne h]

theorem L_prefix (p a b : List Int) : L (p ++ a) (p ++ b) = p.length + L a b := by
  induction p with
  | nil => simp
  | cons x p ih => rw [List.cons_append, List.cons_append, L_cons_eq, ih, List.length_cons]; omega

theorem L_suffix (s a b : List Int) : L (a ++ s) (b ++ s) = L a b + s.length := by
  rw [← L_rev, List.reverse_append, List.reverse_append, L_prefix, L_rev, List.length_reverse]; omega

theorem L_append_ge (a1 a2 b1 b2 : List Int) : L a1 b1 + L a2 b2 ≤ L (a1 ++ a2) (b1 ++ b2) := by
  obtain ⟨s, h1, h2, h3⟩ := L_has a1 b1
  obtain ⟨t, k1, k2, k3⟩ := L_has a2 b2
  have := L_ub (a1 ++ a2) (b1 ++ b2) (s ++ t) (h1.append k1) (h2.append k2)
  rw [List.length_append] at this
  omega

/-- Where the first list is cut, the second one can be cut too. -/
theorem L_split (a1 a2 b : List Int) : ∃ j, j ≤ b.length ∧ L (a1 ++ a2) b = L a1 (b.take j) + L a2 (b.drop j) := by
  obtain ⟨s, h1, h2, h3⟩ := L_has (a1 ++ a2) b
  obtain ⟨s1, s2, rfl, k1, k2⟩ := List.sublist_append_iff.mp h1
  obtain ⟨b1, b2, rfl, m1, m2⟩ := List.append_sublist_iff.mp h2
  refine ⟨b1.length, by simp, ?_⟩
  have e1 : (b1 ++ b2).take b1.length = b1 := List.take_left' rfl
  have e2 : (b1 ++ b2).drop b1.length = b2 := List.drop_left' rfl
  rw [e1, e2]
  have u1 := L_ub a1 b1 s1 k1 m1
  have u2 := L_ub a2 b2 s2 k2 m2
  have u3 := L_append_ge a1 a2 b1 b2
  rw [List.length_append] at h3
  omega

theorem L_split_le (a1 a2 b : List Int) (j : Nat) : L a1 (b.take j) + L a2 (b.drop j) ≤ L (a1 ++ a2) b := by
  have h := L_append_ge a1 a2 (b.take j) (b.drop j)
  rwa [List.take_append_drop] at h

theorem rdL_d (o : List (List Int)) (n : Nat) : rd_L2 o (n : Int) = o.getD n [] := rfl
theorem rdL_at (o : List (List Int)) {n : Nat} (h : n < o.length) : rd_L2 o (n : Int) = o[n] := by
  rw [rdL_d, List.getD_eq_getElem?_getD, List.getElem?_eq_getElem h]; rfl
theorem rdL_set (o : List (List Int)) (i n : Nat) (v : List Int) (h : n < o.length) : rd_L2 (o.set i v) (n : Int) = if n = i then v else rd_L2 o (n : Int) := by
  rw [rdL_at _ (by rw [List.length_set]; exact h), rdL_at _ h, List.getElem_set]
  by_cases e : n = i
  · rw [if_pos e, if_pos e.symm]
  · rw [if_neg e, if_neg (fun q => e q.symm)]

/-- The rows from i on of the table of all ends. -/
def TabFrom (t : List (List Int)) (a b : List Int) (i : Nat) : Prop :=
  t.length = a.length + 1 ∧ ∀ n : Nat, i ≤ n → n ≤ a.length → (rd_L2 t (n : Int)).length = b.length + 1 ∧ ∀ j : Nat, j ≤ b.length → rd (rd_L2 t (n : Int)) (j : Int) = (L (a.drop n) (b.drop j) : Int)
/-- The table of all ends. -/
def IsTab (t : List (List Int)) (a b : List Int) : Prop := TabFrom t a b 0
/-- Row i from column m on. -/
def RowFrom (t : List (List Int)) (a b : List Int) (i m : Nat) : Prop :=
  TabFrom t a b (i + 1) ∧ (rd_L2 t (i : Int)).length = b.length + 1 ∧ ∀ j : Nat, m ≤ j → j ≤ b.length → rd (rd_L2 t (i : Int)) (j : Int) = (L (a.drop i) (b.drop j) : Int)
theorem mx_nat (x y : Nat) : mx (x : Int) (y : Int) = ((max x y : Nat) : Int) := by unfold mx; split <;> omega
theorem L_le_len (a b : List Int) (i j : Nat) : L (a.drop i) (b.drop j) ≤ a.length := by
  have := L_le_left (a.drop i) (b.drop j); rw [List.length_drop] at this; omega
theorem behind_l1 (a b : List Int) (ha : a.length ≤ 100000) (hb : b.length ≤ 100000) (i : Nat) (hi : i < a.length) (K : Nat) (Post : Option (List (List Int)) → Prop)
    (hr : ∀ k' t', K ≤ k' → TabFrom t' a b i → Post (tattingref7_Behind.l0 k' a b t' (wrap64 ((i : Int) - 1)))) (m : Nat) : ∀ (k : Nat) (t : List (List Int)), m ≤ b.length → 2 * m + 2 + K ≤ k → RowFrom t a b i m → Post (tattingref7_Behind.l1 k a b t (i : Int) ((m : Int) - 1)) := by
  induction m with
  | zero =>
    intro k t hm hk ⟨h1, h2, h3⟩
    obtain ⟨k, rfl⟩ : ∃ q, k = q + 2 := ⟨k - 2, by omega⟩
    simp only [tattingref7_Behind.l1]
    rw [if_pos (by omega), decide_eq_false (by omega)]
    simp only [tattingref7_Behind.j2]
    rw [if_neg (by decide)]
    refine hr k t (by omega) ⟨h1.1, ?_⟩
    intro n hn hn'
    by_cases e : n = i
    · rw [e]; exact ⟨h2, fun j hj => h3 j (by omega) hj⟩
    · exact h1.2 n (by omega) hn'
  | succ m ih =>
    intro k t hm hk ⟨h1, h2, h3⟩
    obtain ⟨k, rfl⟩ : ∃ q, k = q + 2 := ⟨k - 2, by omega⟩
    have e0 : ((m + 1 : Nat) : Int) - 1 = (m : Int) := by omega
    rw [e0]
    simp only [tattingref7_Behind.l1]
    rw [if_pos (by omega), decide_eq_true (by omega)]
    simp only [tattingref7_Behind.j2]
    have hlen := h1.1
    have hrow := (h1.2 (i + 1) (by omega) (by omega)).1
    have E1 := Aside0.mk (show wrap64 ((i : Int) + 1) = ((i + 1 : Nat) : Int) from wrap_succ (by omega))
    have E2 := Aside0.mk (show wrap64 ((m : Int) + 1) = ((m + 1 : Nat) : Int) from wrap_succ (by omega))
    have E3 := Aside0.mk (show wrap64 ((m : Int) - 1) = (m : Int) - 1 from wrap_id (by omega) (by omega))
    have r1 := (h1.2 (i + 1) (by omega) (by omega)).2 (m + 1) (by omega)
    have r2 := (h1.2 (i + 1) (by omega) (by omega)).2 m (by omega)
    have r3 := h3 (m + 1) (by omega) (by omega)
    have b1 := L_le_len a b (i + 1) (m + 1)
    have hn : ∀ v : Int, v = (L (a.drop i) (b.drop m) : Int) → RowFrom (t.set i ((rd_L2 t (i : Int)).set m v)) a b i m := by
      intro v hv
      refine ⟨⟨by rw [List.length_set]; exact hlen, ?_⟩, ?_, ?_⟩
      · intro n hn hn'
        rw [rdL_set _ _ _ _ (by omega), if_neg (by omega)]
        exact h1.2 n hn hn'
      · rw [rdL_set _ _ _ _ (by omega), if_pos rfl, List.length_set]; exact h2
      · intro j hj hj'
        rw [rdL_set _ _ _ _ (by omega), if_pos rfl, rd_set _ _ _ _ (by omega)]
        by_cases e : j = m
        · rw [if_pos e, hv, e]
        · rw [if_neg e]; exact h3 j (by omega) hj'
    rw [if_pos True.intro, if_pos (by omega), if_pos (by omega), if_pos (by omega), if_pos (by omega)]
    simp only [E1.out, E2.out, E3.out, Int.toNat_natCast]
    have da := drop_rd a hi
    have db := drop_rd b (show m < b.length by omega)
    by_cases e : rd a (i : Int) = rd b (m : Int)
    · rw [if_pos e, if_pos (by omega), if_pos (by omega), if_pos (by omega), if_pos (by omega), if_pos (by omega), if_pos (by omega)]
      refine ih k _ (by omega) (by omega) (hn _ ?_)
      rw [r1, wrap_id (by omega) (by omega), da, db, e, L_cons_eq]; omega
    · rw [if_neg e, if_pos (by omega), if_pos (by omega), if_pos (by omega), if_pos (by omega), if_pos (by omega), if_pos (by omega), if_pos (by omega)]
      refine ih k _ (by omega) (by omega) (hn _ ?_)
      rw [r2, r3, mx_nat, da, db, L_cons_ne e]
theorem behind_l0 (a b : List Int) (ha : a.length ≤ 100000) (hb : b.length ≤ 100000) (m : Nat) : ∀ (k : Nat) (t : List (List Int)), m ≤ a.length + 1 → (2 * b.length + 4) * m + 1 ≤ k → TabFrom t a b m → ∃ t', tattingref7_Behind.l0 k a b t ((m : Int) - 1) = some t' ∧ IsTab t' a b := by
  induction m with
  | zero =>
    intro k t hm hk h
    obtain ⟨k, rfl⟩ : ∃ q, k = q + 1 := ⟨k - 1, by omega⟩
    refine ⟨t, ?_, h⟩
    simp only [tattingref7_Behind.l0]
    rw [if_neg (by omega)]
  | succ m ih =>
    intro k t hm hk h
    rw [Nat.mul_succ] at hk
    obtain ⟨k, rfl⟩ : ∃ q, k = q + 1 := ⟨k - 1, by omega⟩
    rw [show ((m + 1 : Nat) : Int) - 1 = (m : Int) by omega]
    simp only [tattingref7_Behind.l0]
    have hlen := h.1
    have E1 := Aside0.mk (show wrap64 ((b.length : Int) + 1) = ((b.length + 1 : Nat) : Int) from wrap_succ (by omega))
    have E2 := Aside0.mk (show wrap64 ((b.length : Int) - 1) = (b.length : Int) - 1 from wrap_id (by omega) (by omega))
    have E3 := Aside0.mk (show wrap64 ((m : Int) - 1) = (m : Int) - 1 from wrap_id (by omega) (by omega))
    rw [E1.out, E2.out, if_pos (by omega), if_pos (by omega), if_pos (by omega), if_pos (by omega), if_pos (by omega)]
    simp only [Int.toNat_natCast]
    have hrow : RowFrom (t.set m (List.replicate (b.length + 1) 0)) a b m b.length := by
      refine ⟨⟨by rw [List.length_set]; exact hlen, ?_⟩, ?_, ?_⟩
      · intro n hn hn'
        rw [rdL_set _ _ _ _ (by omega), if_neg (by omega)]
        exact h.2 n hn hn'
      · rw [rdL_set _ _ _ _ (by omega), if_pos rfl, List.length_replicate]
      · intro j hj hj'
        rw [rdL_set _ _ _ _ (by omega), if_pos rfl, rd_replicate _ _ _ (by omega), show j = b.length by omega, List.drop_length, L_nil_right]; rfl
    by_cases c : m < a.length
    · refine behind_l1 a b ha hb m c ((2 * b.length + 4) * m + 1) (fun o => ∃ t', o = some t' ∧ IsTab t' a b) ?_ b.length k _ (Nat.le_refl _) (by omega) hrow
      intro k' t' hk' ht'
      rw [E3.out]
      exact ih k' t' (by omega) hk' ht'
    · obtain ⟨k, rfl⟩ : ∃ q, k = q + 2 := ⟨k - 2, by omega⟩
      simp only [tattingref7_Behind.l1]
      rw [if_neg (by omega)]
      simp only [tattingref7_Behind.j2]
      rw [if_neg (by decide), E3.out]
      refine ih k _ (by omega) (by omega) ⟨by rw [List.length_set]; exact hlen, ?_⟩
      intro n hn hn'
      have e : n = m := by omega
      rw [rdL_set _ _ _ _ (by omega), if_pos e]
      refine ⟨by rw [List.length_replicate], fun j hj => ?_⟩
      rw [rd_replicate _ _ _ (by omega), List.drop_eq_nil_of_le (by omega), L_nil_left]; rfl
theorem behind (a b : List Int) (ha : a.length ≤ 100000) (hb : b.length ≤ 100000) {k : Nat} (hk : (2 * b.length + 4) * (a.length + 1) + 1 ≤ k) : ∃ t, tattingref7_Behind.f k a b = some t ∧ IsTab t a b := by
  unfold tattingref7_Behind.f
  have e1 : wrap64 ((a.length : Int) + 1) = ((a.length + 1 : Nat) : Int) := wrap_succ (by omega)
  rw [e1, if_pos (by omega), if_pos (by omega)]
  simp only [Int.toNat_natCast]
  have h := behind_l0 a b ha hb (a.length + 1) k (List.replicate (a.length + 1) []) (Nat.le_refl _) hk ⟨by rw [List.length_replicate], fun n hn hn' => by omega⟩
  rw [show ((a.length + 1 : Nat) : Int) - 1 = (a.length : Int) by omega] at h
  exact h

theorem refLen (a b : List Int) (ha : a.length ≤ 100000) (hb : b.length ≤ 100000) {k : Nat} (hk : (2 * b.length + 4) * (a.length + 1) + 1 ≤ k) : tattingref7_Len.f k a b = some (L a b : Int) := by
  obtain ⟨t, h, h1, h2⟩ := behind a b ha hb hk
  unfold tattingref7_Len.f
  rw [h]
  simp only [Option.bind_some]
  have h3 := h2 0 (Nat.le_refl _) (by omega)
  have h4 := h3.2 0 (by omega)
  rw [List.drop_zero, List.drop_zero] at h4
  have e : rd_L2 t 0 = rd_L2 t ((0 : Nat) : Int) := rfl
  rw [e, if_pos (by omega), if_pos (by omega)]
  exact congrArg some h4

theorem awake : tattinglaw3_awake.f 60 = some true := by decide +kernel
theorem mid_parts (a b : List Int) : ∃ s : List Int, s.length = csuf a b ∧ a = a.take (cpre a b) ++ midOf a (cpre a b) (csuf a b) ++ s ∧ b = b.take (cpre a b) ++ midOf b (cpre a b) (csuf a b) ++ s := by
  have hl := csuf_le a b
  have hc := cpre_take (a.drop (cpre a b)).reverse (b.drop (cpre a b)).reverse
  have e : cpre (a.drop (cpre a b)).reverse (b.drop (cpre a b)).reverse = csuf a b := rfl
  rw [e] at hc
  have parts : ∀ x : List Int, cpre a b + csuf a b ≤ x.length → x = x.take (cpre a b) ++ midOf x (cpre a b) (csuf a b) ++ ((x.drop (cpre a b)).reverse.take (csuf a b)).reverse := by
    intro x hx
    unfold midOf
    have e1 : ((x.drop (cpre a b)).reverse.take (csuf a b)).reverse = x.drop (x.length - csuf a b) := by
      rw [List.take_reverse, List.reverse_reverse, List.length_drop, List.drop_drop]; congr 1; omega
    have e2 : x.take (cpre a b) = (x.take (x.length - csuf a b)).take (cpre a b) := by rw [List.take_take, Nat.min_eq_left (by omega)]
    rw [e1, e2, List.take_append_drop, List.take_append_drop]
  refine ⟨((a.drop (cpre a b)).reverse.take (csuf a b)).reverse, ?_, parts a hl.1, ?_⟩
  · rw [List.length_reverse, List.length_take, List.length_reverse, List.length_drop]; omega
  · rw [hc]; exact parts b hl.2
theorem L_mid (a b : List Int) : L a b = cpre a b + csuf a b + L (midOf a (cpre a b) (csuf a b)) (midOf b (cpre a b) (csuf a b)) := by
  obtain ⟨s, h0, h1, h2⟩ := mid_parts a b
  have hl := cpre_le a b
  generalize hu : midOf a (cpre a b) (csuf a b) = u at *
  generalize hv : midOf b (cpre a b) (csuf a b) = v at *
  rw [← cpre_take] at h2
  have h : L a b = L (a.take (cpre a b) ++ u ++ s) (a.take (cpre a b) ++ v ++ s) := by rw [← h1, ← h2]
  rw [h, L_suffix, L_prefix, List.length_take, h0, Nat.min_eq_left hl.1]; omega
theorem TrimLen : tattinglaw3_TrimLen.Pure := by
  intro a b _ _ _ _ _ _
  refine ⟨10000, ?_⟩
  unfold tattinglaw3_TrimLen.f
  rw [at_rounds tattinglaw3_awake.mono (by decide) awake]
  simp only [Option.bind_some, if_true]
  have skip : tattinglaw3_TrimLen.j0 10000 a b true = some true := by simp [tattinglaw3_TrimLen.j0]
  by_cases h1 : (a.length : Int) > 30
  · rw [if_pos h1]; exact skip
  rw [if_neg h1]
  by_cases h2 : (b.length : Int) > 30
  · rw [decide_eq_true h2]; exact skip
  rw [decide_eq_false h2]
  simp only [tattinglaw3_TrimLen.j0, Bool.false_eq_true, if_false]
  have lx : (fewOf a 4).length ≤ 30 := by rw [fewOf_length]; omega
  have ly : (fewOf b 4).length ≤ 30 := by rw [fewOf_length]; omega
  rw [few a 4 (by decide) (by decide) (by omega) (by omega), few b 4 (by decide) (by decide) (by omega) (by omega)]
  simp only [Option.bind_some]
  generalize fewOf a 4 = x at *
  generalize fewOf b 4 = y at *
  have q1 := trimOf x y (by omega) (by omega) (k := 9999) (by omega)
  have q2 := trimMid x y (by omega) (by omega) (k := 9999) (by omega)
  rw [q1, Option.bind_some, q2, Option.bind_some]
  have hl := csuf_le x y
  have n1 := midOf_length x (cpre x y) (csuf x y)
  have n2 := midOf_length y (cpre x y) (csuf x y)
  have hm : ∀ u v : List Int, u.length ≤ 30 → v.length ≤ 30 → (2 * v.length + 4) * (u.length + 1) + 1 ≤ 9999 := by
    intro u v hu hv
    have := Nat.mul_le_mul (show 2 * v.length + 4 ≤ 64 by omega) (show u.length + 1 ≤ 31 by omega)
    omega
  have q3 := refLen x y (by omega) (by omega) (hm x y lx ly)
  have q4 := refLen (midOf x (cpre x y) (csuf x y)) (midOf y (cpre x y) (csuf x y)) (by omega) (by omega) (hm _ _ (by omega) (by omega))
  rw [q3, Option.bind_some, q4, Option.bind_some]
  have h := L_mid x y
  have b1 := L_le_left (midOf x (cpre x y) (csuf x y)) (midOf y (cpre x y) (csuf x y))
  clear q1 q2 q3 q4 hm skip
  rw [wrap_id (i := (cpre x y : Int) + (csuf x y : Int)) (by omega) (by omega), wrap_id (by omega) (by omega), h]
  simp

end Go.Proofs.Ytamfpadkdkjalaa.Pure
