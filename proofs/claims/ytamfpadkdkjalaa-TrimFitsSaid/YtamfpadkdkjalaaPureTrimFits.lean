/- For every two lists of at most 30 numbers, brought to three: a longest list of what stands between both ends, grown, is a good list of the whole, and as long as may be. -/
import Derived.Test.YtamfpadkdkjalaaPTrimFitsx7
import Derived.Test.YtamfpadkdkjalaaWSized
namespace Go.Proofs.Ytamfpadkdkjalaa.PrintWords
set_option linter.defProp false in
/-- The printed row names this lemma without the seat-wide namespace. -/
def sized_ints := @Go.Proofs.YtamfpadkdkjalaaW.PrintWords.sized_ints
end Go.Proofs.Ytamfpadkdkjalaa.PrintWords
namespace Go.Proofs.Ytamfpadkdkjalaa.Pure
open Go.RowKit Go.Proofs.Ytamfpadkdkjalaa.PTrimFits Go.Proofs.YtamfpadkdkjalaaW.PrintWords Go.Proofs.YtamfpadkdkjalaaW.PrintLast Go.Proofs.YtamfpadkdkjalaaW.PrintMore
set_option linter.unusedVariables false
set_option linter.unusedSimpArgs false

theorem wrap_id {i : Int} (h0 : -9223372036854775808 ≤ i) (h1 : i < 9223372036854775808) : wrap64 i = i := by unfold wrap64; omega
theorem wrap_succ {n : Nat} (h : n < 9223372036854775807) : wrap64 ((n : Int) + 1) = ((n + 1 : Nat) : Int) := by unfold wrap64; omega

theorem rd_at (l : List Int) {n : Nat} (h : n < l.length) : rd l (n : Int) = l[n] := by
  unfold rd; rw [Int.toNat_natCast, List.getD_eq_getElem?_getD, List.getElem?_eq_getElem h]; rfl
theorem rd_d (l : List Int) (n : Nat) : rd l (n : Int) = l.getD n 0 := rfl
theorem rd_out (l : List Int) {n : Nat} (h : l.length ≤ n) : rd l (n : Int) = 0 := by
  rw [rd_d, List.getD_eq_getElem?_getD, List.getElem?_eq_none h]; rfl
theorem drop_rd (l : List Int) {n : Nat} (h : n < l.length) : l.drop n = rd l (n : Int) :: l.drop (n + 1) := by
  rw [rd_at l h]; exact List.drop_eq_getElem_cons h
theorem take_rd (l : List Int) {n : Nat} (h : n < l.length) : l.take (n + 1) = l.take n ++ [rd l (n : Int)] := by
  rw [rd_at l h, List.take_succ_eq_append_getElem h]
theorem rd_mem (l : List Int) {n : Nat} (h : n < l.length) : rd l (n : Int) ∈ l := by rw [rd_at l h]; exact List.getElem_mem h
theorem rd_app_lt (l : List Int) (x : Int) {n : Nat} (h : n < l.length) : rd (l ++ [x]) (n : Int) = rd l (n : Int) := by
  rw [rd_at _ (by rw [List.length_append]; omega), rd_at _ h, List.getElem_append_left h]
theorem rd_app_eq (l : List Int) (x : Int) : rd (l ++ [x]) (l.length : Int) = x := by
  rw [rd_at _ (by rw [List.length_append, List.length_singleton]; omega)]; simp
theorem rd_app (l : List Int) (x : Int) (n : Nat) (h : n ≤ l.length) : rd (l ++ [x]) (n : Int) = if n = l.length then x else rd l (n : Int) := by
  by_cases e : n = l.length
  · rw [if_pos e, e, rd_app_eq]
  · rw [if_neg e, rd_app_lt _ _ (by omega)]
theorem rd_set (l : List Int) (i n : Nat) (x : Int) (h : n < l.length) : rd (l.set i x) (n : Int) = if n = i then x else rd l (n : Int) := by
  rw [rd_at _ (by rw [List.length_set]; exact h), rd_at _ h, List.getElem_set]
  by_cases e : n = i
  · rw [if_pos e, if_pos e.symm]
  · rw [if_neg e, if_neg (fun q => e q.symm)]
theorem rd_replicate (m n : Nat) (x : Int) (h : n < m) : rd (List.replicate m x) (n : Int) = x := by
  rw [rd_at _ (by rw [List.length_replicate]; exact h), List.getElem_replicate]
theorem rd_take (l : List Int) {m n : Nat} (h : n < m) (hm : m ≤ l.length) : rd (l.take m) (n : Int) = rd l (n : Int) := by
  rw [rd_at _ (by rw [List.length_take]; omega), rd_at _ (by omega), List.getElem_take]
theorem rd_drop (l : List Int) (m n : Nat) : rd (l.drop m) (n : Int) = rd l ((m + n : Nat) : Int) := by
  rw [rd_d, rd_d, List.getD_eq_getElem?_getD, List.getD_eq_getElem?_getD, List.getElem?_drop]
theorem list_ext {l m : List Int} (h : l.length = m.length) (k : ∀ n : Nat, n < l.length → rd l (n : Int) = rd m (n : Int)) : l = m := by
  apply List.ext_getElem h
  intro i h1 h2
  have := k i h1
  rwa [rd_at _ h1, rd_at _ h2] at this
theorem wf64 {a : Int} (h : (Lit.int .i64 a).wf = true) : -9223372036854775808 ≤ a ∧ a ≤ 9223372036854775807 := by
  simp only [Lit.wf, IntKind.min, IntKind.max, IntKind.signed, IntKind.bits, Bool.and_eq_true, decide_eq_true_eq, if_true] at h
  omega
/-- At least one round. -/
theorem round {k d : Nat} (h : d < k) : ∃ m, k = m + 1 := ⟨k - 1, by omega⟩

/-- The numbers brought to a few. -/
def fewOf (l : List Int) (n : Int) : List Int := l.map (· % n)
theorem fewOf_length (l : List Int) (n : Int) : (fewOf l n).length = l.length := by unfold fewOf; rw [List.length_map]
theorem fewOf_range (l : List Int) (n : Int) (hn : 0 < n) : ∀ x ∈ fewOf l n, 0 ≤ x ∧ x < n := by
  intro x hx
  unfold fewOf at hx
  obtain ⟨y, _, rfl⟩ := List.mem_map.mp hx
  exact ⟨Int.emod_nonneg y (by omega), Int.emod_lt_of_pos y hn⟩
theorem tmod_emod (x n : Int) (hn : 0 < n) : (if Int.tmod x n < 0 then Int.tmod x n + n else Int.tmod x n) = x % n := by
  have h0 := Int.emod_nonneg x (show n ≠ 0 by omega)
  have h1 := Int.emod_lt_of_pos x hn
  have h := Int.tmod_eq_emod (a := x) (b := n)
  by_cases c : 0 ≤ x ∨ n ∣ x
  · rw [if_pos c] at h; rw [if_neg (by omega)]; omega
  · rw [if_neg c] at h; rw [if_pos (by omega)]; omega
theorem few_l0 (l : List Int) (n : Int) (hn : 0 < n) (hn' : n ≤ 1000000) (hl : l.length ≤ 1000000) (d : Nat) : ∀ (k i : Nat) (out : List Int), i + d = l.length → d < k → out.length = i → tattingref1_Few.l0 k l n out (i : Int) = some (out ++ fewOf (l.drop i) n) := by
  induction d with
  | zero =>
    intro k i out hi hk ho
    obtain ⟨k, rfl⟩ := round hk
    simp only [tattingref1_Few.l0]
    rw [if_neg (by omega), List.drop_eq_nil_of_le (by omega)]
    simp [fewOf]
  | succ d ih =>
    intro k i out hi hk ho
    obtain ⟨k, rfl⟩ := round hk
    simp only [tattingref1_Few.l0]
    rw [if_pos (by omega), if_pos (by omega), if_neg (by omega), drop_rd l (by omega)]
    have h := tmod_emod (rd l (i : Int)) n hn
    have h0 := Int.emod_nonneg (rd l (i : Int)) (show n ≠ 0 by omega)
    have h1 := Int.emod_lt_of_pos (rd l (i : Int)) hn
    have e : fewOf (rd l (i : Int) :: l.drop (i + 1)) n = (rd l (i : Int) % n) :: fewOf (l.drop (i + 1)) n := rfl
    rw [e]
    by_cases c : Int.tmod (rd l (i : Int)) n < 0
    · rw [if_pos c] at h
      rw [if_pos c, if_pos (by omega), wrap_succ (by omega), wrap_id (by omega) (by omega), h, ih k (i + 1) _ (by omega) (by omega) (by rw [List.length_append, List.length_singleton]; omega)]
      simp
    · rw [if_neg c] at h
      rw [if_neg c, if_pos (by omega), wrap_succ (by omega), h, ih k (i + 1) _ (by omega) (by omega) (by rw [List.length_append, List.length_singleton]; omega)]
      simp
theorem few (l : List Int) (n : Int) (hn : 0 < n) (hn' : n ≤ 1000000) (hl : l.length ≤ 1000000) {k : Nat} (hk : l.length < k) : tattingref1_Few.f k l n = some (fewOf l n) := by
  have h := few_l0 l n hn hn' hl l.length k 0 [] (by omega) hk rfl
  rwa [List.nil_append, List.drop_zero] at h

/-- How many numbers are alike at the beginning. -/
def cpre : List Int → List Int → Nat
  | x :: xs, y :: ys => if x = y then cpre xs ys + 1 else 0
  | _, _ => 0
theorem cpre_nil_right (a : List Int) : cpre a [] = 0 := by cases a <;> rfl
theorem cpre_le (a b : List Int) : cpre a b ≤ a.length ∧ cpre a b ≤ b.length := by
  induction a generalizing b with
  | nil => simp [cpre]
  | cons x xs ih =>
    cases b with
    | nil => simp [cpre]
    | cons y ys => rw [cpre]; have := ih ys; split <;> simp <;> omega
theorem cpre_take (a b : List Int) : a.take (cpre a b) = b.take (cpre a b) := by
  induction a generalizing b with
  | nil => simp [cpre]
  | cons x xs ih =>
    cases b with
    | nil => simp [cpre]
    | cons y ys =>
      rw [cpre]
      by_cases e : x = y
      · rw [if_pos e, List.take_succ_cons, List.take_succ_cons, ih ys, e]
      · rw [if_neg e]; rfl
theorem cpre_max (n : Nat) : ∀ (a b : List Int), n ≤ a.length → n ≤ b.length → a.take n = b.take n → n ≤ cpre a b := by
  induction n with
  | zero => intros; omega
  | succ n ih =>
    intro a b ha hb h
    cases a with
    | nil => simp at ha
    | cons x xs =>
      cases b with
      | nil => simp at hb
      | cons y ys =>
        rw [List.take_succ_cons, List.take_succ_cons] at h
        injection h with h1 h2
        rw [cpre, if_pos h1]
        have := ih xs ys (by simpa using ha) (by simpa using hb) h2
        omega
theorem cpre_ne (a b : List Int) (ha : cpre a b < a.length) (hb : cpre a b < b.length) : rd a (cpre a b : Int) ≠ rd b (cpre a b : Int) := by
  intro h
  have h1 : a.take (cpre a b + 1) = b.take (cpre a b + 1) := by rw [take_rd a ha, take_rd b hb, h, cpre_take]
  have := cpre_max (cpre a b + 1) a b ha hb h1
  omega
theorem cpre_step (a b : List Int) (n : Nat) (ha : n < a.length) (hb : n < b.length) : cpre (a.drop n) (b.drop n) = if rd a (n : Int) = rd b (n : Int) then cpre (a.drop (n + 1)) (b.drop (n + 1)) + 1 else 0 := by
  rw [drop_rd a ha, drop_rd b hb, cpre]
theorem cpre_end (a b : List Int) (n : Nat) (h : a.length ≤ n ∨ b.length ≤ n) : cpre (a.drop n) (b.drop n) = 0 := by
  rcases h with h | h
  · rw [List.drop_eq_nil_of_le h]; cases b.drop n <;> rfl
  · rw [List.drop_eq_nil_of_le h, cpre_nil_right]
theorem rd_reverse (l : List Int) (n : Nat) (h : n < l.length) : rd l.reverse (n : Int) = rd l ((l.length - 1 - n : Nat) : Int) := by
  rw [rd_at _ (by rw [List.length_reverse]; exact h), rd_at _ (by omega), List.getElem_reverse]

theorem trimOf_l1 (a b : List Int) (p : Int) (ha : a.length ≤ 1000000) (hb : b.length ≤ 1000000) (d : Nat) : ∀ (k s : Nat), s + d = a.length → d < k →
    trim_Of.l1 k a b p (s : Int) = some (p, ((s + cpre (a.reverse.drop s) (b.reverse.drop s) : Nat) : Int)) := by
  induction d with
  | zero =>
    intro k s hs hk
    obtain ⟨k, rfl⟩ := round hk
    simp only [trim_Of.l1]
    rw [if_neg (by omega), cpre_end _ _ _ (by rw [List.length_reverse]; omega), Nat.add_zero]
  | succ d ih =>
    intro k s hs hk
    obtain ⟨k, rfl⟩ := round hk
    simp only [trim_Of.l1]
    rw [if_pos (by omega)]
    by_cases c : s < b.length
    · have ea : wrap64 (wrap64 ((a.length : Int) - 1) - (s : Int)) = ((a.length - 1 - s : Nat) : Int) := by
        rw [wrap_id (i := (a.length : Int) - 1) (by omega) (by omega), wrap_id (by omega) (by omega)]; omega
      have eb : wrap64 (wrap64 ((b.length : Int) - 1) - (s : Int)) = ((b.length - 1 - s : Nat) : Int) := by
        rw [wrap_id (i := (b.length : Int) - 1) (by omega) (by omega), wrap_id (by omega) (by omega)]; omega
      rw [ea, eb, if_pos (by omega), if_pos (by omega), if_pos (by omega), if_pos (by omega), if_pos (by omega)]
      rw [cpre_step _ _ _ (by rw [List.length_reverse]; omega) (by rw [List.length_reverse]; exact c), rd_reverse a s (by omega), rd_reverse b s c]
      by_cases e : rd a ((a.length - 1 - s : Nat) : Int) = rd b ((b.length - 1 - s : Nat) : Int)
      · rw [if_pos e, if_pos e, wrap_succ (by omega), ih k (s + 1) (by omega) (by omega)]
        congr 2; omega
      · rw [if_neg e, if_neg e, Nat.add_zero]
    · rw [if_neg (by omega), cpre_end _ _ _ (by rw [List.length_reverse, List.length_reverse]; omega), Nat.add_zero]
theorem trimOf_l0 (a b : List Int) (ha : a.length ≤ 1000000) (hb : b.length ≤ 1000000) (K : Nat) (r : Option (Int × Int)) (d : Nat) : ∀ (k i : Nat), i + d = a.length → d + K < k →
    (∀ k', K ≤ k' → trim_Of.j1 k' a b ((i + cpre (a.drop i) (b.drop i) : Nat) : Int) 0 = r) → trim_Of.l0 k a b (i : Int) 0 = r := by
  induction d with
  | zero =>
    intro k i hi hk hr
    obtain ⟨k, rfl⟩ := round hk
    simp only [trim_Of.l0]
    rw [cpre_end _ _ _ (by omega), Nat.add_zero] at hr
    rw [if_neg (by omega)]; exact hr k (by omega)
  | succ d ih =>
    intro k i hi hk hr
    obtain ⟨k, rfl⟩ := round hk
    simp only [trim_Of.l0]
    rw [if_pos (by omega)]
    by_cases c : i < b.length
    · rw [if_pos (by omega), if_pos (by omega)]
      rw [cpre_step _ _ _ (by omega) c] at hr
      by_cases e : rd a (i : Int) = rd b (i : Int)
      · rw [if_pos e] at hr
        rw [if_pos e, wrap_succ (by omega)]
        refine ih k (i + 1) (by omega) (by omega) ?_
        intro k' hk'
        rw [← hr k' hk']; congr 1; omega
      · rw [if_neg e, Nat.add_zero] at hr
        rw [if_neg e]; exact hr k (by omega)
    · rw [cpre_end _ _ _ (by omega), Nat.add_zero] at hr
      rw [if_neg (by omega)]; exact hr k (by omega)
/-- The suffix that is alike behind the prefix. -/
def csuf (a b : List Int) : Nat := cpre (a.drop (cpre a b)).reverse (b.drop (cpre a b)).reverse
theorem trimOf (a b : List Int) (ha : a.length ≤ 1000000) (hb : b.length ≤ 1000000) {k : Nat} (hk : 2 * a.length + 3 < k) : trim_Of.f k a b = some ((cpre a b : Int), (csuf a b : Int)) := by
  unfold trim_Of.f
  refine trimOf_l0 a b ha hb (a.length + 2) _ a.length k 0 (by omega) (by omega) ?_
  intro k' hk'
  obtain ⟨k', rfl⟩ : ∃ m, k' = m + 1 := ⟨k' - 1, by omega⟩
  have hl := cpre_le a b
  simp only [trim_Of.j1]
  rw [List.drop_zero, List.drop_zero, Nat.zero_add, if_pos (by omega), if_pos (by omega), if_pos (by omega), Int.toNat_natCast]
  have h := trimOf_l1 (a.drop (cpre a b)) (b.drop (cpre a b)) (cpre a b : Int) (by rw [List.length_drop]; omega) (by rw [List.length_drop]; omega) (a.drop (cpre a b)).length k' 0 (by omega) (by rw [List.length_drop]; omega)
  rw [List.drop_zero, List.drop_zero, Nat.zero_add] at h
  exact h
theorem csuf_le (a b : List Int) : cpre a b + csuf a b ≤ a.length ∧ cpre a b + csuf a b ≤ b.length := by
  have h := cpre_le a b
  have k := cpre_le (a.drop (cpre a b)).reverse (b.drop (cpre a b)).reverse
  rw [List.length_reverse, List.length_reverse, List.length_drop, List.length_drop] at k
  unfold csuf; omega
/-- What stands between. -/
def midOf (a : List Int) (p s : Nat) : List Int := (a.take (a.length - s)).drop p
theorem midOf_length (a : List Int) (p s : Nat) : (midOf a p s).length = a.length - s - p := by unfold midOf; rw [List.length_drop, List.length_take]; omega
theorem clone (l : List Int) (h : l.length ≤ 1000000) : slices_Clone_int_int.f l = some l := by unfold slices_Clone_int_int.f; rw [if_pos (by omega)]
theorem trimMid (a b : List Int) (ha : a.length ≤ 1000000) (hb : b.length ≤ 1000000) {k : Nat} (hk : 2 * a.length + 3 < k) : trim_Mid.f k a b = some (midOf a (cpre a b) (csuf a b), midOf b (cpre a b) (csuf a b)) := by
  unfold trim_Mid.f
  rw [trimOf a b ha hb hk]
  simp only [Option.bind_some]
  have hl := csuf_le a b
  have ea : wrap64 ((a.length : Int) - (csuf a b : Int)) = ((a.length - csuf a b : Nat) : Int) := by rw [wrap_id (by omega) (by omega)]; omega
  have eb : wrap64 ((b.length : Int) - (csuf a b : Int)) = ((b.length - csuf a b : Nat) : Int) := by rw [wrap_id (by omega) (by omega)]; omega
  rw [ea, eb, if_pos (by omega), if_pos (by omega), if_pos (by omega)]
  simp only [Int.toNat_natCast]
  rw [clone _ (by rw [List.length_drop, List.length_take]; omega), Option.bind_some, if_pos (by omega), if_pos (by omega), clone _ (by rw [List.length_drop, List.length_take]; omega)]
  rfl

/-- The longest common subsequence's length. -/
def L : List Int → List Int → Nat
  | [], _ => 0
  | _ :: _, [] => 0
  | x :: xs, y :: ys => if x = y then L xs ys + 1 else max (L xs (y :: ys)) (L (x :: xs) ys)
termination_by a b => a.length + b.length

theorem L_nil_left (b : List Int) : L [] b = 0 := by rw [L]
theorem L_nil_right (a : List Int) : L a [] = 0 := by cases a <;> rw [L]
theorem L_cons_eq (x : Int) (xs ys : List Int) : L (x :: xs) (x :: ys) = L xs ys + 1 := by rw [L, if_pos rfl]
theorem L_cons_ne {x y : Int} (h : x ≠ y) (xs ys : List Int) : L (x :: xs) (y :: ys) = max (L xs (y :: ys)) (L (x :: xs) ys) := by rw [L, if_neg h]

theorem L_ub (a b : List Int) : ∀ s : List Int, s.Sublist a → s.Sublist b → s.length ≤ L a b := by
  induction a, b using L.induct with
  | case1 b => intro s h _; rw [List.sublist_nil.mp h]; simp
  | case2 x xs => intro s _ h; rw [List.sublist_nil.mp h]; simp
  | case3 xs y ys ih =>
    intro s h1 h2
    rw [L_cons_eq]
    have h3 := ih s.tail (by simpa using h1.tail) (by simpa using h2.tail)
    have h4 : s.length ≤ s.tail.length + 1 := by rw [List.length_tail]; omega
    omega
  | case4 x xs y ys hne ih1 ih2 =>
    intro s h1 h2
    rw [L_cons_ne hne]
    rcases List.sublist_cons_iff.mp h1 with h | ⟨r, rfl, hr⟩
    · have := ih1 s h h2; omega
    · rcases List.sublist_cons_iff.mp h2 with h | ⟨r', he, hr'⟩
      · have := ih2 _ h1 h; omega
      · injection he with he1 he2; exact absurd he1 hne

theorem L_has (a b : List Int) : ∃ s : List Int, s.Sublist a ∧ s.Sublist b ∧ s.length = L a b := by
  induction a, b using L.induct with
  | case1 b => exact ⟨[], by simp, by simp, by rw [L_nil_left]; rfl⟩
  | case2 x xs => exact ⟨[], by simp, by simp, by rw [L_nil_right]; rfl⟩
  | case3 xs y ys ih =>
    obtain ⟨s, h1, h2, h3⟩ := ih
    exact ⟨y :: s, h1.cons_cons y, h2.cons_cons y, by rw [L_cons_eq]; simp [h3]⟩
  | case4 x xs y ys hne ih1 ih2 =>
    obtain ⟨s, h1, h2, h3⟩ := ih1
    obtain ⟨t, k1, k2, k3⟩ := ih2
    rw [L_cons_ne hne]
    by_cases h : L (x :: xs) ys ≤ L xs (y :: ys)
    · exact ⟨s, h1.cons x, h2, by omega⟩
    · exact ⟨t, k1, k2.cons y, by omega⟩

theorem L_le_of (a b c d : List Int) (h : ∀ s : List Int, s.Sublist a → s.Sublist b → ∃ t : List Int, t.length = s.length ∧ t.Sublist c ∧ t.Sublist d) : L a b ≤ L c d := by
  obtain ⟨s, h1, h2, h3⟩ := L_has a b
  obtain ⟨t, k1, k2, k3⟩ := h s h1 h2
  have := L_ub c d t k2 k3
  omega

theorem L_mono {a b c d : List Int} (h : a.Sublist c) (k : b.Sublist d) : L a b ≤ L c d :=
  L_le_of _ _ _ _ fun s h1 h2 => ⟨s, rfl, h1.trans h, h2.trans k⟩

theorem L_comm (a b : List Int) : L a b = L b a :=
  Nat.le_antisymm (L_le_of _ _ _ _ fun s h k => ⟨s, rfl, k, h⟩) (L_le_of _ _ _ _ fun s h k => ⟨s, rfl, k, h⟩)

theorem L_rev_le (a b : List Int) : L a b ≤ L a.reverse b.reverse :=
  L_le_of _ _ _ _ fun s h k => ⟨s.reverse, by simp, h.reverse, k.reverse⟩

theorem L_rev (a b : List Int) : L a.reverse b.reverse = L a b :=
  Nat.le_antisymm (by simpa using L_rev_le a.reverse b.reverse) (L_rev_le a b)

theorem L_le_left (a b : List Int) : L a b ≤ a.length := by
  obtain ⟨s, h1, _, h3⟩ := L_has a b
  have := h1.length_le; omega

theorem L_le_right (a b : List Int) : L a b ≤ b.length := by rw [L_comm]; exact L_le_left b a

/-- One element more makes it at most one longer. -/
theorem L_cons_le (x : Int) (a b : List Int) : L (x :: a) b ≤ L a b + 1 := by
  obtain ⟨s, h1, h2, h3⟩ := L_has (x :: a) b
  have h := L_ub a b s.tail (by simpa using h1.tail) ((List.tail_sublist s).trans h2)
  rw [List.length_tail] at h
  omega

theorem L_cons_le' (y : Int) (a b : List Int) : L a (y :: b) ≤ L a b + 1 := by
  rw [L_comm a, L_comm a]; exact L_cons_le y b a

theorem L_le_cons (x : Int) (a b : List Int) : L a b ≤ L (x :: a) b := L_mono (List.sublist_cons_self x a) (List.Sublist.refl b)
theorem L_le_cons' (y : Int) (a b : List Int) : L a b ≤ L a (y :: b) := L_mono (List.Sublist.refl a) (List.sublist_cons_self y b)

/-- The same, from the end. -/
theorem L_snoc_eq (x : Int) (a b : List Int) : L (a ++ [x]) (b ++ [x]) = L a b + 1 := by
  rw [← L_rev]; simp only [List.reverse_append, List.reverse_cons, List.reverse_nil, List.nil_append, List.singleton_append]; rw [L_cons_eq, L_rev]

theorem L_snoc_ne {x y : Int} (h : x ≠ y) (a b : List Int) : L (a ++ [x]) (b ++ [y]) = max (L a (b ++ [y])) (L (a ++ [x]) b) := by
  have e1 : L a (b ++ [y]) = L a.reverse (y :: b.reverse) := by rw [← L_rev]; simp
  have e2 : L (a ++ [x]) b = L (x :: a.reverse) b.reverse := by rw [← L_rev]; simp
  rw [← L_rev, e1, e2]; simp only [List.reverse_append, List.reverse_cons, List.reverse_nil, List.nil_append, List.singleton_append]; rw [L_cons_ne h]

theorem L_prefix (p a b : List Int) : L (p ++ a) (p ++ b) = p.length + L a b := by
  induction p with
  | nil => simp
  | cons x p ih => rw [List.cons_append, List.cons_append, L_cons_eq, ih, List.length_cons]; omega

theorem L_suffix (s a b : List Int) : L (a ++ s) (b ++ s) = L a b + s.length := by
  rw [← L_rev, List.reverse_append, List.reverse_append, L_prefix, L_rev, List.length_reverse]; omega

theorem L_append_ge (a1 a2 b1 b2 : List Int) : L a1 b1 + L a2 b2 ≤ L (a1 ++ a2) (b1 ++ b2) := by
  obtain ⟨s, h1, h2, h3⟩ := L_has a1 b1
  obtain ⟨t, k1, k2, k3⟩ := L_has a2 b2
  have := L_ub (a1 ++ a2) (b1 ++ b2) (s ++ t) (h1.append k1) (h2.append k2)
  rw [List.length_append] at this
  omega

/-- Where the first list is cut, the second one can be cut too. -/
theorem L_split (a1 a2 b : List Int) : ∃ j, j ≤ b.length ∧ L (a1 ++ a2) b = L a1 (b.take j) + L a2 (b.drop j) := by
  obtain ⟨s, h1, h2, h3⟩ := L_has (a1 ++ a2) b
  obtain ⟨s1, s2, rfl, k1, k2⟩ := List.sublist_append_iff.mp h1
  obtain ⟨b1, b2, rfl, m1, m2⟩ := List.append_sublist_iff.mp h2
  refine ⟨b1.length, by simp, ?_⟩
  have e1 : (b1 ++ b2).take b1.length = b1 := List.take_left' rfl
  have e2 : (b1 ++ b2).drop b1.length = b2 := List.drop_left' rfl
  rw [e1, e2]
  have u1 := L_ub a1 b1 s1 k1 m1
  have u2 := L_ub a2 b2 s2 k2 m2
  have u3 := L_append_ge a1 a2 b1 b2
  rw [List.length_append] at h3
  omega

theorem L_split_le (a1 a2 b : List Int) (j : Nat) : L a1 (b.take j) + L a2 (b.drop j) ≤ L (a1 ++ a2) b := by
  have h := L_append_ge a1 a2 (b.take j) (b.drop j)
  rwa [List.take_append_drop] at h

theorem rdL_d (o : List (List Int)) (n : Nat) : rd_L2 o (n : Int) = o.getD n [] := rfl
theorem rdL_at (o : List (List Int)) {n : Nat} (h : n < o.length) : rd_L2 o (n : Int) = o[n] := by
  rw [rdL_d, List.getD_eq_getElem?_getD, List.getElem?_eq_getElem h]; rfl
theorem rdL_set (o : List (List Int)) (i n : Nat) (v : List Int) (h : n < o.length) : rd_L2 (o.set i v) (n : Int) = if n = i then v else rd_L2 o (n : Int) := by
  rw [rdL_at _ (by rw [List.length_set]; exact h), rdL_at _ h, List.getElem_set]
  by_cases e : n = i
  · rw [if_pos e, if_pos e.symm]
  · rw [if_neg e, if_neg (fun q => e q.symm)]

/-- The rows from i on of the table of all ends. -/
def TabFrom (t : List (List Int)) (a b : List Int) (i : Nat) : Prop :=
  t.length = a.length + 1 ∧ ∀ n : Nat, i ≤ n → n ≤ a.length → (rd_L2 t (n : Int)).length = b.length + 1 ∧ ∀ j : Nat, j ≤ b.length → rd (rd_L2 t (n : Int)) (j : Int) = (L (a.drop n) (b.drop j) : Int)
/-- The table of all ends. -/
def IsTab (t : List (List Int)) (a b : List Int) : Prop := TabFrom t a b 0
/-- Row i from column m on. -/
def RowFrom (t : List (List Int)) (a b : List Int) (i m : Nat) : Prop :=
  TabFrom t a b (i + 1) ∧ (rd_L2 t (i : Int)).length = b.length + 1 ∧ ∀ j : Nat, m ≤ j → j ≤ b.length → rd (rd_L2 t (i : Int)) (j : Int) = (L (a.drop i) (b.drop j) : Int)
theorem mx_nat (x y : Nat) : mx (x : Int) (y : Int) = ((max x y : Nat) : Int) := by unfold mx; split <;> omega
theorem L_le_len (a b : List Int) (i j : Nat) : L (a.drop i) (b.drop j) ≤ a.length := by
  have := L_le_left (a.drop i) (b.drop j); rw [List.length_drop] at this; omega
theorem behind_l1 (a b : List Int) (ha : a.length ≤ 100000) (hb : b.length ≤ 100000) (i : Nat) (hi : i < a.length) (K : Nat) (Post : Option (List (List Int)) → Prop)
    (hr : ∀ k' t', K ≤ k' → TabFrom t' a b i → Post (tattingref7_Behind.l0 k' a b t' (wrap64 ((i : Int) - 1)))) (m : Nat) : ∀ (k : Nat) (t : List (List Int)), m ≤ b.length → 2 * m + 2 + K ≤ k → RowFrom t a b i m → Post (tattingref7_Behind.l1 k a b t (i : Int) ((m : Int) - 1)) := by
  induction m with
  | zero =>
    intro k t hm hk ⟨h1, h2, h3⟩
    obtain ⟨k, rfl⟩ : ∃ q, k = q + 2 := ⟨k - 2, by omega⟩
    simp only [tattingref7_Behind.l1]
    rw [if_pos (by omega), decide_eq_false (by omega)]
    simp only [tattingref7_Behind.j2]
    rw [if_neg (by decide)]
    refine hr k t (by omega) ⟨h1.1, ?_⟩
    intro n hn hn'
    by_cases e : n = i
    · rw [e]; exact ⟨h2, fun j hj => h3 j (by omega) hj⟩
    · exact h1.2 n (by omega) hn'
  | succ m ih =>
    intro k t hm hk ⟨h1, h2, h3⟩
    obtain ⟨k, rfl⟩ : ∃ q, k = q + 2 := ⟨k - 2, by omega⟩
    have e0 : ((m + 1 : Nat) : Int) - 1 = (m : Int) := by omega
    rw [e0]
    simp only [tattingref7_Behind.l1]
    rw [if_pos (by omega), decide_eq_true (by omega)]
    simp only [tattingref7_Behind.j2]
    have hlen := h1.1
    have hrow := (h1.2 (i + 1) (by omega) (by omega)).1
    have E1 := Aside0.mk (show wrap64 ((i : Int) + 1) = ((i + 1 : Nat) : Int) from wrap_succ (by omega))
    have E2 := Aside0.mk (show wrap64 ((m : Int) + 1) = ((m + 1 : Nat) : Int) from wrap_succ (by omega))
    have E3 := Aside0.mk (show wrap64 ((m : Int) - 1) = (m : Int) - 1 from wrap_id (by omega) (by omega))
    have r1 := (h1.2 (i + 1) (by omega) (by omega)).2 (m + 1) (by omega)
    have r2 := (h1.2 (i + 1) (by omega) (by omega)).2 m (by omega)
    have r3 := h3 (m + 1) (by omega) (by omega)
    have b1 := L_le_len a b (i + 1) (m + 1)
    have hn : ∀ v : Int, v = (L (a.drop i) (b.drop m) : Int) → RowFrom (t.set i ((rd_L2 t (i : Int)).set m v)) a b i m := by
      intro v hv
      refine ⟨⟨by rw [List.length_set]; exact hlen, ?_⟩, ?_, ?_⟩
      · intro n hn hn'
        rw [rdL_set _ _ _ _ (by omega), if_neg (by omega)]
        exact h1.2 n hn hn'
      · rw [rdL_set _ _ _ _ (by omega), if_pos rfl, List.length_set]; exact h2
      · intro j hj hj'
        rw [rdL_set _ _ _ _ (by omega), if_pos rfl, rd_set _ _ _ _ (by omega)]
        by_cases e : j = m
        · rw [if_pos e, hv, e]
        · rw [if_neg e]; exact h3 j (by omega) hj'
    rw [if_pos True.intro, if_pos (by omega), if_pos (by omega), if_pos (by omega), if_pos (by omega)]
    simp only [E1.out, E2.out, E3.out, Int.toNat_natCast]
    have da := drop_rd a hi
    have db := drop_rd b (show m < b.length by omega)
    by_cases e : rd a (i : Int) = rd b (m : Int)
    · rw [if_pos e, if_pos (by omega), if_pos (by omega), if_pos (by omega), if_pos (by omega), if_pos (by omega), if_pos (by omega)]
      refine ih k _ (by omega) (by omega) (hn _ ?_)
      rw [r1, wrap_id (by omega) (by omega), da, db, e, L_cons_eq]; omega
    · rw [if_neg e, if_pos (by omega), if_pos (by omega), if_pos (by omega), if_pos (by omega), if_pos (by omega), if_pos (by omega), if_pos (by omega)]
      refine ih k _ (by omega) (by omega) (hn _ ?_)
      rw [r2, r3, mx_nat, da, db, L_cons_ne e]
theorem behind_l0 (a b : List Int) (ha : a.length ≤ 100000) (hb : b.length ≤ 100000) (m : Nat) : ∀ (k : Nat) (t : List (List Int)), m ≤ a.length + 1 → (2 * b.length + 4) * m + 1 ≤ k → TabFrom t a b m → ∃ t', tattingref7_Behind.l0 k a b t ((m : Int) - 1) = some t' ∧ IsTab t' a b := by
  induction m with
  | zero =>
    intro k t hm hk h
    obtain ⟨k, rfl⟩ : ∃ q, k = q + 1 := ⟨k - 1, by omega⟩
    refine ⟨t, ?_, h⟩
    simp only [tattingref7_Behind.l0]
    rw [if_neg (by omega)]
  | succ m ih =>
    intro k t hm hk h
    rw [Nat.mul_succ] at hk
    obtain ⟨k, rfl⟩ : ∃ q, k = q + 1 := ⟨k - 1, by omega⟩
    rw [show ((m + 1 : Nat) : Int) - 1 = (m : Int) by omega]
    simp only [tattingref7_Behind.l0]
    have hlen := h.1
    have E1 := Aside0.mk (show wrap64 ((b.length : Int) + 1) = ((b.length + 1 : Nat) : Int) from wrap_succ (by omega))
    have E2 := Aside0.mk (show wrap64 ((b.length : Int) - 1) = (b.length : Int) - 1 from wrap_id (by omega) (by omega))
    have E3 := Aside0.mk (show wrap64 ((m : Int) - 1) = (m : Int) - 1 from wrap_id (by omega) (by omega))
    rw [E1.out, E2.out, if_pos (by omega), if_pos (by omega), if_pos (by omega), if_pos (by omega), if_pos (by omega)]
    simp only [Int.toNat_natCast]
    have hrow : RowFrom (t.set m (List.replicate (b.length + 1) 0)) a b m b.length := by
      refine ⟨⟨by rw [List.length_set]; exact hlen, ?_⟩, ?_, ?_⟩
      · intro n hn hn'
        rw [rdL_set _ _ _ _ (by omega), if_neg (by omega)]
        exact h.2 n hn hn'
      · rw [rdL_set _ _ _ _ (by omega), if_pos rfl, List.length_replicate]
      · intro j hj hj'
        rw [rdL_set _ _ _ _ (by omega), if_pos rfl, rd_replicate _ _ _ (by omega), show j = b.length by omega, List.drop_length, L_nil_right]; rfl
    by_cases c : m < a.length
    · refine behind_l1 a b ha hb m c ((2 * b.length + 4) * m + 1) (fun o => ∃ t', o = some t' ∧ IsTab t' a b) ?_ b.length k _ (Nat.le_refl _) (by omega) hrow
      intro k' t' hk' ht'
      rw [E3.out]
      exact ih k' t' (by omega) hk' ht'
    · obtain ⟨k, rfl⟩ : ∃ q, k = q + 2 := ⟨k - 2, by omega⟩
      simp only [tattingref7_Behind.l1]
      rw [if_neg (by omega)]
      simp only [tattingref7_Behind.j2]
      rw [if_neg (by decide), E3.out]
      refine ih k _ (by omega) (by omega) ⟨by rw [List.length_set]; exact hlen, ?_⟩
      intro n hn hn'
      have e : n = m := by omega
      rw [rdL_set _ _ _ _ (by omega), if_pos e]
      refine ⟨by rw [List.length_replicate], fun j hj => ?_⟩
      rw [rd_replicate _ _ _ (by omega), List.drop_eq_nil_of_le (by omega), L_nil_left]; rfl
theorem behind (a b : List Int) (ha : a.length ≤ 100000) (hb : b.length ≤ 100000) {k : Nat} (hk : (2 * b.length + 4) * (a.length + 1) + 1 ≤ k) : ∃ t, tattingref7_Behind.f k a b = some t ∧ IsTab t a b := by
  unfold tattingref7_Behind.f
  have e1 : wrap64 ((a.length : Int) + 1) = ((a.length + 1 : Nat) : Int) := wrap_succ (by omega)
  rw [e1, if_pos (by omega), if_pos (by omega)]
  simp only [Int.toNat_natCast]
  have h := behind_l0 a b ha hb (a.length + 1) k (List.replicate (a.length + 1) []) (Nat.le_refl _) hk ⟨by rw [List.length_replicate], fun n hn hn' => by omega⟩
  rw [show ((a.length + 1 : Nat) : Int) - 1 = (a.length : Int) by omega] at h
  exact h

theorem refLen (a b : List Int) (ha : a.length ≤ 100000) (hb : b.length ≤ 100000) {k : Nat} (hk : (2 * b.length + 4) * (a.length + 1) + 1 ≤ k) : tattingref7_Len.f k a b = some (L a b : Int) := by
  obtain ⟨t, h, h1, h2⟩ := behind a b ha hb hk
  unfold tattingref7_Len.f
  rw [h]
  simp only [Option.bind_some]
  have h3 := h2 0 (Nat.le_refl _) (by omega)
  have h4 := h3.2 0 (by omega)
  rw [List.drop_zero, List.drop_zero] at h4
  have e : rd_L2 t 0 = rd_L2 t ((0 : Nat) : Int) := rfl
  rw [e, if_pos (by omega), if_pos (by omega)]
  exact congrArg some h4

/-- Pairs that rise from two places on, and are alike. -/
def GoodFrom (a b : List Int) : Int → Int → List S30 → Prop
  | _, _, [] => True
  | i, j, p :: l => i ≤ p.f0 ∧ p.f0 < (a.length : Int) ∧ j ≤ p.f1 ∧ p.f1 < (b.length : Int) ∧ rd a p.f0 = rd b p.f1 ∧ GoodFrom a b (p.f0 + 1) (p.f1 + 1) l
/-- The places behind the last pair. -/
def endI : Int → List S30 → Int
  | i, [] => i
  | _, p :: l => endI (p.f0 + 1) l
def endJ : Int → List S30 → Int
  | j, [] => j
  | _, p :: l => endJ (p.f1 + 1) l
theorem goodFrom_append (a b : List Int) (l m : List S30) : ∀ i j, GoodFrom a b i j l → GoodFrom a b (endI i l) (endJ j l) m → GoodFrom a b i j (l ++ m) := by
  induction l with
  | nil => intro i j _ h; exact h
  | cons p l ih => intro i j h k; exact ⟨h.1, h.2.1, h.2.2.1, h.2.2.2.1, h.2.2.2.2.1, ih _ _ h.2.2.2.2.2 k⟩
theorem endI_append (l m : List S30) : ∀ i, endI i (l ++ m) = endI (endI i l) m := by
  induction l with
  | nil => intro i; rfl
  | cons p l ih => intro i; exact ih _
theorem endJ_append (l m : List S30) : ∀ i, endJ i (l ++ m) = endJ (endJ i l) m := by
  induction l with
  | nil => intro i; rfl
  | cons p l ih => intro i; exact ih _
theorem goodFrom_mono (a b : List Int) (l : List S30) (i j i' j' : Int) (h : GoodFrom a b i j l) (hi : i' ≤ i) (hj : j' ≤ j) : GoodFrom a b i' j' l := by
  cases l with
  | nil => trivial
  | cons p l => exact ⟨by have := h.1; omega, h.2.1, by have := h.2.2.1; omega, h.2.2.2⟩
theorem rdP_at (l : List S30) {n : Nat} (h : n < l.length) : rd_T30 l (n : Int) = l[n] := by
  show l.getD n _ = _
  rw [List.getD_eq_getElem?_getD, List.getElem?_eq_getElem h]; rfl
theorem drop_rdP (l : List S30) {n : Nat} (h : n < l.length) : l.drop n = rd_T30 l (n : Int) :: l.drop (n + 1) := by
  rw [rdP_at l h]; exact List.drop_eq_getElem_cons h

theorem refGood_l0 (a b : List Int) (l : List S30) (hl : l.length ≤ 1000000) (d : Nat) : ∀ (k n : Nat), n + d = l.length → 2 * d < k →
    (n = 0 → GoodFrom a b 0 0 l) → (∀ m : Nat, n = m + 1 → GoodFrom a b ((rd_T30 l (m : Int)).f0 + 1) ((rd_T30 l (m : Int)).f1 + 1) (l.drop n) ∧ 0 ≤ (rd_T30 l (m : Int)).f0 ∧ 0 ≤ (rd_T30 l (m : Int)).f1) →
    tattingref7_Good.l0 k a b l (n : Int) = some true := by
  induction d with
  | zero =>
    intro k n hn hk _ _
    obtain ⟨k, rfl⟩ : ∃ q, k = q + 1 := ⟨k - 1, by omega⟩
    simp only [tattingref7_Good.l0]
    rw [if_neg (by omega)]
  | succ d ih =>
    intro k n hn hk h0 h1
    obtain ⟨k, rfl⟩ : ∃ q, k = q + 2 := ⟨k - 2, by omega⟩
    have hp : (0 ≤ (rd_T30 l (n : Int)).f0 ∧ (rd_T30 l (n : Int)).f0 < (a.length : Int) ∧ 0 ≤ (rd_T30 l (n : Int)).f1 ∧ (rd_T30 l (n : Int)).f1 < (b.length : Int) ∧ rd a (rd_T30 l (n : Int)).f0 = rd b (rd_T30 l (n : Int)).f1 ∧ GoodFrom a b ((rd_T30 l (n : Int)).f0 + 1) ((rd_T30 l (n : Int)).f1 + 1) (l.drop (n + 1))) ∧ (∀ m : Nat, n = m + 1 → (rd_T30 l (m : Int)).f0 < (rd_T30 l (n : Int)).f0 ∧ (rd_T30 l (m : Int)).f1 < (rd_T30 l (n : Int)).f1) := by
      have hd := drop_rdP l (show n < l.length by omega)
      cases n with
      | zero =>
        have g := h0 rfl
        rw [List.drop_zero] at hd
        rw [hd] at g
        exact ⟨g, fun m hm => by omega⟩
      | succ m =>
        obtain ⟨g, g0, g1⟩ := h1 m rfl
        rw [hd] at g
        obtain ⟨q1, q2, q3, q4, q5, q6⟩ := g
        exact ⟨⟨by omega, q2, by omega, q4, q5, q6⟩, fun m' hm' => by rw [show m' = m by omega]; omega⟩
    obtain ⟨⟨q1, q2, q3, q4, q5, q6⟩, q7⟩ := hp
    have next : tattingref7_Good.l0 k a b l (wrap64 ((n : Int) + 1)) = some true := by
      rw [wrap_succ (by omega)]
      refine ih k (n + 1) (by omega) (by omega) (fun q => by omega) ?_
      intro m hm
      rw [show m = n by omega]; exact ⟨q6, q1, q3⟩
    simp only [tattingref7_Good.l0]
    rw [if_pos (by omega), if_pos (by omega), if_neg (by omega), if_neg (by omega), if_neg (by omega), if_neg (by omega), if_pos q1, if_pos q2, if_pos q3, if_pos q4, q5]
    have e : (rd b (rd_T30 l (n : Int)).f1 != rd b (rd_T30 l (n : Int)).f1) = false := by simp
    rw [e]
    simp only [tattingref7_Good.j1]
    rw [if_neg (by decide)]
    by_cases c : (n : Int) > 0
    · have E := Aside0.mk (show wrap64 ((n : Int) - 1) = ((n - 1 : Nat) : Int) from by rw [wrap_id (by omega) (by omega)]; omega)
      obtain ⟨r1, r2⟩ := q7 (n - 1) (by omega)
      rw [if_pos c, E.out, if_pos (by omega), if_pos (by omega), if_neg (by omega), if_neg (by omega)]; exact next
    · rw [if_neg c]; exact next
theorem refGood (a b : List Int) (l : List S30) (hl : l.length ≤ 1000000) (h : GoodFrom a b 0 0 l) {k : Nat} (hk : 2 * l.length < k) : tattingref7_Good.f k a b l = some true := by
  unfold tattingref7_Good.f
  exact refGood_l0 a b l hl l.length k 0 (by omega) hk (fun _ => h) (fun m hm => by omega)

/-- A pair behind which enough is left. -/
def Match (a b : List Int) (n X Y : Nat) : Prop := X < a.length ∧ Y < b.length ∧ rd a (X : Int) = rd b (Y : Int) ∧ L (a.drop (X + 1)) (b.drop (Y + 1)) + 1 = n
theorem match_ex (a b : List Int) (n : Nat) (h : L a b = n + 1) : ∃ X Y, Match a b (n + 1) X Y := by
  induction a, b using L.induct generalizing n with
  | case1 b => rw [L_nil_left] at h; omega
  | case2 x xs => rw [L_nil_right] at h; omega
  | case3 xs y ys ih =>
    rw [L_cons_eq] at h
    exact ⟨0, 0, by simp, by simp, rfl, by simpa using h⟩
  | case4 x xs y ys hne ih1 ih2 =>
    rw [L_cons_ne hne] at h
    by_cases c : L xs (y :: ys) = n + 1
    · obtain ⟨X, Y, m1, m2, m3, m4⟩ := ih1 n c
      exact ⟨X + 1, Y, by simpa using m1, m2, by rw [← m3]; rfl, by simpa using m4⟩
    · obtain ⟨X, Y, m1, m2, m3, m4⟩ := ih2 n (by omega)
      exact ⟨X, Y + 1, m1, by simpa using m2, by rw [m3]; rfl, by simpa using m4⟩
theorem match_drop (a b : List Int) (i j n X Y : Nat) (h : Match (a.drop i) (b.drop j) n X Y) : Match a b n (i + X) (j + Y) := by
  obtain ⟨h1, h2, h3, h4⟩ := h
  rw [List.length_drop] at h1 h2
  rw [rd_drop, rd_drop] at h3
  rw [List.drop_drop, List.drop_drop] at h4
  exact ⟨by omega, by omega, h3, by rw [← h4]; rfl⟩
theorem refFirst_l1 (a b : List Int) (ha : a.length ≤ 100000) (hb : b.length ≤ 100000) (t : List (List Int)) (ht : IsTab t a b) (i j n : Nat) (hn : n ≤ 1000000) (x : Nat) (hx : x < a.length) (hix : i ≤ x) (K : Nat) (Post : Option (Int × Int) → Prop)
    (hp : ∀ X Y : Nat, Match a b n X Y → i ≤ X → j ≤ Y → Post (some ((X : Int), (Y : Int)))) (d : Nat) : ∀ (k y : Nat), y + d = b.length → j ≤ y → d + K < k →
    ((∀ Y, y ≤ Y → ¬ Match a b n x Y) → ∀ k', K ≤ k' → Post (tattingref7_first.l0 k' a b t (j : Int) (n : Int) (wrap64 ((x : Int) + 1)))) → Post (tattingref7_first.l1 k a b t (j : Int) (n : Int) (x : Int) (y : Int)) := by
  induction d with
  | zero =>
    intro k y hy hj hk hr
    obtain ⟨k, rfl⟩ := round hk
    simp only [tattingref7_first.l1]
    rw [if_neg (by omega)]
    exact hr (fun Y hY hM => by have := hM.2.1; omega) k (by omega)
  | succ d ih =>
    intro k y hy hj hk hr
    obtain ⟨k, rfl⟩ := round hk
    have E1 := Aside0.mk (show wrap64 ((x : Int) + 1) = ((x + 1 : Nat) : Int) from wrap_succ (by omega))
    have E2 := Aside0.mk (show wrap64 ((y : Int) + 1) = ((y + 1 : Nat) : Int) from wrap_succ (by omega))
    have E3 := Aside0.mk (show wrap64 ((n : Int) - 1) = (n : Int) - 1 from wrap_id (by omega) (by omega))
    have row := ht.2 (x + 1) (by omega) (by omega)
    have h1 := row.1
    have h2 := row.2 (y + 1) (by omega)
    have hlen := ht.1
    have cont : ¬ Match a b n x y → Post (tattingref7_first.l1 k a b t (j : Int) (n : Int) (x : Int) ((y + 1 : Nat) : Int)) := by
      intro hno
      refine ih k (y + 1) (by omega) (by omega) (by omega) ?_
      intro hY
      refine hr ?_
      intro Y hy1 hM
      by_cases e : Y = y
      · rw [e] at hM; exact hno hM
      · exact hY Y (by omega) hM
    simp only [tattingref7_first.l1]
    rw [if_pos (by omega), if_pos (by omega), if_pos (by omega), if_pos (by omega)]
    by_cases c : rd a (x : Int) = rd b (y : Int)
    · rw [if_pos c, E1.out, E2.out, E3.out, if_pos (by omega), if_pos (by omega), if_pos (by omega), if_pos (by omega), h2]
      by_cases c2 : (L (a.drop (x + 1)) (b.drop (y + 1)) : Int) = (n : Int) - 1
      · rw [if_pos c2]
        exact hp x y ⟨hx, by omega, c, by omega⟩ hix hj
      · rw [if_neg c2]
        exact cont (fun hM => c2 (by have := hM.2.2.2; omega))
    · rw [if_neg c, E2.out]
      exact cont (fun hM => c hM.2.2.1)
theorem refFirst_l0 (a b : List Int) (ha : a.length ≤ 100000) (hb : b.length ≤ 100000) (t : List (List Int)) (ht : IsTab t a b) (i j n : Nat) (hj : j ≤ b.length) (hn : n ≤ 1000000) (Post : Option (Int × Int) → Prop)
    (hp : ∀ X Y : Nat, Match a b n X Y → i ≤ X → j ≤ Y → Post (some ((X : Int), (Y : Int)))) (d : Nat) : ∀ (k x : Nat), x + d = a.length → i ≤ x → d * (b.length + 2) < k → (∃ X Y, x ≤ X ∧ j ≤ Y ∧ Match a b n X Y) → Post (tattingref7_first.l0 k a b t (j : Int) (n : Int) (x : Int)) := by
  induction d with
  | zero =>
    intro k x hx hi hk ⟨X, Y, h1, h2, h3⟩
    have := h3.1; omega
  | succ d ih =>
    intro k x hx hi hk ⟨X, Y, h1, h2, h3⟩
    rw [Nat.succ_mul] at hk
    obtain ⟨k, rfl⟩ := round hk
    simp only [tattingref7_first.l0]
    rw [if_pos (by omega)]
    refine refFirst_l1 a b ha hb t ht i j n hn x (by omega) hi (d * (b.length + 2) + 1) Post hp (b.length - j) k j (by omega) (Nat.le_refl _) (by omega) ?_
    intro hno k' hk'
    rw [wrap_succ (by omega)]
    refine ih k' (x + 1) (by omega) (by omega) (by omega) ⟨X, Y, ?_, h2, h3⟩
    by_cases e : X = x
    · rw [e] at h3; exact absurd h3 (hno Y h2)
    · omega
theorem refLeast_l0 (a b : List Int) (ha : a.length ≤ 1000) (hb : b.length ≤ 1000) (t : List (List Int)) (ht : IsTab t a b) (n : Nat) : ∀ (k i j : Nat) (l : List S30), n + (a.length + 1) * (b.length + 2) < k → i ≤ a.length → j ≤ b.length → L (a.drop i) (b.drop j) = n → l.length + n ≤ 1000000 → GoodFrom a b 0 0 l → endI 0 l ≤ i → endJ 0 l ≤ j →
    ∃ r, tattingref7_Least.l0 k a b t l (i : Int) (j : Int) (n : Int) = some r ∧ r.length = l.length + n ∧ GoodFrom a b 0 0 r := by
  induction n with
  | zero =>
    intro k i j l hk hi hj hL hl hg h1 h2
    obtain ⟨k, rfl⟩ := round hk
    refine ⟨l, ?_, by omega, hg⟩
    simp only [tattingref7_Least.l0]
    rw [if_neg (by omega)]
  | succ n ih =>
    intro k i j l hk hi hj hL hl hg h1 h2
    obtain ⟨k, rfl⟩ : ∃ q, k = q + 1 := ⟨k - 1, by omega⟩
    simp only [tattingref7_Least.l0]
    rw [if_pos (by omega)]
    unfold tattingref7_first.f
    obtain ⟨X0, Y0, hM0⟩ := match_ex _ _ n hL
    have hM := match_drop a b i j (n + 1) X0 Y0 hM0
    have hnl : n + 1 ≤ 1000000 := by omega
    have hk2 : (a.length - i) * (b.length + 2) < k := by
      have := Nat.mul_le_mul_right (b.length + 2) (show a.length - i ≤ a.length + 1 by omega)
      omega
    refine refFirst_l0 a b (by omega) (by omega) t ht i j (n + 1) hj hnl (fun o => ∃ r, (o.bind fun bt => if l.length < 8796093022208 then tattingref7_Least.l0 k a b t (l ++ [(⟨bt.1, bt.2⟩ : S30)]) (wrap64 (bt.1 + 1)) (wrap64 (bt.2 + 1)) (wrap64 (((n + 1 : Nat) : Int) - 1)) else none) = some r ∧ r.length = l.length + (n + 1) ∧ GoodFrom a b 0 0 r) ?_ (a.length - i) k i (by omega) (Nat.le_refl _) hk2 ⟨i + X0, j + Y0, by omega, by omega, hM⟩
    intro X Y hXY hX hY
    obtain ⟨m1, m2, m3, m4⟩ := hXY
    have E3 : wrap64 (((n + 1 : Nat) : Int) - 1) = (n : Int) := by rw [wrap_id (by omega) (by omega)]; omega
    rw [Option.bind_some, if_pos (by omega), E3, wrap_succ (n := X) (by omega), wrap_succ (n := Y) (by omega)]
    have hg' : GoodFrom a b 0 0 (l ++ [(⟨(X : Int), (Y : Int)⟩ : S30)]) :=
      goodFrom_append a b l _ 0 0 hg ⟨by show endI 0 l ≤ (X : Int); omega, by show (X : Int) < _; omega, by show endJ 0 l ≤ (Y : Int); omega, by show (Y : Int) < _; omega, m3, trivial⟩
    obtain ⟨r, r1, r2, r3⟩ := ih k (X + 1) (Y + 1) (l ++ [(⟨(X : Int), (Y : Int)⟩ : S30)]) (by omega) (by omega) (by omega) (by omega) (by rw [List.length_append, List.length_singleton]; omega) hg' (by rw [endI_append]; show (X : Int) + 1 ≤ _; omega) (by rw [endJ_append]; show (Y : Int) + 1 ≤ _; omega)
    refine ⟨r, r1, ?_, r3⟩
    rw [r2, List.length_append, List.length_singleton]; omega
theorem refLeast (a b : List Int) (ha : a.length ≤ 1000) (hb : b.length ≤ 1000) {k : Nat} (hk : (2 * b.length + 4) * (a.length + 1) + 1 ≤ k) (hk2 : a.length + (a.length + 1) * (b.length + 2) < k) : ∃ l, tattingref7_Least.f k a b = some l ∧ l.length = L a b ∧ GoodFrom a b 0 0 l := by
  obtain ⟨t, h, ht⟩ := behind a b (by omega) (by omega) hk
  unfold tattingref7_Least.f
  rw [h, Option.bind_some]
  have h1 := ht.1
  have h3 := ht.2 0 (Nat.le_refl _) (by omega)
  have h4 := h3.2 0 (by omega)
  rw [List.drop_zero, List.drop_zero] at h4
  have e : rd_L2 t 0 = rd_L2 t ((0 : Nat) : Int) := rfl
  have hl := L_le_left a b
  rw [e, if_pos (by omega), if_pos (by omega)]
  have e2 : rd (rd_L2 t ((0 : Nat) : Int)) 0 = (L a b : Int) := h4
  rw [e2]
  obtain ⟨r, r1, r2, r3⟩ := refLeast_l0 a b ha hb t ht (L a b) k 0 0 [] (by omega) (by omega) (by omega) (by rw [List.drop_zero, List.drop_zero]) (by simp; omega) trivial (Int.le_refl _) (Int.le_refl _)
  refine ⟨r, r1, by rw [r2]; simp, r3⟩

/-- The pairs of the beginning, of the middle, of the end. -/
def frontP (p : Nat) : List S30 := (List.range p).map fun (t : Nat) => ⟨(t : Int), (t : Int)⟩
def midP (l : List S30) (p : Int) : List S30 := l.map fun x => ⟨x.f0 + p, x.f1 + p⟩
def backP (s : Nat) (n m : Int) : List S30 := (List.range s).map fun (t : Nat) => ⟨n - s + t, m - s + t⟩
/-- A pair is of the middle. -/
def inMid (x : S30) (p s n m : Int) : Prop := 0 ≤ x.f0 ∧ x.f0 < n - p - s ∧ 0 ≤ x.f1 ∧ x.f1 < m - p - s
instance (x : S30) (p s n m : Int) : Decidable (inMid x p s n m) := by unfold inMid; infer_instance
theorem frontP_succ (p : Nat) : frontP (p + 1) = frontP p ++ [⟨(p : Int), (p : Int)⟩] := by unfold frontP; rw [List.range_succ, List.map_append]; rfl
theorem frontP_length (p : Nat) : (frontP p).length = p := by unfold frontP; rw [List.length_map, List.length_range]
theorem midP_length (l : List S30) (p : Int) : (midP l p).length = l.length := by unfold midP; rw [List.length_map]
theorem backP_length (s : Nat) (n m : Int) : (backP s n m).length = s := by unfold backP; rw [List.length_map, List.length_range]
theorem backP_drop (s i : Nat) (n m : Int) (h : i < s) : (backP s n m).drop i = ⟨n - s + i, m - s + i⟩ :: (backP s n m).drop (i + 1) := by
  have hl := backP_length s n m
  rw [List.drop_eq_getElem_cons (by omega)]
  congr 1
  unfold backP; rw [List.getElem_map, List.getElem_range]
theorem grow_l2 (n m : Int) (hn : 0 ≤ n ∧ n ≤ 1048576) (hm : 0 ≤ m ∧ m ≤ 1048576) (s : Nat) (hs : s ≤ 1048576) (d : Nat) : ∀ (k : Nat) (g : List S30), d ≤ s → d < k → g.length + d ≤ 10000000 → trim_Grow.l2 k n m g (d : Int) = some (g ++ (backP s n m).drop (s - d), 0) := by
  induction d with
  | zero =>
    intro k g hd hk hg
    obtain ⟨k, rfl⟩ := round hk
    simp only [trim_Grow.l2]
    rw [if_neg (by omega), List.drop_eq_nil_of_le (by rw [backP_length]; omega), List.append_nil]
  | succ d ih =>
    intro k g hd hk hg
    obtain ⟨k, rfl⟩ := round hk
    simp only [trim_Grow.l2]
    have E := Aside0.mk (show wrap64 (((d + 1 : Nat) : Int) - 1) = (d : Int) from by rw [wrap_id (by omega) (by omega)]; omega)
    rw [if_pos (by omega), if_pos (by omega), E.out, wrap_id (i := n - ((d + 1 : Nat) : Int)) (by omega) (by omega), wrap_id (i := m - ((d + 1 : Nat) : Int)) (by omega) (by omega), ih k _ (by omega) (by omega) (by rw [List.length_append, List.length_singleton]; omega)]
    rw [backP_drop s (s - (d + 1)) n m (by omega), show s - (d + 1) + 1 = s - d by omega]
    have e1 : n - (s : Int) + ((s - (d + 1) : Nat) : Int) = n - ((d + 1 : Nat) : Int) := by omega
    have e2 : m - (s : Int) + ((s - (d + 1) : Nat) : Int) = m - ((d + 1 : Nat) : Int) := by omega
    rw [e1, e2]; simp
theorem grow_l1 (p n m : Int) (s : Nat) (hp : 0 ≤ p ∧ p ≤ 1048576) (hn : 0 ≤ n ∧ n ≤ 1048576) (hm : 0 ≤ m ∧ m ≤ 1048576) (hs : s ≤ 1048576) (l : List S30) (hl : l.length ≤ 1000000) (d : Nat) : ∀ (k i : Nat) (g : List S30), i + d = l.length → d + s + 1 < k → g.length + d + s ≤ 10000000 →
    ((∀ x ∈ l.drop i, inMid x p s n m) → trim_Grow.l1 k p (s : Int) n m g l (l.length : Int) (i : Int) = some (g ++ midP (l.drop i) p ++ backP s n m, 0)) ∧ ((¬ ∀ x ∈ l.drop i, inMid x p s n m) → trim_Grow.l1 k p (s : Int) n m g l (l.length : Int) (i : Int) = some ([], 1)) := by
  induction d with
  | zero =>
    intro k i g hi hk hg
    obtain ⟨k, rfl⟩ := round hk
    simp only [trim_Grow.l1]
    rw [if_neg (by omega), List.drop_eq_nil_of_le (by omega)]
    refine ⟨fun _ => ?_, fun q => absurd (fun x hx => by cases hx) q⟩
    rw [grow_l2 n m hn hm s hs s k g (Nat.le_refl _) (by omega) (by omega), Nat.sub_self, List.drop_zero]
    simp [midP]
  | succ d ih =>
    intro k i g hi hk hg
    obtain ⟨k, rfl⟩ := round hk
    have hd := drop_rdP l (show i < l.length by omega)
    have E1 := Aside0.mk (show wrap64 (wrap64 (n - p) - (s : Int)) = n - p - s from by rw [wrap_id (i := n - p) (by omega) (by omega), wrap_id (by omega) (by omega)])
    have E2 := Aside0.mk (show wrap64 (wrap64 (m - p) - (s : Int)) = m - p - s from by rw [wrap_id (i := m - p) (by omega) (by omega), wrap_id (by omega) (by omega)])
    simp only [trim_Grow.l1]
    rw [hd, E1.out, E2.out, if_pos (by omega), if_pos (by omega), if_pos (by omega)]
    generalize rd_T30 l (i : Int) = x
    have no : ¬ inMid x p s n m → ((∀ y ∈ x :: l.drop (i + 1), inMid y p s n m) → (some ([], 1) : Option (List S30 × Int)) = some (g ++ midP (x :: l.drop (i + 1)) p ++ backP s n m, 0)) ∧ ((¬ ∀ y ∈ x :: l.drop (i + 1), inMid y p s n m) → (some ([], 1) : Option (List S30 × Int)) = some ([], 1)) :=
      fun h => ⟨fun q => absurd (q x (List.mem_cons_self)) h, fun _ => rfl⟩
    by_cases c1 : x.f0 < 0
    · rw [if_pos c1]; exact no (fun q => by have := q.1; omega)
    rw [if_neg c1]
    by_cases c2 : x.f0 ≥ n - p - s
    · rw [if_pos c2]; exact no (fun q => by have := q.2.1; omega)
    rw [if_neg c2]
    by_cases c3 : x.f1 < 0
    · rw [if_pos c3]; exact no (fun q => by have := q.2.2.1; omega)
    rw [if_neg c3]
    by_cases c4 : x.f1 ≥ m - p - s
    · rw [if_pos c4]; exact no (fun q => by have := q.2.2.2; omega)
    rw [if_neg c4, if_pos (by omega), wrap_succ (by omega), wrap_id (i := x.f0 + p) (by omega) (by omega), wrap_id (i := x.f1 + p) (by omega) (by omega)]
    have hx : inMid x p s n m := ⟨by omega, by omega, by omega, by omega⟩
    have h := ih k (i + 1) (g ++ [⟨x.f0 + p, x.f1 + p⟩]) (by omega) (by omega) (by rw [List.length_append, List.length_singleton]; omega)
    have iff : (∀ y ∈ x :: l.drop (i + 1), inMid y p s n m) ↔ (∀ y ∈ l.drop (i + 1), inMid y p s n m) :=
      ⟨fun q y hy => q y (List.mem_cons_of_mem _ hy), fun q y hy => (List.mem_cons.mp hy).elim (fun e => e ▸ hx) (fun hy => q y hy)⟩
    refine ⟨fun q => ?_, fun q => h.2 (fun z => q (iff.mpr z))⟩
    rw [h.1 (iff.mp q)]; simp [midP]
theorem grow_l0 (p n m : Int) (pn s : Nat) (hpn : p = (pn : Int)) (hp : 0 ≤ p ∧ p ≤ 1048576) (hn : 0 ≤ n ∧ n ≤ 1048576) (hm : 0 ≤ m ∧ m ≤ 1048576) (hs : s ≤ 1048576) (l : List S30) (hl : l.length ≤ 1000000) (d : Nat) : ∀ (k i : Nat), i + d = pn → d + l.length + s + 2 < k →
    ((∀ x ∈ l, inMid x p s n m) → trim_Grow.l0 k l p (s : Int) n m (frontP i) p (i : Int) = some (frontP pn ++ midP l p ++ backP s n m, 0)) ∧ ((¬ ∀ x ∈ l, inMid x p s n m) → trim_Grow.l0 k l p (s : Int) n m (frontP i) p (i : Int) = some ([], 1)) := by
  induction d with
  | zero =>
    intro k i hi hk
    obtain ⟨k, rfl⟩ := round hk
    simp only [trim_Grow.l0]
    rw [if_neg (by omega), show i = pn by omega]
    have h := grow_l1 p n m s hp hn hm hs l hl l.length k 0 (frontP pn) (by omega) (by omega) (by rw [frontP_length]; omega)
    rw [List.drop_zero] at h; exact h
  | succ d ih =>
    intro k i hi hk
    obtain ⟨k, rfl⟩ := round hk
    simp only [trim_Grow.l0]
    rw [if_pos (by omega), if_pos (by rw [frontP_length]; omega), wrap_succ (by omega), ← frontP_succ]
    exact ih k (i + 1) (by omega) (by omega)
/-- Numbers that may be. -/
def growOk (p s n m : Int) : Prop := 0 ≤ n ∧ n ≤ 1048576 ∧ 0 ≤ m ∧ m ≤ 1048576 ∧ 0 ≤ p ∧ 0 ≤ s ∧ p + s ≤ n ∧ p + s ≤ m
instance (p s n m : Int) : Decidable (growOk p s n m) := by unfold growOk; infer_instance
/-- What is grown. -/
def growOf (l : List S30) (p s n m : Int) : List S30 × Int :=
  if growOk p s n m ∧ ∀ x ∈ l, inMid x p s n m then (frontP p.toNat ++ midP l p ++ backP s.toNat n m, 0) else ([], 1)
theorem mn_le (a b x : Int) : x > mn a b ↔ x > a ∨ x > b := by unfold mn; split <;> omega
theorem mn_bd (a b : Int) (ha : 0 ≤ a ∧ a ≤ 1048576) (hb : 0 ≤ b ∧ b ≤ 1048576) : 0 ≤ mn a b ∧ mn a b ≤ 1048576 ∧ mn a b ≤ a ∧ mn a b ≤ b ∧ (mn a b = a ∨ mn a b = b) := by unfold mn; split <;> omega
theorem trimGrow (l : List S30) (p s n m : Int) (hl : l.length ≤ 1000000) (hp : -9223372036854775808 ≤ p ∧ p ≤ 9223372036854775807) {k : Nat} (hk : p.toNat + l.length + s.toNat + 4 < k) : trim_Grow.f k l p s n m = some (growOf l p s n m) := by
  obtain ⟨k, rfl⟩ : ∃ q, k = q + 1 := ⟨k - 1, by omega⟩
  have no : ¬ growOk p s n m → trim_Grow.j0 (k + 1) l p s n m true = some (growOf l p s n m) := by
    intro h; unfold growOf; rw [if_neg (fun q => h q.1)]; simp [trim_Grow.j0]
  unfold trim_Grow.f trim_count.f
  by_cases c1 : n ≥ 0
  · by_cases c2 : n ≤ 1048576
    · rw [if_pos c1, decide_eq_true c2, Option.bind_some, if_pos rfl]
      by_cases c3 : m ≥ 0
      · by_cases c4 : m ≤ 1048576
        · rw [if_pos c3, decide_eq_true c4, Option.bind_some, if_pos rfl]
          by_cases c5 : p < 0
          · rw [if_pos c5]; exact no (fun q => by have := q.2.2.2.2.1; omega)
          rw [if_neg c5]
          by_cases c6 : s < 0
          · rw [if_pos c6]; exact no (fun q => by have := q.2.2.2.2.2.1; omega)
          rw [if_neg c6]
          have hb := mn_bd n m ⟨c1, c2⟩ ⟨c3, c4⟩
          generalize mn n m = v at *
          by_cases c7 : p > v
          · rw [if_pos c7]; exact no (fun q => by have := q.2.2.2.2.2.2; omega)
          rw [if_neg c7, wrap_id (by omega) (by omega)]
          by_cases c8 : s > v - p
          · rw [decide_eq_true c8]; exact no (fun q => by have := q.2.2.2.2.2.2; omega)
          rw [decide_eq_false c8]
          simp only [trim_Grow.j0]
          rw [if_neg (by decide)]
          have h := grow_l0 p n m p.toNat s.toNat (by omega) (by omega) ⟨c1, c2⟩ ⟨c3, c4⟩ (by omega) l hl p.toNat k 0 (by omega) (by omega)
          rw [Int.toNat_of_nonneg (show 0 ≤ s by omega)] at h
          have ok : growOk p s n m := ⟨c1, c2, c3, c4, by omega, by omega, by omega, by omega⟩
          unfold growOf
          by_cases c : ∀ x ∈ l, inMid x p s n m
          · rw [if_pos ⟨ok, c⟩]; exact h.1 c
          · rw [if_neg (fun q => c q.2)]; exact h.2 c
        · rw [if_pos c3, decide_eq_false c4, Option.bind_some, if_neg (by decide)]; exact no (fun q => c4 q.2.2.2.1)
      · rw [if_neg c3, Option.bind_some, if_neg (by decide)]; exact no (fun q => c3 q.2.2.1)
    · rw [if_pos c1, decide_eq_false c2, Option.bind_some, if_neg (by decide)]; exact no (fun q => c2 q.2.1)
  · rw [if_neg c1, Option.bind_some, if_neg (by decide)]; exact no (fun q => c1 q.1)

theorem mid_parts (a b : List Int) : ∃ s : List Int, s.length = csuf a b ∧ a = a.take (cpre a b) ++ midOf a (cpre a b) (csuf a b) ++ s ∧ b = b.take (cpre a b) ++ midOf b (cpre a b) (csuf a b) ++ s := by
  have hl := csuf_le a b
  have hc := cpre_take (a.drop (cpre a b)).reverse (b.drop (cpre a b)).reverse
  have e : cpre (a.drop (cpre a b)).reverse (b.drop (cpre a b)).reverse = csuf a b := rfl
  rw [e] at hc
  have parts : ∀ x : List Int, cpre a b + csuf a b ≤ x.length → x = x.take (cpre a b) ++ midOf x (cpre a b) (csuf a b) ++ ((x.drop (cpre a b)).reverse.take (csuf a b)).reverse := by
    intro x hx
    unfold midOf
    have e1 : ((x.drop (cpre a b)).reverse.take (csuf a b)).reverse = x.drop (x.length - csuf a b) := by
      rw [List.take_reverse, List.reverse_reverse, List.length_drop, List.drop_drop]; congr 1; omega
    have e2 : x.take (cpre a b) = (x.take (x.length - csuf a b)).take (cpre a b) := by rw [List.take_take, Nat.min_eq_left (by omega)]
    rw [e1, e2, List.take_append_drop, List.take_append_drop]
  refine ⟨((a.drop (cpre a b)).reverse.take (csuf a b)).reverse, ?_, parts a hl.1, ?_⟩
  · rw [List.length_reverse, List.length_take, List.length_reverse, List.length_drop]; omega
  · rw [hc]; exact parts b hl.2
theorem L_mid (a b : List Int) : L a b = cpre a b + csuf a b + L (midOf a (cpre a b) (csuf a b)) (midOf b (cpre a b) (csuf a b)) := by
  obtain ⟨s, h0, h1, h2⟩ := mid_parts a b
  have hl := cpre_le a b
  generalize hu : midOf a (cpre a b) (csuf a b) = u at *
  generalize hv : midOf b (cpre a b) (csuf a b) = v at *
  rw [← cpre_take] at h2
  have h : L a b = L (a.take (cpre a b) ++ u ++ s) (a.take (cpre a b) ++ v ++ s) := by rw [← h1, ← h2]
  rw [h, L_suffix, L_prefix, List.length_take, h0, Nat.min_eq_left hl.1]; omega

theorem awake : tattinglaw3_awake.f 60 = some true := by decide +kernel
theorem good_front (a b : List Int) (d : Nat) : ∀ i : Nat, i + d ≤ a.length → i + d ≤ b.length → (∀ t, t < i + d → rd a (t : Int) = rd b (t : Int)) → ∀ l : List S30, l = (List.range' i d).map (fun (t : Nat) => (⟨(t : Int), (t : Int)⟩ : S30)) → GoodFrom a b i i l ∧ endI i l = ((i + d : Nat) : Int) ∧ endJ i l = ((i + d : Nat) : Int) := by
  induction d with
  | zero => intro i _ _ _ l hl; rw [hl]; exact ⟨trivial, rfl, rfl⟩
  | succ d ih =>
    intro i ha hb h l hl
    rw [List.range'_succ, List.map_cons] at hl
    obtain ⟨h1, h2, h3⟩ := ih (i + 1) (by omega) (by omega) (fun t ht => h t (by omega)) _ rfl
    rw [hl]
    refine ⟨⟨Int.le_refl _, by show (i : Int) < _; omega, Int.le_refl _, by show (i : Int) < _; omega, h i (by omega), h1⟩, ?_, ?_⟩
    · show endI ((i : Int) + 1) _ = _
      have := h2; rw [show ((i + 1 : Nat) : Int) = (i : Int) + 1 by omega] at this; rw [this]; omega
    · show endJ ((i : Int) + 1) _ = _
      have := h3; rw [show ((i + 1 : Nat) : Int) = (i : Int) + 1 by omega] at this; rw [this]; omega
theorem good_back (a b : List Int) (d : Nat) : ∀ (i j : Nat), i + d ≤ a.length → j + d ≤ b.length → (∀ t, t < d → rd a ((i + t : Nat) : Int) = rd b ((j + t : Nat) : Int)) → ∀ (e : Nat) (n m : Int) (l : List S30), n + e = i → m + e = j → l = (List.range' e d).map (fun (t : Nat) => (⟨n + t, m + t⟩ : S30)) → GoodFrom a b i j l := by
  induction d with
  | zero => intro i j _ _ _ e n m l _ _ hl; rw [hl]; exact trivial
  | succ d ih =>
    intro i j ha hb h e n m l hn hm hl
    rw [List.range'_succ, List.map_cons] at hl
    have h1 := ih (i + 1) (j + 1) (by omega) (by omega) (fun t ht => by have := h (t + 1) (by omega); rw [show i + 1 + t = i + (t + 1) by omega, show j + 1 + t = j + (t + 1) by omega]; exact this) (e + 1) n m _ (by omega) (by omega) rfl
    rw [hl]
    have h0 := h 0 (by omega)
    refine ⟨by show (i : Int) ≤ n + e; omega, by show n + e < _; omega, by show (j : Int) ≤ m + e; omega, by show m + e < _; omega, ?_, ?_⟩
    · show rd a (n + e) = rd b (m + e)
      rw [hn, hm]; exact h0
    · show GoodFrom a b (n + e + 1) (m + e + 1) _
      rw [hn, hm]
      rw [show (i : Int) + 1 = ((i + 1 : Nat) : Int) by omega, show (j : Int) + 1 = ((j + 1 : Nat) : Int) by omega]
      exact h1
theorem good_mid (a b u v : List Int) (p : Nat) (hu : ∀ t : Nat, t < u.length → rd u (t : Int) = rd a ((p + t : Nat) : Int)) (hv : ∀ t : Nat, t < v.length → rd v (t : Int) = rd b ((p + t : Nat) : Int)) (ha : p + u.length ≤ a.length) (hb : p + v.length ≤ b.length) (l : List S30) : ∀ i j : Int, 0 ≤ i → 0 ≤ j → i ≤ u.length → j ≤ v.length → GoodFrom u v i j l →
    GoodFrom a b (i + p) (j + p) (midP l p) ∧ endI (i + p) (midP l p) ≤ (p + u.length : Nat) ∧ endJ (j + p) (midP l p) ≤ (p + v.length : Nat) := by
  induction l with
  | nil => intro i j _ _ hi hj _; exact ⟨trivial, by show i + p ≤ _; omega, by show j + p ≤ _; omega⟩
  | cons x l ih =>
    intro i j hi hj hi' hj' ⟨h1, h2, h3, h4, h5, h6⟩
    obtain ⟨g1, g2, g3⟩ := ih (x.f0 + 1) (x.f1 + 1) (by omega) (by omega) (by omega) (by omega) h6
    have e0 := hu x.f0.toNat (by omega)
    have e1 := hv x.f1.toNat (by omega)
    rw [Int.toNat_of_nonneg (by omega)] at e0 e1
    rw [show ((p + x.f0.toNat : Nat) : Int) = x.f0 + p by omega] at e0
    rw [show ((p + x.f1.toNat : Nat) : Int) = x.f1 + p by omega] at e1
    rw [show x.f0 + 1 + (p : Int) = x.f0 + p + 1 by omega] at g1 g2
    rw [show x.f1 + 1 + (p : Int) = x.f1 + p + 1 by omega] at g1 g3
    exact ⟨⟨by show i + p ≤ x.f0 + p; omega, by show x.f0 + p < _; omega, by show j + p ≤ x.f1 + p; omega, by show x.f1 + p < _; omega, by show rd a (x.f0 + p) = rd b (x.f1 + p); rw [← e0, ← e1]; exact h5, g1⟩, g2, g3⟩
theorem goodFrom_in (u v : List Int) (l : List S30) : ∀ i j : Int, 0 ≤ i → 0 ≤ j → GoodFrom u v i j l → ∀ x ∈ l, 0 ≤ x.f0 ∧ x.f0 < (u.length : Int) ∧ 0 ≤ x.f1 ∧ x.f1 < (v.length : Int) := by
  induction l with
  | nil => intro i j _ _ _ x hx; cases hx
  | cons y l ih =>
    intro i j hi hj ⟨h1, h2, h3, h4, _, h6⟩ x hx
    rcases List.mem_cons.mp hx with e | e
    · subst e; exact ⟨by omega, h2, by omega, h4⟩
    · exact ih _ _ (by omega) (by omega) h6 x e
theorem rd_mid (a : List Int) (p s n : Nat) (h : n < a.length - s - p) : rd (midOf a p s) (n : Int) = rd a ((p + n : Nat) : Int) := by
  unfold midOf
  rw [rd_drop, rd_take _ (by omega) (by omega)]
theorem rd_suf (a b : List Int) (t : Nat) (ht : t < csuf a b) : rd a ((a.length - csuf a b + t : Nat) : Int) = rd b ((b.length - csuf a b + t : Nat) : Int) := by
  have hl := csuf_le a b
  have hc := cpre_take (a.drop (cpre a b)).reverse (b.drop (cpre a b)).reverse
  have e : cpre (a.drop (cpre a b)).reverse (b.drop (cpre a b)).reverse = csuf a b := rfl
  rw [e] at hc
  have h : rd ((a.drop (cpre a b)).reverse.take (csuf a b)) ((csuf a b - 1 - t : Nat) : Int) = rd ((b.drop (cpre a b)).reverse.take (csuf a b)) ((csuf a b - 1 - t : Nat) : Int) := by rw [hc]
  rw [rd_take _ (by omega) (by rw [List.length_reverse, List.length_drop]; omega), rd_take _ (by omega) (by rw [List.length_reverse, List.length_drop]; omega), rd_reverse _ _ (by rw [List.length_drop]; omega), rd_reverse _ _ (by rw [List.length_drop]; omega), rd_drop, rd_drop, List.length_drop, List.length_drop] at h
  rw [show cpre a b + (a.length - cpre a b - 1 - (csuf a b - 1 - t)) = a.length - csuf a b + t by omega, show cpre a b + (b.length - cpre a b - 1 - (csuf a b - 1 - t)) = b.length - csuf a b + t by omega] at h
  exact h
theorem rd_pre (a b : List Int) (t : Nat) (ht : t < cpre a b) : rd a (t : Int) = rd b (t : Int) := by
  have hl := cpre_le a b
  have h : rd (a.take (cpre a b)) (t : Int) = rd (b.take (cpre a b)) (t : Int) := by rw [cpre_take]
  rwa [rd_take _ ht hl.1, rd_take _ ht hl.2] at h
theorem grown_good (x y : List Int) (l : List S30) (hg : GoodFrom (midOf x (cpre x y) (csuf x y)) (midOf y (cpre x y) (csuf x y)) 0 0 l) : GoodFrom x y 0 0 (frontP (cpre x y) ++ midP l (cpre x y) ++ backP (csuf x y) x.length y.length) := by
  have hl := csuf_le x y
  have n1 := midOf_length x (cpre x y) (csuf x y)
  have n2 := midOf_length y (cpre x y) (csuf x y)
  obtain ⟨f1, f2, f3⟩ := good_front x y (cpre x y) 0 (by omega) (by omega) (fun t ht => rd_pre x y t (by omega)) (frontP (cpre x y)) (by unfold frontP; rw [List.range_eq_range'])
  obtain ⟨m1, m2, m3⟩ := good_mid x y _ _ (cpre x y) (fun t ht => rd_mid x _ _ t (by omega)) (fun t ht => rd_mid y _ _ t (by omega)) (by omega) (by omega) l 0 0 (by omega) (by omega) (by omega) (by omega) hg
  have f1' : GoodFrom x y 0 0 (frontP (cpre x y)) := f1
  have f2' : endI 0 (frontP (cpre x y)) = (cpre x y : Int) := by have : endI 0 (frontP (cpre x y)) = _ := f2; rw [this]; omega
  have f3' : endJ 0 (frontP (cpre x y)) = (cpre x y : Int) := by have : endJ 0 (frontP (cpre x y)) = _ := f3; rw [this]; omega
  rw [Int.zero_add] at m1 m2 m3
  refine goodFrom_append x y _ _ 0 0 (goodFrom_append x y _ _ 0 0 f1' (by rw [f2', f3']; exact m1)) ?_
  rw [endI_append, endJ_append, f2', f3']
  have b1 := good_back x y (csuf x y) (x.length - csuf x y) (y.length - csuf x y) (by omega) (by omega) (fun t ht => rd_suf x y t ht) 0 ((x.length : Int) - csuf x y) ((y.length : Int) - csuf x y) (backP (csuf x y) x.length y.length) (by omega) (by omega) (by unfold backP; rw [List.range_eq_range'])
  exact goodFrom_mono x y _ _ _ _ _ b1 (by omega) (by omega)
theorem TrimFits : tattinglaw3_TrimFits.Pure := by
  intro a b _ _ _ _ _ _
  refine ⟨10000, ?_⟩
  unfold tattinglaw3_TrimFits.f
  rw [at_rounds tattinglaw3_awake.mono (by decide) awake, Option.bind_some, if_pos rfl]
  have skip : tattinglaw3_TrimFits.j0 10000 a b true = some true := by simp [tattinglaw3_TrimFits.j0]
  by_cases h1 : (a.length : Int) > 30
  · rw [if_pos h1]; exact skip
  rw [if_neg h1]
  by_cases h2 : (b.length : Int) > 30
  · rw [decide_eq_true h2]; exact skip
  rw [decide_eq_false h2]
  clear skip
  simp only [tattinglaw3_TrimFits.j0]
  have lx : (fewOf a 3).length ≤ 30 := by rw [fewOf_length]; omega
  have ly : (fewOf b 3).length ≤ 30 := by rw [fewOf_length]; omega
  rw [if_neg (by decide), few a 3 (by decide) (by decide) (by omega) (by omega), Option.bind_some, few b 3 (by decide) (by decide) (by omega) (by omega), Option.bind_some]
  generalize fewOf a 3 = x at *
  generalize fewOf b 3 = y at *
  have q1 := trimOf x y (by omega) (by omega) (k := 9999) (by omega)
  have q2 := trimMid x y (by omega) (by omega) (k := 9999) (by omega)
  rw [q1, Option.bind_some, q2, Option.bind_some]
  have hl := csuf_le x y
  have n1 := midOf_length x (cpre x y) (csuf x y)
  have n2 := midOf_length y (cpre x y) (csuf x y)
  have hm : ∀ u v : List Int, u.length ≤ 30 → v.length ≤ 30 → (2 * v.length + 4) * (u.length + 1) + 1 ≤ 9999 := by
    intro u v hu hv
    have := Nat.mul_le_mul (show 2 * v.length + 4 ≤ 64 by omega) (show u.length + 1 ≤ 31 by omega)
    omega
  have hm2 : ∀ u v : List Int, u.length ≤ 30 → v.length ≤ 30 → u.length + (u.length + 1) * (v.length + 2) < 9999 := by
    intro u v hu hv
    have := Nat.mul_le_mul (show u.length + 1 ≤ 31 by omega) (show v.length + 2 ≤ 32 by omega)
    omega
  obtain ⟨l, r1, r2, r3⟩ := refLeast (midOf x (cpre x y) (csuf x y)) (midOf y (cpre x y) (csuf x y)) (by omega) (by omega) (hm _ _ (by omega) (by omega)) (hm2 _ _ (by omega) (by omega))
  have hL := L_mid x y
  have hL2 := L_le_left x y
  have q3 := refLen x y (by omega) (by omega) (hm x y lx ly)
  have q4 := trimGrow l (cpre x y) (csuf x y) x.length y.length (by omega) (by omega) (k := 9999) (by omega)
  have hin : ∀ z ∈ l, inMid z (cpre x y) (csuf x y) x.length y.length := by
    intro z hz
    have := goodFrom_in _ _ l 0 0 (Int.le_refl _) (Int.le_refl _) r3 z hz
    unfold inMid; omega
  have e : growOf l (cpre x y) (csuf x y) x.length y.length = (frontP (cpre x y) ++ midP l (cpre x y) ++ backP (csuf x y) x.length y.length, 0) := by
    unfold growOf; rw [if_pos ⟨by unfold growOk; omega, hin⟩]; rfl
  have hg := grown_good x y l r3
  have hlen : (frontP (cpre x y) ++ midP l (cpre x y) ++ backP (csuf x y) x.length y.length).length = L x y := by
    rw [List.length_append, List.length_append, frontP_length, midP_length, backP_length]; omega
  rw [r1, Option.bind_some, q4, e, Option.bind_some, if_pos rfl]
  generalize frontP (cpre x y) ++ midP l (cpre x y) ++ backP (csuf x y) x.length y.length = g at *
  have q5 := refGood x y g (by omega) hg (k := 9999) (by omega)
  rw [q5, Option.bind_some, if_pos rfl, q3, Option.bind_some, hlen]; simp

end Go.Proofs.Ytamfpadkdkjalaa.Pure
