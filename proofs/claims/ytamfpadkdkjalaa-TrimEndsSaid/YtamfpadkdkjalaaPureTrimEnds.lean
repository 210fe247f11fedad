/- For every four lists of at most 20 numbers: with a beginning and an end put around two lists both ends that are alike are at least as long, and what stands between is not alike at either end. -/
import Derived.Test.YtamfpadkdkjalaaPTrimEndsx5
import Derived.Test.YtamfpadkdkjalaaWSized
namespace Go.Proofs.Ytamfpadkdkjalaa.PrintWords
set_option linter.defProp false in
/-- The printed row names this lemma without the seat-wide namespace. -/
def sized_ints := @Go.Proofs.YtamfpadkdkjalaaW.PrintWords.sized_ints
end Go.Proofs.Ytamfpadkdkjalaa.PrintWords
namespace Go.Proofs.Ytamfpadkdkjalaa.Pure
open Go.RowKit Go.Proofs.Ytamfpadkdkjalaa.PTrimEnds Go.Proofs.YtamfpadkdkjalaaW.PrintWords Go.Proofs.YtamfpadkdkjalaaW.PrintLast Go.Proofs.YtamfpadkdkjalaaW.PrintMore
set_option linter.unusedVariables false
set_option linter.unusedSimpArgs false

theorem wrap_id {i : Int} (h0 : -9223372036854775808 ≤ i) (h1 : i < 9223372036854775808) : wrap64 i = i := by unfold wrap64; omega
theorem wrap_succ {n : Nat} (h : n < 9223372036854775807) : wrap64 ((n : Int) + 1) = ((n + 1 : Nat) : Int) := by unfold wrap64; omega

theorem rd_at (l : List Int) {n : Nat} (h : n < l.length) : rd l (n : Int) = l[n] := by
  unfold rd; rw [Int.toNat_natCast, List.getD_eq_getElem?_getD, List.getElem?_eq_getElem h]; rfl
theorem rd_d (l : List Int) (n : Nat) : rd l (n : Int) = l.getD n 0 := rfl
theorem rd_out (l : List Int) {n : Nat} (h : l.length ≤ n) : rd l (n : Int) = 0 := by
  rw [rd_d, List.getD_eq_getElem?_getD, List.getElem?_eq_none h]; rfl
theorem drop_rd (l : List Int) {n : Nat} (h : n < l.length) : l.drop n = rd l (n : Int) :: l.drop (n + 1) := by
  rw [rd_at l h]; exact List.drop_eq_getElem_cons h
theorem take_rd (l : List Int) {n : Nat} (h : n < l.length) : l.take (n + 1) = l.take n ++ [rd l (n : Int)] := by
  rw [rd_at l h, List.take_succ_eq_append_getElem h]
theorem rd_mem (l : List Int) {n : Nat} (h : n < l.length) : rd l (n : Int) ∈ l := by rw [rd_at l h]; exact List.getElem_mem h
theorem rd_app_lt (l : List Int) (x : Int) {n : Nat} (h : n < l.length) : rd (l ++ [x]) (n : Int) = rd l (n : Int) := by
  rw [rd_at _ (by rw [List.length_append]; omega), rd_at _ h, List.getElem_append_left h]
theorem rd_app_eq (l : List Int) (x : Int) : rd (l ++ [x]) (l.length : Int) = x := by
  rw [rd_at _ (by rw [List.length_append, List.length_singleton]; omega)]; simp
theorem rd_app (l : List Int) (x : Int) (n : Nat) (h : n ≤ l.length) : rd (l ++ [x]) (n : Int) = if n = l.length then x else rd l (n : Int) := by
  by_cases e : n = l.length
  · rw [if_pos e, e, rd_app_eq]
  · rw [if_neg e, rd_app_lt _ _ (by omega)]
theorem rd_set (l : List Int) (i n : Nat) (x : Int) (h : n < l.length) : rd (l.set i x) (n : Int) = if n = i then x else rd l (n : Int) := by
  rw [rd_at _ (by rw [List.length_set]; exact h), rd_at _ h, List.getElem_set]
  by_cases e : n = i
  · rw [if_pos e, if_pos e.symm]
  · rw [if_neg e, if_neg (fun q => e q.symm)]
theorem rd_replicate (m n : Nat) (x : Int) (h : n < m) : rd (List.replicate m x) (n : Int) = x := by
  rw [rd_at _ (by rw [List.length_replicate]; exact h), List.getElem_replicate]
theorem rd_take (l : List Int) {m n : Nat} (h : n < m) (hm : m ≤ l.length) : rd (l.take m) (n : Int) = rd l (n : Int) := by
  rw [rd_at _ (by rw [List.length_take]; omega), rd_at _ (by omega), List.getElem_take]
theorem rd_drop (l : List Int) (m n : Nat) : rd (l.drop m) (n : Int) = rd l ((m + n : Nat) : Int) := by
  rw [rd_d, rd_d, List.getD_eq_getElem?_getD, List.getD_eq_getElem?_getD, List.getElem?_drop]
theorem list_ext {l m : List Int} (h : l.length = m.length) (k : ∀ n : Nat, n < l.length → rd l (n : Int) = rd m (n : Int)) : l = m := by
  apply List.ext_getElem h
  intro i h1 h2
  have := k i h1
  rwa [rd_at _ h1, rd_at _ h2] at this
theorem wf64 {a : Int} (h : (Lit.int .i64 a).wf = true) : -9223372036854775808 ≤ a ∧ a ≤ 9223372036854775807 := by
  simp only [Lit.wf, IntKind.min, IntKind.max, IntKind.signed, IntKind.bits, Bool.and_eq_true, decide_eq_true_eq, if_true] at h
  omega
/-- At least one round. -/
theorem round {k d : Nat} (h : d < k) : ∃ m, k = m + 1 := ⟨k - 1, by omega⟩

/-- How many numbers are alike at the beginning. -/
def cpre : List Int → List Int → Nat
  | x :: xs, y :: ys => if x = y then cpre xs ys + 1 else 0
  | _, _ => 0
theorem cpre_nil_right (a : List Int) : cpre a [] = 0 := by cases a <;> rfl
theorem cpre_le (a b : List Int) : cpre a b ≤ a.length ∧ cpre a b ≤ b.length := by
  induction a generalizing b with
  | nil => simp [cpre]
  | cons x xs ih =>
    cases b with
    | nil => simp [cpre]
    | cons y ys => rw [cpre]; have := ih ys; split <;> simp <;> omega
theorem cpre_take (a b : List Int) : a.take (cpre a b) = b.take (cpre a b) := by
  induction a generalizing b with
  | nil => simp [cpre]
  | cons x xs ih =>
    cases b with
    | nil => simp [cpre]
    | cons y ys =>
      rw [cpre]
      by_cases e : x = y
      · rw [if_pos e, List.take_succ_cons, List.take_succ_cons, ih ys, e]
      · rw [if_neg e]; rfl
theorem cpre_max (n : Nat) : ∀ (a b : List Int), n ≤ a.length → n ≤ b.length → a.take n = b.take n → n ≤ cpre a b := by
  induction n with
  | zero => intros; omega
  | succ n ih =>
    intro a b ha hb h
    cases a with
    | nil => simp at ha
    | cons x xs =>
      cases b with
      | nil => simp at hb
      | cons y ys =>
        rw [List.take_succ_cons, List.take_succ_cons] at h
        injection h with h1 h2
        rw [cpre, if_pos h1]
        have := ih xs ys (by simpa using ha) (by simpa using hb) h2
        omega
theorem cpre_ne (a b : List Int) (ha : cpre a b < a.length) (hb : cpre a b < b.length) : rd a (cpre a b : Int) ≠ rd b (cpre a b : Int) := by
  intro h
  have h1 : a.take (cpre a b + 1) = b.take (cpre a b + 1) := by rw [take_rd a ha, take_rd b hb, h, cpre_take]
  have := cpre_max (cpre a b + 1) a b ha hb h1
  omega
theorem cpre_step (a b : List Int) (n : Nat) (ha : n < a.length) (hb : n < b.length) : cpre (a.drop n) (b.drop n) = if rd a (n : Int) = rd b (n : Int) then cpre (a.drop (n + 1)) (b.drop (n + 1)) + 1 else 0 := by
  rw [drop_rd a ha, drop_rd b hb, cpre]
theorem cpre_end (a b : List Int) (n : Nat) (h : a.length ≤ n ∨ b.length ≤ n) : cpre (a.drop n) (b.drop n) = 0 := by
  rcases h with h | h
  · rw [List.drop_eq_nil_of_le h]; cases b.drop n <;> rfl
  · rw [List.drop_eq_nil_of_le h, cpre_nil_right]
theorem rd_reverse (l : List Int) (n : Nat) (h : n < l.length) : rd l.reverse (n : Int) = rd l ((l.length - 1 - n : Nat) : Int) := by
  rw [rd_at _ (by rw [List.length_reverse]; exact h), rd_at _ (by omega), List.getElem_reverse]

theorem trimOf_l1 (a b : List Int) (p : Int) (ha : a.length ≤ 1000000) (hb : b.length ≤ 1000000) (d : Nat) : ∀ (k s : Nat), s + d = a.length → d < k →
    trim_Of.l1 k a b p (s : Int) = some (p, ((s + cpre (a.reverse.drop s) (b.reverse.drop s) : Nat) : Int)) := by
  induction d with
  | zero =>
    intro k s hs hk
    obtain ⟨k, rfl⟩ := round hk
    simp only [trim_Of.l1]
    rw [if_neg (by omega), cpre_end _ _ _ (by rw [List.length_reverse]; omega), Nat.add_zero]
  | succ d ih =>
    intro k s hs hk
    obtain ⟨k, rfl⟩ := round hk
    simp only [trim_Of.l1]
    rw [if_pos (by omega)]
    by_cases c : s < b.length
    · have ea : wrap64 (wrap64 ((a.length : Int) - 1) - (s : Int)) = ((a.length - 1 - s : Nat) : Int) := by
        rw [wrap_id (i := (a.length : Int) - 1) (by omega) (by omega), wrap_id (by omega) (by omega)]; omega
      have eb : wrap64 (wrap64 ((b.length : Int) - 1) - (s : Int)) = ((b.length - 1 - s : Nat) : Int) := by
        rw [wrap_id (i := (b.length : Int) - 1) (by omega) (by omega), wrap_id (by omega) (by omega)]; omega
      rw [ea, eb, if_pos (by omega), if_pos (by omega), if_pos (by omega), if_pos (by omega), if_pos (by omega)]
      rw [cpre_step _ _ _ (by rw [List.length_reverse]; omega) (by rw [List.length_reverse]; exact c), rd_reverse a s (by omega), rd_reverse b s c]
      by_cases e : rd a ((a.length - 1 - s : Nat) : Int) = rd b ((b.length - 1 - s : Nat) : Int)
      · rw [if_pos e, if_pos e, wrap_succ (by omega), ih k (s + 1) (by omega) (by omega)]
        congr 2; omega
      · rw [if_neg e, if_neg e, Nat.add_zero]
    · rw [if_neg (by omega), cpre_end _ _ _ (by rw [List.length_reverse, List.length_reverse]; omega), Nat.add_zero]
theorem trimOf_l0 (a b : List Int) (ha : a.length ≤ 1000000) (hb : b.length ≤ 1000000) (K : Nat) (r : Option (Int × Int)) (d : Nat) : ∀ (k i : Nat), i + d = a.length → d + K < k →
    (∀ k', K ≤ k' → trim_Of.j1 k' a b ((i + cpre (a.drop i) (b.drop i) : Nat) : Int) 0 = r) → trim_Of.l0 k a b (i : Int) 0 = r := by
  induction d with
  | zero =>
    intro k i hi hk hr
    obtain ⟨k, rfl⟩ := round hk
    simp only [trim_Of.l0]
    rw [cpre_end _ _ _ (by omega), Nat.add_zero] at hr
    rw [if_neg (by omega)]; exact hr k (by omega)
  | succ d ih =>
    intro k i hi hk hr
    obtain ⟨k, rfl⟩ := round hk
    simp only [trim_Of.l0]
    rw [if_pos (by omega)]
    by_cases c : i < b.length
    · rw [if_pos (by omega), if_pos (by omega)]
      rw [cpre_step _ _ _ (by omega) c] at hr
      by_cases e : rd a (i : Int) = rd b (i : Int)
      · rw [if_pos e] at hr
        rw [if_pos e, wrap_succ (by omega)]
        refine ih k (i + 1) (by omega) (by omega) ?_
        intro k' hk'
        rw [← hr k' hk']; congr 1; omega
      · rw [if_neg e, Nat.add_zero] at hr
        rw [if_neg e]; exact hr k (by omega)
    · rw [cpre_end _ _ _ (by omega), Nat.add_zero] at hr
      rw [if_neg (by omega)]; exact hr k (by omega)
/-- The suffix that is alike behind the prefix. -/
def csuf (a b : List Int) : Nat := cpre (a.drop (cpre a b)).reverse (b.drop (cpre a b)).reverse
theorem trimOf (a b : List Int) (ha : a.length ≤ 1000000) (hb : b.length ≤ 1000000) {k : Nat} (hk : 2 * a.length + 3 < k) : trim_Of.f k a b = some ((cpre a b : Int), (csuf a b : Int)) := by
  unfold trim_Of.f
  refine trimOf_l0 a b ha hb (a.length + 2) _ a.length k 0 (by omega) (by omega) ?_
  intro k' hk'
  obtain ⟨k', rfl⟩ : ∃ m, k' = m + 1 := ⟨k' - 1, by omega⟩
  have hl := cpre_le a b
  simp only [trim_Of.j1]
  rw [List.drop_zero, List.drop_zero, Nat.zero_add, if_pos (by omega), if_pos (by omega), if_pos (by omega), Int.toNat_natCast]
  have h := trimOf_l1 (a.drop (cpre a b)) (b.drop (cpre a b)) (cpre a b : Int) (by rw [List.length_drop]; omega) (by rw [List.length_drop]; omega) (a.drop (cpre a b)).length k' 0 (by omega) (by rw [List.length_drop]; omega)
  rw [List.drop_zero, List.drop_zero, Nat.zero_add] at h
  exact h
theorem csuf_le (a b : List Int) : cpre a b + csuf a b ≤ a.length ∧ cpre a b + csuf a b ≤ b.length := by
  have h := cpre_le a b
  have k := cpre_le (a.drop (cpre a b)).reverse (b.drop (cpre a b)).reverse
  rw [List.length_reverse, List.length_reverse, List.length_drop, List.length_drop] at k
  unfold csuf; omega
/-- What stands between. -/
def midOf (a : List Int) (p s : Nat) : List Int := (a.take (a.length - s)).drop p
theorem midOf_length (a : List Int) (p s : Nat) : (midOf a p s).length = a.length - s - p := by unfold midOf; rw [List.length_drop, List.length_take]; omega
theorem clone (l : List Int) (h : l.length ≤ 1000000) : slices_Clone_int_int.f l = some l := by unfold slices_Clone_int_int.f; rw [if_pos (by omega)]
theorem trimMid (a b : List Int) (ha : a.length ≤ 1000000) (hb : b.length ≤ 1000000) {k : Nat} (hk : 2 * a.length + 3 < k) : trim_Mid.f k a b = some (midOf a (cpre a b) (csuf a b), midOf b (cpre a b) (csuf a b)) := by
  unfold trim_Mid.f
  rw [trimOf a b ha hb hk]
  simp only [Option.bind_some]
  have hl := csuf_le a b
  have ea : wrap64 ((a.length : Int) - (csuf a b : Int)) = ((a.length - csuf a b : Nat) : Int) := by rw [wrap_id (by omega) (by omega)]; omega
  have eb : wrap64 ((b.length : Int) - (csuf a b : Int)) = ((b.length - csuf a b : Nat) : Int) := by rw [wrap_id (by omega) (by omega)]; omega
  rw [ea, eb, if_pos (by omega), if_pos (by omega), if_pos (by omega)]
  simp only [Int.toNat_natCast]
  rw [clone _ (by rw [List.length_drop, List.length_take]; omega), Option.bind_some, if_pos (by omega), if_pos (by omega), clone _ (by rw [List.length_drop, List.length_take]; omega)]
  rfl

theorem awake : tattinglaw3_awake.f 60 = some true := by decide +kernel
theorem ends_front (f a b c : List Int) : f.length ≤ cpre (f ++ a ++ c) (f ++ b ++ c) := by
  refine cpre_max _ _ _ (by simp) (by simp) ?_
  rw [List.append_assoc, List.append_assoc, List.take_left' rfl, List.take_left' rfl]
theorem drop_rev (l : List Int) (p : Nat) : (l.drop p).reverse = l.reverse.take (l.length - p) := by
  rw [List.take_reverse]
  by_cases h : p ≤ l.length
  · congr 2; omega
  · rw [List.drop_eq_nil_of_le (by omega), List.drop_eq_nil_of_le (by omega)]
theorem ends_both (f a b c : List Int) : f.length + c.length ≤ cpre (f ++ a ++ c) (f ++ b ++ c) + csuf (f ++ a ++ c) (f ++ b ++ c) := by
  have h0 := ends_front f a b c
  have h1 := cpre_le (f ++ a ++ c) (f ++ b ++ c)
  unfold csuf
  generalize hp : cpre (f ++ a ++ c) (f ++ b ++ c) = p at *
  have la : (f ++ a ++ c).length = f.length + a.length + c.length := by simp; omega
  have lb : (f ++ b ++ c).length = f.length + b.length + c.length := by simp; omega
  have key : ∀ m : Nat, m ≤ c.length → m ≤ (f ++ a ++ c).length - p → m ≤ (f ++ b ++ c).length - p → m ≤ cpre ((f ++ a ++ c).drop p).reverse ((f ++ b ++ c).drop p).reverse := by
    intro m m1 m2 m3
    refine cpre_max m _ _ (by rw [List.length_reverse, List.length_drop]; exact m2) (by rw [List.length_reverse, List.length_drop]; exact m3) ?_
    rw [drop_rev, drop_rev, List.take_take, List.take_take, Nat.min_eq_left m2, Nat.min_eq_left m3]
    have e : ∀ z : List Int, (f ++ z ++ c).reverse.take m = c.reverse.take m := fun z => by
      rw [List.reverse_append, List.take_append_of_le_length (by rw [List.length_reverse]; exact m1)]
    rw [e, e]
  by_cases c1 : c.length ≤ (f ++ a ++ c).length - p
  · by_cases c2 : c.length ≤ (f ++ b ++ c).length - p
    · have := key c.length (by omega) c1 c2; omega
    · have := key ((f ++ b ++ c).length - p) (by omega) (by omega) (by omega); omega
  · by_cases c2 : (f ++ a ++ c).length - p ≤ (f ++ b ++ c).length - p
    · have := key ((f ++ a ++ c).length - p) (by omega) (by omega) c2; omega
    · have := key ((f ++ b ++ c).length - p) (by omega) (by omega) (by omega); omega
theorem rd_mid (a : List Int) (p s n : Nat) (h : n < a.length - s - p) : rd (midOf a p s) (n : Int) = rd a ((p + n : Nat) : Int) := by
  unfold midOf
  rw [rd_drop, rd_take _ (by omega) (by omega)]
theorem ends_ne (a b : List Int) (ha : cpre a b + csuf a b < a.length) (hb : cpre a b + csuf a b < b.length) : rd a ((a.length - 1 - csuf a b : Nat) : Int) ≠ rd b ((b.length - 1 - csuf a b : Nat) : Int) := by
  have h := cpre_ne (a.drop (cpre a b)).reverse (b.drop (cpre a b)).reverse
  have e : cpre (a.drop (cpre a b)).reverse (b.drop (cpre a b)).reverse = csuf a b := rfl
  rw [e] at h
  have h := h (by rw [List.length_reverse, List.length_drop]; omega) (by rw [List.length_reverse, List.length_drop]; omega)
  rw [rd_reverse _ _ (by rw [List.length_drop]; omega), rd_reverse _ _ (by rw [List.length_drop]; omega), rd_drop, rd_drop, List.length_drop, List.length_drop] at h
  rw [show cpre a b + (a.length - cpre a b - 1 - csuf a b) = a.length - 1 - csuf a b by omega, show cpre a b + (b.length - cpre a b - 1 - csuf a b) = b.length - 1 - csuf a b by omega] at h
  exact h
theorem ends_tail (f c x y : List Int) (hx : x.length ≤ 1000) (hy : y.length ≤ 1000) (hf : f.length ≤ 20) (hc : c.length ≤ 20) (g1 : f.length ≤ cpre x y) (g2 : f.length + c.length ≤ cpre x y + csuf x y) {k : Nat} (hk : 2 * x.length + 3 < k) :
    ((trim_Of.f k x y).bind fun bt189 => ((trim_Mid.f k x y).bind fun bt191 => (if bt189.1 < (f.length : Int) then (some false) else (if (wrap64 (bt189.1 + bt189.2)) < (wrap64 ((f.length : Int) + (c.length : Int))) then (some false) else (if (bt191.1.length : Int) = (wrap64 ((wrap64 ((x.length : Int) - bt189.1)) - bt189.2)) then (if (bt191.2.length : Int) = (wrap64 ((wrap64 ((y.length : Int) - bt189.1)) - bt189.2)) then (if (bt191.1.length : Int) = 0 then (some true) else (if (bt191.2.length : Int) = 0 then (some true) else (if 0 < (bt191.1.length : Int) then (if 0 < (bt191.2.length : Int) then (if (rd bt191.1 0) = (rd bt191.2 0) then (some false) else (if 0 ≤ (wrap64 ((bt191.1.length : Int) - 1)) then (if (wrap64 ((bt191.1.length : Int) - 1)) < (bt191.1.length : Int) then (if 0 ≤ (wrap64 ((bt191.2.length : Int) - 1)) then (if (wrap64 ((bt191.2.length : Int) - 1)) < (bt191.2.length : Int) then (some ((rd bt191.1 (wrap64 ((bt191.1.length : Int) - 1))) != (rd bt191.2 (wrap64 ((bt191.2.length : Int) - 1))))) else (none)) else (none)) else (none)) else (none))) else (none)) else (none)))) else (some false)) else (some false)))))) = some true := by
  rw [trimOf x y (by omega) (by omega) hk, trimMid x y (by omega) (by omega) hk]
  simp only [Option.bind_some]
  have hl := csuf_le x y
  have g3 := ends_ne x y
  have g4 := cpre_ne x y
  have m1 := rd_mid x (cpre x y) (csuf x y)
  have m2 := rd_mid y (cpre x y) (csuf x y)
  have n1 := midOf_length x (cpre x y) (csuf x y)
  have n2 := midOf_length y (cpre x y) (csuf x y)
  generalize cpre x y = p at *
  generalize csuf x y = s at *
  generalize midOf x p s = u at *
  generalize midOf y p s = v at *
  rw [if_neg (by omega), wrap_id (i := (p : Int) + s) (by omega) (by omega), wrap_id (i := (f.length : Int) + c.length) (by omega) (by omega), if_neg (by omega)]
  rw [wrap_id (i := (x.length : Int) - p) (by omega) (by omega), wrap_id (i := (x.length : Int) - p - s) (by omega) (by omega), if_pos (by omega)]
  rw [wrap_id (i := (y.length : Int) - p) (by omega) (by omega), wrap_id (i := (y.length : Int) - p - s) (by omega) (by omega), if_pos (by omega)]
  by_cases c1 : (u.length : Int) = 0
  · rw [if_pos c1]
  rw [if_neg c1]
  by_cases c2 : (v.length : Int) = 0
  · rw [if_pos c2]
  rw [if_neg c2, if_pos (by omega), if_pos (by omega)]
  have q0 : rd u 0 = rd x (p : Int) := m1 0 (by omega)
  have q1 : rd v 0 = rd y (p : Int) := m2 0 (by omega)
  have e1 : wrap64 ((u.length : Int) - 1) = ((u.length - 1 : Nat) : Int) := by rw [wrap_id (by omega) (by omega)]; omega
  have e2 : wrap64 ((v.length : Int) - 1) = ((v.length - 1 : Nat) : Int) := by rw [wrap_id (by omega) (by omega)]; omega
  have q2 := m1 (u.length - 1) (by omega)
  have q3 := m2 (v.length - 1) (by omega)
  rw [show p + (u.length - 1) = x.length - 1 - s by omega] at q2
  rw [show p + (v.length - 1) = y.length - 1 - s by omega] at q3
  have q4 := g4 (by omega) (by omega)
  have q5 := g3 (by omega) (by omega)
  rw [q0, q1, if_neg q4, e1, e2, if_pos (by omega), if_pos (by omega), if_pos (by omega), if_pos (by omega), q2, q3]
  simp [q5]
theorem TrimEnds : tattinglaw3_TrimEnds.Pure := by
  intro a b f c _ _ _ _ _ _ _ _ _ _ _ _
  refine ⟨1000, ?_⟩
  unfold tattinglaw3_TrimEnds.f
  rw [at_rounds tattinglaw3_awake.mono (by decide) awake]
  simp only [Option.bind_some, if_true]
  have skip : tattinglaw3_TrimEnds.j0 1000 a b f c true = some true := by simp [tattinglaw3_TrimEnds.j0]
  by_cases h1 : (a.length : Int) > 20
  · rw [if_pos h1]; exact skip
  rw [if_neg h1]
  by_cases h2 : (b.length : Int) > 20
  · rw [if_pos h2]; exact skip
  rw [if_neg h2]
  by_cases h3 : (f.length : Int) > 20
  · rw [if_pos h3]; exact skip
  rw [if_neg h3]
  by_cases h4 : (c.length : Int) > 20
  · rw [decide_eq_true h4]; exact skip
  rw [decide_eq_false h4]
  simp only [tattinglaw3_TrimEnds.j0, Option.bind_some, Bool.false_eq_true, if_false]
  have g1 := ends_front f a b c
  have g2 := ends_both f a b c
  have la : (f ++ a ++ c).length = f.length + a.length + c.length := by simp; omega
  have lb : (f ++ b ++ c).length = f.length + b.length + c.length := by simp; omega
  rw [if_pos (by simp; omega), if_pos (by simp; omega), if_pos (by simp; omega), if_pos (by simp; omega), if_pos (by simp; omega), if_pos (by simp; omega)]
  exact ends_tail f c (f ++ a ++ c) (f ++ b ++ c) (by omega) (by omega) (by omega) (by omega) g1 g2 (by omega)

end Go.Proofs.Ytamfpadkdkjalaa.Pure
