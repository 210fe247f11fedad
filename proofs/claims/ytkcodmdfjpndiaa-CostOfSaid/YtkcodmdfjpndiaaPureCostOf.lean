/- Of every two lists of at most 60 numbers, as they are and brought to nine: what they look like from afar is the reference's, and right. -/
import Derived.Test.YtkcodmdfjpndiaaPCostOfx5
import Derived.Test.YtkcodmdfjpndiaaWSized
namespace Go.Proofs.Ytkcodmdfjpndiaa.PrintWords
set_option linter.defProp false in
/-- The printed row names this lemma without the seat-wide namespace. -/
def sized_ints := @Go.Proofs.YtkcodmdfjpndiaaW.PrintWords.sized_ints
end Go.Proofs.Ytkcodmdfjpndiaa.PrintWords
namespace Go.Proofs.Ytkcodmdfjpndiaa.Pure
open Go.RowKit Go.Proofs.Ytkcodmdfjpndiaa.PCostOf Go.Proofs.YtkcodmdfjpndiaaW.PrintWords Go.Proofs.YtkcodmdfjpndiaaW.PrintLast Go.Proofs.YtkcodmdfjpndiaaW.PrintMore
set_option linter.unusedVariables false
set_option linter.unusedSimpArgs false

theorem wrap_id {i : Int} (h0 : -9223372036854775808 ≤ i) (h1 : i < 9223372036854775808) : wrap64 i = i := by unfold wrap64; omega
theorem wrap_succ {n : Nat} (h : n < 9223372036854775807) : wrap64 ((n : Int) + 1) = ((n + 1 : Nat) : Int) := by unfold wrap64; omega

theorem rd_at (l : List Int) {n : Nat} (h : n < l.length) : rd l (n : Int) = l[n] := by
  unfold rd; rw [Int.toNat_natCast, List.getD_eq_getElem?_getD, List.getElem?_eq_getElem h]; rfl
theorem rd_d (l : List Int) (n : Nat) : rd l (n : Int) = l.getD n 0 := rfl
theorem rd_out (l : List Int) {n : Nat} (h : l.length ≤ n) : rd l (n : Int) = 0 := by
  rw [rd_d, List.getD_eq_getElem?_getD, List.getElem?_eq_none h]; rfl
theorem drop_rd (l : List Int) {n : Nat} (h : n < l.length) : l.drop n = rd l (n : Int) :: l.drop (n + 1) := by
  rw [rd_at l h]; exact List.drop_eq_getElem_cons h
theorem take_rd (l : List Int) {n : Nat} (h : n < l.length) : l.take (n + 1) = l.take n ++ [rd l (n : Int)] := by
  rw [rd_at l h, List.take_succ_eq_append_getElem h]
theorem rd_mem (l : List Int) {n : Nat} (h : n < l.length) : rd l (n : Int) ∈ l := by rw [rd_at l h]; exact List.getElem_mem h
theorem rd_app_lt (l : List Int) (x : Int) {n : Nat} (h : n < l.length) : rd (l ++ [x]) (n : Int) = rd l (n : Int) := by
  rw [rd_at _ (by rw [List.length_append]; omega), rd_at _ h, List.getElem_append_left h]
theorem rd_app_eq (l : List Int) (x : Int) : rd (l ++ [x]) (l.length : Int) = x := by
  rw [rd_at _ (by rw [List.length_append, List.length_singleton]; omega)]; simp
theorem rd_app (l : List Int) (x : Int) (n : Nat) (h : n ≤ l.length) : rd (l ++ [x]) (n : Int) = if n = l.length then x else rd l (n : Int) := by
  by_cases e : n = l.length
  · rw [if_pos e, e, rd_app_eq]
  · rw [if_neg e, rd_app_lt _ _ (by omega)]
theorem rd_set (l : List Int) (i n : Nat) (x : Int) (h : n < l.length) : rd (l.set i x) (n : Int) = if n = i then x else rd l (n : Int) := by
  rw [rd_at _ (by rw [List.length_set]; exact h), rd_at _ h, List.getElem_set]
  by_cases e : n = i
  · rw [if_pos e, if_pos e.symm]
  · rw [if_neg e, if_neg (fun q => e q.symm)]
theorem rd_replicate (m n : Nat) (x : Int) (h : n < m) : rd (List.replicate m x) (n : Int) = x := by
  rw [rd_at _ (by rw [List.length_replicate]; exact h), List.getElem_replicate]
theorem rd_take (l : List Int) {m n : Nat} (h : n < m) (hm : m ≤ l.length) : rd (l.take m) (n : Int) = rd l (n : Int) := by
  rw [rd_at _ (by rw [List.length_take]; omega), rd_at _ (by omega), List.getElem_take]
theorem rd_drop (l : List Int) (m n : Nat) : rd (l.drop m) (n : Int) = rd l ((m + n : Nat) : Int) := by
  rw [rd_d, rd_d, List.getD_eq_getElem?_getD, List.getD_eq_getElem?_getD, List.getElem?_drop]
theorem list_ext {l m : List Int} (h : l.length = m.length) (k : ∀ n : Nat, n < l.length → rd l (n : Int) = rd m (n : Int)) : l = m := by
  apply List.ext_getElem h
  intro i h1 h2
  have := k i h1
  rwa [rd_at _ h1, rd_at _ h2] at this
theorem wf64 {a : Int} (h : (Lit.int .i64 a).wf = true) : -9223372036854775808 ≤ a ∧ a ≤ 9223372036854775807 := by
  simp only [Lit.wf, IntKind.min, IntKind.max, IntKind.signed, IntKind.bits, Bool.and_eq_true, decide_eq_true_eq, if_true] at h
  omega
/-- At least one round. -/
theorem round {k d : Nat} (h : d < k) : ∃ m, k = m + 1 := ⟨k - 1, by omega⟩

/-- The numbers brought to a few. -/
def fewOf (l : List Int) (n : Int) : List Int := l.map (· % n)
theorem fewOf_length (l : List Int) (n : Int) : (fewOf l n).length = l.length := by unfold fewOf; rw [List.length_map]
theorem fewOf_range (l : List Int) (n : Int) (hn : 0 < n) : ∀ x ∈ fewOf l n, 0 ≤ x ∧ x < n := by
  intro x hx
  unfold fewOf at hx
  obtain ⟨y, _, rfl⟩ := List.mem_map.mp hx
  exact ⟨Int.emod_nonneg y (by omega), Int.emod_lt_of_pos y hn⟩
theorem tmod_emod (x n : Int) (hn : 0 < n) : (if Int.tmod x n < 0 then Int.tmod x n + n else Int.tmod x n) = x % n := by
  have h0 := Int.emod_nonneg x (show n ≠ 0 by omega)
  have h1 := Int.emod_lt_of_pos x hn
  have h := Int.tmod_eq_emod (a := x) (b := n)
  by_cases c : 0 ≤ x ∨ n ∣ x
  · rw [if_pos c] at h; rw [if_neg (by omega)]; omega
  · rw [if_neg c] at h; rw [if_pos (by omega)]; omega
theorem few_l0 (l : List Int) (n : Int) (hn : 0 < n) (hn' : n ≤ 1000000) (hl : l.length ≤ 1000000) (d : Nat) : ∀ (k i : Nat) (out : List Int), i + d = l.length → d < k → out.length = i → tattingref1_Few.l0 k l n out (i : Int) = some (out ++ fewOf (l.drop i) n) := by
  induction d with
  | zero =>
    intro k i out hi hk ho
    obtain ⟨k, rfl⟩ := round hk
    simp only [tattingref1_Few.l0]
    rw [if_neg (by omega), List.drop_eq_nil_of_le (by omega)]
    simp [fewOf]
  | succ d ih =>
    intro k i out hi hk ho
    obtain ⟨k, rfl⟩ := round hk
    simp only [tattingref1_Few.l0]
    rw [if_pos (by omega), if_pos (by omega), if_neg (by omega), drop_rd l (by omega)]
    have h := tmod_emod (rd l (i : Int)) n hn
    have h0 := Int.emod_nonneg (rd l (i : Int)) (show n ≠ 0 by omega)
    have h1 := Int.emod_lt_of_pos (rd l (i : Int)) hn
    have e : fewOf (rd l (i : Int) :: l.drop (i + 1)) n = (rd l (i : Int) % n) :: fewOf (l.drop (i + 1)) n := rfl
    rw [e]
    by_cases c : Int.tmod (rd l (i : Int)) n < 0
    · rw [if_pos c] at h
      rw [if_pos c, if_pos (by omega), wrap_succ (by omega), wrap_id (by omega) (by omega), h, ih k (i + 1) _ (by omega) (by omega) (by rw [List.length_append, List.length_singleton]; omega)]
      simp
    · rw [if_neg c] at h
      rw [if_neg c, if_pos (by omega), wrap_succ (by omega), h, ih k (i + 1) _ (by omega) (by omega) (by rw [List.length_append, List.length_singleton]; omega)]
      simp
theorem few (l : List Int) (n : Int) (hn : 0 < n) (hn' : n ≤ 1000000) (hl : l.length ≤ 1000000) {k : Nat} (hk : l.length < k) : tattingref1_Few.f k l n = some (fewOf l n) := by
  have h := few_l0 l n hn hn' hl l.length k 0 [] (by omega) hk rfl
  rwa [List.nil_append, List.drop_zero] at h

/-- How many places of two lists are alike. -/
def alikeOf : List Int → List Int → Int
  | [], _ => 0
  | x :: xs, b => (b.count x : Int) + alikeOf xs b
theorem alikeOf_le (a b : List Int) : 0 ≤ alikeOf a b ∧ alikeOf a b ≤ (a.length : Int) * b.length := by
  induction a with
  | nil => simp [alikeOf]
  | cons x xs ih =>
    have h := List.count_le_length (a := x) (l := b)
    rw [alikeOf, List.length_cons]
    have e : ((xs.length + 1 : Nat) : Int) * (b.length : Int) = (xs.length : Int) * b.length + b.length := by
      rw [Int.natCast_add, Int.add_mul]; simp
    omega
theorem alike_l1 (a b : List Int) (hb : b.length ≤ 100000) (i : Nat) (hi : i < a.length) (acc : Int) (h0 : 0 ≤ acc) (h1 : acc ≤ 1000000000000) (K : Nat) (r : Option Int) (d : Nat) : ∀ (k j : Nat) (c : Int), j + d = b.length → d + K < k → 0 ≤ c → c ≤ j → 
    (∀ k', K ≤ k' → tattingref1_Alike.l0 k' a b (wrap64 (acc + c + ((b.drop j).count (rd a (i : Int)) : Int))) (wrap64 ((i : Int) + 1)) = r) → tattingref1_Alike.l1 k a b (acc + c) (i : Int) (j : Int) = r := by
  induction d with
  | zero =>
    intro k j c hj hk hc0 hc1 hr
    obtain ⟨k, rfl⟩ := round hk
    simp only [tattingref1_Alike.l1]
    rw [if_neg (by omega)]
    have h := hr k (by omega)
    rw [List.drop_eq_nil_of_le (by omega)] at h
    rw [List.count_nil, wrap_id (by simp; omega) (by simp; omega)] at h
    simpa using h
  | succ d ih =>
    intro k j c hj hk hc0 hc1 hr
    obtain ⟨k, rfl⟩ := round hk
    simp only [tattingref1_Alike.l1]
    rw [if_pos (by omega), if_pos (by omega), if_pos (by omega), if_pos (by omega), wrap_succ (by omega)]
    rw [drop_rd b (by omega)] at hr
    by_cases e : rd a (i : Int) = rd b (j : Int)
    · rw [if_pos e, wrap_id (by omega) (by omega), show acc + c + 1 = acc + (c + 1) by omega]
      refine ih k (j + 1) (c + 1) (by omega) (by omega) (by omega) (by omega) ?_
      intro k' hk'
      rw [← hr k' hk', e, List.count_cons_self]
      congr 2; omega
    · rw [if_neg e]
      refine ih k (j + 1) c (by omega) (by omega) (by omega) (by omega) ?_
      intro k' hk'
      rw [← hr k' hk', List.count_cons_of_ne (fun q => e q.symm)]
theorem alike_l0 (a b : List Int) (ha : a.length ≤ 100000) (hb : b.length ≤ 100000) (d : Nat) : ∀ (k i : Nat) (acc : Int), i + d = a.length → d * (b.length + 2) < k → 0 ≤ acc → acc + alikeOf (a.drop i) b ≤ 100000000000 →
    tattingref1_Alike.l0 k a b acc (i : Int) = some (acc + alikeOf (a.drop i) b) := by
  induction d with
  | zero =>
    intro k i acc hi hk h0 h1
    obtain ⟨k, rfl⟩ := round hk
    simp only [tattingref1_Alike.l0]
    rw [if_neg (by omega), List.drop_eq_nil_of_le (by omega)]
    simp [alikeOf]
  | succ d ih =>
    intro k i acc hi hk h0 h1
    rw [Nat.succ_mul] at hk
    obtain ⟨k, rfl⟩ := round hk
    simp only [tattingref1_Alike.l0]
    rw [drop_rd a (by omega), alikeOf] at h1 ⊢
    have hp := (alikeOf_le (a.drop (i + 1)) b).1
    rw [if_pos (by omega)]
    have h := alike_l1 a b hb i (by omega) acc h0 (by omega) (d * (b.length + 2) + 1) (some (acc + ((b.count (rd a (i : Int)) : Int) + alikeOf (a.drop (i + 1)) b))) b.length k 0 0 (by omega) (by omega) (by omega) (by omega)
    rw [Int.add_zero] at h
    refine h ?_
    intro k' hk'
    rw [List.drop_zero, wrap_succ (by omega), wrap_id (by omega) (by omega), ih k' (i + 1) _ (by omega) (by omega) (by omega) (by omega)]
    congr 1; omega
theorem alike (a b : List Int) (ha : a.length ≤ 100000) (hb : b.length ≤ 100000) {k : Nat} (hk : a.length * (b.length + 2) < k) : tattingref1_Alike.f k a b = some (alikeOf a b) := by
  have hm : (a.length : Int) * b.length ≤ 10000000000 := by
    have := Nat.mul_le_mul ha hb
    have e : ((a.length * b.length : Nat) : Int) ≤ ((100000 * 100000 : Nat) : Int) := Int.ofNat_le.mpr this
    simpa using e
  have h := alike_l0 a b ha hb a.length k 0 0 (by omega) hk (by omega) (by rw [List.drop_zero]; have := (alikeOf_le a b).2; omega)
  rw [List.drop_zero, Int.zero_add] at h
  exact h

theorem awake : tattinglaw27_awake.f 60 = some true := by decide +kernel
/-- A list that rises. -/
def Rising (l : List Int) : Prop := ∀ i j : Nat, i < j → j < l.length → rd l (i : Int) < rd l (j : Int)
theorem rd_ins (t : List Int) (x : Int) (r n : Nat) (hr : r ≤ t.length) : rd (t.take r ++ [x] ++ t.drop r) (n : Int) = if n < r then rd t (n : Int) else if n = r then x else rd t ((n - 1 : Nat) : Int) := by
  rw [rd_d, rd_d, rd_d]
  simp only [List.getD_eq_getElem?_getD, List.getElem?_append, List.length_append, List.length_take, List.length_singleton, List.getElem?_take, List.getElem?_drop]
  have e : min r t.length = r := by omega
  rw [e]
  by_cases c : n < r
  · rw [if_pos (by omega), if_pos c, if_pos c]
    simp [c]
  · by_cases c' : n = r
    · subst c'
      simp
    · rw [if_neg (by omega), if_neg c, if_neg c', show r + (n - (r + 1)) = n - 1 by omega]
/-- The place of a number in a list that rises. -/
def IsAt (t : List Int) (x : Int) (r : Nat) : Prop := r ≤ t.length ∧ (∀ u : Nat, u < r → rd t (u : Int) < x) ∧ (∀ u : Nat, r ≤ u → u < t.length → x ≤ rd t (u : Int))
theorem ins_rising (t : List Int) (x : Int) (r : Nat) (hs : Rising t) (h : IsAt t x r) (hx : r = t.length ∨ rd t (r : Int) ≠ x) : Rising (t.take r ++ [x] ++ t.drop r) := by
  intro i j hij hj
  obtain ⟨h1, h2, h3⟩ := h
  have hl : (t.take r ++ [x] ++ t.drop r).length = t.length + 1 := by simp; omega
  rw [hl] at hj
  rw [rd_ins t x r i h1, rd_ins t x r j h1]
  by_cases ci : i < r
  · rw [if_pos ci]
    by_cases cj : j < r
    · rw [if_pos cj]; exact hs i j hij (by omega)
    · rw [if_neg cj]
      by_cases cj' : j = r
      · rw [if_pos cj']; exact h2 i ci
      · rw [if_neg cj']
        exact hs i (j - 1) (by omega) (by omega)
  · rw [if_neg ci, if_neg (show ¬ j < r by omega), if_neg (show ¬ j = r by omega)]
    by_cases ci' : i = r
    · rw [if_pos ci']
      have h4 := h3 r (Nat.le_refl r) (by omega)
      have h5 : rd t (r : Int) ≠ x := hx.resolve_left (by omega)
      by_cases q : j - 1 = r
      · rw [q]; omega
      · have := hs r (j - 1) (by omega) (by omega); omega
    · rw [if_neg ci']
      exact hs (i - 1) (j - 1) (by omega) (by omega)
theorem ins_mem (t : List Int) (x : Int) (r : Nat) (v : Int) : v ∈ t.take r ++ [x] ++ t.drop r ↔ v ∈ t ∨ v = x := by
  have h : v ∈ t ↔ v ∈ t.take r ∨ v ∈ t.drop r := by rw [← List.mem_append, List.take_append_drop]
  simp only [List.mem_append, List.mem_singleton]
  rw [h]
  constructor
  · rintro ((h | h) | h)
    · exact Or.inl (Or.inl h)
    · exact Or.inr h
    · exact Or.inl (Or.inr h)
  · rintro ((h | h) | h)
    · exact Or.inl (Or.inl h)
    · exact Or.inr h
    · exact Or.inl (Or.inr h)
theorem ins_eq (l t : List Int) (i r : Nat) (ht : t.length ≤ 1000000) (hi : i < l.length) (hr : r ≤ t.length) : tattingref5_Symbols.ins l t (i : Int) (r : Int) = some (t.take r ++ [rd l (i : Int)] ++ t.drop r) := by
  unfold tattingref5_Symbols.ins
  simp only [Option.bind_some, Int.toNat_natCast, List.nil_append]
  have e1 : (t.take r).length = r := by rw [List.length_take]; omega
  rw [if_pos (by omega), if_pos (by omega), if_pos (by rw [e1]; show 0 + r < _; omega), if_pos (by omega), if_pos (by omega), if_pos (by rw [e1]; show r + 1 < _; omega), if_pos (by rw [List.length_append, List.length_singleton, e1, List.length_drop]; omega)]
/-- What the list is when one more number has been looked at. -/
def Next (t : List Int) (x : Int) (u : List Int) : Prop := Rising u ∧ (∀ v, v ∈ u ↔ v ∈ t ∨ v = x) ∧ u.length ≤ t.length + 1
theorem symbols_l1 (l t : List Int) (i : Nat) (hi : i < l.length) (ht : t.length ≤ 1000000) (hs : Rising t) (K : Nat) (d : Nat) : ∀ (k n : Nat), n + d = t.length → d + K < k → (∀ u : Nat, u < n → rd t (u : Int) < rd l (i : Int)) →
    ∃ u k', K ≤ k' ∧ Next t (rd l (i : Int)) u ∧ tattingref5_Symbols.l1 k l t (i : Int) (n : Int) = tattingref5_Symbols.l0 k' l u (wrap64 ((i : Int) + 1)) := by
  have nx : ∀ n : Nat, n ≤ t.length → IsAt t (rd l (i : Int)) n → (n = t.length ∨ rd t (n : Int) ≠ rd l (i : Int)) → Next t (rd l (i : Int)) (t.take n ++ [rd l (i : Int)] ++ t.drop n) := by
    intro n hn h1 h2
    exact ⟨ins_rising t _ n hs h1 h2, ins_mem t _ n, by simp; omega⟩
  induction d with
  | zero =>
    intro k n hn hk h1
    obtain ⟨k, rfl⟩ := round hk
    refine ⟨_, k, by omega, nx n (by omega) ⟨by omega, h1, fun u hu hl => by omega⟩ (Or.inl (by omega)), ?_⟩
    simp only [tattingref5_Symbols.l1]
    rw [if_neg (by omega), if_pos (by omega), ins_eq l t i n ht hi (by omega), Option.bind_some]
  | succ d ih =>
    intro k n hn hk h1
    obtain ⟨k, rfl⟩ := round hk
    simp only [tattingref5_Symbols.l1]
    rw [if_pos (by omega), if_pos (by omega), if_pos (by omega), if_pos (by omega)]
    by_cases c : rd t (n : Int) < rd l (i : Int)
    · rw [if_pos c, wrap_succ (by omega)]
      refine ih k (n + 1) (by omega) (by omega) (fun u hu => ?_)
      by_cases q : u = n
      · rw [q]; exact c
      · exact h1 u (by omega)
    · rw [if_neg c, if_neg (by omega)]
      by_cases c2 : rd t (n : Int) = rd l (i : Int)
      · rw [if_pos c2]
        refine ⟨t, k, by omega, ⟨hs, fun v => ⟨Or.inl, fun h => h.elim id (fun e => ?_)⟩, by omega⟩, rfl⟩
        rw [e, ← c2]; exact rd_mem t (by omega)
      · rw [if_neg c2, ins_eq l t i n ht hi (by omega), Option.bind_some]
        refine ⟨_, k, by omega, nx n (by omega) ⟨by omega, h1, fun u hu hl => ?_⟩ (Or.inr c2), rfl⟩
        by_cases q : u = n
        · rw [q]; omega
        · have := hs n u (by omega) hl; omega
theorem symbols_l0 (l : List Int) (hl : l.length ≤ 1000) (d : Nat) : ∀ (k i : Nat) (t : List Int), i + d = l.length → d * (l.length + 2) < k → Rising t → t.length ≤ i → (∀ v, v ∈ t ↔ v ∈ l.take i) →
    ∃ u, tattingref5_Symbols.l0 k l t (i : Int) = some u ∧ Rising u ∧ u.length ≤ l.length ∧ ∀ v, v ∈ u ↔ v ∈ l := by
  induction d with
  | zero =>
    intro k i t hi hk hs ht hm
    obtain ⟨k, rfl⟩ := round hk
    refine ⟨t, ?_, hs, by omega, fun v => by rw [hm v, List.take_of_length_le (by omega)]⟩
    simp only [tattingref5_Symbols.l0]
    rw [if_neg (by omega)]
  | succ d ih =>
    intro k i t hi hk hs ht hm
    obtain ⟨k, rfl⟩ := round hk
    simp only [tattingref5_Symbols.l0]
    rw [if_pos (by omega)]
    have e : (d + 1) * (l.length + 2) = d * (l.length + 2) + (l.length + 2) := Nat.succ_mul _ _
    obtain ⟨u, k', u1, ⟨u2, u3, u4⟩, u5⟩ := symbols_l1 l t i (by omega) (by omega) hs (d * (l.length + 2) + 1) t.length k 0 (by omega) (by omega) (fun u hu => by omega)
    have e0 : ((0 : Nat) : Int) = 0 := rfl
    rw [e0] at u5
    rw [u5, wrap_succ (by omega)]
    refine ih k' (i + 1) u (by omega) (by omega) u2 (by omega) (fun v => ?_)
    rw [u3 v, hm v, take_rd l (show i < l.length by omega), List.mem_append, List.mem_singleton]
theorem symbols_eq (l : List Int) (hl : l.length ≤ 1000) {k : Nat} (hk : l.length * (l.length + 2) < k) : ∃ u, tattingref5_Symbols.f k l = some u ∧ Rising u ∧ u.length ≤ l.length ∧ ∀ v, v ∈ u ↔ v ∈ l :=
  symbols_l0 l hl l.length k 0 [] (by omega) hk (fun i j _ hj => by simp at hj) (by simp) (fun v => by simp)
theorem pair_sub : ∀ (u v : List Int), u.Pairwise (fun a b => a ≠ b) → (∀ x, x ∈ u → x ∈ v) → u.length ≤ v.length
  | [], v, _, _ => by simp
  | x :: xs, v, h, hm => by
    have h1 := List.pairwise_cons.mp h
    have hx : x ∈ v := hm x (List.mem_cons_self ..)
    have hl := List.length_erase_of_mem hx
    have hp : 0 < v.length := List.length_pos_of_mem hx
    have := pair_sub xs (v.erase x) h1.2 (fun y hy => (List.mem_erase_of_ne (fun e => h1.1 y hy e.symm)).mpr (hm y (List.mem_cons_of_mem _ hy)))
    rw [List.length_cons]; omega
theorem rising_pair (u : List Int) (h : Rising u) : u.Pairwise (fun a b => a ≠ b) := by
  rw [List.pairwise_iff_getElem]
  intro i j hi hj hij
  have := h i j hij hj
  rw [rd_at u hi, rd_at u hj] at this
  omega
theorem distinct_pair (l : List Int) : (cost_Of.distinct l).Pairwise (fun a b => a ≠ b) := by
  refine cost_Of.snoc_ind (P := fun l => (cost_Of.distinct l).Pairwise (fun a b => a ≠ b)) List.Pairwise.nil (fun l x ih => ?_) l
  show (cost_Of.distinct (l ++ [x])).Pairwise (fun a b => a ≠ b)
  rw [cost_Of.distinct_snoc]
  by_cases c : x ∈ cost_Of.distinct l
  · rw [if_pos c]; exact ih
  · rw [if_neg c, List.pairwise_append]
    refine ⟨ih, List.pairwise_singleton _ _, fun a ha b hb => ?_⟩
    rw [List.mem_singleton] at hb
    exact fun e => c (by rw [← hb, ← e]; exact ha)
theorem same_many (l m u : List Int) (hu : Rising u) (hm : ∀ v, v ∈ u ↔ v ∈ m) (h : ∀ v, v ∈ l ↔ v ∈ m) : (cost_Of.distinct l).length = u.length := by
  have h1 := pair_sub _ u (distinct_pair l) (fun x hx => (hm x).mpr ((h x).mp ((cost_Of.distinct_mem l x).mp hx)))
  have h2 := pair_sub u _ (rising_pair u hu) (fun x hx => (cost_Of.distinct_mem l x).mpr ((h x).mpr ((hm x).mp hx)))
  omega
theorem hits_from (b : List Int) : ∀ (a : List Int) (s : Int), a.foldl (fun s x => s + (b.count x : Int)) s = s + alikeOf a b
  | [], s => by simp [alikeOf]
  | x :: xs, s => by rw [List.foldl_cons, hits_from b xs, alikeOf]; omega
theorem hits_eq (a b : List Int) : cost_Of.hits a b = alikeOf a b := by
  unfold cost_Of.hits; rw [hits_from]; omega
theorem of_eq (a b : List Int) (ha : a.length ≤ 60) (hb : b.length ≤ 60) (wa : ∀ x ∈ a, (Lit.int .i64 x).wf = true) (wb : ∀ x ∈ b, (Lit.int .i64 x).wf = true) {k : Nat} (hk : 20000 ≤ k) :
    ∃ s : Nat, s ≤ a.length + b.length ∧ cost_Of.f a b = some ((a.length : Int), (b.length : Int), (s : Int), alikeOf a b) ∧ tattingref27_Of.f k a b = some ((a.length : Int), (b.length : Int), (s : Int), alikeOf a b) := by
  have hl : (a ++ b).length = a.length + b.length := List.length_append
  have hq := Nat.mul_le_mul (show (a ++ b).length ≤ 120 by omega) (show (a ++ b).length + 2 ≤ 122 by omega)
  have hq2 := Nat.mul_le_mul (show a.length ≤ 60 by omega) (show b.length + 2 ≤ 62 by omega)
  obtain ⟨u, u1, u2, u3, u4⟩ := symbols_eq (a ++ b) (by omega) (k := k) (by omega)
  refine ⟨u.length, by omega, ?_, ?_⟩
  · unfold cost_Of.f
    rw [if_pos ⟨by omega, by omega, List.all_eq_true.mpr wa, List.all_eq_true.mpr wb⟩, hits_eq, same_many (b ++ a) (a ++ b) u u2 u4 (fun v => by rw [List.mem_append, List.mem_append]; exact Or.comm)]
  · unfold tattingref27_Of.f
    simp only [Option.bind_some, List.nil_append]
    rw [if_pos (by show 0 + a.length < _; omega), if_pos (by omega), u1, Option.bind_some, alike a b (by omega) (by omega) (by omega), Option.bind_some]
theorem right_of (n m s : Nat) (r : Int) (hn : n ≤ 60) (hm : m ≤ 60) (hs : s ≤ n + m) (h0 : 0 ≤ r) (h1 : r ≤ (n : Int) * (m : Int)) : cost_Right.f (n : Int) (m : Int) (s : Int) r = some true := by
  have hp := Nat.mul_le_mul hn hm
  have e : (n : Int) * (m : Int) = ((n * m : Nat) : Int) := by simp
  rw [e] at h1
  unfold cost_Right.f cost_is.f
  rw [if_pos (by omega), Option.bind_some, decide_eq_true (by omega), if_pos rfl, if_pos (by omega), Option.bind_some, decide_eq_true (by omega), if_pos rfl, if_pos (by omega), wrap_id (by omega) (by omega), if_pos (by omega), if_pos h0, e, wrap_id (by omega) (by omega), decide_eq_true h1]
theorem CostOf : tattinglaw27_CostOf.Pure := by
  intro a b _ _ wa _ _ wb
  refine ⟨30000, ?_⟩
  unfold tattinglaw27_CostOf.f
  rw [at_rounds tattinglaw27_awake.mono (by decide) awake, Option.bind_some, if_pos rfl]
  have skip : tattinglaw27_CostOf.j0 30000 a b true = some true := by simp [tattinglaw27_CostOf.j0]
  by_cases h1 : (a.length : Int) > 60
  · rw [if_pos h1]; exact skip
  rw [if_neg h1]
  by_cases h2 : (b.length : Int) > 60
  · rw [decide_eq_true h2]; exact skip
  rw [decide_eq_false h2]
  clear skip
  simp only [tattinglaw27_CostOf.j0]
  have lx : (fewOf a 9).length ≤ 60 := by rw [fewOf_length]; omega
  have ly : (fewOf b 9).length ≤ 60 := by rw [fewOf_length]; omega
  have wf9 : ∀ l : List Int, ∀ x ∈ fewOf l 9, (Lit.int .i64 x).wf = true := by
    intro l x hx
    have h := fewOf_range l 9 (by decide) x hx
    simp only [Lit.wf, IntKind.min, IntKind.max, IntKind.signed, IntKind.bits, Bool.and_eq_true, decide_eq_true_eq]
    simp
    omega
  rw [if_neg (by decide), few a 9 (by decide) (by decide) (by omega) (by omega), Option.bind_some, few b 9 (by decide) (by decide) (by omega) (by omega), Option.bind_some]
  obtain ⟨s, s1, s2, s3⟩ := of_eq (fewOf a 9) (fewOf b 9) lx ly (wf9 a) (wf9 b) (k := 29999) (by omega)
  obtain ⟨t, t1, t2, t3⟩ := of_eq a b (by omega) (by omega) wa wb (k := 29999) (by omega)
  have hr := alikeOf_le (fewOf a 9) (fewOf b 9)
  rw [s2, Option.bind_some, s3, Option.bind_some]
  dsimp only
  rw [if_pos (by simp), t2, Option.bind_some, t3, Option.bind_some]
  dsimp only
  rw [if_pos (by simp), right_of _ _ _ _ lx ly s1 hr.1 hr.2, Option.bind_some]

end Go.Proofs.Ytkcodmdfjpndiaa.Pure
