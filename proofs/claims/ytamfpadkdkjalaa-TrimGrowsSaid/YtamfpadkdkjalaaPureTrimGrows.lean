/- For every list of at most 40 pairs, every ends of at most 300 or too large, every lengths: what is grown, or that it is not, is the reference's. -/
import Derived.Test.YtamfpadkdkjalaaPTrimGrowsx5
import Derived.Test.YtamfpadkdkjalaaWSized
namespace Go.Proofs.Ytamfpadkdkjalaa.PrintWords
set_option linter.defProp false in
/-- The printed row names this lemma without the seat-wide namespace. -/
def sized_ints := @Go.Proofs.YtamfpadkdkjalaaW.PrintWords.sized_ints
end Go.Proofs.Ytamfpadkdkjalaa.PrintWords
namespace Go.Proofs.Ytamfpadkdkjalaa.Pure
open Go.RowKit Go.Proofs.Ytamfpadkdkjalaa.PTrimGrows Go.Proofs.YtamfpadkdkjalaaW.PrintWords Go.Proofs.YtamfpadkdkjalaaW.PrintLast Go.Proofs.YtamfpadkdkjalaaW.PrintMore
set_option linter.unusedVariables false
set_option linter.unusedSimpArgs false

theorem wrap_id {i : Int} (h0 : -9223372036854775808 ≤ i) (h1 : i < 9223372036854775808) : wrap64 i = i := by unfold wrap64; omega
theorem wrap_succ {n : Nat} (h : n < 9223372036854775807) : wrap64 ((n : Int) + 1) = ((n + 1 : Nat) : Int) := by unfold wrap64; omega

theorem rd_at (l : List Int) {n : Nat} (h : n < l.length) : rd l (n : Int) = l[n] := by
  unfold rd; rw [Int.toNat_natCast, List.getD_eq_getElem?_getD, List.getElem?_eq_getElem h]; rfl
theorem rd_d (l : List Int) (n : Nat) : rd l (n : Int) = l.getD n 0 := rfl
theorem rd_out (l : List Int) {n : Nat} (h : l.length ≤ n) : rd l (n : Int) = 0 := by
  rw [rd_d, List.getD_eq_getElem?_getD, List.getElem?_eq_none h]; rfl
theorem drop_rd (l : List Int) {n : Nat} (h : n < l.length) : l.drop n = rd l (n : Int) :: l.drop (n + 1) := by
  rw [rd_at l h]; exact List.drop_eq_getElem_cons h
theorem take_rd (l : List Int) {n : Nat} (h : n < l.length) : l.take (n + 1) = l.take n ++ [rd l (n : Int)] := by
  rw [rd_at l h, List.take_succ_eq_append_getElem h]
theorem rd_mem (l : List Int) {n : Nat} (h : n < l.length) : rd l (n : Int) ∈ l := by rw [rd_at l h]; exact List.getElem_mem h
theorem rd_app_lt (l : List Int) (x : Int) {n : Nat} (h : n < l.length) : rd (l ++ [x]) (n : Int) = rd l (n : Int) := by
  rw [rd_at _ (by rw [List.length_append]; omega), rd_at _ h, List.getElem_append_left h]
theorem rd_app_eq (l : List Int) (x : Int) : rd (l ++ [x]) (l.length : Int) = x := by
  rw [rd_at _ (by rw [List.length_append, List.length_singleton]; omega)]; simp
theorem rd_app (l : List Int) (x : Int) (n : Nat) (h : n ≤ l.length) : rd (l ++ [x]) (n : Int) = if n = l.length then x else rd l (n : Int) := by
  by_cases e : n = l.length
  · rw [if_pos e, e, rd_app_eq]
  · rw [if_neg e, rd_app_lt _ _ (by omega)]
theorem rd_set (l : List Int) (i n : Nat) (x : Int) (h : n < l.length) : rd (l.set i x) (n : Int) = if n = i then x else rd l (n : Int) := by
  rw [rd_at _ (by rw [List.length_set]; exact h), rd_at _ h, List.getElem_set]
  by_cases e : n = i
  · rw [if_pos e, if_pos e.symm]
  · rw [if_neg e, if_neg (fun q => e q.symm)]
theorem rd_replicate (m n : Nat) (x : Int) (h : n < m) : rd (List.replicate m x) (n : Int) = x := by
  rw [rd_at _ (by rw [List.length_replicate]; exact h), List.getElem_replicate]
theorem rd_take (l : List Int) {m n : Nat} (h : n < m) (hm : m ≤ l.length) : rd (l.take m) (n : Int) = rd l (n : Int) := by
  rw [rd_at _ (by rw [List.length_take]; omega), rd_at _ (by omega), List.getElem_take]
theorem rd_drop (l : List Int) (m n : Nat) : rd (l.drop m) (n : Int) = rd l ((m + n : Nat) : Int) := by
  rw [rd_d, rd_d, List.getD_eq_getElem?_getD, List.getD_eq_getElem?_getD, List.getElem?_drop]
theorem list_ext {l m : List Int} (h : l.length = m.length) (k : ∀ n : Nat, n < l.length → rd l (n : Int) = rd m (n : Int)) : l = m := by
  apply List.ext_getElem h
  intro i h1 h2
  have := k i h1
  rwa [rd_at _ h1, rd_at _ h2] at this
theorem wf64 {a : Int} (h : (Lit.int .i64 a).wf = true) : -9223372036854775808 ≤ a ∧ a ≤ 9223372036854775807 := by
  simp only [Lit.wf, IntKind.min, IntKind.max, IntKind.signed, IntKind.bits, Bool.and_eq_true, decide_eq_true_eq, if_true] at h
  omega
/-- At least one round. -/
theorem round {k d : Nat} (h : d < k) : ∃ m, k = m + 1 := ⟨k - 1, by omega⟩

/-- Pairs that rise from two places on, and are alike. -/
def GoodFrom (a b : List Int) : Int → Int → List S30 → Prop
  | _, _, [] => True
  | i, j, p :: l => i ≤ p.f0 ∧ p.f0 < (a.length : Int) ∧ j ≤ p.f1 ∧ p.f1 < (b.length : Int) ∧ rd a p.f0 = rd b p.f1 ∧ GoodFrom a b (p.f0 + 1) (p.f1 + 1) l
/-- The places behind the last pair. -/
def endI : Int → List S30 → Int
  | i, [] => i
  | _, p :: l => endI (p.f0 + 1) l
def endJ : Int → List S30 → Int
  | j, [] => j
  | _, p :: l => endJ (p.f1 + 1) l
theorem goodFrom_append (a b : List Int) (l m : List S30) : ∀ i j, GoodFrom a b i j l → GoodFrom a b (endI i l) (endJ j l) m → GoodFrom a b i j (l ++ m) := by
  induction l with
  | nil => intro i j _ h; exact h
  | cons p l ih => intro i j h k; exact ⟨h.1, h.2.1, h.2.2.1, h.2.2.2.1, h.2.2.2.2.1, ih _ _ h.2.2.2.2.2 k⟩
theorem endI_append (l m : List S30) : ∀ i, endI i (l ++ m) = endI (endI i l) m := by
  induction l with
  | nil => intro i; rfl
  | cons p l ih => intro i; exact ih _
theorem endJ_append (l m : List S30) : ∀ i, endJ i (l ++ m) = endJ (endJ i l) m := by
  induction l with
  | nil => intro i; rfl
  | cons p l ih => intro i; exact ih _
theorem goodFrom_mono (a b : List Int) (l : List S30) (i j i' j' : Int) (h : GoodFrom a b i j l) (hi : i' ≤ i) (hj : j' ≤ j) : GoodFrom a b i' j' l := by
  cases l with
  | nil => trivial
  | cons p l => exact ⟨by have := h.1; omega, h.2.1, by have := h.2.2.1; omega, h.2.2.2⟩
theorem rdP_at (l : List S30) {n : Nat} (h : n < l.length) : rd_T30 l (n : Int) = l[n] := by
  show l.getD n _ = _
  rw [List.getD_eq_getElem?_getD, List.getElem?_eq_getElem h]; rfl
theorem drop_rdP (l : List S30) {n : Nat} (h : n < l.length) : l.drop n = rd_T30 l (n : Int) :: l.drop (n + 1) := by
  rw [rdP_at l h]; exact List.drop_eq_getElem_cons h

/-- The pairs of the beginning, of the middle, of the end. -/
def frontP (p : Nat) : List S30 := (List.range p).map fun (t : Nat) => ⟨(t : Int), (t : Int)⟩
def midP (l : List S30) (p : Int) : List S30 := l.map fun x => ⟨x.f0 + p, x.f1 + p⟩
def backP (s : Nat) (n m : Int) : List S30 := (List.range s).map fun (t : Nat) => ⟨n - s + t, m - s + t⟩
/-- A pair is of the middle. -/
def inMid (x : S30) (p s n m : Int) : Prop := 0 ≤ x.f0 ∧ x.f0 < n - p - s ∧ 0 ≤ x.f1 ∧ x.f1 < m - p - s
instance (x : S30) (p s n m : Int) : Decidable (inMid x p s n m) := by unfold inMid; infer_instance
theorem frontP_succ (p : Nat) : frontP (p + 1) = frontP p ++ [⟨(p : Int), (p : Int)⟩] := by unfold frontP; rw [List.range_succ, List.map_append]; rfl
theorem frontP_length (p : Nat) : (frontP p).length = p := by unfold frontP; rw [List.length_map, List.length_range]
theorem midP_length (l : List S30) (p : Int) : (midP l p).length = l.length := by unfold midP; rw [List.length_map]
theorem backP_length (s : Nat) (n m : Int) : (backP s n m).length = s := by unfold backP; rw [List.length_map, List.length_range]
theorem backP_drop (s i : Nat) (n m : Int) (h : i < s) : (backP s n m).drop i = ⟨n - s + i, m - s + i⟩ :: (backP s n m).drop (i + 1) := by
  have hl := backP_length s n m
  rw [List.drop_eq_getElem_cons (by omega)]
  congr 1
  unfold backP; rw [List.getElem_map, List.getElem_range]
theorem grow_l2 (n m : Int) (hn : 0 ≤ n ∧ n ≤ 1048576) (hm : 0 ≤ m ∧ m ≤ 1048576) (s : Nat) (hs : s ≤ 1048576) (d : Nat) : ∀ (k : Nat) (g : List S30), d ≤ s → d < k → g.length + d ≤ 10000000 → trim_Grow.l2 k n m g (d : Int) = some (g ++ (backP s n m).drop (s - d), 0) := by
  induction d with
  | zero =>
    intro k g hd hk hg
    obtain ⟨k, rfl⟩ := round hk
    simp only [trim_Grow.l2]
    rw [if_neg (by omega), List.drop_eq_nil_of_le (by rw [backP_length]; omega), List.append_nil]
  | succ d ih =>
    intro k g hd hk hg
    obtain ⟨k, rfl⟩ := round hk
    simp only [trim_Grow.l2]
    have E := Aside0.mk (show wrap64 (((d + 1 : Nat) : Int) - 1) = (d : Int) from by rw [wrap_id (by omega) (by omega)]; omega)
    rw [if_pos (by omega), if_pos (by omega), E.out, wrap_id (i := n - ((d + 1 : Nat) : Int)) (by omega) (by omega), wrap_id (i := m - ((d + 1 : Nat) : Int)) (by omega) (by omega), ih k _ (by omega) (by omega) (by rw [List.length_append, List.length_singleton]; omega)]
    rw [backP_drop s (s - (d + 1)) n m (by omega), show s - (d + 1) + 1 = s - d by omega]
    have e1 : n - (s : Int) + ((s - (d + 1) : Nat) : Int) = n - ((d + 1 : Nat) : Int) := by omega
    have e2 : m - (s : Int) + ((s - (d + 1) : Nat) : Int) = m - ((d + 1 : Nat) : Int) := by omega
    rw [e1, e2]; simp
theorem grow_l1 (p n m : Int) (s : Nat) (hp : 0 ≤ p ∧ p ≤ 1048576) (hn : 0 ≤ n ∧ n ≤ 1048576) (hm : 0 ≤ m ∧ m ≤ 1048576) (hs : s ≤ 1048576) (l : List S30) (hl : l.length ≤ 1000000) (d : Nat) : ∀ (k i : Nat) (g : List S30), i + d = l.length → d + s + 1 < k → g.length + d + s ≤ 10000000 →
    ((∀ x ∈ l.drop i, inMid x p s n m) → trim_Grow.l1 k p (s : Int) n m g l (l.length : Int) (i : Int) = some (g ++ midP (l.drop i) p ++ backP s n m, 0)) ∧ ((¬ ∀ x ∈ l.drop i, inMid x p s n m) → trim_Grow.l1 k p (s : Int) n m g l (l.length : Int) (i : Int) = some ([], 1)) := by
  induction d with
  | zero =>
    intro k i g hi hk hg
    obtain ⟨k, rfl⟩ := round hk
    simp only [trim_Grow.l1]
    rw [if_neg (by omega), List.drop_eq_nil_of_le (by omega)]
    refine ⟨fun _ => ?_, fun q => absurd (fun x hx => by cases hx) q⟩
    rw [grow_l2 n m hn hm s hs s k g (Nat.le_refl _) (by omega) (by omega), Nat.sub_self, List.drop_zero]
    simp [midP]
  | succ d ih =>
    intro k i g hi hk hg
    obtain ⟨k, rfl⟩ := round hk
    have hd := drop_rdP l (show i < l.length by omega)
    have E1 := Aside0.mk (show wrap64 (wrap64 (n - p) - (s : Int)) = n - p - s from by rw [wrap_id (i := n - p) (by omega) (by omega), wrap_id (by omega) (by omega)])
    have E2 := Aside0.mk (show wrap64 (wrap64 (m - p) - (s : Int)) = m - p - s from by rw [wrap_id (i := m - p) (by omega) (by omega), wrap_id (by omega) (by omega)])
    simp only [trim_Grow.l1]
    rw [hd, E1.out, E2.out, if_pos (by omega), if_pos (by omega), if_pos (by omega)]
    generalize rd_T30 l (i : Int) = x
    have no : ¬ inMid x p s n m → ((∀ y ∈ x :: l.drop (i + 1), inMid y p s n m) → (some ([], 1) : Option (List S30 × Int)) = some (g ++ midP (x :: l.drop (i + 1)) p ++ backP s n m, 0)) ∧ ((¬ ∀ y ∈ x :: l.drop (i + 1), inMid y p s n m) → (some ([], 1) : Option (List S30 × Int)) = some ([], 1)) :=
      fun h => ⟨fun q => absurd (q x (List.mem_cons_self)) h, fun _ => rfl⟩
    by_cases c1 : x.f0 < 0
    · rw [if_pos c1]; exact no (fun q => by have := q.1; omega)
    rw [if_neg c1]
    by_cases c2 : x.f0 ≥ n - p - s
    · rw [if_pos c2]; exact no (fun q => by have := q.2.1; omega)
    rw [if_neg c2]
    by_cases c3 : x.f1 < 0
    · rw [if_pos c3]; exact no (fun q => by have := q.2.2.1; omega)
    rw [if_neg c3]
    by_cases c4 : x.f1 ≥ m - p - s
    · rw [if_pos c4]; exact no (fun q => by have := q.2.2.2; omega)
    rw [if_neg c4, if_pos (by omega), wrap_succ (by omega), wrap_id (i := x.f0 + p) (by omega) (by omega), wrap_id (i := x.f1 + p) (by omega) (by omega)]
    have hx : inMid x p s n m := ⟨by omega, by omega, by omega, by omega⟩
    have h := ih k (i + 1) (g ++ [⟨x.f0 + p, x.f1 + p⟩]) (by omega) (by omega) (by rw [List.length_append, List.length_singleton]; omega)
    have iff : (∀ y ∈ x :: l.drop (i + 1), inMid y p s n m) ↔ (∀ y ∈ l.drop (i + 1), inMid y p s n m) :=
      ⟨fun q y hy => q y (List.mem_cons_of_mem _ hy), fun q y hy => (List.mem_cons.mp hy).elim (fun e => e ▸ hx) (fun hy => q y hy)⟩
    refine ⟨fun q => ?_, fun q => h.2 (fun z => q (iff.mpr z))⟩
    rw [h.1 (iff.mp q)]; simp [midP]
theorem grow_l0 (p n m : Int) (pn s : Nat) (hpn : p = (pn : Int)) (hp : 0 ≤ p ∧ p ≤ 1048576) (hn : 0 ≤ n ∧ n ≤ 1048576) (hm : 0 ≤ m ∧ m ≤ 1048576) (hs : s ≤ 1048576) (l : List S30) (hl : l.length ≤ 1000000) (d : Nat) : ∀ (k i : Nat), i + d = pn → d + l.length + s + 2 < k →
    ((∀ x ∈ l, inMid x p s n m) → trim_Grow.l0 k l p (s : Int) n m (frontP i) p (i : Int) = some (frontP pn ++ midP l p ++ backP s n m, 0)) ∧ ((¬ ∀ x ∈ l, inMid x p s n m) → trim_Grow.l0 k l p (s : Int) n m (frontP i) p (i : Int) = some ([], 1)) := by
  induction d with
  | zero =>
    intro k i hi hk
    obtain ⟨k, rfl⟩ := round hk
    simp only [trim_Grow.l0]
    rw [if_neg (by omega), show i = pn by omega]
    have h := grow_l1 p n m s hp hn hm hs l hl l.length k 0 (frontP pn) (by omega) (by omega) (by rw [frontP_length]; omega)
    rw [List.drop_zero] at h; exact h
  | succ d ih =>
    intro k i hi hk
    obtain ⟨k, rfl⟩ := round hk
    simp only [trim_Grow.l0]
    rw [if_pos (by omega), if_pos (by rw [frontP_length]; omega), wrap_succ (by omega), ← frontP_succ]
    exact ih k (i + 1) (by omega) (by omega)
/-- Numbers that may be. -/
def growOk (p s n m : Int) : Prop := 0 ≤ n ∧ n ≤ 1048576 ∧ 0 ≤ m ∧ m ≤ 1048576 ∧ 0 ≤ p ∧ 0 ≤ s ∧ p + s ≤ n ∧ p + s ≤ m
instance (p s n m : Int) : Decidable (growOk p s n m) := by unfold growOk; infer_instance
/-- What is grown. -/
def growOf (l : List S30) (p s n m : Int) : List S30 × Int :=
  if growOk p s n m ∧ ∀ x ∈ l, inMid x p s n m then (frontP p.toNat ++ midP l p ++ backP s.toNat n m, 0) else ([], 1)
theorem mn_le (a b x : Int) : x > mn a b ↔ x > a ∨ x > b := by unfold mn; split <;> omega
theorem mn_bd (a b : Int) (ha : 0 ≤ a ∧ a ≤ 1048576) (hb : 0 ≤ b ∧ b ≤ 1048576) : 0 ≤ mn a b ∧ mn a b ≤ 1048576 ∧ mn a b ≤ a ∧ mn a b ≤ b ∧ (mn a b = a ∨ mn a b = b) := by unfold mn; split <;> omega
theorem trimGrow (l : List S30) (p s n m : Int) (hl : l.length ≤ 1000000) (hp : -9223372036854775808 ≤ p ∧ p ≤ 9223372036854775807) {k : Nat} (hk : p.toNat + l.length + s.toNat + 4 < k) : trim_Grow.f k l p s n m = some (growOf l p s n m) := by
  obtain ⟨k, rfl⟩ : ∃ q, k = q + 1 := ⟨k - 1, by omega⟩
  have no : ¬ growOk p s n m → trim_Grow.j0 (k + 1) l p s n m true = some (growOf l p s n m) := by
    intro h; unfold growOf; rw [if_neg (fun q => h q.1)]; simp [trim_Grow.j0]
  unfold trim_Grow.f trim_count.f
  by_cases c1 : n ≥ 0
  · by_cases c2 : n ≤ 1048576
    · rw [if_pos c1, decide_eq_true c2, Option.bind_some, if_pos rfl]
      by_cases c3 : m ≥ 0
      · by_cases c4 : m ≤ 1048576
        · rw [if_pos c3, decide_eq_true c4, Option.bind_some, if_pos rfl]
          by_cases c5 : p < 0
          · rw [if_pos c5]; exact no (fun q => by have := q.2.2.2.2.1; omega)
          rw [if_neg c5]
          by_cases c6 : s < 0
          · rw [if_pos c6]; exact no (fun q => by have := q.2.2.2.2.2.1; omega)
          rw [if_neg c6]
          have hb := mn_bd n m ⟨c1, c2⟩ ⟨c3, c4⟩
          generalize mn n m = v at *
          by_cases c7 : p > v
          · rw [if_pos c7]; exact no (fun q => by have := q.2.2.2.2.2.2; omega)
          rw [if_neg c7, wrap_id (by omega) (by omega)]
          by_cases c8 : s > v - p
          · rw [decide_eq_true c8]; exact no (fun q => by have := q.2.2.2.2.2.2; omega)
          rw [decide_eq_false c8]
          simp only [trim_Grow.j0]
          rw [if_neg (by decide)]
          have h := grow_l0 p n m p.toNat s.toNat (by omega) (by omega) ⟨c1, c2⟩ ⟨c3, c4⟩ (by omega) l hl p.toNat k 0 (by omega) (by omega)
          rw [Int.toNat_of_nonneg (show 0 ≤ s by omega)] at h
          have ok : growOk p s n m := ⟨c1, c2, c3, c4, by omega, by omega, by omega, by omega⟩
          unfold growOf
          by_cases c : ∀ x ∈ l, inMid x p s n m
          · rw [if_pos ⟨ok, c⟩]; exact h.1 c
          · rw [if_neg (fun q => c q.2)]; exact h.2 c
        · rw [if_pos c3, decide_eq_false c4, Option.bind_some, if_neg (by decide)]; exact no (fun q => c4 q.2.2.2.1)
      · rw [if_neg c3, Option.bind_some, if_neg (by decide)]; exact no (fun q => c3 q.2.2.1)
    · rw [if_pos c1, decide_eq_false c2, Option.bind_some, if_neg (by decide)]; exact no (fun q => c2 q.2.1)
  · rw [if_neg c1, Option.bind_some, if_neg (by decide)]; exact no (fun q => c1 q.1)

theorem rgrow_l3 (n m : Int) (hn : 0 ≤ n ∧ n ≤ 1048576) (hm : 0 ≤ m ∧ m ≤ 1048576) (s : Nat) (hs : s ≤ 1048576) (d : Nat) : ∀ (k i : Nat) (g : List S30), i + d = s → d < k → g.length + d ≤ 10000000 → tattingref1_Grow.l3 k (s : Int) n m g (i : Int) = some (g ++ (backP s n m).drop i, 0) := by
  induction d with
  | zero =>
    intro k i g hi hk hg
    obtain ⟨k, rfl⟩ := round hk
    simp only [tattingref1_Grow.l3]
    rw [if_neg (by omega), List.drop_eq_nil_of_le (by rw [backP_length]; omega), List.append_nil]
  | succ d ih =>
    intro k i g hi hk hg
    obtain ⟨k, rfl⟩ := round hk
    simp only [tattingref1_Grow.l3]
    have E1 := Aside0.mk (show wrap64 (wrap64 (n - (s : Int)) + (i : Int)) = n - s + i from by rw [wrap_id (i := n - (s : Int)) (by omega) (by omega), wrap_id (by omega) (by omega)])
    have E2 := Aside0.mk (show wrap64 (wrap64 (m - (s : Int)) + (i : Int)) = m - s + i from by rw [wrap_id (i := m - (s : Int)) (by omega) (by omega), wrap_id (by omega) (by omega)])
    rw [if_pos (by omega), if_pos (by omega), E1.out, E2.out, wrap_succ (by omega), ih k (i + 1) _ (by omega) (by omega) (by rw [List.length_append, List.length_singleton]; omega), backP_drop s i n m (by omega)]
    simp
theorem rgrow_l2 (p n m : Int) (hp : 0 ≤ p ∧ p ≤ 1048576) (hn : 0 ≤ n ∧ n ≤ 1048576) (hm : 0 ≤ m ∧ m ≤ 1048576) (s : Nat) (hs : s ≤ 1048576) (l : List S30) (hl : l.length ≤ 1000000) (ok : ∀ x ∈ l, inMid x p s n m) (d : Nat) : ∀ (k i : Nat) (g : List S30), i + d = l.length → d + s + 1 < k → g.length + d + s ≤ 10000000 →
    tattingref1_Grow.l2 k l p (s : Int) n m g (i : Int) = some (g ++ midP (l.drop i) p ++ backP s n m, 0) := by
  induction d with
  | zero =>
    intro k i g hi hk hg
    obtain ⟨k, rfl⟩ := round hk
    simp only [tattingref1_Grow.l2]
    rw [if_neg (by omega), List.drop_eq_nil_of_le (by omega)]
    have h := rgrow_l3 n m hn hm s hs s k 0 g (by omega) (by omega) (by omega)
    rw [List.drop_zero] at h
    simp only [Int.natCast_zero] at h
    rw [h]; simp [midP]
  | succ d ih =>
    intro k i g hi hk hg
    obtain ⟨k, rfl⟩ := round hk
    have hd := drop_rdP l (show i < l.length by omega)
    have hx : inMid (rd_T30 l (i : Int)) p s n m := ok _ (by rw [rdP_at l (show i < l.length by omega)]; exact List.getElem_mem _)
    simp only [tattingref1_Grow.l2]
    rw [hd, if_pos (by omega), if_pos (by omega), if_pos (by omega)]
    generalize rd_T30 l (i : Int) = x at *
    obtain ⟨x1, x2, x3, x4⟩ := hx
    have E1 := Aside0.mk (show wrap64 (x.f0 + p) = x.f0 + p from wrap_id (by omega) (by omega))
    have E2 := Aside0.mk (show wrap64 (x.f1 + p) = x.f1 + p from wrap_id (by omega) (by omega))
    rw [E1.out, E2.out, wrap_succ (by omega), ih k (i + 1) _ (by omega) (by omega) (by rw [List.length_append, List.length_singleton]; omega)]
    simp [midP]
theorem rgrow_l1 (p n m : Int) (pn s : Nat) (hpn : p = (pn : Int)) (hp : 0 ≤ p ∧ p ≤ 1048576) (hn : 0 ≤ n ∧ n ≤ 1048576) (hm : 0 ≤ m ∧ m ≤ 1048576) (hs : s ≤ 1048576) (l : List S30) (hl : l.length ≤ 1000000) (ok : ∀ x ∈ l, inMid x p s n m) (d : Nat) : ∀ (k i : Nat), i + d = pn → d + l.length + s + 2 < k →
    tattingref1_Grow.l1 k l p (s : Int) n m (frontP i) (i : Int) = some (frontP pn ++ midP l p ++ backP s n m, 0) := by
  induction d with
  | zero =>
    intro k i hi hk
    obtain ⟨k, rfl⟩ := round hk
    simp only [tattingref1_Grow.l1]
    rw [if_neg (by omega), show i = pn by omega]
    have h := rgrow_l2 p n m hp hn hm s hs l hl ok l.length k 0 (frontP pn) (by omega) (by omega) (by rw [frontP_length]; omega)
    rw [List.drop_zero] at h; exact h
  | succ d ih =>
    intro k i hi hk
    obtain ⟨k, rfl⟩ := round hk
    simp only [tattingref1_Grow.l1]
    rw [if_pos (by omega), if_pos (by rw [frontP_length]; omega), wrap_succ (by omega), ← frontP_succ]
    exact ih k (i + 1) (by omega) (by omega)
theorem rgrow_l0 (p n m : Int) (hp : 0 ≤ p ∧ p ≤ 1048576) (hn : 0 ≤ n ∧ n ≤ 1048576) (hm : 0 ≤ m ∧ m ≤ 1048576) (s : Nat) (hs : s ≤ 1048576) (l : List S30) (hl : l.length ≤ 1000000) (K : Nat) (r : Option (List S30 × Int)) (d : Nat) : ∀ (k i : Nat), i + d = l.length → d + K < k →
    ((∀ x ∈ l.drop i, inMid x p s n m) → (∀ k', K ≤ k' → tattingref1_Grow.l1 k' l p (s : Int) n m [] 0 = r) → tattingref1_Grow.l0 k l p (s : Int) n m (i : Int) = r) ∧ ((¬ ∀ x ∈ l.drop i, inMid x p s n m) → tattingref1_Grow.l0 k l p (s : Int) n m (i : Int) = some ([], 1)) := by
  induction d with
  | zero =>
    intro k i hi hk
    obtain ⟨k, rfl⟩ := round hk
    simp only [tattingref1_Grow.l0]
    rw [if_neg (by omega), List.drop_eq_nil_of_le (by omega)]
    exact ⟨fun _ h => h k (by omega), fun q => absurd (fun x hx => by cases hx) q⟩
  | succ d ih =>
    intro k i hi hk
    obtain ⟨k, rfl⟩ := round hk
    have hd := drop_rdP l (show i < l.length by omega)
    have E1 := Aside0.mk (show wrap64 (wrap64 (n - p) - (s : Int)) = n - p - s from by rw [wrap_id (i := n - p) (by omega) (by omega), wrap_id (by omega) (by omega)])
    have E2 := Aside0.mk (show wrap64 (wrap64 (m - p) - (s : Int)) = m - p - s from by rw [wrap_id (i := m - p) (by omega) (by omega), wrap_id (by omega) (by omega)])
    simp only [tattingref1_Grow.l0]
    rw [hd, E1.out, E2.out, if_pos (by omega), if_pos (by omega)]
    generalize rd_T30 l (i : Int) = x
    have no : ¬ inMid x p s n m → ((∀ y ∈ x :: l.drop (i + 1), inMid y p s n m) → (∀ k', K ≤ k' → tattingref1_Grow.l1 k' l p (s : Int) n m [] 0 = r) → (some ([], 1) : Option (List S30 × Int)) = r) ∧ ((¬ ∀ y ∈ x :: l.drop (i + 1), inMid y p s n m) → (some ([], 1) : Option (List S30 × Int)) = some ([], 1)) :=
      fun h => ⟨fun q => absurd (q x (List.mem_cons_self)) h, fun _ => rfl⟩
    by_cases c1 : x.f0 < 0
    · rw [if_pos c1]; exact no (fun q => by have := q.1; omega)
    rw [if_neg c1]
    by_cases c3 : x.f1 < 0
    · rw [if_pos c3]; exact no (fun q => by have := q.2.2.1; omega)
    rw [if_neg c3]
    by_cases c2 : x.f0 ≥ n - p - s
    · rw [if_pos c2]; exact no (fun q => by have := q.2.1; omega)
    rw [if_neg c2]
    by_cases c4 : x.f1 ≥ m - p - s
    · rw [if_pos c4]; exact no (fun q => by have := q.2.2.2; omega)
    rw [if_neg c4, wrap_succ (by omega)]
    have hx : inMid x p s n m := ⟨by omega, by omega, by omega, by omega⟩
    have h := ih k (i + 1) (by omega) (by omega)
    have iff : (∀ y ∈ x :: l.drop (i + 1), inMid y p s n m) ↔ (∀ y ∈ l.drop (i + 1), inMid y p s n m) :=
      ⟨fun q y hy => q y (List.mem_cons_of_mem _ hy), fun q y hy => (List.mem_cons.mp hy).elim (fun e => e ▸ hx) (fun hy => q y hy)⟩
    exact ⟨fun q => h.1 (iff.mp q), fun q => h.2 (fun z => q (iff.mpr z))⟩
theorem refGrow (l : List S30) (p s n m : Int) (hl : l.length ≤ 1000000) {k : Nat} (hk : p.toNat + 2 * l.length + s.toNat + 6 < k) : tattingref1_Grow.f k l p s n m = some (growOf l p s n m) := by
  obtain ⟨k, rfl⟩ : ∃ q, k = q + 1 := ⟨k - 1, by omega⟩
  have no : ¬ growOk p s n m → tattingref1_Grow.j0 (k + 1) l p s n m true = some (growOf l p s n m) := by
    intro h; unfold growOf; rw [if_neg (fun q => h q.1)]; simp [tattingref1_Grow.j0]
  unfold tattingref1_Grow.f
  by_cases c5 : p < 0
  · rw [if_pos c5]; exact no (fun q => by have := q.2.2.2.2.1; omega)
  rw [if_neg c5]
  by_cases c6 : s < 0
  · rw [if_pos c6]; exact no (fun q => by have := q.2.2.2.2.2.1; omega)
  rw [if_neg c6]
  by_cases c1 : n < 0
  · rw [if_pos c1]; exact no (fun q => by have := q.1; omega)
  rw [if_neg c1]
  by_cases c3 : m < 0
  · rw [if_pos c3]; exact no (fun q => by have := q.2.2.1; omega)
  rw [if_neg c3]
  by_cases c2 : n > 1048576
  · rw [if_pos c2]; exact no (fun q => by have := q.2.1; omega)
  rw [if_neg c2]
  by_cases c4 : m > 1048576
  · rw [if_pos c4]; exact no (fun q => by have := q.2.2.2.1; omega)
  rw [if_neg c4]
  by_cases c7 : p > n
  · rw [if_pos c7]; exact no (fun q => by have := q.2.2.2.2.2.2.1; omega)
  rw [if_neg c7]
  by_cases c8 : p > m
  · rw [if_pos c8]; exact no (fun q => by have := q.2.2.2.2.2.2.2; omega)
  rw [if_neg c8, wrap_id (i := n - p) (by omega) (by omega), wrap_id (i := m - p) (by omega) (by omega)]
  by_cases c9 : s > n - p
  · rw [if_pos c9]; exact no (fun q => by have := q.2.2.2.2.2.2.1; omega)
  rw [if_neg c9]
  by_cases c10 : s > m - p
  · rw [decide_eq_true c10]; exact no (fun q => by have := q.2.2.2.2.2.2.2; omega)
  rw [decide_eq_false c10]
  simp only [tattingref1_Grow.j0]
  rw [if_neg (by decide)]
  have ok : growOk p s n m := ⟨by omega, by omega, by omega, by omega, by omega, by omega, by omega, by omega⟩
  have h := fun r => rgrow_l0 p n m (by omega) (by omega) (by omega) s.toNat (by omega) l hl (p.toNat + l.length + s.toNat + 3) r l.length k 0 (by omega) (by omega)
  rw [Int.toNat_of_nonneg (show 0 ≤ s by omega)] at h
  simp only [List.drop_zero, Int.natCast_zero] at h
  unfold growOf
  by_cases c : ∀ x ∈ l, inMid x p s n m
  · rw [if_pos ⟨ok, c⟩]
    refine (h _).1 c (fun k' hk' => ?_)
    have g := rgrow_l1 p n m p.toNat s.toNat (by omega) (by omega) (by omega) (by omega) (by omega) l hl (by rw [Int.toNat_of_nonneg (show 0 ≤ s by omega)]; exact c) p.toNat k' 0 (by omega) (by omega)
    rw [Int.toNat_of_nonneg (show 0 ≤ s by omega)] at g
    exact g
  · rw [if_neg (fun q => c q.2)]; exact (h none).2 c

theorem awake : tattinglaw3_awake.f 60 = some true := by decide +kernel
theorem samePairs_l0 (l : List S30) (hl : l.length ≤ 10000000) (d : Nat) : ∀ (k i : Nat), i + d = l.length → d < k → tattingref1_SamePairs.l0 k l l (i : Int) = some true := by
  induction d with
  | zero =>
    intro k i hi hk
    obtain ⟨k, rfl⟩ := round hk
    simp only [tattingref1_SamePairs.l0]
    rw [if_neg (by omega)]
  | succ d ih =>
    intro k i hi hk
    obtain ⟨k, rfl⟩ := round hk
    simp only [tattingref1_SamePairs.l0]
    rw [if_pos (by omega), if_pos (by omega), if_pos (by omega), if_neg (by simp), wrap_succ (by omega)]
    exact ih k (i + 1) (by omega) (by omega)
theorem samePairs (l : List S30) (hl : l.length ≤ 10000000) {k : Nat} (hk : l.length < k) : tattingref1_SamePairs.f k l l = some true := by
  unfold tattingref1_SamePairs.f
  rw [if_pos rfl]
  exact samePairs_l0 l hl l.length k 0 (by omega) hk
theorem growOf_length (l : List S30) (p s n m : Int) (hl : l.length ≤ 1000000) : (growOf l p s n m).1.length ≤ p.toNat + l.length + s.toNat ∧ (growOf l p s n m).1.length ≤ 10000000 := by
  unfold growOf
  split
  · next h =>
    obtain ⟨⟨h1, h2, h3, h4, h5, h6, h7, h8⟩, _⟩ := h
    simp only [List.length_append, frontP_length, midP_length, backP_length]; omega
  · simp
theorem TrimGrows0 (l : List S30) (p s n m : Int) (hp : -9223372036854775808 ≤ p ∧ p ≤ 9223372036854775807) : ∃ k, tattinglaw3_TrimGrows.f k l p s n m = some true := by
  refine ⟨p.toNat + s.toNat + 1000, ?_⟩
  unfold tattinglaw3_TrimGrows.f
  rw [at_rounds tattinglaw3_awake.mono (by omega) awake, Option.bind_some, if_pos rfl]
  have yes : ∀ k, 0 < k → tattinglaw3_TrimGrows.j0 k l p s n m true = some true := fun k hk => by
    obtain ⟨k, rfl⟩ := round hk
    simp only [tattinglaw3_TrimGrows.j0]; rw [if_pos True.intro]
  by_cases h1 : (l.length : Int) > 40
  · rw [if_pos h1]; exact yes _ (by omega)
  rw [if_neg h1]
  have no : tattinglaw3_TrimGrows.j0 (p.toNat + s.toNat + 1000) l p s n m false = some true := by
    have g := growOf_length l p s n m (by omega)
    show tattinglaw3_TrimGrows.j0 (p.toNat + s.toNat + 999 + 1) l p s n m false = some true
    simp only [tattinglaw3_TrimGrows.j0]
    rw [if_neg (by decide), trimGrow l p s n m (by omega) hp (by omega), Option.bind_some, refGrow l p s n m (by omega) (by omega), Option.bind_some, if_pos rfl, samePairs _ g.2 (by omega), Option.bind_some]
  have any : ∀ b : Bool, tattinglaw3_TrimGrows.j0 (p.toNat + s.toNat + 1000) l p s n m b = some true := fun b => by
    cases b
    · exact no
    · exact yes _ (by omega)
  split
  · split
    · exact any _
    · split <;> exact any _
  · split <;> exact any _
theorem TrimGrows : tattinglaw3_TrimGrows.Pure := fun l p s n m _ w1 _ _ _ => TrimGrows0 l p s n m (wf64 w1)

end Go.Proofs.Ytamfpadkdkjalaa.Pure
